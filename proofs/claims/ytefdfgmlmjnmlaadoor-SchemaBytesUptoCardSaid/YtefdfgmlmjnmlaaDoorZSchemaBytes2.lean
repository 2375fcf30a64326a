/- Lemmas for the law SchemaBytes: what the functions that it reaches compute, with those words of the kit's print that they use. No condition. Joined out of this session's smaller texts (part 2 of 7). -/
import Derived.Test.YtefdfgmlmjnmlaaDoorProg
import Derived.Below
import Derived.Deep.Draws
import Derived.Deep.AppendLies
import Derived.Maps.AppendAt
import Derived.OwnWalk
import Derived.Laws.BytesArg
import Derived.Laws.MakeOwn
import Derived.Laws.OwnMore
import Derived.Deep.OwnRows
import Derived.Tactics
import Derived.Lib.ConvBytes
import Derived.Laws.Slices
import Derived.WalkKit
import Derived.KernelRfl
import Derived.RowKit3
import Derived.Deep.LoopGhost
import Derived.Deep.QuietTactic
import Derived.BigQuiet
import Derived.WideLaws
import Derived.Deep.DeepCutAuto
import Derived.Deep.CutBlock
import Derived.Deep.RegionHeld3
import Derived.Laws.Rows
import Derived.Lib.AppendStr
import Derived.ArgAppend
import Derived.Laws.IdiomCopy
import Derived.OrdersHeld
import Derived.Laws.BitsLemmas
import Derived.RowKit
import Derived.WalkLawsBesides
import Derived.Test.YtefdfgmlmjnmlaaDoorZSchemaBytes1
import Derived.ProofKit
import Derived.OpenShut
import Derived.Lib.OthersKept
import Derived.BigCall
import Derived.Shelf.Strings.Builder1
import Derived.Shelf.Small.Utf8
import Derived.Shelf.Small.Strs
import Derived.Shelf.Small.Wraps
import Derived.Shelf.Strings.BuilderF
import Derived.Shelf.Strings.BuilderK
import Derived.Shelf.Strings.Search1
import Derived.Shelf.Unicode.DecodeSlow
import Derived.Shelf.Unicode.DecodeAny
import Derived.Shelf.Unicode.DecodeLast
import Derived.Test.YtefdfgmlmjnmlaaDoorTie
import Derived.Test.YtefdfgmlmjnmlaaDoorCards
import Derived.ShutString
import Derived.ChangeOld
import Derived.LaidMore
import Derived.Lay
import Derived.SevenTiedAt
import Derived.Stop.Joined
import Derived.Lib.LaidU8T
import Derived.Lib.LaidIn
import Derived.Lib.IndexAny
import Derived.Test.YtefdfgmlmjnmlaaDoorRows
section
set_option linter.unusedVariables false
set_option linter.unusedSimpArgs false
namespace Go.Proofs.YtefdfgmlmjnmlaaDoor.Rf
open Go.RowKit Go.Proofs.YtefdfgmlmjnmlaaDoorW.PrintWords Go.Proofs.YtefdfgmlmjnmlaaDoorW.PrintLast Go.Proofs.YtefdfgmlmjnmlaaDoorW.PrintMore
attribute [local go_sem] jCg jCo
def errW : Option Int → Value
 | none => .nilIface
 | some c => .iface 0 (.int .i64 c)
theorem jBd : errW none = .nilIface := rfl
theorem jBe (c : Int) : errW (some c) = .iface 0 (.int .i64 c) := rfl
theorem info27 : (Tryd.prog.info? 27).map (fun i => (i.zero, i.size, i.bytes)) = some (some (.agg #[(.int .i64 0), (.string ⟨#[]⟩), (.int .i64 0)]), 3, 32) := by kernel_rfl
theorem info45 : (Tryd.prog.info? 45).map (fun i => (i.zero, i.size, i.bytes)) = some (some (.agg #[(.string ⟨#[]⟩), (.int .i64 0), (.slice none 0 0), (.slice none 0 0)]), 4, 72) := by kernel_rfl
structure S70 where
 f0 : Int
 f1 : Int
 f2 : ByteArray
def z70 : S70 := ⟨(0 : Int), (0 : Int), (⟨#[]⟩ : ByteArray)⟩
def k70 : Kd S70 := Kd.iso (Kd.pair (Kd.int .i64) (Kd.pair (Kd.int .i64) Kd.string)) (fun x : S70 => (x.f0, x.f1, x.f2))
theorem k70_open {w : World} {x : S70} {cs : List Value} (h : k70.K w x cs) : cs = [.int .i64 x.f0, .int .i64 x.f1, .string x.f2] := by
 obtain ⟨_, _, rfl, rfl, ⟨_, _, rfl, rfl, rfl⟩⟩ := h
 exact rfl
theorem k70_mk (w : World) (x : S70)  : k70.K w x [.int .i64 x.f0, .int .i64 x.f1, .string x.f2] := ⟨[.int .i64 x.f0], [.int .i64 x.f1, .string x.f2], rfl, rfl, ⟨[.int .i64 x.f1], [.string x.f2], rfl, rfl, rfl⟩⟩
theorem k70_mkM (w : World) (base : Nat) (ok : Nat → Prop) (x : S70)  : k70.M w base ok x [.int .i64 x.f0, .int .i64 x.f1, .string x.f2] := ⟨[.int .i64 x.f0], [.int .i64 x.f1, .string x.f2], rfl, rfl, ⟨[.int .i64 x.f1], [.string x.f2], rfl, rfl, rfl⟩⟩
structure S72 where
 f0 : Int
 f1 : Int
 f2 : S70
 f3 : (List S72)
def z72 : S72 := ⟨(0 : Int), (0 : Int), z70, ([] : List S72)⟩
def F72 (d : Kd S72) : Kd S72 := Kd.iso (Kd.pair (Kd.int .i64) (Kd.pair (Kd.int .i64) (Kd.pair k70 (Kd.slice 72 d)))) (fun x : S72 => (x.f0, x.f1, x.f2, x.f3))
theorem mono72 : Kd.Mono F72 := Kd.mono_iso _ (Kd.mono_pair (Kd.mono_const _) (Kd.mono_pair (Kd.mono_const _) (Kd.mono_pair (Kd.mono_const _) (Kd.mono_slice 72 Kd.mono_id))))
theorem sub72 : Kd.Sub F72 [72] := Kd.sub_iso _ (Kd.sub_pair (Kd.sub_const _ (by decide)) (Kd.sub_pair (Kd.sub_const _ (by decide)) (Kd.sub_pair (Kd.sub_const _ (by decide)) (Kd.sub_slice 72 (by decide) Kd.sub_id))))
theorem sz72 : ∀ n, (Kd.upto F72 6 [72] n).sz = 6 := Kd.upto_sz (fun _ => rfl)
def k72 : Kd S72 := Kd.fix F72 6 [72] sz72 (Kd.upto_E sub72)
theorem k72_open {w : World} {x : S72} {cs : List Value} (h : k72.K w x cs) : ∃ A5 c5, cs = [.int .i64 x.f0, .int .i64 x.f1, .int .i64 x.f2.f0, .int .i64 x.f2.f1, .string x.f2.f2, .slice A5 x.f3.length c5] ∧ x.f3.length ≤ c5 ∧ k72.C w A5 x.f3.length x.f3 := by
 obtain ⟨n, h⟩ := h
 cases n with
 | zero => exact h.elim
 | succ n =>
  obtain ⟨_, _, rfl, rfl, ⟨_, _, rfl, rfl, ⟨_, _, rfl, s2, ⟨A5, c5, rfl, l5, g5⟩⟩⟩⟩ := h
  obtain rfl := k70_open s2
  exact ⟨A5, c5, rfl, l5, Kd.fix_C g5⟩
theorem k72_mk (w : World) (x : S72) {A5 : Option Addr} {c5 : Nat} (l5 : x.f3.length ≤ c5) (g5 : k72.C w A5 x.f3.length x.f3) : k72.K w x [.int .i64 x.f0, .int .i64 x.f1, .int .i64 x.f2.f0, .int .i64 x.f2.f1, .string x.f2.f2, .slice A5 x.f3.length c5] := by
 obtain ⟨n5, q5⟩ := Kd.fix_C_back mono72 g5
 have r5 := Kd.upto_C_le mono72 sz72 (show n5 ≤ n5 by omega) q5
 exact ⟨n5 + 1, ⟨[.int .i64 x.f0], [.int .i64 x.f1, .int .i64 x.f2.f0, .int .i64 x.f2.f1, .string x.f2.f2, .slice A5 x.f3.length c5], rfl, rfl, ⟨[.int .i64 x.f1], [.int .i64 x.f2.f0, .int .i64 x.f2.f1, .string x.f2.f2, .slice A5 x.f3.length c5], rfl, rfl, ⟨[.int .i64 x.f2.f0, .int .i64 x.f2.f1, .string x.f2.f2], [.slice A5 x.f3.length c5], rfl, (k70_mk w x.f2 ), ⟨A5, c5, rfl, l5, r5⟩⟩⟩⟩⟩
theorem k72_mkM (w : World) (base : Nat) (ok : Nat → Prop) (x : S72) {v5 : Value} (g5 : k72.R 72 w base ok v5 x.f3) : k72.M w base ok x [.int .i64 x.f0, .int .i64 x.f1, .int .i64 x.f2.f0, .int .i64 x.f2.f1, .string x.f2.f2, v5] := by
 obtain ⟨n5, q5⟩ := Kd.fix_R_back mono72 g5
 have r5 := Kd.upto_R_le mono72 sz72 (show n5 ≤ n5 by omega) q5
 exact ⟨n5 + 1, ⟨[.int .i64 x.f0], [.int .i64 x.f1, .int .i64 x.f2.f0, .int .i64 x.f2.f1, .string x.f2.f2, v5], rfl, rfl, ⟨[.int .i64 x.f1], [.int .i64 x.f2.f0, .int .i64 x.f2.f1, .string x.f2.f2, v5], rfl, rfl, ⟨[.int .i64 x.f2.f0, .int .i64 x.f2.f1, .string x.f2.f2], [v5], rfl, (k70_mkM w base ok x.f2 ), ⟨v5, rfl, r5⟩⟩⟩⟩⟩
def jAq (xs : List S72) (i : Int) : S72 := xs.getD i.toNat z72
theorem jDx {w : World} {A : Option Addr} {n : Nat} {xs : List S72} (h : Kd.C k72 w A n xs) (i : Int) (h0 : 0 ≤ i) (h1 : i < n) : ∃ ad A5 c5, A = some ad ∧ w.cell? (ad.add (i.toNat * 6)) = some (.int .i64 (jAq xs i).f0) ∧ w.cell? ⟨(ad.add (i.toNat * 6)).block, (ad.add (i.toNat * 6)).off + 1, none⟩ = some (.int .i64 (jAq xs i).f1) ∧ w.cell? ⟨(ad.add (i.toNat * 6)).block, (ad.add (i.toNat * 6)).off + 2, none⟩ = some (.int .i64 (jAq xs i).f2.f0) ∧ w.cell? ⟨(ad.add (i.toNat * 6)).block, (ad.add (i.toNat * 6)).off + 3, none⟩ = some (.int .i64 (jAq xs i).f2.f1) ∧ w.cell? ⟨(ad.add (i.toNat * 6)).block, (ad.add (i.toNat * 6)).off + 4, none⟩ = some (.string (jAq xs i).f2.f2) ∧ w.cell? ⟨(ad.add (i.toNat * 6)).block, (ad.add (i.toNat * 6)).off + 5, none⟩ = some (.slice A5 (jAq xs i).f3.length c5) ∧ (jAq xs i).f3.length ≤ c5 ∧ k72.C w A5 (jAq xs i).f3.length (jAq xs i).f3 := by
 obtain ⟨ad, c, e, _, hK, hc0⟩ := Kd.C_get h z72 i h0 h1
 have hc : ∀ j u, c[j]? = some u → w.cell? (ad.add (i.toNat * 6 + j)) = some u := hc0
 obtain ⟨A5, c5, rfl, l5, g5⟩ := k72_open hK
 exact ⟨ad, A5, c5, e, hc 0 _ rfl, by rw [← jCw _ _ 1 (by omega)]; exact hc 1 _ rfl, by rw [← jCw _ _ 2 (by omega)]; exact hc 2 _ rfl, by rw [← jCw _ _ 3 (by omega)]; exact hc 3 _ rfl, by rw [← jCw _ _ 4 (by omega)]; exact hc 4 _ rfl, by rw [← jCw _ _ 5 (by omega)]; exact hc 5 _ rfl, l5, g5⟩
structure S59 where
 f0 : ByteArray
 f1 : Int
 f2 : Bool
 f3 : Bool
 f4 : ByteArray
 f5 : Int
def z59 : S59 := ⟨(⟨#[]⟩ : ByteArray), (0 : Int), false, false, (⟨#[]⟩ : ByteArray), (0 : Int)⟩
def k59 : Kd S59 := Kd.iso (Kd.pair Kd.string (Kd.pair (Kd.int .i64) (Kd.pair Kd.bool (Kd.pair Kd.bool (Kd.pair Kd.string (Kd.int .i64)))))) (fun x : S59 => (x.f0, x.f1, x.f2, x.f3, x.f4, x.f5))
theorem k59_open {w : World} {x : S59} {cs : List Value} (h : k59.K w x cs) : cs = [.string x.f0, .int .i64 x.f1, .bool x.f2, .bool x.f3, .string x.f4, .int .i64 x.f5] := by
 obtain ⟨_, _, rfl, rfl, ⟨_, _, rfl, rfl, ⟨_, _, rfl, rfl, ⟨_, _, rfl, rfl, ⟨_, _, rfl, rfl, rfl⟩⟩⟩⟩⟩ := h
 exact rfl
theorem k59_mk (w : World) (x : S59)  : k59.K w x [.string x.f0, .int .i64 x.f1, .bool x.f2, .bool x.f3, .string x.f4, .int .i64 x.f5] := ⟨[.string x.f0], [.int .i64 x.f1, .bool x.f2, .bool x.f3, .string x.f4, .int .i64 x.f5], rfl, rfl, ⟨[.int .i64 x.f1], [.bool x.f2, .bool x.f3, .string x.f4, .int .i64 x.f5], rfl, rfl, ⟨[.bool x.f2], [.bool x.f3, .string x.f4, .int .i64 x.f5], rfl, rfl, ⟨[.bool x.f3], [.string x.f4, .int .i64 x.f5], rfl, rfl, ⟨[.string x.f4], [.int .i64 x.f5], rfl, rfl, rfl⟩⟩⟩⟩⟩
theorem k59_mkM (w : World) (base : Nat) (ok : Nat → Prop) (x : S59)  : k59.M w base ok x [.string x.f0, .int .i64 x.f1, .bool x.f2, .bool x.f3, .string x.f4, .int .i64 x.f5] := ⟨[.string x.f0], [.int .i64 x.f1, .bool x.f2, .bool x.f3, .string x.f4, .int .i64 x.f5], rfl, rfl, ⟨[.int .i64 x.f1], [.bool x.f2, .bool x.f3, .string x.f4, .int .i64 x.f5], rfl, rfl, ⟨[.bool x.f2], [.bool x.f3, .string x.f4, .int .i64 x.f5], rfl, rfl, ⟨[.bool x.f3], [.string x.f4, .int .i64 x.f5], rfl, rfl, ⟨[.string x.f4], [.int .i64 x.f5], rfl, rfl, rfl⟩⟩⟩⟩⟩
def jBn (xs : List S59) (i : Int) : S59 := xs.getD i.toNat z59
theorem jFp {w : World} {A : Option Addr} {n : Nat} {xs : List S59} (h : Kd.C k59 w A n xs) (i : Int) (h0 : 0 ≤ i) (h1 : i < n) : ∃ ad , A = some ad ∧ w.cell? (ad.add (i.toNat * 6)) = some (.string (jBn xs i).f0) ∧ w.cell? ⟨(ad.add (i.toNat * 6)).block, (ad.add (i.toNat * 6)).off + 1, none⟩ = some (.int .i64 (jBn xs i).f1) ∧ w.cell? ⟨(ad.add (i.toNat * 6)).block, (ad.add (i.toNat * 6)).off + 2, none⟩ = some (.bool (jBn xs i).f2) ∧ w.cell? ⟨(ad.add (i.toNat * 6)).block, (ad.add (i.toNat * 6)).off + 3, none⟩ = some (.bool (jBn xs i).f3) ∧ w.cell? ⟨(ad.add (i.toNat * 6)).block, (ad.add (i.toNat * 6)).off + 4, none⟩ = some (.string (jBn xs i).f4) ∧ w.cell? ⟨(ad.add (i.toNat * 6)).block, (ad.add (i.toNat * 6)).off + 5, none⟩ = some (.int .i64 (jBn xs i).f5) := by
 obtain ⟨ad, c, e, _, hK, hc0⟩ := Kd.C_get h z59 i h0 h1
 have hc : ∀ j u, c[j]? = some u → w.cell? (ad.add (i.toNat * 6 + j)) = some u := hc0
 obtain rfl := k59_open hK
 exact ⟨ad, e, hc 0 _ rfl, by rw [← jCw _ _ 1 (by omega)]; exact hc 1 _ rfl, by rw [← jCw _ _ 2 (by omega)]; exact hc 2 _ rfl, by rw [← jCw _ _ 3 (by omega)]; exact hc 3 _ rfl, by rw [← jCw _ _ 4 (by omega)]; exact hc 4 _ rfl, by rw [← jCw _ _ 5 (by omega)]; exact hc 5 _ rfl⟩
structure S45 where
 f0 : ByteArray
 f1 : Int
 f2 : (List S59)
 f3 : (List S72)
def z45 : S45 := ⟨(⟨#[]⟩ : ByteArray), (0 : Int), ([] : List S59), ([] : List S72)⟩
def k45 : Kd S45 := Kd.iso (Kd.pair Kd.string (Kd.pair (Kd.int .i64) (Kd.pair (Kd.slice 59 k59) (Kd.slice 72 k72)))) (fun x : S45 => (x.f0, x.f1, x.f2, x.f3))
theorem k45_open {w : World} {x : S45} {cs : List Value} (h : k45.K w x cs) : ∃ A2 c2 A3 c3, cs = [.string x.f0, .int .i64 x.f1, .slice A2 x.f2.length c2, .slice A3 x.f3.length c3] ∧ x.f2.length ≤ c2 ∧ k59.C w A2 x.f2.length x.f2 ∧ x.f3.length ≤ c3 ∧ k72.C w A3 x.f3.length x.f3 := by
 obtain ⟨_, _, rfl, rfl, ⟨_, _, rfl, rfl, ⟨_, _, rfl, ⟨A2, c2, rfl, l2, g2⟩, ⟨A3, c3, rfl, l3, g3⟩⟩⟩⟩ := h
 exact ⟨A2, c2, A3, c3, rfl, l2, g2, l3, g3⟩
theorem k45_mk (w : World) (x : S45) {A2 : Option Addr} {c2 : Nat} (l2 : x.f2.length ≤ c2) (g2 : k59.C w A2 x.f2.length x.f2) {A3 : Option Addr} {c3 : Nat} (l3 : x.f3.length ≤ c3) (g3 : k72.C w A3 x.f3.length x.f3) : k45.K w x [.string x.f0, .int .i64 x.f1, .slice A2 x.f2.length c2, .slice A3 x.f3.length c3] := ⟨[.string x.f0], [.int .i64 x.f1, .slice A2 x.f2.length c2, .slice A3 x.f3.length c3], rfl, rfl, ⟨[.int .i64 x.f1], [.slice A2 x.f2.length c2, .slice A3 x.f3.length c3], rfl, rfl, ⟨[.slice A2 x.f2.length c2], [.slice A3 x.f3.length c3], rfl, ⟨A2, c2, rfl, l2, g2⟩, ⟨A3, c3, rfl, l3, g3⟩⟩⟩⟩
theorem k45_mkM (w : World) (base : Nat) (ok : Nat → Prop) (x : S45) {v2 : Value} (g2 : k59.R 59 w base ok v2 x.f2) {v3 : Value} (g3 : k72.R 72 w base ok v3 x.f3) : k45.M w base ok x [.string x.f0, .int .i64 x.f1, v2, v3] := ⟨[.string x.f0], [.int .i64 x.f1, v2, v3], rfl, rfl, ⟨[.int .i64 x.f1], [v2, v3], rfl, rfl, ⟨[v2], [v3], rfl, ⟨v2, rfl, g2⟩, ⟨v3, rfl, g3⟩⟩⟩⟩
def jAl (xs : List S45) (i : Int) : S45 := xs.getD i.toNat z45
theorem jGf {w : World} {A : Option Addr} {n : Nat} {xs : List S45} (h : Kd.C k45 w A n xs) (i : Int) (h0 : 0 ≤ i) (h1 : i < n) : ∃ ad A2 c2 A3 c3, A = some ad ∧ w.cell? (ad.add (i.toNat * 4)) = some (.string (jAl xs i).f0) ∧ w.cell? ⟨(ad.add (i.toNat * 4)).block, (ad.add (i.toNat * 4)).off + 1, none⟩ = some (.int .i64 (jAl xs i).f1) ∧ w.cell? ⟨(ad.add (i.toNat * 4)).block, (ad.add (i.toNat * 4)).off + 2, none⟩ = some (.slice A2 (jAl xs i).f2.length c2) ∧ w.cell? ⟨(ad.add (i.toNat * 4)).block, (ad.add (i.toNat * 4)).off + 3, none⟩ = some (.slice A3 (jAl xs i).f3.length c3) ∧ (jAl xs i).f2.length ≤ c2 ∧ k59.C w A2 (jAl xs i).f2.length (jAl xs i).f2 ∧ (jAl xs i).f3.length ≤ c3 ∧ k72.C w A3 (jAl xs i).f3.length (jAl xs i).f3 := by
 obtain ⟨ad, c, e, _, hK, hc0⟩ := Kd.C_get h z45 i h0 h1
 have hc : ∀ j u, c[j]? = some u → w.cell? (ad.add (i.toNat * 4 + j)) = some u := hc0
 obtain ⟨A2, c2, A3, c3, rfl, l2, g2, l3, g3⟩ := k45_open hK
 exact ⟨ad, A2, c2, A3, c3, e, hc 0 _ rfl, by rw [← jCw _ _ 1 (by omega)]; exact hc 1 _ rfl, by rw [← jCw _ _ 2 (by omega)]; exact hc 2 _ rfl, by rw [← jCw _ _ 3 (by omega)]; exact hc 3 _ rfl, l2, g2, l3, g3⟩
structure S27 where
 f0 : Int
 f1 : ByteArray
 f2 : Int
def z27 : S27 := ⟨(0 : Int), (⟨#[]⟩ : ByteArray), (0 : Int)⟩
def k27 : Kd S27 := Kd.iso (Kd.pair (Kd.int .i64) (Kd.pair Kd.string (Kd.int .i64))) (fun x : S27 => (x.f0, x.f1, x.f2))
theorem k27_open {w : World} {x : S27} {cs : List Value} (h : k27.K w x cs) : cs = [.int .i64 x.f0, .string x.f1, .int .i64 x.f2] := by
 obtain ⟨_, _, rfl, rfl, ⟨_, _, rfl, rfl, rfl⟩⟩ := h
 exact rfl
theorem k27_mk (w : World) (x : S27)  : k27.K w x [.int .i64 x.f0, .string x.f1, .int .i64 x.f2] := ⟨[.int .i64 x.f0], [.string x.f1, .int .i64 x.f2], rfl, rfl, ⟨[.string x.f1], [.int .i64 x.f2], rfl, rfl, rfl⟩⟩
theorem k27_mkM (w : World) (base : Nat) (ok : Nat → Prop) (x : S27)  : k27.M w base ok x [.int .i64 x.f0, .string x.f1, .int .i64 x.f2] := ⟨[.int .i64 x.f0], [.string x.f1, .int .i64 x.f2], rfl, rfl, ⟨[.string x.f1], [.int .i64 x.f2], rfl, rfl, rfl⟩⟩
def jCf (xs : List S27) (i : Int) : S27 := xs.getD i.toNat z27
theorem at_T27 {w : World} {A : Option Addr} {n : Nat} {xs : List S27} (h : Kd.C k27 w A n xs) (i : Int) (h0 : 0 ≤ i) (h1 : i < n) : ∃ ad , A = some ad ∧ w.cell? (ad.add (i.toNat * 3)) = some (.int .i64 (jCf xs i).f0) ∧ w.cell? ⟨(ad.add (i.toNat * 3)).block, (ad.add (i.toNat * 3)).off + 1, none⟩ = some (.string (jCf xs i).f1) ∧ w.cell? ⟨(ad.add (i.toNat * 3)).block, (ad.add (i.toNat * 3)).off + 2, none⟩ = some (.int .i64 (jCf xs i).f2) := by
 obtain ⟨ad, c, e, _, hK, hc0⟩ := Kd.C_get h z27 i h0 h1
 have hc : ∀ j u, c[j]? = some u → w.cell? (ad.add (i.toNat * 3 + j)) = some u := hc0
 obtain rfl := k27_open hK
 exact ⟨ad, e, hc 0 _ rfl, by rw [← jCw _ _ 1 (by omega)]; exact hc 1 _ rfl, by rw [← jCw _ _ 2 (by omega)]; exact hc 2 _ rfl⟩
end Go.Proofs.YtefdfgmlmjnmlaaDoor.Rf
end

section
namespace Go.Proofs.YtefdfgmlmjnmlaaDoor.My
open Go.RowKit Go.Proofs.YtefdfgmlmjnmlaaDoorW.PrintWords
theorem sz1 (w : World) (o : Obj) : (w.alloc o).heap.size = w.heap.size + 1 := by simp
theorem jDu (w : World) (o1 o2 : Obj) : ((w.alloc o1).alloc o2).heap[w.heap.size + 1]? = some o2 := by
  have := jCt (w.alloc o1) o2
  rwa [sz1] at this
theorem blk_new2 (w : World) (o1 o2 o3 : Obj) : (((w.alloc o1).alloc o2).alloc o3).heap[w.heap.size + 2]? = some o3 := by
  have := jDu (w.alloc o1) o2 o3
  rwa [sz1] at this
theorem jHp (w : World) (o1 : Obj) : Below w.heap.size w (w.alloc o1) := jAj (Below.refl _ _) _
theorem jFh (w : World) (o1 o2 : Obj) : Below w.heap.size w ((w.alloc o1).alloc o2) := jAj (jHp w o1) _
theorem below3 (w : World) (o1 o2 o3 : Obj) : Below w.heap.size w (((w.alloc o1).alloc o2).alloc o3) := jAj (jFh w o1 o2) _
theorem undrew {w w' : World} (h : Below w.drew.heap.size w.drew w') : Below w.heap.size w w' := ⟨h.os, h.tape, h.output, h.size, h.block⟩
/-- Behind a call: a cell, or a block, that stood stands. -/
theorem jBg {w w' : World} (hb : Below w.heap.size w w') {a : Addr} {v : Value} (h : w.cell? a = some v) : w'.cell? a = some v := jEa hb h
end Go.Proofs.YtefdfgmlmjnmlaaDoor.My
end

section
set_option linter.unusedSimpArgs false
set_option maxRecDepth 10000
namespace Go.Proofs.YtefdfgmlmjnmlaaDoor.My
open Go.RowKit Go.Proofs.YtefdfgmlmjnmlaaDoorW.PrintWords Go.Proofs.YtefdfgmlmjnmlaaDoor.Rf
def I64 (n : Int) : Prop := -9223372036854775808 ≤ n ∧ n ≤ 9223372036854775807
theorem i64_of {n : Int} (h : (Lit.int .i64 n).wf = true) : I64 n := by
  exact Go.bounds_i64 h
structure Q70 (x : S70) : Prop where
  a : I64 x.f0
  b : I64 x.f1
  c : x.f2.size ≤ 9223372036854775807
inductive Q72 : S72 → Prop
  | mk (e : S72) (a : I64 e.f0) (b : I64 e.f1) (c : Q70 e.f2) (h : ∀ x, x ∈ e.f3 → Q72 x) : Q72 e
structure Q59 (x : S59) : Prop where
  a : x.f0.size ≤ 9223372036854775807
  b : I64 x.f1
  c : x.f4.size ≤ 9223372036854775807
  d : I64 x.f5
structure Q27 (x : S27) : Prop where
  a : I64 x.f0
  b : x.f1.size ≤ 9223372036854775807
  c : I64 x.f2
structure Q45 (x : S45) : Prop where
  a : x.f0.size ≤ 9223372036854775807
  b : I64 x.f1
  c : ∀ y, y ∈ x.f2 → Q59 y
  d : ∀ y, y ∈ x.f3 → Q72 y
theorem list_of {α : Type} {P : Nat → α → Prop} : ∀ n, (∀ i, i < n → ∃ y, P i y) → ∃ l : List α, l.length = n ∧ ∀ i y, l[i]? = some y → P i y := by
  intro n
  induction n with
  | zero => intro _; exact ⟨[], rfl, fun i y h => by simp at h⟩
  | succ n ih =>
    intro h
    obtain ⟨l, hl, hp⟩ := ih (fun i hi => h i (by omega))
    obtain ⟨y, hy⟩ := h n (by omega)
    refine ⟨l ++ [y], by simp [hl], fun i z hz => ?_⟩
    rcases Nat.lt_or_ge i n with hi | hi
    · rw [List.getElem?_append_left (by omega)] at hz
      exact hp i z hz
    · rw [List.getElem?_append_right (by omega)] at hz
      have hi' : i = n := by
        have := (List.getElem?_eq_some_iff.1 hz).1
        simp at this
        omega
      subst hi'
      rw [hl, Nat.sub_self] at hz
      simp at hz
      exact hz ▸ hy
theorem cells_each {w : World} {b : Nat} {a : Addr} {n : Nat} {cs : List Value} (h : w.cells? b a n = some cs) : cs.length = n ∧ ∀ (i : Nat) u, cs[i]? = some u → w.cell? (a.add i) = some u := by
  unfold World.cells? at h
  split at h
  · have hl : cs.length = n := by simpa using mapM_some_length h
    refine ⟨hl, fun i u hu => ?_⟩
    have hi : i < n := by have := (List.getElem?_eq_some_iff.1 hu).1; omega
    exact (mapM_some_get h i i (by simp [hi])).trans hu
  · cases h
theorem list3 {α : Type} {l : List α} (h : l.length = 3) : ∃ a0 a1 a2, l = [a0, a1, a2] := by
  match l, h with
  | [a0, a1, a2], _ => exact ⟨a0, a1, a2, rfl⟩
theorem list4 {α : Type} {l : List α} (h : l.length = 4) : ∃ a0 a1 a2 a3, l = [a0, a1, a2, a3] := by
  match l, h with
  | [a0, a1, a2, a3], _ => exact ⟨a0, a1, a2, a3, rfl⟩
theorem list6 {α : Type} {l : List α} (h : l.length = 6) : ∃ a0 a1 a2 a3 a4 a5, l = [a0, a1, a2, a3, a4, a5] := by
  match l, h with
  | [a0, a1, a2, a3, a4, a5], _ => exact ⟨a0, a1, a2, a3, a4, a5, rfl⟩
section
variable {H : Type} {enc : TypeId × Value → H} {w : World} {b : Nat} {sp : Nat → Bool} {held : Bool}
theorem open3 {fuel : Nat} {cs : List Value} {x : DataW H × List MemPlace} (h : DataW.trod enc Tryd.prog w b sp held fuel 3 cs = some x) : ∃ n, cs = [.int .i64 n] ∧ I64 n := by
  obtain ⟨n, h1, _, h2⟩ := DataW.trod_int Tryd.underlying3 h
  exact ⟨n, h1, i64_of h2⟩
theorem open4 {fuel : Nat} {cs : List Value} {x : DataW H × List MemPlace} (h : DataW.trod enc Tryd.prog w b sp held fuel 4 cs = some x) : ∃ q, cs = [.bool q] := by
  obtain ⟨n, h1, _⟩ := DataW.trod_bool Tryd.underlying4 h
  exact ⟨n, h1⟩
theorem c3 : Tryd.prog.cellsOf 3 = 1 := by kernel_rfl
theorem c4 : Tryd.prog.cellsOf 4 = 1 := by kernel_rfl
theorem c9 : Tryd.prog.cellsOf 9 = 1 := by kernel_rfl
theorem c70 : Tryd.prog.cellsOf 70 = 3 := by kernel_rfl
theorem c72 : Tryd.prog.cellsOf 72 = 6 := by kernel_rfl
theorem c59 : Tryd.prog.cellsOf 59 = 6 := by kernel_rfl
theorem c45 : Tryd.prog.cellsOf 45 = 4 := by kernel_rfl
theorem c27 : Tryd.prog.cellsOf 27 = 3 := by kernel_rfl
theorem c25 : Tryd.prog.cellsOf 25 = 3 := by kernel_rfl
theorem c42 : Tryd.prog.cellsOf 42 = 1 := by kernel_rfl
theorem c43 : Tryd.prog.cellsOf 43 = 1 := by kernel_rfl
theorem c22 : Tryd.prog.cellsOf 22 = 1 := by kernel_rfl
theorem c23 : Tryd.prog.cellsOf 23 = 1 := by kernel_rfl
end
end Go.Proofs.YtefdfgmlmjnmlaaDoor.My
end

section
namespace Go.Proofs.YtefdfgmlmjnmlaaDoor.My
open Go.RowKit Go.Proofs.YtefdfgmlmjnmlaaDoorW.PrintWords
/-- Is a rune one of the set's bytes? -/
def inS (set : ByteArray) (c : Nat) : Bool := set.data.toList.any fun b => b.toNat == c
def jEs (set : ByteArray) (c j : Nat) : Bool := (set.data.toList.take j).any fun b => b.toNat == c
theorem jGp (set : ByteArray) (c j : Nat) (h : j < set.size) : jEs set c (j + 1) = (jEs set c j || (set[j]'h).toNat == c) := by
  unfold jEs
  rw [List.take_succ_eq_append_getElem (by simpa using h), List.any_append]
  simp
  rfl
theorem jGq (set : ByteArray) (c : Nat) : jEs set c 0 = false := by simp [jEs]
theorem jHq (set : ByteArray) (c j : Nat) (h : ¬ j < set.size) : jEs set c j = inS set c := by
  unfold jEs inS
  rw [List.take_of_length_le (by simp; omega)]
theorem inS_low (set : ByteArray) (hset : ∀ b ∈ set.data.toList, b.toNat < 128) (c : Nat) (h : inS set c = true) : c < 128 := by
  unfold inS at h
  obtain ⟨b, hb, he⟩ := List.any_eq_true.1 h
  have := hset b hb
  simp at he
  omega
theorem same_num (c d : Nat) : ((d == c) : Bool) = (((c : Int) == (d : Int)) : Bool) := by
  rw [Bool.eq_iff_iff]; simp; omega
theorem extract_end (s : ByteArray) : s.extract s.size s.size = ⟨#[]⟩ := by
  apply ByteArray.ext; simp
theorem step_low (s set : ByteArray) (hset : ∀ b ∈ set.data.toList, b.toNat < 128) (pos : Nat) (h : pos < s.size) {c n : Nat} (hc : (Utf8.decode s pos).1 = c) (hn : (Utf8.decode s pos).2 = n) (hb : inS set c = true) : n = 1 ∧ inS set (s[pos]'h).toNat = true := by
  have hl := inS_low set hset c hb
  by_cases ha : (s[pos]'h).toNat < 128
  · rw [decode_ascii s pos h ha] at hc hn
    simp only at hc hn
    subst hc hn
    exact ⟨rfl, hb⟩
  · have := (decode_high s pos h (by omega)).1
    omega
theorem step_out (s set : ByteArray) (hset : ∀ b ∈ set.data.toList, b.toNat < 128) (pos : Nat) (h : pos < s.size) {c : Nat} (hc : (Utf8.decode s pos).1 = c) (hb : inS set c = false) : inS set (s[pos]'h).toNat = false := by
  by_cases ha : (s[pos]'h).toNat < 128
  · rw [decode_ascii s pos h ha] at hc
    simp only at hc
    subst hc
    exact hb
  · cases hq : inS set (s[pos]'h).toNat with
    | false => rfl
    | true => have := inS_low set hset _ hq; omega
theorem all_next {set s : ByteArray} {pos n : Nat} (hp : pos < s.size) (hall : ∀ j, (h : j < s.size) → j < pos → inS set (s[j]'h).toNat = true) (hst : n = 1 ∧ inS set (s[pos]'hp).toNat = true) : ∀ j, (h : j < s.size) → j < pos + n → inS set (s[j]'h).toNat = true := by
  obtain ⟨rfl, h1⟩ := hst
  intro j h hj
  by_cases e : j = pos
  · subst e; exact h1
  · exact hall j h (by omega)
/-- The text behind the set's bytes at its begin. -/
def LeftOf (set s u : ByteArray) : Prop := ∃ p, p ≤ s.size ∧ u = s.extract p s.size ∧ (∀ j, (h : j < s.size) → j < p → inS set (s[j]'h).toNat = true) ∧ (∀ h : p < s.size, inS set (s[p]'h).toNat = false)
structure LeftPost (set s : ByteArray) (w : World) (e : Ending) (w' : World) : Prop where
  out : ∃ u, e = .returned (.string u) ∧ LeftOf set s u ∧ Below w.heap.size w w'
set_option maxHeartbeats 4000000 in
set_option maxRecDepth 100000 in
theorem cutLeft_calls (s set : ByteArray) (w : World) (hset : ∀ b ∈ set.data.toList, b.toNat < 128) :
    Calls Tryd.prog 57 #[.string s, .string set] w (LeftPost set s w) := by
  have HSET := jAa.mk hset
  clear hset
  go_enter Tryd.func57, Tryd.ntmps57
  go_wp2
  go_loopw [5, 6, 7, 9] (fun _ _ _ _ wr => ∃ pos : Nat, pos ≤ s.size ∧ wr.heap[w.heap.size]? = some (.stringIter s pos) ∧ Below w.heap.size w wr ∧ jAa (∀ j, (h : j < s.size) → j < pos → inS set (s[j]'h).toNat = true)) (fun _ _ _ _ wr => s.size - wr.iterPos w.heap.size)
  case atStart =>
    refine ⟨0, Nat.zero_le _, World.iter_heap _ _ _, (Below.refl _ w).alloc (Nat.le_refl _) _, ⟨fun j h h0 => absurd h0 (by omega)⟩⟩
  case round =>
    obtain ⟨pos, hpos, hit, hbw, hall⟩ := hrel
    have hsz : w.heap.size < wr.heap.size := (Array.getElem?_eq_some_iff.1 hit).1
    by_cases hp : pos < s.size
    · have hnx : ∀ ty, (Instr.next (.pointer (some ⟨w.heap.size, 0, none⟩)) true ty).run Tryd.prog wr = _ := fun ty => Lib.run_next_any_at wr w.heap.size s pos ty hit hp
      have hd1 := decode_le s pos
      have hit2 := Lib.iterAt_heap wr w.heap.size s pos (pos + (Utf8.decode s pos).2) hit
      have hbw2 := Lib.below_iterAt hbw (k := w.heap.size) (Nat.le_refl _) s (pos + (Utf8.decode s pos).2)
      have hsz2 : w.heap.size < (wr.iterAt w.heap.size s (pos + (Utf8.decode s pos).2)).heap.size := by rw [Lib.iterAt_size]; omega
      generalize hW : wr.iterAt w.heap.size s (pos + (Utf8.decode s pos).2) = w2 at hnx hit2 hbw2 hsz2
      clear hW
      generalize hrn : (Utf8.decode s pos).1 = c at hnx hd1
      generalize hn : (Utf8.decode s pos).2 = n at hnx hit2 hbw2 hsz2
      have HRN := jAa.mk hrn
      have HN := jAa.mk hn
      have hit0 := jAa.mk hit
      clear hrn hn hit hbw hsz
      go_wp2
      have hset' : w2.heap.size < (w2.iter set 0).heap.size := by simp [World.iter]
      have hbI : Below w2.heap.size w2 (w2.iter set 0) := (Below.refl _ _).alloc (Nat.le_refl _) _
      have hiI := World.iter_heap w2 set 0
      go_loopw [7, 9] (fun t7 _ wx => ∃ j : Nat, j ≤ set.size ∧ t7 = .bool (jEs set c j) ∧ wx.heap[w2.heap.size]? = some (.stringIter set j) ∧ Below w2.heap.size w2 wx) (fun _ _ wx => set.size - wx.iterPos w2.heap.size)
      case atStart => exact ⟨0, Nat.zero_le _, by rw [jGq], hiI, hbI⟩
      case round =>
        clear hiI hbI hset' hnx
        obtain ⟨j, hj, rfl, hit, hbx⟩ := hrel
        by_cases hjl : j < set.size
        · have hasc : (set[j]'hjl).toNat < 128 := HSET.out _ (by show set.data[j]'hjl ∈ _; simp)
          have hnx : ∀ ty, (Instr.next (.pointer (some ⟨w2.heap.size, 0, none⟩)) true ty).run Tryd.prog _ = _ := fun ty => Lib.run_next_ascii_at _ w2.heap.size set j ty hit hjl hasc
          have hs1 := jGp set c j hjl
          have hit3 := Lib.iterAt_heap _ w2.heap.size set j (j + 1) hit
          have hbx3 := Lib.below_iterAt hbx (k := w2.heap.size) (Nat.le_refl _) set (j + 1)
          generalize hd : (set[j]'hjl).toNat = d at hnx hs1 hasc
          clear hd
          have HS1 := jAa.mk hs1
          clear hs1
          cases hb : jEs set c j with
          | true =>
            rw [hb] at HS1
            clear hb
            go_wp2
            go_roundw
            case rel => exact ⟨j + 1, by omega, by rw [HS1.out]; rfl, hit3, hbx3⟩
            case measure => simp only [World.iterPos, hit3, hit]; omega
          | false =>
            rw [hb] at HS1
            clear hb
            go_wp2
            go_roundw
            case rel => exact ⟨j + 1, by omega, by rw [HS1.out]; rw [Bool.false_or]; congr 1; exact (same_num c d).symm, hit3, hbx3⟩
            case measure => simp only [World.iterPos, hit3, hit]; omega
        · have hnx : ∀ ty, (Instr.next (.pointer (some ⟨w2.heap.size, 0, none⟩)) true ty).run Tryd.prog _ = _ := fun ty => Lib.run_next_end_at _ w2.heap.size set j ty hit hjl
          have hIA := jHq set c j hjl
          rw [hIA]
          clear hIA
          have hbw3 : Below w.heap.size w wr := hbw2.trans (hbx.mono (by omega))
          have hit4 : wr.heap[w.heap.size]? = some (.stringIter s (pos + n)) := by rw [hbx.block _ (by omega)]; exact hit2
          cases hb : inS set c with
          | true =>
            have hst := step_low s set HSET.out pos hp (c := c) (n := n) HRN.out HN.out hb
            clear hb
            go_wp2
            go_roundw
            case rel => exact ⟨pos + n, by omega, hit4, hbw3, ⟨all_next hp hall.out hst⟩⟩
            case measure => simp only [World.iterPos, hit4, hit0.out]; omega
          | false =>
            have hst := step_out s set HSET.out pos hp (c := c) HRN.out hb
            clear hb
            go_wp2
            go_ret
            exact ⟨_, rfl, ⟨pos, hpos, rfl, hall.out, fun _ => hst⟩, hbw3⟩
    · have hnx : ∀ ty, (Instr.next (.pointer (some ⟨w.heap.size, 0, none⟩)) true ty).run Tryd.prog wr = _ := fun ty => Lib.run_next_end_at wr w.heap.size s pos ty hit hp
      go_wp2
      go_ret
      exact ⟨_, rfl, ⟨s.size, Nat.le_refl _, (extract_end s).symm, fun j h _ => hall.out j h (by omega), fun h => absurd h (by omega)⟩, hbw⟩
end Go.Proofs.YtefdfgmlmjnmlaaDoor.My
end

section
namespace Go.Proofs
open Go.Shelf
def Tryd.lays169_ren : Go.Shelf.Ren := ⟨fun | 169 => 106 | n => n, fun | 70 => 106 | 9 => 9 | 0 => 0 | 72 => 109 | 37 => 107 | 127 => 156 | 3 => 3 | 5 => 5 | n => n, fun | n => n⟩
theorem Tryd.lays169 : Go.Proofs.Lays.n169 Tryd.prog Tryd.lays169_ren := {
  mixed := by kernel_rfl
  f169 := Tryd.func106.trans (congrArg some (by kernel_rfl))
  t0 := Tryd.underlying0
  a0 := Tryd.isAgg0
  z0 := Tryd.sizeOf0
  v0 := Tryd.zeroValue0
  t3 := Tryd.underlying3
  a3 := Tryd.isAgg3
  z3 := Tryd.sizeOf3
  v3 := Tryd.zeroValue3
  t9 := Tryd.underlying9
  a9 := Tryd.isAgg9
  z9 := Tryd.sizeOf9
  v9 := Tryd.zeroValue9
  t37 := Tryd.underlying107
  a37 := Tryd.isAgg107
  z37 := Tryd.sizeOf107
  v37 := Tryd.zeroValue107
  t70 := Tryd.underlying106
  a70 := Tryd.isAgg106
  z70 := Tryd.sizeOf106
  v70 := Tryd.zeroValue106
  t72 := Tryd.underlying109
  a72 := Tryd.isAgg109
  z72 := Tryd.sizeOf109
  v72 := Tryd.zeroValue109
  t127 := Tryd.underlying156
  a127 := Tryd.isAgg156
  z127 := Tryd.sizeOf156
  v127 := Tryd.zeroValue156 }
open Go.RowKit in
open Go.RowKit in
open Go.RowKit in
def Tryd.lays137_ren : Go.Shelf.Ren := ⟨fun | 137 => 55 | 217 => 86 | 266 => 109 | n => n, fun | 9 => 9 | 5 => 5 | 3 => 3 | n => n, fun | n => n⟩
theorem Tryd.lays137 : Go.Proofs.Lays.n137 Tryd.prog Tryd.lays137_ren := {
  mixed := by kernel_rfl
  f137 := Tryd.func55.trans (congrArg some (by kernel_rfl))
  f217 := Tryd.func86.trans (congrArg some (by kernel_rfl))
  f266 := Tryd.func109.trans (congrArg some (by kernel_rfl))
  t3 := Tryd.underlying3
  a3 := Tryd.isAgg3
  z3 := Tryd.sizeOf3
  v3 := Tryd.zeroValue3
  t5 := Tryd.underlying5
  a5 := Tryd.isAgg5
  z5 := Tryd.sizeOf5
  v5 := Tryd.zeroValue5
  t9 := Tryd.underlying9
  a9 := Tryd.isAgg9
  z9 := Tryd.sizeOf9
  v9 := Tryd.zeroValue9 }
open Go.RowKit in
/-- strings.IndexByte: "IndexByte returns the index of the first instance of c in s, or -1 if c is not present in s.": IT RETURNS 'Lib.indexByte s c'; the world is as it was. (LAID: no walk: one application.) -/
theorem Tryd.strings_IndexByte (s : ByteArray) (c : Int) (w : World) :
    Calls Tryd.prog 55 #[.string s, .int .u8 c] w fun e w' => e = .returned (.int .i64 (Lib.indexByte s.data.toList c.toNat.toUInt8)) ∧ w' = w := Any.strings_IndexByte Tryd.lays137 s c w
open Go.RowKit in
open Go.RowKit in
open Go.RowKit in
open Go.RowKit in
open Go.RowKit in
open Go.RowKit in
open Go.RowKit in
open Go.RowKit in
open Go.RowKit Go.Lib in
def Tryd.lays260_ren : Go.Shelf.Ren := ⟨fun | 260 => 122 | n => n, fun | 9 => 9 | 21 => 21 | 3 => 3 | 4 => 4 | 5 => 5 | 119 => 163 | 0 => 0 | 46 => 137 | 139 => 166 | 138 => 165 | n => n, fun | 3 => 1 | 4 => 2 | n => n⟩
theorem Tryd.lays260 : Go.Proofs.Lays.n260 Tryd.prog Tryd.lays260_ren := {
  mixed := by kernel_rfl
  f260 := Tryd.func122.trans (congrArg some (by kernel_rfl))
  t0 := Tryd.underlying0
  a0 := Tryd.isAgg0
  z0 := Tryd.sizeOf0
  v0 := Tryd.zeroValue0
  t3 := Tryd.underlying3
  a3 := Tryd.isAgg3
  z3 := Tryd.sizeOf3
  v3 := Tryd.zeroValue3
  t4 := Tryd.underlying4
  a4 := Tryd.isAgg4
  z4 := Tryd.sizeOf4
  v4 := Tryd.zeroValue4
  t5 := Tryd.underlying5
  a5 := Tryd.isAgg5
  z5 := Tryd.sizeOf5
  v5 := Tryd.zeroValue5
  t9 := Tryd.underlying9
  a9 := Tryd.isAgg9
  z9 := Tryd.sizeOf9
  v9 := Tryd.zeroValue9
  t21 := Tryd.underlying21
  a21 := Tryd.isAgg21
  z21 := Tryd.sizeOf21
  v21 := Tryd.zeroValue21
  t46 := Tryd.underlying137
  a46 := Tryd.isAgg137
  z46 := Tryd.sizeOf137
  v46 := Tryd.zeroValue137
  t119 := Tryd.underlying163
  a119 := Tryd.isAgg163
  z119 := Tryd.sizeOf163
  t138 := Tryd.underlying165
  a138 := Tryd.isAgg165
  z138 := Tryd.sizeOf165
  v138 := Tryd.zeroValue165
  t139 := Tryd.underlying166
  a139 := Tryd.isAgg166
  z139 := Tryd.sizeOf166
  v139 := Tryd.zeroValue166
  g3 := by kernel_rfl
  g4 := by kernel_rfl }
open Go.RowKit Go.Lib in
def Tryd.lays197_ren : Go.Shelf.Ren := ⟨fun | 197 => 111 | 260 => 122 | n => n, fun | 9 => 9 | 21 => 21 | 3 => 3 | 4 => 4 | 5 => 5 | 105 => 121 | 119 => 163 | 0 => 0 | 46 => 137 | 139 => 166 | 138 => 165 | n => n, fun | 3 => 1 | 4 => 2 | n => n⟩
open Go.RowKit Go.Lib in
def Tryd.lays271_ren : Go.Shelf.Ren := ⟨fun | 271 => 87 | 120 => 110 | 197 => 111 | 260 => 122 | n => n, fun | 9 => 9 | 21 => 21 | 3 => 3 | 4 => 4 | 5 => 5 | 105 => 121 | 119 => 163 | 0 => 0 | 46 => 137 | 139 => 166 | 138 => 165 | n => n, fun | 3 => 1 | 4 => 2 | n => n⟩
theorem Tryd.lays271 : Go.Proofs.Lays.n271 Tryd.prog Tryd.lays271_ren := {
  mixed := by kernel_rfl
  f120 := Tryd.func110.trans (congrArg some (by kernel_rfl))
  f197 := Tryd.func111.trans (congrArg some (by kernel_rfl))
  f260 := Tryd.func122.trans (congrArg some (by kernel_rfl))
  f271 := Tryd.func87.trans (congrArg some (by kernel_rfl))
  t0 := Tryd.underlying0
  a0 := Tryd.isAgg0
  z0 := Tryd.sizeOf0
  v0 := Tryd.zeroValue0
  t3 := Tryd.underlying3
  a3 := Tryd.isAgg3
  z3 := Tryd.sizeOf3
  v3 := Tryd.zeroValue3
  t4 := Tryd.underlying4
  a4 := Tryd.isAgg4
  z4 := Tryd.sizeOf4
  v4 := Tryd.zeroValue4
  t5 := Tryd.underlying5
  a5 := Tryd.isAgg5
  z5 := Tryd.sizeOf5
  v5 := Tryd.zeroValue5
  t9 := Tryd.underlying9
  a9 := Tryd.isAgg9
  z9 := Tryd.sizeOf9
  v9 := Tryd.zeroValue9
  t21 := Tryd.underlying21
  a21 := Tryd.isAgg21
  z21 := Tryd.sizeOf21
  v21 := Tryd.zeroValue21
  t46 := Tryd.underlying137
  a46 := Tryd.isAgg137
  z46 := Tryd.sizeOf137
  v46 := Tryd.zeroValue137
  t105 := Tryd.underlying121
  a105 := Tryd.isAgg121
  z105 := Tryd.sizeOf121
  v105 := Tryd.zeroValue121
  t119 := Tryd.underlying163
  a119 := Tryd.isAgg163
  z119 := Tryd.sizeOf163
  t138 := Tryd.underlying165
  a138 := Tryd.isAgg165
  z138 := Tryd.sizeOf165
  v138 := Tryd.zeroValue165
  t139 := Tryd.underlying166
  a139 := Tryd.isAgg166
  z139 := Tryd.sizeOf166
  v139 := Tryd.zeroValue166
  g3 := by kernel_rfl
  g4 := by kernel_rfl }
open Go.RowKit Go.Lib in
/-- **unicode/utf8.DecodeLastRuneInString AT EVERY STRING.** (LAID: no walk: one application.) -/
theorem Tryd.utf8_DecodeLastRuneInString (s : ByteArray) (w : World) (hs : s.size ≤ 9223372036854775807) (hT : Lib.Utf8Tabs 1 2 w) :
    Calls Tryd.prog 87 #[.string s] w fun e w' => e = .returned (.tuple #[.int .i32 (Lib.decodeLastL s.data.toList).1, .int .i64 (Lib.decodeLastL s.data.toList).2]) ∧ Below w.heap.size w w' := Any.utf8_DecodeLastRuneInString Tryd.lays271 s w hs hT
end Go.Proofs
end

section
namespace Go.Proofs.YtefdfgmlmjnmlaaDoor.My
open Go.RowKit Go.Proofs.YtefdfgmlmjnmlaaDoorW.PrintWords
theorem last_low (l : List UInt8) (hne : l ≠ []) (h : (Lib.decodeLastL l).1 < 128) : (l.getD (l.length - 1) 0).toNat = (Lib.decodeLastL l).1 ∧ (Lib.decodeLastL l).2 = 1 := by
  unfold Lib.decodeLastL at h ⊢
  rw [if_neg hne] at h ⊢
  by_cases hb : (l.getD (l.length - 1) 0).toNat < 128
  · rw [if_pos hb]
    exact ⟨rfl, rfl⟩
  · rw [if_neg hb] at h
    exfalso
    have hst := Lib.lastStart_lt l hne
    simp only at h
    split at h
    · rename_i he
      have hd : ∀ (t : List UInt8) (c : UInt8), (l.drop (Lib.lastStart l)) = c :: t → (Lib.decodeL (l.drop (Lib.lastStart l))).1 < 128 → c.toNat < 128 ∧ (Lib.decodeL (l.drop (Lib.lastStart l))).2 = 1 := by
        intro t c ht hlow
        rw [ht] at hlow ⊢
        unfold Lib.decodeL at hlow ⊢
        have hsz : 0 < (⟨(c :: t).toArray⟩ : ByteArray).size := by show 0 < (c :: t).toArray.size; simp
        by_cases hc : c.toNat < 128
        · have hg : ((⟨(c :: t).toArray⟩ : ByteArray)[0]'hsz).toNat < 128 := hc
          rw [decode_ascii _ 0 hsz hg]
          exact ⟨hc, rfl⟩
        · have hg : 128 ≤ ((⟨(c :: t).toArray⟩ : ByteArray)[0]'hsz).toNat := by show 128 ≤ c.toNat; omega
          have := (decode_high _ 0 hsz hg).1
          omega
      obtain ⟨c, t, ht⟩ : ∃ c t, l.drop (Lib.lastStart l) = c :: t := by
        cases hq : l.drop (Lib.lastStart l) with
        | nil => have := congrArg List.length hq; simp at this; omega
        | cons c t => exact ⟨c, t, rfl⟩
      obtain ⟨hc, h2⟩ := hd t c ht h
      rw [h2] at he
      have hlen : (l.drop (Lib.lastStart l)).length = 1 := by simp; omega
      have : l.getD (l.length - 1) 0 = c := by
        have e1 : l.length - 1 = Lib.lastStart l := by omega
        rw [e1]
        have := List.getElem?_drop (xs := l) (i := Lib.lastStart l) (j := 0)
        rw [ht] at this
        simp at this
        simp [List.getD, ← this]
      rw [this] at hb
      exact hb hc
    · simp [Utf8.runeError] at h
/-- The two tables of unicode/utf8 lie as the library's text lays them. -/
structure Tabs (w : World) : Prop where
  out : Lib.Utf8Tabs 1 2 w
theorem Tabs.below {w w' : World} (h : Tabs w) (hb : Below w.heap.size w w') : Tabs w' := ⟨Go.Proofs.Utf8Tabs_below h.out hb⟩
theorem ext_ext (t : ByteArray) (q m : Nat) (h : m ≤ q) : (t.extract 0 q).extract 0 m = t.extract 0 m := by
  apply ByteArray.ext
  simp [ByteArray.data_extract, Array.extract_extract, Nat.min_eq_left h]
theorem ext_size (t : ByteArray) (q : Nat) (h : q ≤ t.size) : (t.extract 0 q).size = q := by
  simp [ByteArray.size_extract]; omega
theorem ext_all (t : ByteArray) : t.extract 0 t.size = t := by
  apply ByteArray.ext; simp
theorem step_right {t set u : ByteArray} {q c n : Nat} (hset : ∀ b ∈ set.data.toList, b.toNat < 128) (h1 : ∀ h : 0 < t.size, inS set (t[0]'h).toNat = false) (hq : q ≤ t.size) (hp : 0 < q) (hu : t.extract 0 q = u) (hcn : Lib.decodeLastL u.data.toList = (c, n)) (hb : inS set c = true) : n = 1 ∧ 1 < q := by
  have hl := inS_low set hset c hb
  have hsz : u.size = q := by rw [← hu]; exact ext_size t q hq
  have hlen : u.data.toList.length = q := by rw [Array.length_toList]; exact hsz
  have hne : u.data.toList ≠ [] := fun h => by rw [h] at hlen; simp at hlen; omega
  obtain ⟨e1, e2⟩ := last_low u.data.toList hne (by rw [hcn]; exact hl)
  rw [hcn] at e1 e2
  simp only at e1 e2
  refine ⟨e2, ?_⟩
  rcases Nat.lt_or_ge 1 q with h | h
  · exact h
  · exfalso
    obtain rfl : q = 1 := by omega
    have h0 := h1 (by omega)
    rw [hlen] at e1
    have : u.data.toList.getD (1 - 1) 0 = t[0]'(by omega) := by
      subst hu
      simp [List.getD, ByteArray.data_extract]
      show (t.data[0]?).getD 0 = t.data[0]'(by have : t.data.size = t.size := rfl; omega)
      rw [Array.getElem?_eq_getElem]
      rfl
    rw [this] at e1
    rw [e1, hb] at h0
    exact absurd h0 (by decide)
structure RightPost (t : ByteArray) (w : World) (e : Ending) (w' : World) : Prop where
  out : ∃ u : ByteArray, e = .returned (.string u) ∧ (u.size = 0 ↔ t.size = 0) ∧ Below w.heap.size w w'
set_option maxHeartbeats 4000000 in
set_option maxRecDepth 100000 in
theorem jHg (t set : ByteArray) (w : World) (hset : ∀ b ∈ set.data.toList, b.toNat < 128) (hs : t.size ≤ 9223372036854775807) (hT : Tabs w) (h1 : ∀ h : 0 < t.size, inS set (t[0]'h).toNat = false) :
    Calls Tryd.prog 56 #[.string t, .string set] w (RightPost t w) := by
  have HSET := jAa.mk hset
  have H1 := jAa.mk h1
  clear hset h1
  go_enter Tryd.func56, Tryd.ntmps56
  go_wp2
  go_loopw [0, 5, 6, 7, 9] (fun t0 _ _ _ _ wr => ∃ q : Nat, q ≤ t.size ∧ (0 < t.size → 0 < q) ∧ t0 = .string (t.extract 0 q) ∧ Below w.heap.size w wr) (fun t0 _ _ _ _ _ => match t0 with | .string u => u.size | _ => 0)
  case atStart =>
    exact ⟨t.size, Nat.le_refl _, id, by rw [ext_all], Below.refl _ _⟩
  case round =>
    obtain ⟨q, hq, hq0, rfl, hbw⟩ := hrel
    have hqs := ext_size t q hq
    by_cases hp : 0 < q
    · have hTr := hT.below hbw
      have hsz : w.heap.size ≤ wr.heap.size := hbw.size
      generalize hu : t.extract 0 q = u at hqs
      have HU := jAa.mk hu
      clear hu
      have hup : (0 : Int) < u.size := by omega
      obtain ⟨c, n, hcn⟩ : ∃ c n, Lib.decodeLastL u.data.toList = (c, n) := ⟨_, _, rfl⟩
      have hD := Tryd.utf8_DecodeLastRuneInString u wr (by omega) hTr.out
      rw [hcn] at hD
      simp only at hD
      have HCN := jAa.mk hcn
      have HD := jAa.mk hD
      clear hcn hD
      go_wp2_with (go_at_call 87; refine HD.out.mono ?_; rintro e w2 ⟨rfl, hb2⟩)
      have hset' : w2.heap.size < (w2.iter set 0).heap.size := by simp [World.iter]
      have hbI : Below w2.heap.size w2 (w2.iter set 0) := (Below.refl _ _).alloc (Nat.le_refl _) _
      have hiI := World.iter_heap w2 set 0
      have hsw : wr.heap.size ≤ w2.heap.size := hb2.size
      clear HD
      go_loopw [7, 9] (fun t7 _ wx => ∃ j : Nat, j ≤ set.size ∧ t7 = .bool (jEs set c j) ∧ wx.heap[w2.heap.size]? = some (.stringIter set j) ∧ Below w2.heap.size w2 wx) (fun _ _ wx => set.size - wx.iterPos w2.heap.size)
      case atStart => exact ⟨0, Nat.zero_le _, by rw [jGq], hiI, hbI⟩
      case round =>
        clear hiI hbI hset'
        obtain ⟨j, hj, rfl, hit, hbx⟩ := hrel
        by_cases hjl : j < set.size
        · have hasc : (set[j]'hjl).toNat < 128 := HSET.out _ (by show set.data[j]'hjl ∈ _; simp)
          have hnx : ∀ ty, (Instr.next (.pointer (some ⟨w2.heap.size, 0, none⟩)) true ty).run Tryd.prog _ = _ := fun ty => Lib.run_next_ascii_at _ w2.heap.size set j ty hit hjl hasc
          have hs1 := jGp set c j hjl
          have hit3 := Lib.iterAt_heap _ w2.heap.size set j (j + 1) hit
          have hbx3 := Lib.below_iterAt hbx (k := w2.heap.size) (Nat.le_refl _) set (j + 1)
          generalize hd : (set[j]'hjl).toNat = d at hnx hs1 hasc
          clear hd
          have HS1 := jAa.mk hs1
          clear hs1
          cases hb : jEs set c j with
          | true =>
            rw [hb] at HS1
            clear hb
            go_wp2
            go_roundw
            case rel => exact ⟨j + 1, by omega, by rw [HS1.out]; rfl, hit3, hbx3⟩
            case measure => simp only [World.iterPos, hit3, hit]; omega
          | false =>
            rw [hb] at HS1
            clear hb
            go_wp2
            go_roundw
            case rel => exact ⟨j + 1, by omega, by rw [HS1.out]; rw [Bool.false_or]; congr 1; exact (same_num c d).symm, hit3, hbx3⟩
            case measure => simp only [World.iterPos, hit3, hit]; omega
        · have hnx : ∀ ty, (Instr.next (.pointer (some ⟨w2.heap.size, 0, none⟩)) true ty).run Tryd.prog _ = _ := fun ty => Lib.run_next_end_at _ w2.heap.size set j ty hit hjl
          have hIA := jHq set c j hjl
          rw [hIA]
          clear hIA
          have hbw3 : Below w.heap.size w wr := hbw.trans ((hb2.mono hsz).trans (hbx.mono (by omega)))
          cases hb : inS set c with
          | true =>
            obtain ⟨rfl, hq2⟩ := step_right HSET.out H1.out hq hp HU.out HCN.out hb
            clear hb
            have hex : u.extract 0 (q - 1) = t.extract 0 (q - 1) := by rw [← HU.out]; exact ext_ext t q (q - 1) (by omega)
            have hxs : (t.extract 0 (q - 1)).size = q - 1 := ext_size t _ (by omega)
            have HEX := jAa.mk hex
            clear hex
            go_wp2
            refine ⟨⟨q - 1, by omega, by omega, by rw [HEX.out], hbw3⟩, ?_⟩
            show (u.extract 0 (q - 1)).size < u.size
            rw [HEX.out, hxs]
            omega
          | false =>
            clear hb
            go_wp2
            go_ret
            exact ⟨_, rfl, by omega, hbw3⟩
    · obtain rfl : q = 0 := by omega
      have ht : t.size = 0 := by omega
      go_wp2
      go_ret
      exact ⟨_, rfl, by omega, hbw⟩
end Go.Proofs.YtefdfgmlmjnmlaaDoor.My
end

section
namespace Go.Proofs.YtefdfgmlmjnmlaaDoor.My
open Go.ChangeShapes Go.WideShapes Go.ChangeAt Go.RowKit
open Go.Proofs.YtefdfgmlmjnmlaaDoor
theorem own : ownKnob Tryd.prog.godebug = none := by kernel_rfl
theorem laidOut : laidOutB Tryd.prog = true := by kernel_rfl
abbrev tabs : List (String × DataW Unit) := [("unicode/utf8.acceptRanges", Rows.laid_unicode_utf8_acceptRanges), ("unicode/utf8.first", Rows.laid_unicode_utf8_first)]
theorem first_eq : Rows.laid_unicode_utf8_first = Lib.firstData := by kernel_rfl
theorem accept_eq : (Rows.laid_unicode_utf8_acceptRanges : DataW Unit) = Lib.acceptData := by kernel_rfl
theorem tabs_of {W : World} (h : laidMetH Tryd.prog tabs W) : Tabs W := by
  rw [MakeChecks.laidMetH_plain _ _ _ (by kernel_rfl)] at h
  have h1 := Lib.laidMet.reads h (.head _)
  have h2 := Lib.laidMet.reads h (.tail _ (.head _))
  rw [accept_eq] at h1
  rw [first_eq] at h2
  exact ⟨Go.Proofs.utf8Tabs_of_readsT (U8Types.of260 Tryd.lays260) ⟨by kernel_rfl, by kernel_rfl, by kernel_rfl, by kernel_rfl, by kernel_rfl, by kernel_rfl, by kernel_rfl⟩ h2 h1⟩
end Go.Proofs.YtefdfgmlmjnmlaaDoor.My
end

section
namespace Go.Proofs.YtefdfgmlmjnmlaaDoor.My
open Go.RowKit Go.Proofs.YtefdfgmlmjnmlaaDoorW.PrintWords Go.Proofs.YtefdfgmlmjnmlaaDoor.Rf
def cmpS (a b : ByteArray) : Int := if Op.bytesLess a.toList b.toList = true then -1 else if Op.bytesLess b.toList a.toList = true then 1 else 0
def cmpI (a b : Int) : Int := if a < b then -1 else if a > b then 1 else 0
def ord (g h : S27) : Int := if cmpI g.f0 h.f0 = 0 then cmpS g.f1 h.f1 else cmpI g.f0 h.f0
/-- The binary search, round by round. -/
def bs (l : List S27) (g : S27) : Nat → Nat → Nat → Nat
  | 0, i, _ => i
  | f + 1, i, j => if i < j then (if ord (l.getD ((i + j) / 2) z27) g < 0 then bs l g f ((i + j) / 2 + 1) j else bs l g f i ((i + j) / 2)) else i
end Go.Proofs.YtefdfgmlmjnmlaaDoor.My
end

section
namespace Go.Proofs.YtefdfgmlmjnmlaaDoor.My
open Go.RowKit Go.Proofs.YtefdfgmlmjnmlaaDoorW.PrintWords Go.Proofs.YtefdfgmlmjnmlaaDoor.Rf
/-- The place of the first element that something holds of; -1: there is none. -/
def idx {α : Type} (p : α → Bool) (l : List α) : Int := if l.findIdx p < l.length then (l.findIdx p : Int) else -1
theorem idx_hit {α : Type} (p : α → Bool) (l : List α) (z : α) (k : Nat) (hk : k < l.length) (hall : ∀ j, j < k → p (l.getD j z) = false) (hp : p (l.getD k z) = true) : idx p l = k := by
  have hg : ∀ j, (h : j < l.length) → l.getD j z = l[j]'h := fun j h => by simp [List.getD, List.getElem?_eq_getElem h]
  have : l.findIdx p = k := (List.findIdx_eq hk).2 ⟨by rw [← hg k hk]; exact hp, fun j hj => by rw [← hg j (by omega)]; exact hall j hj⟩
  rw [idx, this, if_pos hk]
theorem idx_none {α : Type} (p : α → Bool) (l : List α) (z : α) (hall : ∀ j, j < l.length → p (l.getD j z) = false) : idx p l = -1 := by
  have hg : ∀ j, (h : j < l.length) → l.getD j z = l[j]'h := fun j h => by simp [List.getD, List.getElem?_eq_getElem h]
  have : l.findIdx p = l.length := List.findIdx_eq_length.2 fun x hx => by
    obtain ⟨j, hj, rfl⟩ := List.getElem_of_mem hx
    rw [← hg j hj]; exact hall j hj
  rw [idx, this, if_neg (Nat.lt_irrefl _)]
theorem idx_range {α : Type} (p : α → Bool) (l : List α) : -1 ≤ idx p l ∧ idx p l < l.length := by
  unfold idx; split <;> omega
/-- Is this the table of a name? -/
def isT (nm : ByteArray) (t : S45) : Bool := t.f0.toList == nm.toList
def findT (l : List S45) (nm : ByteArray) : Int := idx (isT nm) l
set_option maxHeartbeats 4000000 in
set_option maxRecDepth 100000 in
theorem isT_calls (t : S45) (A2 A3 : Option Addr) (c2 c3 : Nat) (nm : ByteArray) (b : Nat) (w : World) (hb : w.heap[b]? = some (.cells #[.string nm] 9 (0, 0))) :
    Calls Tryd.prog 53 #[.agg #[.string t.f0, .int .i64 t.f1, .slice A2 t.f2.length c2, .slice A3 t.f3.length c3], .pointer (some ⟨b, 0, none⟩)] w fun e w' => e = .returned (.bool (isT nm t)) ∧ Below w.heap.size w w' := by
  have c0 : w.cell? ⟨b, 0, none⟩ = some (.string nm) := jAb hb 0
  have hlt := jBu hb
  clear hb
  go_enter Tryd.func53, Tryd.ntmps53
  go_wp2
  go_ret
  exact ⟨rfl, (Below.refl _ _).alloc (Nat.le_refl _) _⟩
set_option maxHeartbeats 4000000 in
set_option maxRecDepth 100000 in
theorem idxT_calls (l : List S45) (A : Option Addr) (c : Nat) (nm : ByteArray) (b : Nat) (w : World) (hr : Kd.C k45 w A l.length l) (hb : w.heap[b]? = some (.cells #[.string nm] 9 (0, 0))) :
    Calls Tryd.prog 52 #[.slice A l.length c, .func (.func 53) #[] #[.pointer (some ⟨b, 0, none⟩)]] w fun e w' => e = .returned (.int .i64 (findT l nm)) ∧ Below w.heap.size w w' := by
  have HR := jAa.mk hr
  have HBL := jAa.mk hb
  have hn : l.length ≤ 9223372036854775807 := hr.2.1
  clear hr hb
  go_enter Tryd.func52, Tryd.ntmps52
  go_wp2
  go_loopw [5, 8] (fun _ t8 wr => ∃ k : Nat, t8 = .int .i64 k ∧ k ≤ l.length ∧ jAa (∀ j, j < k → isT nm (l.getD j z45) = false) ∧ jAa (Below w.heap.size w wr)) (fun _ t8 _ => l.length - (intOf t8).toNat)
  case atStart => exact ⟨0, rfl, Nat.zero_le _, ⟨fun j hj => absurd hj (by omega)⟩, ⟨Below.refl _ _⟩⟩
  case round =>
    obtain ⟨k, rfl, hk, HA, HB⟩ := hrel
    by_cases hlt : k < l.length
    · obtain ⟨ad, A2, c2, A3, c3, e, hc0, hc1, hc2, hc3, _, _, _, _⟩ := jGf HR.out (k : Int) (by omega) (by omega)
      subst e
      simp only [Int.toNat_natCast, jAl] at hc0 hc1 hc2 hc3
      generalize hx : l.getD k z45 = x at hc0 hc1 hc2 hc3
      have HXX := jAa.mk hx
      have d0 := (HB.out.cell (World.block_lt_of_cell? w _ hc0)).trans hc0
      have d1 := (HB.out.cell (World.block_lt_of_cell? w _ hc1)).trans hc1
      have d2 := (HB.out.cell (World.block_lt_of_cell? w _ hc2)).trans hc2
      have d3 := (HB.out.cell (World.block_lt_of_cell? w _ hc3)).trans hc3
      clear hc0 hc1 hc2 hc3 hx
      have hi0 : (0 : Int) ≤ (k : Int) := by omega
      have hi1 : (k : Int) < (l.length : Int) := by omega
      have hblk := jAp HBL.out HB.out
      have HBLK := jAa.mk hblk
      clear hblk
      cases hp : isT nm x with
      | true =>
        have hres : findT l nm = k := idx_hit _ l z45 k hlt HA.out (by rw [HXX.out]; exact hp)
        have HP := jAa.mk hp
        have HRES := jAa.mk hres
        clear hp hres
        go_wp2_with (go_at_call 53; refine (isT_calls x A2 A3 c2 c3 nm b _ HBLK.out).mono ?_; rw [HP.out]; rintro e w2 ⟨rfl, hb2⟩)
        go_ret
        exact ⟨by rw [HRES.out]; rfl, HB.out.trans (hb2.mono HB.out.size)⟩
      | false =>
        have hall : ∀ j, j < k + 1 → isT nm (l.getD j z45) = false := fun j hj => by
          rcases Nat.lt_or_ge j k with h | h
          · exact HA.out j h
          · obtain rfl : j = k := by omega
            rw [HXX.out]; exact hp
        have HP := jAa.mk hp
        have HALL := jAa.mk hall
        clear hp hall
        go_wp2_with (go_at_call 53; refine (isT_calls x A2 A3 c2 c3 nm b _ HBLK.out).mono ?_; rw [HP.out]; rintro e w2 ⟨rfl, hb2⟩)
        go_roundw
        case rel => exact ⟨k + 1, by go_num, by omega, HALL, ⟨HB.out.trans (hb2.mono HB.out.size)⟩⟩
        case measure => simp [intOf]; omega
    · have hres : findT l nm = -1 := idx_none _ l z45 (fun j hj => HA.out j (by omega))
      have HRES := jAa.mk hres
      clear hres
      go_wp2
      go_ret
      exact ⟨by rw [HRES.out]; rfl, HB.out⟩
/-- The table that Find answers. -/
def theT (l : List S45) (nm : ByteArray) : S45 := if findT l nm < 0 then z45 else l.getD (findT l nm).toNat z45
structure FindPost (l : List S45) (nm : ByteArray) (w : World) (e : Ending) (w' : World) : Prop where
  out : ∃ (A2 A3 : Option Addr) (c2 c3 : Nat), e = .returned (.tuple #[.agg #[.string (theT l nm).f0, .int .i64 (theT l nm).f1, .slice A2 (theT l nm).f2.length c2, .slice A3 (theT l nm).f3.length c3], .bool (decide (0 ≤ findT l nm))])
    ∧ (theT l nm).f2.length ≤ c2 ∧ k59.C w A2 (theT l nm).f2.length (theT l nm).f2 ∧ (theT l nm).f3.length ≤ c3 ∧ k72.C w A3 (theT l nm).f3.length (theT l nm).f3 ∧ Below w.heap.size w w'
set_option maxHeartbeats 4000000 in
set_option maxRecDepth 100000 in
theorem jFb (v : Int) (l : List S45) (A : Option Addr) (c : Nat) (A' : Option Addr) (n' c' : Nat) (nm : ByteArray) (w : World) (hr : Kd.C k45 w A l.length l) :
    Calls Tryd.prog 29 #[.agg #[.int .i64 v, .slice A l.length c, .slice A' n' c'], .string nm] w (FindPost l nm w) := by
  have HR := jAa.mk hr
  clear hr
  go_enter Tryd.func29, Tryd.ntmps29
  go_wp2_with fail
  refine (idxT_calls l A c nm (w.heap.size + 1) _ ?hC ?hN).mono ?_
  case hC => exact Kd.C_below HR.out (below3 w _ _ _)
  case hN => exact jAe (jDu w _ _) _
  rintro e w4 ⟨rfl, hb⟩
  have hbw : Below w.heap.size w w4 := jAu (below3 w _ _ _) hb
  have hz : w.heap.size + 2 < w4.heap.size := by have := hb.size; simp at this; omega
  have hk2 : w4.heap[w.heap.size]? = some (.cells #[.int .i64 v, .slice A l.length c, .slice A' n' c'] 25 (0, 0)) := jAp (jAe (jAe (jCt w _) _) _) hb
  have hk4 : w4.heap[w.heap.size + 2]? = some (.cells #[.string ⟨#[]⟩, .int .i64 0, .slice none 0 0, .slice none 0 0] 45 (0, 0)) := jAp (blk_new2 w _ _ _) hb
  have a1 : w4.cell? ⟨w.heap.size, 1, none⟩ = some (.slice A l.length c) := jAb hk2 1
  have b0 : w4.cell? ⟨w.heap.size + 2, 0, none⟩ = some (.string ⟨#[]⟩) := jAb hk4 0
  have b1 : w4.cell? ⟨w.heap.size + 2, 1, none⟩ = some (.int .i64 0) := jAb hk4 1
  have b2 : w4.cell? ⟨w.heap.size + 2, 2, none⟩ = some (.slice none 0 0) := jAb hk4 2
  have b3 : w4.cell? ⟨w.heap.size + 2, 3, none⟩ = some (.slice none 0 0) := jAb hk4 3
  have f0 := jAg hk4 0
  have f1 := jAg hk4 1
  have f2 := jAg hk4 2
  have f3 := jAg hk4 3
  have HBW := jAa.mk hbw
  have HK4 := jAa.mk hk4
  clear hb hbw hk2 hk4
  have hrg := idx_range (isT nm) l
  have HT := jAa.mk (rfl : theT l nm = theT l nm)
  by_cases hneg : findT l nm < 0
  · have hT : theT l nm = z45 := by unfold theT; rw [if_pos hneg]
    have HTT := jAa.mk hT
    clear hT HT
    go_wp2
    refine bodyPost_ret (jFa rfl _ _ (w.heap.size + 1 + 1) 45 #[.string ⟨#[]⟩, .int .i64 0, .slice none 0 0, .slice none 0 0] (0, 0) _ rfl (jBf (jBf (jBf (jBf HK4.out 0 _ rfl) 1 _ rfl) 2 _ rfl) 3 _ rfl) Tryd.underlying45 rfl (by kernel_rfl)) rfl ?_
    refine ⟨none, none, 0, 0, ?_, ?_, ?_, ?_, ?_, ?_⟩
    · rw [HTT.out, decide_eq_false (by omega)]; rfl
    · rw [HTT.out]; exact Nat.le_refl _
    · rw [HTT.out]; exact Kd.C_nil _ _
    · rw [HTT.out]; exact Nat.le_refl _
    · rw [HTT.out]; exact Kd.C_nil _ _
    · repeat' (refine jAh ?_ (by omega))
      exact HBW.out
  · have hlt : (findT l nm).toNat < l.length := by have := hrg.2; unfold findT at hneg ⊢; omega
    have hk : findT l nm = ((findT l nm).toNat : Int) := by omega
    generalize hkk : (findT l nm).toNat = k at hlt hk
    obtain ⟨ad, A2, c2, A3, c3, e, hc0, hc1, hc2, hc3, hl2, hC2, hl3, hC3⟩ := jGf HR.out (k : Int) (by omega) (by omega)
    subst e
    have hT : theT l nm = l.getD k z45 := by unfold theT; rw [if_neg hneg, hkk]
    simp only [Int.toNat_natCast, jAl] at hc0 hc1 hc2 hc3 hl2 hC2 hl3 hC3
    rw [← hT] at hc0 hc1 hc2 hc3 hl2 hC2 hl3 hC3
    have hwb := HBW.out
    have d0 := (hwb.cell (World.block_lt_of_cell? w _ hc0)).trans hc0
    have d1 := (hwb.cell (World.block_lt_of_cell? w _ hc1)).trans hc1
    have d2 := (hwb.cell (World.block_lt_of_cell? w _ hc2)).trans hc2
    have d3 := (hwb.cell (World.block_lt_of_cell? w _ hc3)).trans hc3
    have HH2 := jAa.mk hl2
    have HC2 := jAa.mk hC2
    have HH3 := jAa.mk hl3
    have HC3 := jAa.mk hC3
    clear hc0 hc1 hc2 hc3 hl2 hC2 hl3 hC3 hwb hT HT hkk hneg hrg
    generalize hr : findT l nm = r at hk ⊢
    generalize hx : theT l nm = x at d0 d1 d2 d3 HH2 HC2 HH3 HC3
    subst hk
    have HRR := jAa.mk hr
    have HXX := jAa.mk hx
    clear hr hx
    have hi0 : (0 : Int) ≤ (k : Int) := by omega
    have hi1 : (k : Int) < (l.length : Int) := by omega
    go_wp2
    refine bodyPost_ret (jFa rfl _ _ (w.heap.size + 1 + 1) 45 #[.string x.f0, .int .i64 x.f1, .slice A2 x.f2.length c2, .slice A3 x.f3.length c3] (0, 0) _ rfl (jBf (jBf (jBf (jBf HK4.out 0 _ rfl) 1 _ rfl) 2 _ rfl) 3 _ rfl) Tryd.underlying45 rfl (by kernel_rfl)) rfl ?_
    refine ⟨A2, A3, c2, c3, ?_, ?_, ?_, ?_, ?_, ?_⟩
    · rw [HXX.out, HRR.out, decide_eq_true (show (0 : Int) ≤ (k : Int) by omega)]; rfl
    · rw [HXX.out]; exact HH2.out
    · rw [HXX.out]; exact HC2.out
    · rw [HXX.out]; exact HH3.out
    · rw [HXX.out]; exact HC3.out
    · repeat' (refine jAh ?_ (by omega))
      exact HBW.out
end Go.Proofs.YtefdfgmlmjnmlaaDoor.My
end

section
namespace Go.Proofs.YtefdfgmlmjnmlaaDoor.My
open Go.RowKit Go.Proofs.YtefdfgmlmjnmlaaDoorW.PrintWords
def low (c : UInt8) : Bool := decide (97 ≤ c.toNat) && decide (c.toNat ≤ 122)
def jFc (c : UInt8) : Bool := low c || c.toNat == 95 || (decide (48 ≤ c.toNat) && decide (c.toNat ≤ 57))
/-- Can a text be a name? -/
def jEf (s : ByteArray) : Bool := decide (0 < s.size) && decide (s.size ≤ 12) && low (s.data.toList.getD 0 0) && s.data.toList.all jFc
structure NamePost (s : ByteArray) (w : World) (e : Ending) (w' : World) : Prop where
  out : e = .returned (.bool (jEf s)) ∧ Below w.heap.size w w'
def LET : List UInt8 := [97, 98, 99, 100, 101, 102, 103, 104, 105, 106, 107, 108, 109, 110, 111, 112, 113, 114, 115, 116, 117, 118, 119, 120, 121, 122]
def SET : ByteArray := ⟨#[97, 98, 99, 100, 101, 102, 103, 104, 105, 106, 107, 108, 109, 110, 111, 112, 113, 114, 115, 116, 117, 118, 119, 120, 121, 122, 48, 49, 50, 51, 52, 53, 54, 55, 56, 57, 95]⟩
theorem of_all (p : UInt8 → Bool) (h : ∀ n, n < 256 → p (UInt8.ofNat n) = true) (c : UInt8) : p c = true := by
  have := h c.toNat c.toNat_lt
  rwa [UInt8.ofNat_toNat] at this
theorem low_let (c : UInt8) : LET.contains c = low c := by
  have := of_all (fun c => LET.contains c == low c) (by decide +kernel) c
  simpa using this
theorem inS_name (c : UInt8) : inS SET c.toNat = jFc c := by
  have := of_all (fun c => inS SET c.toNat == jFc c) (by decide +kernel) c
  simpa using this
theorem set_ascii : ∀ b ∈ SET.data.toList, b.toNat < 128 := by decide
theorem index_low_no (c : UInt8) (h : low c = false) : Lib.indexByte LET c < 0 := by
  have := Lib.contains_iff_indexByte LET c
  rw [low_let, h] at this
  have := of_decide_eq_false this.symm
  omega
theorem index_low_yes (c : UInt8) (h : low c = true) : 0 ≤ Lib.indexByte LET c := by
  have := Lib.contains_iff_indexByte LET c
  rw [low_let, h] at this
  exact of_decide_eq_true this.symm
theorem jGr (s : ByteArray) (c : Int) (w : World) :
    Calls Tryd.prog 55 #[.string s, .int .u8 c] w fun e w' => e = .returned (.int .i64 (Lib.indexByte s.data.toList c.toNat.toUInt8)) ∧ w = w' :=
  (Tryd.strings_IndexByte s c w).mono fun _ _ h => ⟨h.1, h.2.symm⟩
theorem jGb (s : ByteArray) : s.toList = [] ↔ s.size = 0 := by
  rw [ByteArray.toList_eq]
  have : s.size = s.data.toList.length := by rw [Array.length_toList]; rfl
  rw [this]
  exact List.length_eq_zero_iff.symm
theorem head_at (s : ByteArray) (h : 0 < s.size) : s.data.toList.getD 0 0 = s[0]'h := by
  have h' : 0 < s.data.size := h
  show (s.data.toList[0]?).getD 0 = s.data[0]'h'
  rw [Array.getElem?_toList, Array.getElem?_eq_getElem h']
  rfl
theorem all_of (s : ByteArray) (p : UInt8 → Bool) (h : ∀ j, (h : j < s.size) → p (s[j]'h) = true) : s.data.toList.all p = true := by
  rw [List.all_eq_true]
  intro x hx
  obtain ⟨j, hj, rfl⟩ := List.getElem_of_mem hx
  exact h j (by simpa using hj)
theorem not_all (s : ByteArray) (p : UInt8 → Bool) (j : Nat) (h : j < s.size) (hp : p (s[j]'h) = false) : s.data.toList.all p = false := by
  rw [Bool.eq_false_iff]
  intro ha
  rw [List.all_eq_true] at ha
  have := ha (s[j]'h) (by show s.data[j]'h ∈ _; simp)
  rw [hp] at this
  exact absurd this (by decide)
/-- What is left of a text and is cut from the right: nothing, just if all bytes are the set's. -/
theorem left_all {s t : ByteArray} (h : LeftOf SET s t) : (t.size = 0 ↔ s.data.toList.all jFc = true) ∧ (∀ h : 0 < t.size, inS SET (t[0]'h).toNat = false) := by
  obtain ⟨p, hp, rfl, hall, hno⟩ := h
  have hsz : (s.extract p s.size).size = s.size - p := by simp [ByteArray.size_extract]
  refine ⟨?_, ?_⟩
  · rw [hsz]
    constructor
    · intro h0
      exact all_of s _ fun j hj => by rw [← inS_name]; exact hall j hj (by omega)
    · intro ha
      rcases Nat.lt_or_ge p s.size with h | h
      · have := not_all s jFc p h (by rw [← inS_name]; exact hno h)
        rw [this] at ha
        exact absurd ha (by decide)
      · omega
  · intro h
    have hps : p < s.size := by omega
    have := hno hps
    have e : (s.extract p s.size)[0]'h = s[p]'hps := by
      show (s.extract p s.size).data[0]'h = s.data[p]'hps
      simp [ByteArray.data_extract]
    rw [e]
    exact this
theorem left_size {s t : ByteArray} (h : LeftOf SET s t) : t.size ≤ s.size := by
  obtain ⟨p, hp, rfl, _⟩ := h
  simp [ByteArray.size_extract]
set_option maxHeartbeats 4000000 in
set_option maxRecDepth 100000 in
theorem jCi (s : ByteArray) (w : World) (hs : s.size ≤ 9223372036854775807) (hT : Tabs w) :
    Calls Tryd.prog 32 #[.string s] w (NamePost s w) := by
  by_cases h0 : s.toList = []
  · have hr : jEf s = false := by simp [jEf, (jGb s).1 h0]
    go_enter Tryd.func32, Tryd.ntmps32
    go_wp2_with fail
    go_ret
    exact ⟨by show Ending.returned (.bool false) = _; rw [hr], Below.refl _ _⟩
  · by_cases h12 : s.size ≤ 12
    · have hz : 0 < s.size := by have := mt (jGb s).2 h0; omega
      cases hlo : low (s.data.toList.getD 0 0) with
      | false =>
        have hr : jEf s = false := by simp only [jEf, hlo]; simp
        have hneg := index_low_no (s[0]'hz) (by rw [← head_at s hz]; exact hlo)
        unfold LET at hneg
        clear hlo
        go_enter Tryd.func32, Tryd.ntmps32
        go_wp2_with (go_at_call 55; refine (jGr _ _ _).mono ?_; rintro e w2 ⟨rfl, rfl⟩)
        go_ret
        exact ⟨by show Ending.returned (.bool false) = _; rw [hr], Below.refl _ _⟩
      | true =>
        have hpos := index_low_yes (s[0]'hz) (by rw [← head_at s hz]; exact hlo)
        unfold LET at hpos
        have HLO := jAa.mk hlo
        clear hlo
        go_enter Tryd.func32, Tryd.ntmps32
        go_wp2_with (first | (go_at_call 55; refine (jGr _ _ _).mono ?_; rintro e w2 ⟨rfl, rfl⟩) | (go_at_call 57; refine (cutLeft_calls _ SET _ set_ascii).mono ?_; rintro e w2 ⟨t, rfl, hl, hb⟩))
        refine (jHg t SET w2 set_ascii (by have := left_size hl; omega) (hT.below hb) (left_all hl).2).mono ?_
        rintro e w3 ⟨u, rfl, hu, hb2⟩
        have hall := (left_all hl).1
        have hb3 : Below w.heap.size w w3 := hb.trans (hb2.mono hb.size)
        have HU := jAa.mk hu
        have HALL := jAa.mk hall
        clear hu hall
        go_wp2
        go_ret
        refine ⟨?_, hb3⟩
        refine congrArg (fun b => Ending.returned (.bool b)) ?_
        have e1 := jGb u
        have hr : jEf s = s.data.toList.all jFc := by simp only [jEf, HLO.out, decide_eq_true hz, decide_eq_true h12]; simp
        rw [hr, Bool.eq_iff_iff]
        simp [e1, HU.out, HALL.out]
        exact fun _ => h0
    · have hr : jEf s = false := by simp only [jEf, decide_eq_false h12]; simp
      go_enter Tryd.func32, Tryd.ntmps32
      go_wp2_with fail
      go_ret
      exact ⟨by show Ending.returned (.bool false) = _; rw [hr], Below.refl _ _⟩
end Go.Proofs.YtefdfgmlmjnmlaaDoor.My
end

section
namespace Go.Proofs.YtefdfgmlmjnmlaaDoor.My
open Go.RowKit Go.Proofs.YtefdfgmlmjnmlaaDoorW.PrintWords Go.Proofs.YtefdfgmlmjnmlaaDoor.Rf
structure jFd (b : Bool) (w : World) (e : Ending) (w' : World) : Prop where
  out : e = .returned (.bool b) ∧ Below w.heap.size w w'
end Go.Proofs.YtefdfgmlmjnmlaaDoor.My
end

section
namespace Go.Proofs.YtefdfgmlmjnmlaaDoor.My
open Go.RowKit Go.Proofs.YtefdfgmlmjnmlaaDoorW.PrintWords Go.Proofs.YtefdfgmlmjnmlaaDoor.Rf
theorem jCr {i n : Nat} (h : i < n) (hn : n ≤ 9223372036854775807) : wrap64 ((i : Int) + 1) = ((i + 1 : Nat) : Int) := by
  unfold wrap64; omega
theorem bt_nat (s : ByteArray) (i : Nat) (h : i < s.size) : bt s (i : Int) = ((s[i]'h).toNat : Int) := by
  simp [bt, h]
theorem jGi (l : List S45) (i : Nat) : jAl l (i : Int) = l.getD i z45 := rfl
theorem rd27_nat (l : List S27) (i : Nat) : jCf l (i : Int) = l.getD i z27 := rfl
end Go.Proofs.YtefdfgmlmjnmlaaDoor.My
end

section
set_option linter.unusedVariables false
set_option linter.unusedSimpArgs false
namespace Go.Proofs.YtefdfgmlmjnmlaaDoor.Rf
open Go.RowKit Go.Proofs.YtefdfgmlmjnmlaaDoorW.PrintWords Go.Proofs.YtefdfgmlmjnmlaaDoorW.PrintLast Go.Proofs.YtefdfgmlmjnmlaaDoorW.PrintMore
attribute [local go_sem] jCg jCo
mutual
def jBp.l0 : Nat → Int → Int → List (S72) → Int → Int → Option (Int × Int)
 | 0, _, _, _, _, _ => none
 | k + 1, x4, x5, x11, x12, x13 => if x13 < x12 then (if 0 ≤ x13 then (if x13 < (x11.length : Int) then ((jBp.f k ((jAq x11 x13).f0) ((jAq x11 x13).f1) ((jAq x11 x13).f2.f0) ((jAq x11 x13).f2.f1) ((jAq x11 x13).f2.f2) ((jAq x11 x13).f3)).bind fun bt125 => (jBp.l0 k (wrap64 (x4 + bt125.1)) (mx x5 bt125.2) x11 x12 (wrap64 (x13 + 1)))) else (none)) else (none)) else (some (x4, wrap64 (x5 + 1)))
def jBp.f : Nat → Int → Int → Int → Int → ByteArray → List (S72) → Option (Int × Int)
 | 0, _, _, _, _, _, _ => none
 | k + 1, a0_0, a0_1, a0_2, a0_3, a0_4, l0_5 => jBp.l0 k 1 0 l0_5 (l0_5.length : Int) 0
end
set_option maxHeartbeats 8000000 in
set_option maxRecDepth 100000 in
theorem jBp.calls (k : Nat) : ∀ (a0_0 : Int) (a0_1 : Int) (a0_2 : Int) (a0_3 : Int) (a0_4 : ByteArray) (A0_5 : Option Addr) (c0_5 : Nat) (l0_5 : List (S72)) (r1 : Int) (r2 : Int) (w : World) (hr0_5 : Kd.C k72 w A0_5 l0_5.length l0_5) (hc0_5 : l0_5.length ≤ c0_5) (h : jBp.f k a0_0 a0_1 a0_2 a0_3 a0_4 l0_5 = some (r1, r2)),
  Calls Tryd.prog 79 #[.agg #[.int .i64 a0_0, .int .i64 a0_1, .int .i64 a0_2, .int .i64 a0_3, .string a0_4, .slice A0_5 l0_5.length c0_5]] w fun e w' => e = .returned (.tuple #[.int .i64 r1, .int .i64 r2]) ∧ Below w.heap.size w w' := by
 induction k using Nat.strongRecOn with
 | _ k ih =>
 intro a0_0 a0_1 a0_2 a0_3 a0_4 A0_5 c0_5 l0_5 r1 r2 w hr0_5 hc0_5 h
 cases k with
 | zero => exact absurd h (by simp [jBp.f])
 | succ k =>
 simp only [jBp.f] at h
 have hu72 := Tryd.underlying72
 have HR0_5 := jAa.mk hr0_5
 have HC0_5 := jAa.mk hc0_5
 clear hr0_5 hc0_5
 have HB := jAa.mk (Below.refl w.heap.size w)
 have H : (jBp.l0 k 1 0 l0_5 (l0_5.length : Int) 0) = some (r1, r2) := h
 clear h
 have H' := jAa.mk H
 clear H
 go_enter Tryd.func79, Tryd.ntmps79
 go_wp2_with (first | ((with_reducible refine jCa (N := 1) rfl ?_); refine jBv ?hg (N := 1) ?hd (cs := #[.int .i64 a0_0, .int .i64 a0_1, .int .i64 a0_2, .int .i64 a0_3, .string a0_4, .slice A0_5 l0_5.length c0_5]) (t := 72) ?hr ?_; (case hd => rfl); (case hg => rfl); (case hr => first | (go_simp; done) | (go_simp; rfl)); intro gb122 hg w2 hbox hb; have n0_ := jAa.mk (jAu (by repeat (first | (with_reducible first | exact HB.out | apply jAj | apply jAd | apply jAk) | exact HB.out)) hb); have n1_ := jAa.mk (hbox); have n2_ := jAa.mk ((by rw [hg]; exact (jBj (by repeat (first | (with_reducible first | exact HB.out | apply jAj | apply jAd | apply jAk) | exact HB.out))) : w.heap.size ≤ gb122)); have n3_ := jAa.mk ((by rw [hg]; exact (jBj (by repeat (first | (with_reducible first | exact HB.out | apply jAj | apply jAd | apply jAk) | exact HB.out))) : w.heap.size ≤ gb122)); clear HB; have HB := n0_; have BK122 := n1_; have GW122 := n2_; have GE122 := n3_; clear n0_ n1_ n2_ n3_; clear hb hbox hg; have hcz3_0 : w2.cell? ⟨gb122, 0, none⟩ = some (.int .i64 a0_0) := (jAb BK122.out 0).trans rfl; have hcz3_1 : w2.cell? ⟨gb122, 1, none⟩ = some (.int .i64 a0_1) := (jAb BK122.out 1).trans rfl; have hcz3_2 : w2.cell? ⟨gb122, 2, none⟩ = some (.int .i64 a0_2) := (jAb BK122.out 2).trans rfl; have hcz3_3 : w2.cell? ⟨gb122, 3, none⟩ = some (.int .i64 a0_3) := (jAb BK122.out 3).trans rfl; have hcz3_4 : w2.cell? ⟨gb122, 4, none⟩ = some (.string a0_4) := (jAb BK122.out 4).trans rfl; have hcz3_5 : w2.cell? ⟨gb122, 5, none⟩ = some (.slice A0_5 l0_5.length c0_5) := (jAb BK122.out 5).trans rfl; have hfz3_0 := jAg BK122.out 0; have hfz3_1 := jAg BK122.out 1; have hfz3_2 := jAg BK122.out 2; have hfz3_3 := jAg BK122.out 3; have hfz3_4 := jAg BK122.out 4; have hfz3_5 := jAg BK122.out 5))
 go_loopg [4, 5, 13] k (fun kq v4 v5 v13 w' => ∃ (x4_1 : Int) (x5_1 : Int) (x13_1 : Int), v4 = .int .i64 x4_1 ∧ v5 = .int .i64 x5_1 ∧ v13 = .int .i64 x13_1 ∧ jAa (jBp.l0 kq x4_1 x5_1 l0_5 (l0_5.length : Int) x13_1 = some (r1, r2)) ∧ jAa (kq ≤ k) ∧ jAa (w'.heap[gb122]? = some (.cells #[.int .i64 a0_0, .int .i64 a0_1, .int .i64 a0_2, .int .i64 a0_3, .string a0_4, (.slice A0_5 l0_5.length c0_5)] 72 (0, 0))) ∧ jAa (Below w.heap.size w w'))
 case atStart => exact ⟨(1), (0), (0), (by first | rfl | (simp; done) | (simp [*]; done)), (by first | rfl | (simp; done) | (simp [*]; done)), (by first | rfl | (simp; done) | (simp [*]; done)), H', ⟨Nat.le_refl _⟩, ⟨by (with_reducible repeat (first | refine jAf ?_ _ | refine jAi ?_ | refine jAe ?_ _)); exact BK122.out⟩, ⟨by repeat (first | (with_reducible first | exact HB.out | apply jAj | apply jAd | apply jAk | refine jAh ?_ GE122.out) | exact HB.out)⟩⟩
 case round =>
  clear H'
  try clear p2
  try clear hcz3_0
  try clear hcz3_1
  try clear hcz3_2
  try clear hcz3_3
  try clear hcz3_4
  try clear hcz3_5
  try clear hfz3_0
  try clear hfz3_1
  try clear hfz3_2
  try clear hfz3_3
  try clear hfz3_4
  try clear hfz3_5
  obtain ⟨x4_1, x5_1, x13_1, rfl, rfl, rfl, HA, HK1, BK122, HB⟩ := hrel
  cases gk with
  | zero => exact absurd HA.out (by simp [jBp.l0])
  | succ k1 =>
   have H := HA.out
   clear HA
   simp only [jBp.l0] at H
   by_cases c4 : x13_1 < (l0_5.length : Int)
   ·rw [if_pos c4] at H
    have c4b0 : decide (x13_1 < (l0_5.length : Int)) = true := decide_eq_true c4
    clear c4
    by_cases c5 : 0 ≤ x13_1
    ·rw [if_pos c5] at H
     have c5b0 : decide (0 ≤ x13_1) = true := decide_eq_true c5
     clear c5
     by_cases c6 : x13_1 < (l0_5.length : Int)
     ·rw [if_pos c6] at H
      have c6b0 : decide (x13_1 < (l0_5.length : Int)) = true := decide_eq_true c6
      clear c6
      replace H := Option.bind_eq_some_iff.mp H
      obtain ⟨⟨t125, t126⟩, A70, H⟩ := H
      replace H : (jBp.l0 k1 (wrap64 (x4_1 + t125)) (mx x5_1 t126) l0_5 (l0_5.length : Int) (wrap64 (x13_1 + 1))) = some (r1, r2) := H
      have A7 := jAa.mk A70
      clear A70
      obtain ⟨ji8, hji8⟩ : ∃ j_ : Int, (mx x5_1 t126) = j_ := ⟨_, rfl⟩
      replace H : (jBp.l0 k1 (wrap64 (x4_1 + t125)) ji8 l0_5 (l0_5.length : Int) (wrap64 (x13_1 + 1))) = some (r1, r2) := by first | (rw [hji8] at H; exact H) | (simp only [hji8] at H ⊢; exact H)
      (try rw [hji8] at A7)
      have hji8_ : (if x5_1 < t126 then t126 else x5_1) = ji8 := hji8
      have H' := jAa.mk H
      clear H
      have p123 : 0 ≤ (x13_1 : Int) := of_decide_eq_true (by first | (with_reducible assumption) | assumption)
      have q123 : x13_1 < (l0_5.length : Int) := of_decide_eq_true (by first | (with_reducible assumption) | assumption)
      obtain ⟨ad123, A123_5, c123_5, e123, hx123_0, hx123_1, hx123_2, hx123_3, hx123_4, hx123_5, hl123_5, hi123_5⟩ := jDx HR0_5.out x13_1 p123 q123
      cases e123
      replace hx123_0 := (HB.out.cell (World.block_lt_of_cell? w _ hx123_0)).trans hx123_0
      replace hx123_1 := (HB.out.cell (World.block_lt_of_cell? w _ hx123_1)).trans hx123_1
      replace hx123_2 := (HB.out.cell (World.block_lt_of_cell? w _ hx123_2)).trans hx123_2
      replace hx123_3 := (HB.out.cell (World.block_lt_of_cell? w _ hx123_3)).trans hx123_3
      replace hx123_4 := (HB.out.cell (World.block_lt_of_cell? w _ hx123_4)).trans hx123_4
      replace hx123_5 := (HB.out.cell (World.block_lt_of_cell? w _ hx123_5)).trans hx123_5
      have HR123_5 := jAa.mk hi123_5
      have HC123_5 := jAa.mk hl123_5
      clear hi123_5 hl123_5
      replace p123 := eq_true p123
      replace q123 := eq_true q123
      go_wp2_with (first | ((with_reducible refine jCa (N := 7) rfl ?_); refine jBv ?hg (N := 7) ?hd (cs := #[.int .i64 0, .int .i64 0, .int .i64 0, .int .i64 0, .string (⟨#[]⟩ : ByteArray), .slice none 0 0]) (t := 72) ?hr ?_; (case hd => rfl); (case hg => rfl); (case hr => first | (go_simp; done) | (go_simp; rfl)); intro gb124 hg w9 hbox hb; have n0_ := jAa.mk (jAp (g := gb122) (o := .cells #[.int .i64 a0_0, .int .i64 a0_1, .int .i64 a0_2, .int .i64 a0_3, .string a0_4, .slice (some ad123) l0_5.length c0_5] 72 (0, 0)) (by (with_reducible repeat (first | refine jAf ?_ _ | refine jAi ?_ | refine jAe ?_ _)); exact BK122.out) hb); have n1_ := jAa.mk (jAu (by repeat (first | (with_reducible first | exact HB.out | apply jAj | apply jAd | apply jAk | refine jAh ?_ GE122.out) | exact HB.out)) hb); have n2_ := jAa.mk (hbox); have n3_ := jAa.mk ((by rw [hg]; exact (jBj (by repeat (first | (with_reducible first | exact HB.out | apply jAj | apply jAd | apply jAk | refine jAh ?_ GE122.out) | exact HB.out))) : w.heap.size ≤ gb124)); have n4_ := jAa.mk ((by rw [hg]; exact (jBj (by repeat (first | (with_reducible first | exact HB.out | apply jAj | apply jAd | apply jAk | refine jAh ?_ GE122.out) | exact HB.out))) : w.heap.size ≤ gb124)); have n5_ := jAa.mk ((by rw [hg]; exact Nat.ne_of_lt (jBu (g := gb122) (o := .cells #[.int .i64 a0_0, .int .i64 a0_1, .int .i64 a0_2, .int .i64 a0_3, .string a0_4, .slice (some ad123) l0_5.length c0_5] 72 (0, 0)) (by (with_reducible repeat (first | refine jAf ?_ _ | refine jAi ?_ | refine jAe ?_ _)); exact BK122.out)) : gb122 ≠ gb124)); have n6_ := jAa.mk ((by rw [hg]; exact Nat.ne_of_gt (jBu (g := gb122) (o := .cells #[.int .i64 a0_0, .int .i64 a0_1, .int .i64 a0_2, .int .i64 a0_3, .string a0_4, .slice (some ad123) l0_5.length c0_5] 72 (0, 0)) (by (with_reducible repeat (first | refine jAf ?_ _ | refine jAi ?_ | refine jAe ?_ _)); exact BK122.out)) : gb124 ≠ gb122)); clear BK122; clear HB; have BK122 := n0_; have HB := n1_; have BK124 := n2_; have GW124 := n3_; have GE124 := n4_; have NB122_124 := n5_; have NB124_122 := n6_; clear n0_ n1_ n2_ n3_ n4_ n5_ n6_; clear hb hbox hg; have hnb10 := NB124_122.out; have hnc10 := NB122_124.out; have hcz11_0 : w9.cell? ⟨gb124, 0, none⟩ = some (.int .i64 0) := (jAb BK124.out 0).trans rfl; have hcz11_1 : w9.cell? ⟨gb124, 1, none⟩ = some (.int .i64 0) := (jAb BK124.out 1).trans rfl; have hcz11_2 : w9.cell? ⟨gb124, 2, none⟩ = some (.int .i64 0) := (jAb BK124.out 2).trans rfl; have hcz11_3 : w9.cell? ⟨gb124, 3, none⟩ = some (.int .i64 0) := (jAb BK124.out 3).trans rfl; have hcz11_4 : w9.cell? ⟨gb124, 4, none⟩ = some (.string (⟨#[]⟩ : ByteArray)) := (jAb BK124.out 4).trans rfl; have hcz11_5 : w9.cell? ⟨gb124, 5, none⟩ = some (.slice none 0 0) := (jAb BK124.out 5).trans rfl; have hfz11_0 := jAg BK124.out 0; have hfz11_1 := jAg BK124.out 1; have hfz11_2 := jAg BK124.out 2; have hfz11_3 := jAg BK124.out 3; have hfz11_4 := jAg BK124.out 4; have hfz11_5 := jAg BK124.out 5) | ((with_reducible refine jBl (f := 79) rfl ?_); refine jCe (some 19) rfl rfl Tryd.func79 (by kernel_rfl) rfl #[.agg #[.int .i64 ((jAq l0_5 x13_1).f0), .int .i64 ((jAq l0_5 x13_1).f1), .int .i64 ((jAq l0_5 x13_1).f2.f0), .int .i64 ((jAq l0_5 x13_1).f2.f1), .string ((jAq l0_5 x13_1).f2.f2), .slice A123_5 ((jAq l0_5 x13_1).f3).length c123_5]] rfl (by (try simp only [List.map_toArray, List.map_cons, List.map_nil]); first | done | rfl | (simp only [List.length_drop, List.length_take]; rfl)) ?_; (with_reducible refine (ih k1 (by have := HK1.out; omega) ((jAq l0_5 x13_1).f0) ((jAq l0_5 x13_1).f1) ((jAq l0_5 x13_1).f2.f0) ((jAq l0_5 x13_1).f2.f1) ((jAq l0_5 x13_1).f2.f2) _ _ ((jAq l0_5 x13_1).f3) t125 t126 _ ?side1 ?side2 A7.out).mono ?_); (case side1 => exact Kd.C_below HR123_5.out (by repeat (first | (with_reducible first | exact HB.out | apply jAj | apply jAd | apply jAk | refine jAh ?_ GE122.out | refine jAh ?_ GE124.out) | exact HB.out))); (case side2 => exact HC123_5.out); rintro e w12 ⟨rfl, hb⟩; refine ⟨_, rfl, ?_⟩; have n0_ := jAa.mk (jAp (g := gb122) (o := .cells #[.int .i64 a0_0, .int .i64 a0_1, .int .i64 a0_2, .int .i64 a0_3, .string a0_4, .slice (some ad123) l0_5.length c0_5] 72 (0, 0)) (by (with_reducible repeat (first | refine jAf ?_ _ | refine jAi ?_ | refine jAe ?_ _)); refine jBa ?_ NB122_124.out _; (with_reducible repeat (first | refine jAf ?_ _ | refine jAi ?_ | refine jAe ?_ _)); refine jBa ?_ NB122_124.out _; (with_reducible repeat (first | refine jAf ?_ _ | refine jAi ?_ | refine jAe ?_ _)); refine jBa ?_ NB122_124.out _; (with_reducible repeat (first | refine jAf ?_ _ | refine jAi ?_ | refine jAe ?_ _)); refine jBa ?_ NB122_124.out _; (with_reducible repeat (first | refine jAf ?_ _ | refine jAi ?_ | refine jAe ?_ _)); refine jBa ?_ NB122_124.out _; (with_reducible repeat (first | refine jAf ?_ _ | refine jAi ?_ | refine jAe ?_ _)); refine jBa ?_ NB122_124.out _; (with_reducible repeat (first | refine jAf ?_ _ | refine jAi ?_ | refine jAe ?_ _)); exact BK122.out) hb); have n1_ := jAa.mk (jAp (g := gb124) (o := .cells #[.int .i64 ((jAq l0_5 x13_1).f0), .int .i64 ((jAq l0_5 x13_1).f1), .int .i64 ((jAq l0_5 x13_1).f2.f0), .int .i64 ((jAq l0_5 x13_1).f2.f1), .string ((jAq l0_5 x13_1).f2.f2), .slice A123_5 ((jAq l0_5 x13_1).f3).length c123_5] 72 (0, 0)) (by (with_reducible repeat (first | refine jAf ?_ _ | refine jAi ?_ | refine jAe ?_ _)); refine jBf (cs := #[.int .i64 ((jAq l0_5 x13_1).f0), .int .i64 ((jAq l0_5 x13_1).f1), .int .i64 ((jAq l0_5 x13_1).f2.f0), .int .i64 ((jAq l0_5 x13_1).f2.f1), .string ((jAq l0_5 x13_1).f2.f2), .slice none 0 0]) ?_ 5 _ rfl; (with_reducible repeat (first | refine jAf ?_ _ | refine jAi ?_ | refine jAe ?_ _)); refine jBf (cs := #[.int .i64 ((jAq l0_5 x13_1).f0), .int .i64 ((jAq l0_5 x13_1).f1), .int .i64 ((jAq l0_5 x13_1).f2.f0), .int .i64 ((jAq l0_5 x13_1).f2.f1), .string (⟨#[]⟩ : ByteArray), .slice none 0 0]) ?_ 4 _ rfl; (with_reducible repeat (first | refine jAf ?_ _ | refine jAi ?_ | refine jAe ?_ _)); refine jBf (cs := #[.int .i64 ((jAq l0_5 x13_1).f0), .int .i64 ((jAq l0_5 x13_1).f1), .int .i64 ((jAq l0_5 x13_1).f2.f0), .int .i64 0, .string (⟨#[]⟩ : ByteArray), .slice none 0 0]) ?_ 3 _ rfl; (with_reducible repeat (first | refine jAf ?_ _ | refine jAi ?_ | refine jAe ?_ _)); refine jBf (cs := #[.int .i64 ((jAq l0_5 x13_1).f0), .int .i64 ((jAq l0_5 x13_1).f1), .int .i64 0, .int .i64 0, .string (⟨#[]⟩ : ByteArray), .slice none 0 0]) ?_ 2 _ rfl; (with_reducible repeat (first | refine jAf ?_ _ | refine jAi ?_ | refine jAe ?_ _)); refine jBf (cs := #[.int .i64 ((jAq l0_5 x13_1).f0), .int .i64 0, .int .i64 0, .int .i64 0, .string (⟨#[]⟩ : ByteArray), .slice none 0 0]) ?_ 1 _ rfl; (with_reducible repeat (first | refine jAf ?_ _ | refine jAi ?_ | refine jAe ?_ _)); refine jBf (cs := #[.int .i64 0, .int .i64 0, .int .i64 0, .int .i64 0, .string (⟨#[]⟩ : ByteArray), .slice none 0 0]) ?_ 0 _ rfl; (with_reducible repeat (first | refine jAf ?_ _ | refine jAi ?_ | refine jAe ?_ _)); exact BK124.out) hb); have n2_ := jAa.mk (jAu (by repeat (first | (with_reducible first | exact HB.out | apply jAj | apply jAd | apply jAk | refine jAh ?_ GE122.out | refine jAh ?_ GE124.out) | exact HB.out)) hb); clear BK122; clear BK124; clear HB; have BK122 := n0_; have BK124 := n1_; have HB := n2_; clear n0_ n1_ n2_; (try clear hb); (try clear hb2); (try clear hk); (try clear hi)))
      go_roundg k1
      case measure => have := HK1.out; omega
      case rel => exact ⟨(wrap64 (x4_1 + t125)), (ji8), (wrap64 (x13_1 + 1)), (by first | rfl | (simp; done) | (simp [*]; done)), (by first | rfl | (simp; done) | (simp only [← hji8] <;> (first | rfl | simp)) | (simp [*]; done)), (by first | rfl | (simp; done) | (simp [*]; done)), H', ⟨by have := HK1.out; omega⟩, ⟨by (with_reducible repeat (first | refine jAf ?_ _ | refine jAi ?_ | refine jAe ?_ _)); exact BK122.out⟩, ⟨by repeat (first | (with_reducible first | exact HB.out | apply jAj | apply jAd | apply jAk | refine jAh ?_ GE122.out | refine jAh ?_ GE124.out) | exact HB.out)⟩⟩
     ·rw [if_neg c6] at H
      exact absurd H (by simp)
    ·rw [if_neg c5] at H
     exact absurd H (by simp)
   ·rw [if_neg c4] at H
    have c4b0 : decide (x13_1 < (l0_5.length : Int)) = false := decide_eq_false c4
    clear c4
    simp only [Option.some.injEq, Prod.mk.injEq] at H
    obtain ⟨rfl, rfl⟩ := H
    go_wp2
    go_ret2
    exact ⟨by first | rfl | (simp [jBd, jBe] <;> rfl) | (simp [*, jBd, jBe] <;> rfl), by repeat (first | (with_reducible first | exact HB.out | apply jAj | apply jAd | apply jAk | refine jAh ?_ GE122.out) | exact HB.out)⟩
end Go.Proofs.YtefdfgmlmjnmlaaDoor.Rf
end

section
set_option linter.unusedVariables false
set_option linter.unusedSimpArgs false
namespace Go.Proofs.YtefdfgmlmjnmlaaDoor.Rf
open Go.RowKit Go.Proofs.YtefdfgmlmjnmlaaDoorW.PrintWords Go.Proofs.YtefdfgmlmjnmlaaDoorW.PrintLast Go.Proofs.YtefdfgmlmjnmlaaDoorW.PrintMore
attribute [local go_sem] jCg jCo
mutual
def jBo.l0 : Nat → List (S72) → Int → Int → Int → Int → Int → Int → ByteArray → List (S72) → Option (Bool)
 | 0, _, _, _, _, _, _, _, _, _ => none
 | k + 1, x6, x7, x8, x128000, x128001, x128002, x128003, x128004, x128005 => if x8 < x7 then (if 0 ≤ x8 then (if x8 < (x6.length : Int) then ((jBo.f k ((jAq x6 x8).f0) ((jAq x6 x8).f1) ((jAq x6 x8).f2.f0) ((jAq x6 x8).f2.f1) ((jAq x6 x8).f2.f2) ((jAq x6 x8).f3)).bind fun t130 => (if t130 = true then (some true) else (jBo.l0 k x6 x7 (wrap64 (x8 + 1)) x128000 x128001 x128002 x128003 x128004 x128005))) else (none)) else (none)) else (some (decide ((x128004.size : Int) > 200)))
def jBo.f : Nat → Int → Int → Int → Int → ByteArray → List (S72) → Option (Bool)
 | 0, _, _, _, _, _, _ => none
 | k + 1, a0_0, a0_1, a0_2, a0_3, a0_4, l0_5 => jBo.l0 k l0_5 (l0_5.length : Int) 0 a0_0 a0_1 a0_2 a0_3 a0_4 l0_5
end
set_option maxHeartbeats 8000000 in
set_option maxRecDepth 100000 in
theorem jBo.calls (k : Nat) : ∀ (a0_0 : Int) (a0_1 : Int) (a0_2 : Int) (a0_3 : Int) (a0_4 : ByteArray) (A0_5 : Option Addr) (c0_5 : Nat) (l0_5 : List (S72)) (r : Bool) (w : World) (hr0_5 : Kd.C k72 w A0_5 l0_5.length l0_5) (hc0_5 : l0_5.length ≤ c0_5) (h : jBo.f k a0_0 a0_1 a0_2 a0_3 a0_4 l0_5 = some r),
  Calls Tryd.prog 80 #[.agg #[.int .i64 a0_0, .int .i64 a0_1, .int .i64 a0_2, .int .i64 a0_3, .string a0_4, .slice A0_5 l0_5.length c0_5]] w fun e w' => e = .returned (.bool r) ∧ Below w.heap.size w w' := by
 induction k using Nat.strongRecOn with
 | _ k ih =>
 intro a0_0 a0_1 a0_2 a0_3 a0_4 A0_5 c0_5 l0_5 r w hr0_5 hc0_5 h
 cases k with
 | zero => exact absurd h (by simp [jBo.f])
 | succ k =>
 simp only [jBo.f] at h
 have hu72 := Tryd.underlying72
 have HR0_5 := jAa.mk hr0_5
 have HC0_5 := jAa.mk hc0_5
 clear hr0_5 hc0_5
 have HB := jAa.mk (Below.refl w.heap.size w)
 have H : (jBo.l0 k l0_5 (l0_5.length : Int) 0 a0_0 a0_1 a0_2 a0_3 a0_4 l0_5) = some r := h
 clear h
 have H' := jAa.mk H
 clear H
 go_enter Tryd.func80, Tryd.ntmps80
 go_wp2_with (first | ((with_reducible refine jCa (N := 1) rfl ?_); refine jBv ?hg (N := 1) ?hd (cs := #[.int .i64 a0_0, .int .i64 a0_1, .int .i64 a0_2, .int .i64 a0_3, .string a0_4, .slice A0_5 l0_5.length c0_5]) (t := 72) ?hr ?_; (case hd => rfl); (case hg => rfl); (case hr => first | (go_simp; done) | (go_simp; rfl)); intro gb127 hg w2 hbox hb; have n0_ := jAa.mk (jAu (by repeat (first | (with_reducible first | exact HB.out | apply jAj | apply jAd | apply jAk) | exact HB.out)) hb); have n1_ := jAa.mk (hbox); have n2_ := jAa.mk ((by rw [hg]; exact (jBj (by repeat (first | (with_reducible first | exact HB.out | apply jAj | apply jAd | apply jAk) | exact HB.out))) : w.heap.size ≤ gb127)); have n3_ := jAa.mk ((by rw [hg]; exact (jBj (by repeat (first | (with_reducible first | exact HB.out | apply jAj | apply jAd | apply jAk) | exact HB.out))) : w.heap.size ≤ gb127)); clear HB; have HB := n0_; have BK127 := n1_; have GW127 := n2_; have GE127 := n3_; clear n0_ n1_ n2_ n3_; clear hb hbox hg; have hcz3_0 : w2.cell? ⟨gb127, 0, none⟩ = some (.int .i64 a0_0) := (jAb BK127.out 0).trans rfl; have hcz3_1 : w2.cell? ⟨gb127, 1, none⟩ = some (.int .i64 a0_1) := (jAb BK127.out 1).trans rfl; have hcz3_2 : w2.cell? ⟨gb127, 2, none⟩ = some (.int .i64 a0_2) := (jAb BK127.out 2).trans rfl; have hcz3_3 : w2.cell? ⟨gb127, 3, none⟩ = some (.int .i64 a0_3) := (jAb BK127.out 3).trans rfl; have hcz3_4 : w2.cell? ⟨gb127, 4, none⟩ = some (.string a0_4) := (jAb BK127.out 4).trans rfl; have hcz3_5 : w2.cell? ⟨gb127, 5, none⟩ = some (.slice A0_5 l0_5.length c0_5) := (jAb BK127.out 5).trans rfl; have hfz3_0 := jAg BK127.out 0; have hfz3_1 := jAg BK127.out 1; have hfz3_2 := jAg BK127.out 2; have hfz3_3 := jAg BK127.out 3; have hfz3_4 := jAg BK127.out 4; have hfz3_5 := jAg BK127.out 5))
 go_loopg [8] k (fun kq v8 w' => ∃ (x8_1 : Int), v8 = .int .i64 x8_1 ∧ jAa (jBo.l0 kq l0_5 (l0_5.length : Int) x8_1 a0_0 a0_1 a0_2 a0_3 a0_4 l0_5 = some r) ∧ jAa (kq ≤ k) ∧ jAa (w'.heap[gb127]? = some (.cells #[.int .i64 a0_0, .int .i64 a0_1, .int .i64 a0_2, .int .i64 a0_3, .string a0_4, (.slice A0_5 l0_5.length c0_5)] 72 (0, 0))) ∧ jAa (Below w.heap.size w w'))
 case atStart => exact ⟨(0), (by first | rfl | (simp; done) | (simp [*]; done)), H', ⟨Nat.le_refl _⟩, ⟨by (with_reducible repeat (first | refine jAf ?_ _ | refine jAi ?_ | refine jAe ?_ _)); exact BK127.out⟩, ⟨by repeat (first | (with_reducible first | exact HB.out | apply jAj | apply jAd | apply jAk | refine jAh ?_ GE127.out) | exact HB.out)⟩⟩
 case round =>
  clear H'
  try clear p2
  try clear hcz3_0
  try clear hcz3_1
  try clear hcz3_2
  try clear hcz3_3
  try clear hcz3_4
  try clear hcz3_5
  try clear hfz3_0
  try clear hfz3_1
  try clear hfz3_2
  try clear hfz3_3
  try clear hfz3_4
  try clear hfz3_5
  obtain ⟨x8_1, rfl, HA, HK1, BK127, HB⟩ := hrel
  cases gk with
  | zero => exact absurd HA.out (by simp [jBo.l0])
  | succ k1 =>
   have H := HA.out
   clear HA
   simp only [jBo.l0] at H
   by_cases c4 : x8_1 < (l0_5.length : Int)
   ·rw [if_pos c4] at H
    have c4b0 : decide (x8_1 < (l0_5.length : Int)) = true := decide_eq_true c4
    clear c4
    by_cases c5 : 0 ≤ x8_1
    ·rw [if_pos c5] at H
     have c5b0 : decide (0 ≤ x8_1) = true := decide_eq_true c5
     clear c5
     by_cases c6 : x8_1 < (l0_5.length : Int)
     ·rw [if_pos c6] at H
      have c6b0 : decide (x8_1 < (l0_5.length : Int)) = true := decide_eq_true c6
      clear c6
      replace H := Option.bind_eq_some_iff.mp H
      obtain ⟨t130, A70, H⟩ := H
      replace H : (if t130 = true then (some true) else (jBo.l0 k1 l0_5 (l0_5.length : Int) (wrap64 (x8_1 + 1)) a0_0 a0_1 a0_2 a0_3 a0_4 l0_5)) = some r := H
      have A7 := jAa.mk A70
      clear A70
      by_cases c8 : t130 = true
      ·subst c8
       have H1 : (some true) = some r := by rw [if_pos rfl] at H; exact H
       clear H
       have H := H1
       clear H1
       obtain rfl := Option.some.inj H
       have p128 : 0 ≤ (x8_1 : Int) := of_decide_eq_true (by first | (with_reducible assumption) | assumption)
       have q128 : x8_1 < (l0_5.length : Int) := of_decide_eq_true (by first | (with_reducible assumption) | assumption)
       obtain ⟨ad128, A128_5, c128_5, e128, hx128_0, hx128_1, hx128_2, hx128_3, hx128_4, hx128_5, hl128_5, hi128_5⟩ := jDx HR0_5.out x8_1 p128 q128
       cases e128
       replace hx128_0 := (HB.out.cell (World.block_lt_of_cell? w _ hx128_0)).trans hx128_0
       replace hx128_1 := (HB.out.cell (World.block_lt_of_cell? w _ hx128_1)).trans hx128_1
       replace hx128_2 := (HB.out.cell (World.block_lt_of_cell? w _ hx128_2)).trans hx128_2
       replace hx128_3 := (HB.out.cell (World.block_lt_of_cell? w _ hx128_3)).trans hx128_3
       replace hx128_4 := (HB.out.cell (World.block_lt_of_cell? w _ hx128_4)).trans hx128_4
       replace hx128_5 := (HB.out.cell (World.block_lt_of_cell? w _ hx128_5)).trans hx128_5
       have HR128_5 := jAa.mk hi128_5
       have HC128_5 := jAa.mk hl128_5
       clear hi128_5 hl128_5
       replace p128 := eq_true p128
       replace q128 := eq_true q128
       go_wp2_with (first | ((with_reducible refine jCa (N := 4) rfl ?_); refine jBv ?hg (N := 4) ?hd (cs := #[.int .i64 0, .int .i64 0, .int .i64 0, .int .i64 0, .string (⟨#[]⟩ : ByteArray), .slice none 0 0]) (t := 72) ?hr ?_; (case hd => rfl); (case hg => rfl); (case hr => first | (go_simp; done) | (go_simp; rfl)); intro gb129 hg w9 hbox hb; have n0_ := jAa.mk (jAp (g := gb127) (o := .cells #[.int .i64 a0_0, .int .i64 a0_1, .int .i64 a0_2, .int .i64 a0_3, .string a0_4, .slice (some ad128) l0_5.length c0_5] 72 (0, 0)) (by (with_reducible repeat (first | refine jAf ?_ _ | refine jAi ?_ | refine jAe ?_ _)); exact BK127.out) hb); have n1_ := jAa.mk (jAu (by repeat (first | (with_reducible first | exact HB.out | apply jAj | apply jAd | apply jAk | refine jAh ?_ GE127.out) | exact HB.out)) hb); have n2_ := jAa.mk (hbox); have n3_ := jAa.mk ((by rw [hg]; exact (jBj (by repeat (first | (with_reducible first | exact HB.out | apply jAj | apply jAd | apply jAk | refine jAh ?_ GE127.out) | exact HB.out))) : w.heap.size ≤ gb129)); have n4_ := jAa.mk ((by rw [hg]; exact (jBj (by repeat (first | (with_reducible first | exact HB.out | apply jAj | apply jAd | apply jAk | refine jAh ?_ GE127.out) | exact HB.out))) : w.heap.size ≤ gb129)); have n5_ := jAa.mk ((by rw [hg]; exact Nat.ne_of_lt (jBu (g := gb127) (o := .cells #[.int .i64 a0_0, .int .i64 a0_1, .int .i64 a0_2, .int .i64 a0_3, .string a0_4, .slice (some ad128) l0_5.length c0_5] 72 (0, 0)) (by (with_reducible repeat (first | refine jAf ?_ _ | refine jAi ?_ | refine jAe ?_ _)); exact BK127.out)) : gb127 ≠ gb129)); have n6_ := jAa.mk ((by rw [hg]; exact Nat.ne_of_gt (jBu (g := gb127) (o := .cells #[.int .i64 a0_0, .int .i64 a0_1, .int .i64 a0_2, .int .i64 a0_3, .string a0_4, .slice (some ad128) l0_5.length c0_5] 72 (0, 0)) (by (with_reducible repeat (first | refine jAf ?_ _ | refine jAi ?_ | refine jAe ?_ _)); exact BK127.out)) : gb129 ≠ gb127)); clear BK127; clear HB; have BK127 := n0_; have HB := n1_; have BK129 := n2_; have GW129 := n3_; have GE129 := n4_; have NB127_129 := n5_; have NB129_127 := n6_; clear n0_ n1_ n2_ n3_ n4_ n5_ n6_; clear hb hbox hg; have hnb10 := NB129_127.out; have hnc10 := NB127_129.out; have hcz11_0 : w9.cell? ⟨gb129, 0, none⟩ = some (.int .i64 0) := (jAb BK129.out 0).trans rfl; have hcz11_1 : w9.cell? ⟨gb129, 1, none⟩ = some (.int .i64 0) := (jAb BK129.out 1).trans rfl; have hcz11_2 : w9.cell? ⟨gb129, 2, none⟩ = some (.int .i64 0) := (jAb BK129.out 2).trans rfl; have hcz11_3 : w9.cell? ⟨gb129, 3, none⟩ = some (.int .i64 0) := (jAb BK129.out 3).trans rfl; have hcz11_4 : w9.cell? ⟨gb129, 4, none⟩ = some (.string (⟨#[]⟩ : ByteArray)) := (jAb BK129.out 4).trans rfl; have hcz11_5 : w9.cell? ⟨gb129, 5, none⟩ = some (.slice none 0 0) := (jAb BK129.out 5).trans rfl; have hfz11_0 := jAg BK129.out 0; have hfz11_1 := jAg BK129.out 1; have hfz11_2 := jAg BK129.out 2; have hfz11_3 := jAg BK129.out 3; have hfz11_4 := jAg BK129.out 4; have hfz11_5 := jAg BK129.out 5) | ((with_reducible refine jBl (f := 80) rfl ?_); refine jCe (some 13) rfl rfl Tryd.func80 (by kernel_rfl) rfl #[.agg #[.int .i64 ((jAq l0_5 x8_1).f0), .int .i64 ((jAq l0_5 x8_1).f1), .int .i64 ((jAq l0_5 x8_1).f2.f0), .int .i64 ((jAq l0_5 x8_1).f2.f1), .string ((jAq l0_5 x8_1).f2.f2), .slice A128_5 ((jAq l0_5 x8_1).f3).length c128_5]] rfl (by (try simp only [List.map_toArray, List.map_cons, List.map_nil]); first | done | rfl | (simp only [List.length_drop, List.length_take]; rfl)) ?_; (with_reducible refine (ih k1 (by have := HK1.out; omega) ((jAq l0_5 x8_1).f0) ((jAq l0_5 x8_1).f1) ((jAq l0_5 x8_1).f2.f0) ((jAq l0_5 x8_1).f2.f1) ((jAq l0_5 x8_1).f2.f2) _ _ ((jAq l0_5 x8_1).f3) true _ ?side1 ?side2 A7.out).mono ?_); (case side1 => exact Kd.C_below HR128_5.out (by repeat (first | (with_reducible first | exact HB.out | apply jAj | apply jAd | apply jAk | refine jAh ?_ GE127.out | refine jAh ?_ GE129.out) | exact HB.out))); (case side2 => exact HC128_5.out); rintro e w12 ⟨rfl, hb⟩; refine ⟨_, rfl, ?_⟩; have n0_ := jAa.mk (jAp (g := gb127) (o := .cells #[.int .i64 a0_0, .int .i64 a0_1, .int .i64 a0_2, .int .i64 a0_3, .string a0_4, .slice (some ad128) l0_5.length c0_5] 72 (0, 0)) (by (with_reducible repeat (first | refine jAf ?_ _ | refine jAi ?_ | refine jAe ?_ _)); refine jBa ?_ NB127_129.out _; (with_reducible repeat (first | refine jAf ?_ _ | refine jAi ?_ | refine jAe ?_ _)); refine jBa ?_ NB127_129.out _; (with_reducible repeat (first | refine jAf ?_ _ | refine jAi ?_ | refine jAe ?_ _)); refine jBa ?_ NB127_129.out _; (with_reducible repeat (first | refine jAf ?_ _ | refine jAi ?_ | refine jAe ?_ _)); refine jBa ?_ NB127_129.out _; (with_reducible repeat (first | refine jAf ?_ _ | refine jAi ?_ | refine jAe ?_ _)); refine jBa ?_ NB127_129.out _; (with_reducible repeat (first | refine jAf ?_ _ | refine jAi ?_ | refine jAe ?_ _)); refine jBa ?_ NB127_129.out _; (with_reducible repeat (first | refine jAf ?_ _ | refine jAi ?_ | refine jAe ?_ _)); exact BK127.out) hb); have n1_ := jAa.mk (jAp (g := gb129) (o := .cells #[.int .i64 ((jAq l0_5 x8_1).f0), .int .i64 ((jAq l0_5 x8_1).f1), .int .i64 ((jAq l0_5 x8_1).f2.f0), .int .i64 ((jAq l0_5 x8_1).f2.f1), .string ((jAq l0_5 x8_1).f2.f2), .slice A128_5 ((jAq l0_5 x8_1).f3).length c128_5] 72 (0, 0)) (by (with_reducible repeat (first | refine jAf ?_ _ | refine jAi ?_ | refine jAe ?_ _)); refine jBf (cs := #[.int .i64 ((jAq l0_5 x8_1).f0), .int .i64 ((jAq l0_5 x8_1).f1), .int .i64 ((jAq l0_5 x8_1).f2.f0), .int .i64 ((jAq l0_5 x8_1).f2.f1), .string ((jAq l0_5 x8_1).f2.f2), .slice none 0 0]) ?_ 5 _ rfl; (with_reducible repeat (first | refine jAf ?_ _ | refine jAi ?_ | refine jAe ?_ _)); refine jBf (cs := #[.int .i64 ((jAq l0_5 x8_1).f0), .int .i64 ((jAq l0_5 x8_1).f1), .int .i64 ((jAq l0_5 x8_1).f2.f0), .int .i64 ((jAq l0_5 x8_1).f2.f1), .string (⟨#[]⟩ : ByteArray), .slice none 0 0]) ?_ 4 _ rfl; (with_reducible repeat (first | refine jAf ?_ _ | refine jAi ?_ | refine jAe ?_ _)); refine jBf (cs := #[.int .i64 ((jAq l0_5 x8_1).f0), .int .i64 ((jAq l0_5 x8_1).f1), .int .i64 ((jAq l0_5 x8_1).f2.f0), .int .i64 0, .string (⟨#[]⟩ : ByteArray), .slice none 0 0]) ?_ 3 _ rfl; (with_reducible repeat (first | refine jAf ?_ _ | refine jAi ?_ | refine jAe ?_ _)); refine jBf (cs := #[.int .i64 ((jAq l0_5 x8_1).f0), .int .i64 ((jAq l0_5 x8_1).f1), .int .i64 0, .int .i64 0, .string (⟨#[]⟩ : ByteArray), .slice none 0 0]) ?_ 2 _ rfl; (with_reducible repeat (first | refine jAf ?_ _ | refine jAi ?_ | refine jAe ?_ _)); refine jBf (cs := #[.int .i64 ((jAq l0_5 x8_1).f0), .int .i64 0, .int .i64 0, .int .i64 0, .string (⟨#[]⟩ : ByteArray), .slice none 0 0]) ?_ 1 _ rfl; (with_reducible repeat (first | refine jAf ?_ _ | refine jAi ?_ | refine jAe ?_ _)); refine jBf (cs := #[.int .i64 0, .int .i64 0, .int .i64 0, .int .i64 0, .string (⟨#[]⟩ : ByteArray), .slice none 0 0]) ?_ 0 _ rfl; (with_reducible repeat (first | refine jAf ?_ _ | refine jAi ?_ | refine jAe ?_ _)); exact BK129.out) hb); have n2_ := jAa.mk (jAu (by repeat (first | (with_reducible first | exact HB.out | apply jAj | apply jAd | apply jAk | refine jAh ?_ GE127.out | refine jAh ?_ GE129.out) | exact HB.out)) hb); clear BK127; clear BK129; clear HB; have BK127 := n0_; have BK129 := n1_; have HB := n2_; clear n0_ n1_ n2_; (try clear hb); (try clear hb2); (try clear hk); (try clear hi)))
       go_ret
       exact ⟨by first | rfl | (simp [jBd, jBe] <;> rfl) | (simp [*, jBd, jBe] <;> rfl), by repeat (first | (with_reducible first | exact HB.out | apply jAj | apply jAd | apply jAk | refine jAh ?_ GE127.out | refine jAh ?_ GE129.out) | exact HB.out)⟩
      ·replace c8 := Bool.eq_false_iff.mpr c8
       subst c8
       have H1 : (jBo.l0 k1 l0_5 (l0_5.length : Int) (wrap64 (x8_1 + 1)) a0_0 a0_1 a0_2 a0_3 a0_4 l0_5) = some r := by rw [if_neg (show ¬ (false = true) by decide)] at H; exact H
       clear H
       have H := H1
       clear H1
       have H' := jAa.mk H
       clear H
       have p128 : 0 ≤ (x8_1 : Int) := of_decide_eq_true (by first | (with_reducible assumption) | assumption)
       have q128 : x8_1 < (l0_5.length : Int) := of_decide_eq_true (by first | (with_reducible assumption) | assumption)
       obtain ⟨ad128, A128_5, c128_5, e128, hx128_0, hx128_1, hx128_2, hx128_3, hx128_4, hx128_5, hl128_5, hi128_5⟩ := jDx HR0_5.out x8_1 p128 q128
       cases e128
       replace hx128_0 := (HB.out.cell (World.block_lt_of_cell? w _ hx128_0)).trans hx128_0
       replace hx128_1 := (HB.out.cell (World.block_lt_of_cell? w _ hx128_1)).trans hx128_1
       replace hx128_2 := (HB.out.cell (World.block_lt_of_cell? w _ hx128_2)).trans hx128_2
       replace hx128_3 := (HB.out.cell (World.block_lt_of_cell? w _ hx128_3)).trans hx128_3
       replace hx128_4 := (HB.out.cell (World.block_lt_of_cell? w _ hx128_4)).trans hx128_4
       replace hx128_5 := (HB.out.cell (World.block_lt_of_cell? w _ hx128_5)).trans hx128_5
       have HR128_5 := jAa.mk hi128_5
       have HC128_5 := jAa.mk hl128_5
       clear hi128_5 hl128_5
       replace p128 := eq_true p128
       replace q128 := eq_true q128
       go_wp2_with (first | ((with_reducible refine jCa (N := 4) rfl ?_); refine jBv ?hg (N := 4) ?hd (cs := #[.int .i64 0, .int .i64 0, .int .i64 0, .int .i64 0, .string (⟨#[]⟩ : ByteArray), .slice none 0 0]) (t := 72) ?hr ?_; (case hd => rfl); (case hg => rfl); (case hr => first | (go_simp; done) | (go_simp; rfl)); intro gb129 hg w13 hbox hb; have n0_ := jAa.mk (jAp (g := gb127) (o := .cells #[.int .i64 a0_0, .int .i64 a0_1, .int .i64 a0_2, .int .i64 a0_3, .string a0_4, .slice (some ad128) l0_5.length c0_5] 72 (0, 0)) (by (with_reducible repeat (first | refine jAf ?_ _ | refine jAi ?_ | refine jAe ?_ _)); exact BK127.out) hb); have n1_ := jAa.mk (jAu (by repeat (first | (with_reducible first | exact HB.out | apply jAj | apply jAd | apply jAk | refine jAh ?_ GE127.out) | exact HB.out)) hb); have n2_ := jAa.mk (hbox); have n3_ := jAa.mk ((by rw [hg]; exact (jBj (by repeat (first | (with_reducible first | exact HB.out | apply jAj | apply jAd | apply jAk | refine jAh ?_ GE127.out) | exact HB.out))) : w.heap.size ≤ gb129)); have n4_ := jAa.mk ((by rw [hg]; exact (jBj (by repeat (first | (with_reducible first | exact HB.out | apply jAj | apply jAd | apply jAk | refine jAh ?_ GE127.out) | exact HB.out))) : w.heap.size ≤ gb129)); have n5_ := jAa.mk ((by rw [hg]; exact Nat.ne_of_lt (jBu (g := gb127) (o := .cells #[.int .i64 a0_0, .int .i64 a0_1, .int .i64 a0_2, .int .i64 a0_3, .string a0_4, .slice (some ad128) l0_5.length c0_5] 72 (0, 0)) (by (with_reducible repeat (first | refine jAf ?_ _ | refine jAi ?_ | refine jAe ?_ _)); exact BK127.out)) : gb127 ≠ gb129)); have n6_ := jAa.mk ((by rw [hg]; exact Nat.ne_of_gt (jBu (g := gb127) (o := .cells #[.int .i64 a0_0, .int .i64 a0_1, .int .i64 a0_2, .int .i64 a0_3, .string a0_4, .slice (some ad128) l0_5.length c0_5] 72 (0, 0)) (by (with_reducible repeat (first | refine jAf ?_ _ | refine jAi ?_ | refine jAe ?_ _)); exact BK127.out)) : gb129 ≠ gb127)); clear BK127; clear HB; have BK127 := n0_; have HB := n1_; have BK129 := n2_; have GW129 := n3_; have GE129 := n4_; have NB127_129 := n5_; have NB129_127 := n6_; clear n0_ n1_ n2_ n3_ n4_ n5_ n6_; clear hb hbox hg; have hnb14 := NB129_127.out; have hnc14 := NB127_129.out; have hcz15_0 : w13.cell? ⟨gb129, 0, none⟩ = some (.int .i64 0) := (jAb BK129.out 0).trans rfl; have hcz15_1 : w13.cell? ⟨gb129, 1, none⟩ = some (.int .i64 0) := (jAb BK129.out 1).trans rfl; have hcz15_2 : w13.cell? ⟨gb129, 2, none⟩ = some (.int .i64 0) := (jAb BK129.out 2).trans rfl; have hcz15_3 : w13.cell? ⟨gb129, 3, none⟩ = some (.int .i64 0) := (jAb BK129.out 3).trans rfl; have hcz15_4 : w13.cell? ⟨gb129, 4, none⟩ = some (.string (⟨#[]⟩ : ByteArray)) := (jAb BK129.out 4).trans rfl; have hcz15_5 : w13.cell? ⟨gb129, 5, none⟩ = some (.slice none 0 0) := (jAb BK129.out 5).trans rfl; have hfz15_0 := jAg BK129.out 0; have hfz15_1 := jAg BK129.out 1; have hfz15_2 := jAg BK129.out 2; have hfz15_3 := jAg BK129.out 3; have hfz15_4 := jAg BK129.out 4; have hfz15_5 := jAg BK129.out 5) | ((with_reducible refine jBl (f := 80) rfl ?_); refine jCe (some 13) rfl rfl Tryd.func80 (by kernel_rfl) rfl #[.agg #[.int .i64 ((jAq l0_5 x8_1).f0), .int .i64 ((jAq l0_5 x8_1).f1), .int .i64 ((jAq l0_5 x8_1).f2.f0), .int .i64 ((jAq l0_5 x8_1).f2.f1), .string ((jAq l0_5 x8_1).f2.f2), .slice A128_5 ((jAq l0_5 x8_1).f3).length c128_5]] rfl (by (try simp only [List.map_toArray, List.map_cons, List.map_nil]); first | done | rfl | (simp only [List.length_drop, List.length_take]; rfl)) ?_; (with_reducible refine (ih k1 (by have := HK1.out; omega) ((jAq l0_5 x8_1).f0) ((jAq l0_5 x8_1).f1) ((jAq l0_5 x8_1).f2.f0) ((jAq l0_5 x8_1).f2.f1) ((jAq l0_5 x8_1).f2.f2) _ _ ((jAq l0_5 x8_1).f3) false _ ?side1 ?side2 A7.out).mono ?_); (case side1 => exact Kd.C_below HR128_5.out (by repeat (first | (with_reducible first | exact HB.out | apply jAj | apply jAd | apply jAk | refine jAh ?_ GE127.out | refine jAh ?_ GE129.out) | exact HB.out))); (case side2 => exact HC128_5.out); rintro e w16 ⟨rfl, hb⟩; refine ⟨_, rfl, ?_⟩; have n0_ := jAa.mk (jAp (g := gb127) (o := .cells #[.int .i64 a0_0, .int .i64 a0_1, .int .i64 a0_2, .int .i64 a0_3, .string a0_4, .slice (some ad128) l0_5.length c0_5] 72 (0, 0)) (by (with_reducible repeat (first | refine jAf ?_ _ | refine jAi ?_ | refine jAe ?_ _)); refine jBa ?_ NB127_129.out _; (with_reducible repeat (first | refine jAf ?_ _ | refine jAi ?_ | refine jAe ?_ _)); refine jBa ?_ NB127_129.out _; (with_reducible repeat (first | refine jAf ?_ _ | refine jAi ?_ | refine jAe ?_ _)); refine jBa ?_ NB127_129.out _; (with_reducible repeat (first | refine jAf ?_ _ | refine jAi ?_ | refine jAe ?_ _)); refine jBa ?_ NB127_129.out _; (with_reducible repeat (first | refine jAf ?_ _ | refine jAi ?_ | refine jAe ?_ _)); refine jBa ?_ NB127_129.out _; (with_reducible repeat (first | refine jAf ?_ _ | refine jAi ?_ | refine jAe ?_ _)); refine jBa ?_ NB127_129.out _; (with_reducible repeat (first | refine jAf ?_ _ | refine jAi ?_ | refine jAe ?_ _)); exact BK127.out) hb); have n1_ := jAa.mk (jAp (g := gb129) (o := .cells #[.int .i64 ((jAq l0_5 x8_1).f0), .int .i64 ((jAq l0_5 x8_1).f1), .int .i64 ((jAq l0_5 x8_1).f2.f0), .int .i64 ((jAq l0_5 x8_1).f2.f1), .string ((jAq l0_5 x8_1).f2.f2), .slice A128_5 ((jAq l0_5 x8_1).f3).length c128_5] 72 (0, 0)) (by (with_reducible repeat (first | refine jAf ?_ _ | refine jAi ?_ | refine jAe ?_ _)); refine jBf (cs := #[.int .i64 ((jAq l0_5 x8_1).f0), .int .i64 ((jAq l0_5 x8_1).f1), .int .i64 ((jAq l0_5 x8_1).f2.f0), .int .i64 ((jAq l0_5 x8_1).f2.f1), .string ((jAq l0_5 x8_1).f2.f2), .slice none 0 0]) ?_ 5 _ rfl; (with_reducible repeat (first | refine jAf ?_ _ | refine jAi ?_ | refine jAe ?_ _)); refine jBf (cs := #[.int .i64 ((jAq l0_5 x8_1).f0), .int .i64 ((jAq l0_5 x8_1).f1), .int .i64 ((jAq l0_5 x8_1).f2.f0), .int .i64 ((jAq l0_5 x8_1).f2.f1), .string (⟨#[]⟩ : ByteArray), .slice none 0 0]) ?_ 4 _ rfl; (with_reducible repeat (first | refine jAf ?_ _ | refine jAi ?_ | refine jAe ?_ _)); refine jBf (cs := #[.int .i64 ((jAq l0_5 x8_1).f0), .int .i64 ((jAq l0_5 x8_1).f1), .int .i64 ((jAq l0_5 x8_1).f2.f0), .int .i64 0, .string (⟨#[]⟩ : ByteArray), .slice none 0 0]) ?_ 3 _ rfl; (with_reducible repeat (first | refine jAf ?_ _ | refine jAi ?_ | refine jAe ?_ _)); refine jBf (cs := #[.int .i64 ((jAq l0_5 x8_1).f0), .int .i64 ((jAq l0_5 x8_1).f1), .int .i64 0, .int .i64 0, .string (⟨#[]⟩ : ByteArray), .slice none 0 0]) ?_ 2 _ rfl; (with_reducible repeat (first | refine jAf ?_ _ | refine jAi ?_ | refine jAe ?_ _)); refine jBf (cs := #[.int .i64 ((jAq l0_5 x8_1).f0), .int .i64 0, .int .i64 0, .int .i64 0, .string (⟨#[]⟩ : ByteArray), .slice none 0 0]) ?_ 1 _ rfl; (with_reducible repeat (first | refine jAf ?_ _ | refine jAi ?_ | refine jAe ?_ _)); refine jBf (cs := #[.int .i64 0, .int .i64 0, .int .i64 0, .int .i64 0, .string (⟨#[]⟩ : ByteArray), .slice none 0 0]) ?_ 0 _ rfl; (with_reducible repeat (first | refine jAf ?_ _ | refine jAi ?_ | refine jAe ?_ _)); exact BK129.out) hb); have n2_ := jAa.mk (jAu (by repeat (first | (with_reducible first | exact HB.out | apply jAj | apply jAd | apply jAk | refine jAh ?_ GE127.out | refine jAh ?_ GE129.out) | exact HB.out)) hb); clear BK127; clear BK129; clear HB; have BK127 := n0_; have BK129 := n1_; have HB := n2_; clear n0_ n1_ n2_; (try clear hb); (try clear hb2); (try clear hk); (try clear hi)))
       go_roundg k1
       case measure => have := HK1.out; omega
       case rel => exact ⟨(wrap64 (x8_1 + 1)), (by first | rfl | (simp; done) | (simp [*]; done)), H', ⟨by have := HK1.out; omega⟩, ⟨by (with_reducible repeat (first | refine jAf ?_ _ | refine jAi ?_ | refine jAe ?_ _)); exact BK127.out⟩, ⟨by repeat (first | (with_reducible first | exact HB.out | apply jAj | apply jAd | apply jAk | refine jAh ?_ GE127.out | refine jAh ?_ GE129.out) | exact HB.out)⟩⟩
     ·rw [if_neg c6] at H
      exact absurd H (by simp)
    ·rw [if_neg c5] at H
     exact absurd H (by simp)
   ·rw [if_neg c4] at H
    have c4b0 : decide (x8_1 < (l0_5.length : Int)) = false := decide_eq_false c4
    clear c4
    obtain rfl := Option.some.inj H
    have hcz17_0 : wr.cell? ⟨gb127, 0, none⟩ = some (.int .i64 a0_0) := (jAb BK127.out 0).trans rfl
    have hcz17_1 : wr.cell? ⟨gb127, 1, none⟩ = some (.int .i64 a0_1) := (jAb BK127.out 1).trans rfl
    have hcz17_2 : wr.cell? ⟨gb127, 2, none⟩ = some (.int .i64 a0_2) := (jAb BK127.out 2).trans rfl
    have hcz17_3 : wr.cell? ⟨gb127, 3, none⟩ = some (.int .i64 a0_3) := (jAb BK127.out 3).trans rfl
    have hcz17_4 : wr.cell? ⟨gb127, 4, none⟩ = some (.string a0_4) := (jAb BK127.out 4).trans rfl
    have hcz17_5 : wr.cell? ⟨gb127, 5, none⟩ = some (.slice A0_5 l0_5.length c0_5) := (jAb BK127.out 5).trans rfl
    have hfz17_0 := jAg BK127.out 0
    have hfz17_1 := jAg BK127.out 1
    have hfz17_2 := jAg BK127.out 2
    have hfz17_3 := jAg BK127.out 3
    have hfz17_4 := jAg BK127.out 4
    have hfz17_5 := jAg BK127.out 5
    go_wp2
    go_ret
    exact ⟨by first | rfl | (simp [jBd, jBe] <;> rfl) | (simp [*, jBd, jBe] <;> rfl), by repeat (first | (with_reducible first | exact HB.out | apply jAj | apply jAd | apply jAk | refine jAh ?_ GE127.out) | exact HB.out)⟩
end Go.Proofs.YtefdfgmlmjnmlaaDoor.Rf
end

section
set_option linter.unusedVariables false
set_option linter.unusedSimpArgs false
namespace Go.Proofs.YtefdfgmlmjnmlaaDoor.Rf
open Go.RowKit Go.Proofs.YtefdfgmlmjnmlaaDoorW.PrintWords Go.Proofs.YtefdfgmlmjnmlaaDoorW.PrintLast Go.Proofs.YtefdfgmlmjnmlaaDoorW.PrintMore
attribute [local go_sem] jCg jCo
def jCk.f (k : Nat) (a0_0 : Int) (a0_1 : Int) (a0_2 : Int) (a0_3 : Int) (a0_4 : ByteArray) (l0_5 : List (S72)) : Option (Bool) := (jBp.f k a0_0 a0_1 a0_2 a0_3 a0_4 l0_5).bind fun bt132 => (if bt132.1 > 300 then (some true) else (if bt132.2 > 60 then (some true) else ((jBo.f k a0_0 a0_1 a0_2 a0_3 a0_4 l0_5).bind fun t134 => (some t134))))
set_option maxHeartbeats 8000000 in
set_option maxRecDepth 100000 in
theorem jCk.calls (k : Nat) (a0_0 : Int) (a0_1 : Int) (a0_2 : Int) (a0_3 : Int) (a0_4 : ByteArray) (A0_5 : Option Addr) (c0_5 : Nat) (l0_5 : List (S72)) (r : Bool) (w : World) (hr0_5 : Kd.C k72 w A0_5 l0_5.length l0_5) (hc0_5 : l0_5.length ≤ c0_5) (h : jCk.f k a0_0 a0_1 a0_2 a0_3 a0_4 l0_5 = some r) :
  Calls Tryd.prog 45 #[.agg #[.int .i64 a0_0, .int .i64 a0_1, .int .i64 a0_2, .int .i64 a0_3, .string a0_4, .slice A0_5 l0_5.length c0_5]] w fun e w' => e = .returned (.bool r) ∧ Below w.heap.size w w' := by
 have hu72 := Tryd.underlying72
 have HR0_5 := jAa.mk hr0_5
 have HC0_5 := jAa.mk hc0_5
 clear hr0_5 hc0_5
 have HB := jAa.mk (Below.refl w.heap.size w)
 have H : ((jBp.f k a0_0 a0_1 a0_2 a0_3 a0_4 l0_5).bind fun bt132 => (if bt132.1 > 300 then (some true) else (if bt132.2 > 60 then (some true) else ((jBo.f k a0_0 a0_1 a0_2 a0_3 a0_4 l0_5).bind fun t134 => (some t134))))) = some r := h
 clear h
 replace H := Option.bind_eq_some_iff.mp H
 obtain ⟨⟨t132, t133⟩, A20, H⟩ := H
 replace H : (if t132 > 300 then (some true) else (if t133 > 60 then (some true) else ((jBo.f k a0_0 a0_1 a0_2 a0_3 a0_4 l0_5).bind fun t134 => (some t134)))) = some r := H
 have A2 := jAa.mk A20
 clear A20
 by_cases c3 : t132 > 300
 ·rw [if_pos c3] at H
  have c3b0 : decide (300 < t132) = true := decide_eq_true c3
  clear c3
  obtain rfl := Option.some.inj H
  go_enter Tryd.func45, Tryd.ntmps45
  go_wp2_with (first | ((with_reducible refine jCa (N := 1) rfl ?_); refine jBv ?hg (N := 1) ?hd (cs := #[.int .i64 a0_0, .int .i64 a0_1, .int .i64 a0_2, .int .i64 a0_3, .string a0_4, .slice A0_5 l0_5.length c0_5]) (t := 72) ?hr ?_; (case hd => rfl); (case hg => rfl); (case hr => first | (go_simp; done) | (go_simp; rfl)); intro gb131 hg w4 hbox hb; have n0_ := jAa.mk (jAu (by repeat (first | (with_reducible first | exact HB.out | apply jAj | apply jAd | apply jAk) | exact HB.out)) hb); have n1_ := jAa.mk (hbox); have n2_ := jAa.mk ((by rw [hg]; exact (jBj (by repeat (first | (with_reducible first | exact HB.out | apply jAj | apply jAd | apply jAk) | exact HB.out))) : w.heap.size ≤ gb131)); have n3_ := jAa.mk ((by rw [hg]; exact (jBj (by repeat (first | (with_reducible first | exact HB.out | apply jAj | apply jAd | apply jAk) | exact HB.out))) : w.heap.size ≤ gb131)); clear HB; have HB := n0_; have BK131 := n1_; have GW131 := n2_; have GE131 := n3_; clear n0_ n1_ n2_ n3_; clear hb hbox hg; have hcz5_0 : w4.cell? ⟨gb131, 0, none⟩ = some (.int .i64 a0_0) := (jAb BK131.out 0).trans rfl; have hcz5_1 : w4.cell? ⟨gb131, 1, none⟩ = some (.int .i64 a0_1) := (jAb BK131.out 1).trans rfl; have hcz5_2 : w4.cell? ⟨gb131, 2, none⟩ = some (.int .i64 a0_2) := (jAb BK131.out 2).trans rfl; have hcz5_3 : w4.cell? ⟨gb131, 3, none⟩ = some (.int .i64 a0_3) := (jAb BK131.out 3).trans rfl; have hcz5_4 : w4.cell? ⟨gb131, 4, none⟩ = some (.string a0_4) := (jAb BK131.out 4).trans rfl; have hcz5_5 : w4.cell? ⟨gb131, 5, none⟩ = some (.slice A0_5 l0_5.length c0_5) := (jAb BK131.out 5).trans rfl; have hfz5_0 := jAg BK131.out 0; have hfz5_1 := jAg BK131.out 1; have hfz5_2 := jAg BK131.out 2; have hfz5_3 := jAg BK131.out 3; have hfz5_4 := jAg BK131.out 4; have hfz5_5 := jAg BK131.out 5) | ((with_reducible refine jBl (f := 79) rfl ?_); refine jCe (some 7) rfl rfl Tryd.func79 (by kernel_rfl) rfl #[.agg #[.int .i64 a0_0, .int .i64 a0_1, .int .i64 a0_2, .int .i64 a0_3, .string a0_4, .slice A0_5 l0_5.length c0_5]] rfl (by (try simp only [List.map_toArray, List.map_cons, List.map_nil]); first | done | rfl | (simp only [List.length_drop, List.length_take]; rfl)) ?_; (with_reducible refine (jBp.calls k a0_0 a0_1 a0_2 a0_3 a0_4 _ _ l0_5 t132 t133 _ ?side1 ?side2 A2.out).mono ?_); (case side1 => repeat (first | exact (Kd.C_below HR0_5.out HB.out) | (with_reducible refine Kd.C_alloc ?_ _) | (with_reducible refine Kd.C_drewN ?_ _) | (with_reducible refine Kd.C_drew ?_))); (case side2 => exact HC0_5.out); rintro e w6 ⟨rfl, hb⟩; refine ⟨_, rfl, ?_⟩; have n0_ := jAa.mk (jAp (g := gb131) (o := .cells #[.int .i64 a0_0, .int .i64 a0_1, .int .i64 a0_2, .int .i64 a0_3, .string a0_4, .slice A0_5 l0_5.length c0_5] 72 (0, 0)) (by (with_reducible repeat (first | refine jAf ?_ _ | refine jAi ?_ | refine jAe ?_ _)); exact BK131.out) hb); have n1_ := jAa.mk (jAu (by repeat (first | (with_reducible first | exact HB.out | apply jAj | apply jAd | apply jAk | refine jAh ?_ GE131.out) | exact HB.out)) hb); clear BK131; clear HB; have BK131 := n0_; have HB := n1_; clear n0_ n1_; (try clear hb); (try clear hb2); (try clear hk); (try clear hi)))
  go_ret
  exact ⟨by first | rfl | (simp [jBd, jBe] <;> rfl) | (simp [*, jBd, jBe] <;> rfl), by repeat (first | (with_reducible first | exact HB.out | apply jAj | apply jAd | apply jAk | refine jAh ?_ GE131.out) | exact HB.out)⟩
 ·rw [if_neg c3] at H
  have c3b0 : decide (300 < t132) = false := decide_eq_false c3
  clear c3
  by_cases c7 : t133 > 60
  ·rw [if_pos c7] at H
   have c7b0 : decide (60 < t133) = true := decide_eq_true c7
   clear c7
   obtain rfl := Option.some.inj H
   go_enter Tryd.func45, Tryd.ntmps45
   go_wp2_with (first | ((with_reducible refine jCa (N := 1) rfl ?_); refine jBv ?hg (N := 1) ?hd (cs := #[.int .i64 a0_0, .int .i64 a0_1, .int .i64 a0_2, .int .i64 a0_3, .string a0_4, .slice A0_5 l0_5.length c0_5]) (t := 72) ?hr ?_; (case hd => rfl); (case hg => rfl); (case hr => first | (go_simp; done) | (go_simp; rfl)); intro gb131 hg w8 hbox hb; have n0_ := jAa.mk (jAu (by repeat (first | (with_reducible first | exact HB.out | apply jAj | apply jAd | apply jAk) | exact HB.out)) hb); have n1_ := jAa.mk (hbox); have n2_ := jAa.mk ((by rw [hg]; exact (jBj (by repeat (first | (with_reducible first | exact HB.out | apply jAj | apply jAd | apply jAk) | exact HB.out))) : w.heap.size ≤ gb131)); have n3_ := jAa.mk ((by rw [hg]; exact (jBj (by repeat (first | (with_reducible first | exact HB.out | apply jAj | apply jAd | apply jAk) | exact HB.out))) : w.heap.size ≤ gb131)); clear HB; have HB := n0_; have BK131 := n1_; have GW131 := n2_; have GE131 := n3_; clear n0_ n1_ n2_ n3_; clear hb hbox hg; have hcz9_0 : w8.cell? ⟨gb131, 0, none⟩ = some (.int .i64 a0_0) := (jAb BK131.out 0).trans rfl; have hcz9_1 : w8.cell? ⟨gb131, 1, none⟩ = some (.int .i64 a0_1) := (jAb BK131.out 1).trans rfl; have hcz9_2 : w8.cell? ⟨gb131, 2, none⟩ = some (.int .i64 a0_2) := (jAb BK131.out 2).trans rfl; have hcz9_3 : w8.cell? ⟨gb131, 3, none⟩ = some (.int .i64 a0_3) := (jAb BK131.out 3).trans rfl; have hcz9_4 : w8.cell? ⟨gb131, 4, none⟩ = some (.string a0_4) := (jAb BK131.out 4).trans rfl; have hcz9_5 : w8.cell? ⟨gb131, 5, none⟩ = some (.slice A0_5 l0_5.length c0_5) := (jAb BK131.out 5).trans rfl; have hfz9_0 := jAg BK131.out 0; have hfz9_1 := jAg BK131.out 1; have hfz9_2 := jAg BK131.out 2; have hfz9_3 := jAg BK131.out 3; have hfz9_4 := jAg BK131.out 4; have hfz9_5 := jAg BK131.out 5) | ((with_reducible refine jBl (f := 79) rfl ?_); refine jCe (some 7) rfl rfl Tryd.func79 (by kernel_rfl) rfl #[.agg #[.int .i64 a0_0, .int .i64 a0_1, .int .i64 a0_2, .int .i64 a0_3, .string a0_4, .slice A0_5 l0_5.length c0_5]] rfl (by (try simp only [List.map_toArray, List.map_cons, List.map_nil]); first | done | rfl | (simp only [List.length_drop, List.length_take]; rfl)) ?_; (with_reducible refine (jBp.calls k a0_0 a0_1 a0_2 a0_3 a0_4 _ _ l0_5 t132 t133 _ ?side1 ?side2 A2.out).mono ?_); (case side1 => repeat (first | exact (Kd.C_below HR0_5.out HB.out) | (with_reducible refine Kd.C_alloc ?_ _) | (with_reducible refine Kd.C_drewN ?_ _) | (with_reducible refine Kd.C_drew ?_))); (case side2 => exact HC0_5.out); rintro e w10 ⟨rfl, hb⟩; refine ⟨_, rfl, ?_⟩; have n0_ := jAa.mk (jAp (g := gb131) (o := .cells #[.int .i64 a0_0, .int .i64 a0_1, .int .i64 a0_2, .int .i64 a0_3, .string a0_4, .slice A0_5 l0_5.length c0_5] 72 (0, 0)) (by (with_reducible repeat (first | refine jAf ?_ _ | refine jAi ?_ | refine jAe ?_ _)); exact BK131.out) hb); have n1_ := jAa.mk (jAu (by repeat (first | (with_reducible first | exact HB.out | apply jAj | apply jAd | apply jAk | refine jAh ?_ GE131.out) | exact HB.out)) hb); clear BK131; clear HB; have BK131 := n0_; have HB := n1_; clear n0_ n1_; (try clear hb); (try clear hb2); (try clear hk); (try clear hi)))
   go_ret
   exact ⟨by first | rfl | (simp [jBd, jBe] <;> rfl) | (simp [*, jBd, jBe] <;> rfl), by repeat (first | (with_reducible first | exact HB.out | apply jAj | apply jAd | apply jAk | refine jAh ?_ GE131.out) | exact HB.out)⟩
  ·rw [if_neg c7] at H
   have c7b0 : decide (60 < t133) = false := decide_eq_false c7
   clear c7
   replace H := Option.bind_eq_some_iff.mp H
   obtain ⟨t134, A110, H⟩ := H
   replace H : (some t134) = some r := H
   have A11 := jAa.mk A110
   clear A110
   obtain rfl := Option.some.inj H
   go_enter Tryd.func45, Tryd.ntmps45
   go_wp2_with (first | ((with_reducible refine jCa (N := 1) rfl ?_); refine jBv ?hg (N := 1) ?hd (cs := #[.int .i64 a0_0, .int .i64 a0_1, .int .i64 a0_2, .int .i64 a0_3, .string a0_4, .slice A0_5 l0_5.length c0_5]) (t := 72) ?hr ?_; (case hd => rfl); (case hg => rfl); (case hr => first | (go_simp; done) | (go_simp; rfl)); intro gb131 hg w12 hbox hb; have n0_ := jAa.mk (jAu (by repeat (first | (with_reducible first | exact HB.out | apply jAj | apply jAd | apply jAk) | exact HB.out)) hb); have n1_ := jAa.mk (hbox); have n2_ := jAa.mk ((by rw [hg]; exact (jBj (by repeat (first | (with_reducible first | exact HB.out | apply jAj | apply jAd | apply jAk) | exact HB.out))) : w.heap.size ≤ gb131)); have n3_ := jAa.mk ((by rw [hg]; exact (jBj (by repeat (first | (with_reducible first | exact HB.out | apply jAj | apply jAd | apply jAk) | exact HB.out))) : w.heap.size ≤ gb131)); clear HB; have HB := n0_; have BK131 := n1_; have GW131 := n2_; have GE131 := n3_; clear n0_ n1_ n2_ n3_; clear hb hbox hg; have hcz13_0 : w12.cell? ⟨gb131, 0, none⟩ = some (.int .i64 a0_0) := (jAb BK131.out 0).trans rfl; have hcz13_1 : w12.cell? ⟨gb131, 1, none⟩ = some (.int .i64 a0_1) := (jAb BK131.out 1).trans rfl; have hcz13_2 : w12.cell? ⟨gb131, 2, none⟩ = some (.int .i64 a0_2) := (jAb BK131.out 2).trans rfl; have hcz13_3 : w12.cell? ⟨gb131, 3, none⟩ = some (.int .i64 a0_3) := (jAb BK131.out 3).trans rfl; have hcz13_4 : w12.cell? ⟨gb131, 4, none⟩ = some (.string a0_4) := (jAb BK131.out 4).trans rfl; have hcz13_5 : w12.cell? ⟨gb131, 5, none⟩ = some (.slice A0_5 l0_5.length c0_5) := (jAb BK131.out 5).trans rfl; have hfz13_0 := jAg BK131.out 0; have hfz13_1 := jAg BK131.out 1; have hfz13_2 := jAg BK131.out 2; have hfz13_3 := jAg BK131.out 3; have hfz13_4 := jAg BK131.out 4; have hfz13_5 := jAg BK131.out 5) | ((with_reducible refine jBl (f := 79) rfl ?_); refine jCe (some 7) rfl rfl Tryd.func79 (by kernel_rfl) rfl #[.agg #[.int .i64 a0_0, .int .i64 a0_1, .int .i64 a0_2, .int .i64 a0_3, .string a0_4, .slice A0_5 l0_5.length c0_5]] rfl (by (try simp only [List.map_toArray, List.map_cons, List.map_nil]); first | done | rfl | (simp only [List.length_drop, List.length_take]; rfl)) ?_; (with_reducible refine (jBp.calls k a0_0 a0_1 a0_2 a0_3 a0_4 _ _ l0_5 t132 t133 _ ?side1 ?side2 A2.out).mono ?_); (case side1 => repeat (first | exact (Kd.C_below HR0_5.out HB.out) | (with_reducible refine Kd.C_alloc ?_ _) | (with_reducible refine Kd.C_drewN ?_ _) | (with_reducible refine Kd.C_drew ?_))); (case side2 => exact HC0_5.out); rintro e w14 ⟨rfl, hb⟩; refine ⟨_, rfl, ?_⟩; have n0_ := jAa.mk (jAp (g := gb131) (o := .cells #[.int .i64 a0_0, .int .i64 a0_1, .int .i64 a0_2, .int .i64 a0_3, .string a0_4, .slice A0_5 l0_5.length c0_5] 72 (0, 0)) (by (with_reducible repeat (first | refine jAf ?_ _ | refine jAi ?_ | refine jAe ?_ _)); exact BK131.out) hb); have n1_ := jAa.mk (jAu (by repeat (first | (with_reducible first | exact HB.out | apply jAj | apply jAd | apply jAk | refine jAh ?_ GE131.out) | exact HB.out)) hb); clear BK131; clear HB; have BK131 := n0_; have HB := n1_; clear n0_ n1_; (try clear hb); (try clear hb2); (try clear hk); (try clear hi); have hcz15_0 : w14.cell? ⟨gb131, 0, none⟩ = some (.int .i64 a0_0) := (jAb BK131.out 0).trans rfl; have hcz15_1 : w14.cell? ⟨gb131, 1, none⟩ = some (.int .i64 a0_1) := (jAb BK131.out 1).trans rfl; have hcz15_2 : w14.cell? ⟨gb131, 2, none⟩ = some (.int .i64 a0_2) := (jAb BK131.out 2).trans rfl; have hcz15_3 : w14.cell? ⟨gb131, 3, none⟩ = some (.int .i64 a0_3) := (jAb BK131.out 3).trans rfl; have hcz15_4 : w14.cell? ⟨gb131, 4, none⟩ = some (.string a0_4) := (jAb BK131.out 4).trans rfl; have hcz15_5 : w14.cell? ⟨gb131, 5, none⟩ = some (.slice A0_5 l0_5.length c0_5) := (jAb BK131.out 5).trans rfl; have hfz15_0 := jAg BK131.out 0; have hfz15_1 := jAg BK131.out 1; have hfz15_2 := jAg BK131.out 2; have hfz15_3 := jAg BK131.out 3; have hfz15_4 := jAg BK131.out 4; have hfz15_5 := jAg BK131.out 5) | (go_at_call 80; (with_reducible refine (jBo.calls k a0_0 a0_1 a0_2 a0_3 a0_4 _ _ l0_5 t134 _ ?side1 ?side2 A11.out).mono ?_); (case side1 => repeat (first | exact (Kd.C_below HR0_5.out HB.out) | (with_reducible refine Kd.C_alloc ?_ _) | (with_reducible refine Kd.C_drewN ?_ _) | (with_reducible refine Kd.C_drew ?_))); (case side2 => exact HC0_5.out); rintro e w16 ⟨rfl, hb⟩; have n0_ := jAa.mk (jAp (g := gb131) (o := .cells #[.int .i64 a0_0, .int .i64 a0_1, .int .i64 a0_2, .int .i64 a0_3, .string a0_4, .slice A0_5 l0_5.length c0_5] 72 (0, 0)) (by (with_reducible repeat (first | refine jAf ?_ _ | refine jAi ?_ | refine jAe ?_ _)); exact BK131.out) hb); have n1_ := jAa.mk (jAu (by repeat (first | (with_reducible first | exact HB.out | apply jAj | apply jAd | apply jAk | refine jAh ?_ GE131.out) | exact HB.out)) hb); clear BK131; clear HB; have BK131 := n0_; have HB := n1_; clear n0_ n1_; (try clear hb); (try clear hb2); (try clear hk); (try clear hi)))
   go_ret
   exact ⟨by first | rfl | (simp [jBd, jBe] <;> rfl) | (simp [*, jBd, jBe] <;> rfl), by repeat (first | (with_reducible first | exact HB.out | apply jAj | apply jAd | apply jAk | refine jAh ?_ GE131.out) | exact HB.out)⟩
end Go.Proofs.YtefdfgmlmjnmlaaDoor.Rf
end

section
set_option linter.unusedVariables false
set_option linter.unusedSimpArgs false
namespace Go.Proofs.YtefdfgmlmjnmlaaDoor.Rf
open Go.RowKit Go.Proofs.YtefdfgmlmjnmlaaDoorW.PrintWords Go.Proofs.YtefdfgmlmjnmlaaDoorW.PrintLast Go.Proofs.YtefdfgmlmjnmlaaDoorW.PrintMore
attribute [local go_sem] jCg jCo
mutual
def jAz.l0 : Nat → Int → List (S45) → Int → Int → Int → List (S45) → List (S27) → Option (Bool)
 | 0, _, _, _, _, _, _, _ => none
 | k + 1, x3, x22, x23, x24, x136000, x136001, x136002 => if x24 < x23 then (if 0 ≤ x24 then (if x24 < (x22.length : Int) then (jAz.l1 k (wrap64 ((wrap64 ((wrap64 (x3 + (((jAl x22 x24).f0).size : Int))) + (((jAl x22 x24).f2).length : Int))) + (((jAl x22 x24).f3).length : Int))) x22 x23 x24 ((jAl x22 x24).f2) (((jAl x22 x24).f2).length : Int) 0 x136000 x136001 x136002 ((jAl x22 x24).f0) ((jAl x22 x24).f1) ((jAl x22 x24).f2) ((jAl x22 x24).f3)) else (none)) else (none)) else (jAz.l3 k x3 x136002 (x136002.length : Int) 0)
def jAz.l1 : Nat → Int → List (S45) → Int → Int → List (S59) → Int → Int → Int → List (S45) → List (S27) → ByteArray → Int → List (S59) → List (S72) → Option (Bool)
 | 0, _, _, _, _, _, _, _, _, _, _, _, _, _, _ => none
 | k + 1, x3, x22, x23, x24, x42, x43, x44, x136000, x136001, x136002, x138000, x138001, x138002, x138003 => if x44 < x43 then (if 0 ≤ x44 then (if x44 < (x42.length : Int) then (jAz.l1 k (wrap64 ((wrap64 (x3 + (((jBn x42 x44).f0).size : Int))) + (((jBn x42 x44).f4).size : Int))) x22 x23 x24 x42 x43 (wrap64 (x44 + 1)) x136000 x136001 x136002 x138000 x138001 x138002 x138003) else (none)) else (none)) else (jAz.l2 k x3 x22 x23 x24 x138003 (x138003.length : Int) 0 x136000 x136001 x136002)
def jAz.l2 : Nat → Int → List (S45) → Int → Int → List (S72) → Int → Int → Int → List (S45) → List (S27) → Option (Bool)
 | 0, _, _, _, _, _, _, _, _, _, _ => none
 | k + 1, x3, x22, x23, x24, x59, x60, x61, x136000, x136001, x136002 => if x61 < x60 then (if 0 ≤ x61 then (if x61 < (x59.length : Int) then ((jCk.f k ((jAq x59 x61).f0) ((jAq x59 x61).f1) ((jAq x59 x61).f2.f0) ((jAq x59 x61).f2.f1) ((jAq x59 x61).f2.f2) ((jAq x59 x61).f3)).bind fun t142 => (if t142 = true then (some true) else (jAz.l2 k x3 x22 x23 x24 x59 x60 (wrap64 (x61 + 1)) x136000 x136001 x136002))) else (none)) else (none)) else (if x3 > 3000 then (some true) else (jAz.l0 k x3 x22 x23 (wrap64 (x24 + 1)) x136000 x136001 x136002))
def jAz.l3 : Nat → Int → List (S27) → Int → Int → Option (Bool)
 | 0, _, _, _, _ => none
 | k + 1, x3, x72, x73, x74 => if x74 < x73 then (if 0 ≤ x74 then (if x74 < (x72.length : Int) then (jAz.l3 k (wrap64 (x3 + (((jCf x72 x74).f1).size : Int))) x72 x73 (wrap64 (x74 + 1))) else (none)) else (none)) else (some (decide (x3 > 3000)))
end
def jAz.f (k : Nat) (a0_0 : Int) (l0_1 : List (S45)) (l0_2 : List (S27)) : Option (Bool) := if (wrap64 ((l0_1.length : Int) + (l0_2.length : Int))) > 200 then (some true) else (jAz.l0 k (wrap64 ((l0_1.length : Int) + (l0_2.length : Int))) l0_1 (l0_1.length : Int) 0 a0_0 l0_1 l0_2)
set_option maxHeartbeats 8000000 in
set_option maxRecDepth 100000 in
theorem jAz.calls (k : Nat) (a0_0 : Int) (A0_1 : Option Addr) (c0_1 : Nat) (l0_1 : List (S45)) (A0_2 : Option Addr) (c0_2 : Nat) (l0_2 : List (S27)) (r : Bool) (w : World) (hr0_1 : Kd.C k45 w A0_1 l0_1.length l0_1) (hc0_1 : l0_1.length ≤ c0_1) (hr0_2 : Kd.C k27 w A0_2 l0_2.length l0_2) (hc0_2 : l0_2.length ≤ c0_2) (h : jAz.f k a0_0 l0_1 l0_2 = some r) :
  Calls Tryd.prog 13 #[.agg #[.int .i64 a0_0, .slice A0_1 l0_1.length c0_1, .slice A0_2 l0_2.length c0_2]] w fun e w' => e = .returned (.bool r) ∧ Below w.heap.size w w' := by
 have hu25 := Tryd.underlying25
 have hu45 := Tryd.underlying45
 have hu59 := Tryd.underlying59
 have hu72 := Tryd.underlying72
 have hu27 := Tryd.underlying27
 have HR0_1 := jAa.mk hr0_1
 have HC0_1 := jAa.mk hc0_1
 clear hr0_1 hc0_1
 have HR0_2 := jAa.mk hr0_2
 have HC0_2 := jAa.mk hc0_2
 clear hr0_2 hc0_2
 have HB := jAa.mk (Below.refl w.heap.size w)
 have H : (if (wrap64 ((l0_1.length : Int) + (l0_2.length : Int))) > 200 then (some true) else (jAz.l0 k (wrap64 ((l0_1.length : Int) + (l0_2.length : Int))) l0_1 (l0_1.length : Int) 0 a0_0 l0_1 l0_2)) = some r := h
 clear h
 by_cases c2 : (wrap64 ((l0_1.length : Int) + (l0_2.length : Int))) > 200
 ·rw [if_pos c2] at H
  have c2b0 : decide (200 < (wrap64 ((l0_1.length : Int) + (l0_2.length : Int)))) = true := decide_eq_true c2
  clear c2
  obtain rfl := Option.some.inj H
  go_enter Tryd.func13, Tryd.ntmps13
  go_wp2_with (first | ((with_reducible refine jCa (N := 1) rfl ?_); refine jBv ?hg (N := 1) ?hd (cs := #[.int .i64 a0_0, .slice A0_1 l0_1.length c0_1, .slice A0_2 l0_2.length c0_2]) (t := 25) ?hr ?_; (case hd => rfl); (case hg => rfl); (case hr => first | (go_simp; done) | (go_simp; rfl)); intro gb135 hg w3 hbox hb; have n0_ := jAa.mk (jAu (by repeat (first | (with_reducible first | exact HB.out | apply jAj | apply jAd | apply jAk) | exact HB.out)) hb); have n1_ := jAa.mk (hbox); have n2_ := jAa.mk ((by rw [hg]; exact (jBj (by repeat (first | (with_reducible first | exact HB.out | apply jAj | apply jAd | apply jAk) | exact HB.out))) : w.heap.size ≤ gb135)); have n3_ := jAa.mk ((by rw [hg]; exact (jBj (by repeat (first | (with_reducible first | exact HB.out | apply jAj | apply jAd | apply jAk) | exact HB.out))) : w.heap.size ≤ gb135)); clear HB; have HB := n0_; have BK135 := n1_; have GW135 := n2_; have GE135 := n3_; clear n0_ n1_ n2_ n3_; clear hb hbox hg; have hcz4_0 : w3.cell? ⟨gb135, 0, none⟩ = some (.int .i64 a0_0) := (jAb BK135.out 0).trans rfl; have hcz4_1 : w3.cell? ⟨gb135, 1, none⟩ = some (.slice A0_1 l0_1.length c0_1) := (jAb BK135.out 1).trans rfl; have hcz4_2 : w3.cell? ⟨gb135, 2, none⟩ = some (.slice A0_2 l0_2.length c0_2) := (jAb BK135.out 2).trans rfl; have hfz4_0 := jAg BK135.out 0; have hfz4_1 := jAg BK135.out 1; have hfz4_2 := jAg BK135.out 2))
  go_ret
  exact ⟨by first | rfl | (simp [jBd, jBe] <;> rfl) | (simp [*, jBd, jBe] <;> rfl), by repeat (first | (with_reducible first | exact HB.out | apply jAj | apply jAd | apply jAk | refine jAh ?_ GE135.out) | exact HB.out)⟩
 ·rw [if_neg c2] at H
  have c2b0 : decide (200 < (wrap64 ((l0_1.length : Int) + (l0_2.length : Int)))) = false := decide_eq_false c2
  clear c2
  have H' := jAa.mk H
  clear H
  go_enter Tryd.func13, Tryd.ntmps13
  go_wp2_with (first | ((with_reducible refine jCa (N := 1) rfl ?_); refine jBv ?hg (N := 1) ?hd (cs := #[.int .i64 a0_0, .slice A0_1 l0_1.length c0_1, .slice A0_2 l0_2.length c0_2]) (t := 25) ?hr ?_; (case hd => rfl); (case hg => rfl); (case hr => first | (go_simp; done) | (go_simp; rfl)); intro gb135 hg w5 hbox hb; have n0_ := jAa.mk (jAu (by repeat (first | (with_reducible first | exact HB.out | apply jAj | apply jAd | apply jAk) | exact HB.out)) hb); have n1_ := jAa.mk (hbox); have n2_ := jAa.mk ((by rw [hg]; exact (jBj (by repeat (first | (with_reducible first | exact HB.out | apply jAj | apply jAd | apply jAk) | exact HB.out))) : w.heap.size ≤ gb135)); have n3_ := jAa.mk ((by rw [hg]; exact (jBj (by repeat (first | (with_reducible first | exact HB.out | apply jAj | apply jAd | apply jAk) | exact HB.out))) : w.heap.size ≤ gb135)); clear HB; have HB := n0_; have BK135 := n1_; have GW135 := n2_; have GE135 := n3_; clear n0_ n1_ n2_ n3_; clear hb hbox hg; have hcz6_0 : w5.cell? ⟨gb135, 0, none⟩ = some (.int .i64 a0_0) := (jAb BK135.out 0).trans rfl; have hcz6_1 : w5.cell? ⟨gb135, 1, none⟩ = some (.slice A0_1 l0_1.length c0_1) := (jAb BK135.out 1).trans rfl; have hcz6_2 : w5.cell? ⟨gb135, 2, none⟩ = some (.slice A0_2 l0_2.length c0_2) := (jAb BK135.out 2).trans rfl; have hfz6_0 := jAg BK135.out 0; have hfz6_1 := jAg BK135.out 1; have hfz6_2 := jAg BK135.out 2))
  go_loopg [3, 24] k (fun kq v3 v24 w' => ∃ (x3_1 : Int) (x24_1 : Int), v3 = .int .i64 x3_1 ∧ v24 = .int .i64 x24_1 ∧ jAa (jAz.l0 kq x3_1 l0_1 (l0_1.length : Int) x24_1 a0_0 l0_1 l0_2 = some r) ∧ jAa (kq ≤ k) ∧ jAa (w'.heap[gb135]? = some (.cells #[.int .i64 a0_0, (.slice A0_1 l0_1.length c0_1), (.slice A0_2 l0_2.length c0_2)] 25 (0, 0))) ∧ jAa (Below w.heap.size w w'))
  case atStart => exact ⟨(wrap64 ((l0_1.length : Int) + (l0_2.length : Int))), (0), (by first | rfl | (simp; done) | (simp [*]; done)), (by first | rfl | (simp; done) | (simp [*]; done)), H', ⟨Nat.le_refl _⟩, ⟨by (with_reducible repeat (first | refine jAf ?_ _ | refine jAi ?_ | refine jAe ?_ _)); exact BK135.out⟩, ⟨by repeat (first | (with_reducible first | exact HB.out | apply jAj | apply jAd | apply jAk | refine jAh ?_ GE135.out) | exact HB.out)⟩⟩
  case round =>
   clear H'
   try clear c1
   try clear c2
   try clear c2b0
   try clear p2
   try clear p6
   try clear hcz4_0
   try clear hcz4_1
   try clear hcz4_2
   try clear hcz6_0
   try clear hcz6_1
   try clear hcz6_2
   try clear hfz4_0
   try clear hfz4_1
   try clear hfz4_2
   try clear hfz6_0
   try clear hfz6_1
   try clear hfz6_2
   obtain ⟨x3_1, x24_1, rfl, rfl, HA, HK1, BK135, HB⟩ := hrel
   cases gk with
   | zero => exact absurd HA.out (by simp [jAz.l0])
   | succ k1 =>
    have H := HA.out
    clear HA
    simp only [jAz.l0] at H
    by_cases c7 : x24_1 < (l0_1.length : Int)
    ·rw [if_pos c7] at H
     have c7b0 : decide (x24_1 < (l0_1.length : Int)) = true := decide_eq_true c7
     clear c7
     by_cases c8 : 0 ≤ x24_1
     ·rw [if_pos c8] at H
      have c8b0 : decide (0 ≤ x24_1) = true := decide_eq_true c8
      clear c8
      by_cases c9 : x24_1 < (l0_1.length : Int)
      ·rw [if_pos c9] at H
       have c9b0 : decide (x24_1 < (l0_1.length : Int)) = true := decide_eq_true c9
       clear c9
       have H' := jAa.mk H
       clear H
       have p136 : 0 ≤ (x24_1 : Int) := of_decide_eq_true (by first | (with_reducible assumption) | assumption)
       have q136 : x24_1 < (l0_1.length : Int) := of_decide_eq_true (by first | (with_reducible assumption) | assumption)
       obtain ⟨ad136, A136_2, c136_2, A136_3, c136_3, e136, hx136_0, hx136_1, hx136_2, hx136_3, hl136_2, hi136_2, hl136_3, hi136_3⟩ := jGf HR0_1.out x24_1 p136 q136
       cases e136
       replace hx136_0 := (HB.out.cell (World.block_lt_of_cell? w _ hx136_0)).trans hx136_0
       replace hx136_1 := (HB.out.cell (World.block_lt_of_cell? w _ hx136_1)).trans hx136_1
       replace hx136_2 := (HB.out.cell (World.block_lt_of_cell? w _ hx136_2)).trans hx136_2
       replace hx136_3 := (HB.out.cell (World.block_lt_of_cell? w _ hx136_3)).trans hx136_3
       have HR136_2 := jAa.mk hi136_2
       have HC136_2 := jAa.mk hl136_2
       clear hi136_2 hl136_2
       have HR136_3 := jAa.mk hi136_3
       have HC136_3 := jAa.mk hl136_3
       clear hi136_3 hl136_3
       replace p136 := eq_true p136
       replace q136 := eq_true q136
       go_wp2_with (first | ((with_reducible refine jCa (N := 5) rfl ?_); refine jBv ?hg (N := 5) ?hd (cs := #[.string (⟨#[]⟩ : ByteArray), .int .i64 0, .slice none 0 0, .slice none 0 0]) (t := 45) ?hr ?_; (case hd => rfl); (case hg => rfl); (case hr => first | (go_simp; done) | (go_simp; rfl)); intro gb137 hg w10 hbox hb; have n0_ := jAa.mk (jAp (g := gb135) (o := .cells #[.int .i64 a0_0, .slice (some ad136) l0_1.length c0_1, .slice A0_2 l0_2.length c0_2] 25 (0, 0)) (by (with_reducible repeat (first | refine jAf ?_ _ | refine jAi ?_ | refine jAe ?_ _)); exact BK135.out) hb); have n1_ := jAa.mk (jAu (by repeat (first | (with_reducible first | exact HB.out | apply jAj | apply jAd | apply jAk | refine jAh ?_ GE135.out) | exact HB.out)) hb); have n2_ := jAa.mk (hbox); have n3_ := jAa.mk ((by rw [hg]; exact (jBj (by repeat (first | (with_reducible first | exact HB.out | apply jAj | apply jAd | apply jAk | refine jAh ?_ GE135.out) | exact HB.out))) : w.heap.size ≤ gb137)); have n4_ := jAa.mk ((by rw [hg]; exact (jBj (by repeat (first | (with_reducible first | exact HB.out | apply jAj | apply jAd | apply jAk | refine jAh ?_ GE135.out) | exact HB.out))) : w.heap.size ≤ gb137)); have n5_ := jAa.mk ((by rw [hg]; exact Nat.ne_of_lt (jBu (g := gb135) (o := .cells #[.int .i64 a0_0, .slice (some ad136) l0_1.length c0_1, .slice A0_2 l0_2.length c0_2] 25 (0, 0)) (by (with_reducible repeat (first | refine jAf ?_ _ | refine jAi ?_ | refine jAe ?_ _)); exact BK135.out)) : gb135 ≠ gb137)); have n6_ := jAa.mk ((by rw [hg]; exact Nat.ne_of_gt (jBu (g := gb135) (o := .cells #[.int .i64 a0_0, .slice (some ad136) l0_1.length c0_1, .slice A0_2 l0_2.length c0_2] 25 (0, 0)) (by (with_reducible repeat (first | refine jAf ?_ _ | refine jAi ?_ | refine jAe ?_ _)); exact BK135.out)) : gb137 ≠ gb135)); clear BK135; clear HB; have BK135 := n0_; have HB := n1_; have BK137 := n2_; have GW137 := n3_; have GE137 := n4_; have NB135_137 := n5_; have NB137_135 := n6_; clear n0_ n1_ n2_ n3_ n4_ n5_ n6_; clear hb hbox hg; have hnb11 := NB137_135.out; have hnc11 := NB135_137.out; have hcz12_0 : w10.cell? ⟨gb137, 0, none⟩ = some (.string (⟨#[]⟩ : ByteArray)) := (jAb BK137.out 0).trans rfl; have hcz12_1 : w10.cell? ⟨gb137, 1, none⟩ = some (.int .i64 0) := (jAb BK137.out 1).trans rfl; have hcz12_2 : w10.cell? ⟨gb137, 2, none⟩ = some (.slice none 0 0) := (jAb BK137.out 2).trans rfl; have hcz12_3 : w10.cell? ⟨gb137, 3, none⟩ = some (.slice none 0 0) := (jAb BK137.out 3).trans rfl; have hfz12_0 := jAg BK137.out 0; have hfz12_1 := jAg BK137.out 1; have hfz12_2 := jAg BK137.out 2; have hfz12_3 := jAg BK137.out 3))
       go_loopg [3, 44] k1 (fun kq v3 v44 w' => ∃ (x3_2 : Int) (x44_2 : Int), v3 = .int .i64 x3_2 ∧ v44 = .int .i64 x44_2 ∧ jAa (jAz.l1 kq x3_2 l0_1 (l0_1.length : Int) x24_1 ((jAl l0_1 x24_1).f2) (((jAl l0_1 x24_1).f2).length : Int) x44_2 a0_0 l0_1 l0_2 ((jAl l0_1 x24_1).f0) ((jAl l0_1 x24_1).f1) ((jAl l0_1 x24_1).f2) ((jAl l0_1 x24_1).f3) = some r) ∧ jAa (kq ≤ k1) ∧ jAa (w'.heap[gb135]? = some (.cells #[.int .i64 a0_0, (.slice (some ad136) l0_1.length c0_1), (.slice A0_2 l0_2.length c0_2)] 25 (0, 0))) ∧ jAa (w'.heap[gb137]? = some (.cells #[.string ((jAl l0_1 x24_1).f0), .int .i64 ((jAl l0_1 x24_1).f1), (.slice A136_2 ((jAl l0_1 x24_1).f2).length c136_2), (.slice A136_3 ((jAl l0_1 x24_1).f3).length c136_3)] 45 (0, 0))) ∧ jAa (Below w.heap.size w w'))
       case atStart => exact ⟨(wrap64 ((wrap64 ((wrap64 (x3_1 + (((jAl l0_1 x24_1).f0).size : Int))) + (((jAl l0_1 x24_1).f2).length : Int))) + (((jAl l0_1 x24_1).f3).length : Int))), (0), (by first | rfl | (simp; done) | (simp [*]; done)), (by first | rfl | (simp; done) | (simp [*]; done)), H', ⟨Nat.le_refl _⟩, ⟨by (with_reducible repeat (first | refine jAf ?_ _ | refine jAi ?_ | refine jAe ?_ _)); refine jBa ?_ NB135_137.out _; (with_reducible repeat (first | refine jAf ?_ _ | refine jAi ?_ | refine jAe ?_ _)); refine jBa ?_ NB135_137.out _; (with_reducible repeat (first | refine jAf ?_ _ | refine jAi ?_ | refine jAe ?_ _)); refine jBa ?_ NB135_137.out _; (with_reducible repeat (first | refine jAf ?_ _ | refine jAi ?_ | refine jAe ?_ _)); refine jBa ?_ NB135_137.out _; (with_reducible repeat (first | refine jAf ?_ _ | refine jAi ?_ | refine jAe ?_ _)); exact BK135.out⟩, ⟨by (with_reducible repeat (first | refine jAf ?_ _ | refine jAi ?_ | refine jAe ?_ _)); refine jBf (cs := #[.string ((jAl l0_1 x24_1).f0), .int .i64 ((jAl l0_1 x24_1).f1), .slice A136_2 ((jAl l0_1 x24_1).f2).length c136_2, .slice none 0 0]) ?_ 3 _ rfl; (with_reducible repeat (first | refine jAf ?_ _ | refine jAi ?_ | refine jAe ?_ _)); refine jBf (cs := #[.string ((jAl l0_1 x24_1).f0), .int .i64 ((jAl l0_1 x24_1).f1), .slice none 0 0, .slice none 0 0]) ?_ 2 _ rfl; (with_reducible repeat (first | refine jAf ?_ _ | refine jAi ?_ | refine jAe ?_ _)); refine jBf (cs := #[.string ((jAl l0_1 x24_1).f0), .int .i64 0, .slice none 0 0, .slice none 0 0]) ?_ 1 _ rfl; (with_reducible repeat (first | refine jAf ?_ _ | refine jAi ?_ | refine jAe ?_ _)); refine jBf (cs := #[.string (⟨#[]⟩ : ByteArray), .int .i64 0, .slice none 0 0, .slice none 0 0]) ?_ 0 _ rfl; (with_reducible repeat (first | refine jAf ?_ _ | refine jAi ?_ | refine jAe ?_ _)); exact BK137.out⟩, ⟨by repeat (first | (with_reducible first | exact HB.out | apply jAj | apply jAd | apply jAk | refine jAh ?_ GE135.out | refine jAh ?_ GE137.out) | exact HB.out)⟩⟩
       case round =>
        clear H'
        try clear c1
        try clear p1
        try clear q1
        try clear hx1
        try clear c2
        try clear c2b0
        try clear p2
        try clear p6
        try clear c7
        try clear c7b0
        try clear c8
        try clear c8b0
        try clear c9
        try clear c9b0
        try clear c11
        try clear hcz12_0
        try clear hcz12_1
        try clear hcz12_2
        try clear hcz12_3
        try clear hcz4_0
        try clear hcz4_1
        try clear hcz4_2
        try clear hcz6_0
        try clear hcz6_1
        try clear hcz6_2
        try clear hfz12_0
        try clear hfz12_1
        try clear hfz12_2
        try clear hfz12_3
        try clear hfz4_0
        try clear hfz4_1
        try clear hfz4_2
        try clear hfz6_0
        try clear hfz6_1
        try clear hfz6_2
        try clear hx136_0
        try clear hx136_1
        try clear hx136_2
        try clear hx136_3
        try clear p136
        try clear p2
        try clear p6
        try clear q136
        obtain ⟨x3_2, x44_2, rfl, rfl, HA, HK2, BK135, BK137, HB⟩ := hrel
        cases gk with
        | zero => exact absurd HA.out (by simp [jAz.l1])
        | succ k2 =>
         have H := HA.out
         clear HA
         simp only [jAz.l1] at H
         by_cases c13 : x44_2 < (((jAl l0_1 x24_1).f2).length : Int)
         ·rw [if_pos c13] at H
          have c13b0 : decide (x44_2 < (((jAl l0_1 x24_1).f2).length : Int)) = true := decide_eq_true c13
          clear c13
          by_cases c14 : 0 ≤ x44_2
          ·rw [if_pos c14] at H
           have c14b0 : decide (0 ≤ x44_2) = true := decide_eq_true c14
           clear c14
           by_cases c15 : x44_2 < (((jAl l0_1 x24_1).f2).length : Int)
           ·rw [if_pos c15] at H
            have c15b0 : decide (x44_2 < (((jAl l0_1 x24_1).f2).length : Int)) = true := decide_eq_true c15
            clear c15
            have H' := jAa.mk H
            clear H
            have p138 : 0 ≤ (x44_2 : Int) := of_decide_eq_true (by first | (with_reducible assumption) | assumption)
            have q138 : x44_2 < (((jAl l0_1 x24_1).f2).length : Int) := of_decide_eq_true (by first | (with_reducible assumption) | assumption)
            obtain ⟨ad138, e138, hx138_0, hx138_1, hx138_2, hx138_3, hx138_4, hx138_5⟩ := jFp HR136_2.out x44_2 p138 q138
            cases e138
            replace hx138_0 := (HB.out.cell (World.block_lt_of_cell? w _ hx138_0)).trans hx138_0
            replace hx138_1 := (HB.out.cell (World.block_lt_of_cell? w _ hx138_1)).trans hx138_1
            replace hx138_2 := (HB.out.cell (World.block_lt_of_cell? w _ hx138_2)).trans hx138_2
            replace hx138_3 := (HB.out.cell (World.block_lt_of_cell? w _ hx138_3)).trans hx138_3
            replace hx138_4 := (HB.out.cell (World.block_lt_of_cell? w _ hx138_4)).trans hx138_4
            replace hx138_5 := (HB.out.cell (World.block_lt_of_cell? w _ hx138_5)).trans hx138_5
            replace p138 := eq_true p138
            replace q138 := eq_true q138
            go_wp2_with (first | ((with_reducible refine jCa (N := 7) rfl ?_); refine jBv ?hg (N := 7) ?hd (cs := #[.string (⟨#[]⟩ : ByteArray), .int .i64 0, .bool false, .bool false, .string (⟨#[]⟩ : ByteArray), .int .i64 0]) (t := 59) ?hr ?_; (case hd => rfl); (case hg => rfl); (case hr => first | (go_simp; done) | (go_simp; rfl)); intro gb139 hg w16 hbox hb; have n0_ := jAa.mk (jAp (g := gb135) (o := .cells #[.int .i64 a0_0, .slice (some ad136) l0_1.length c0_1, .slice A0_2 l0_2.length c0_2] 25 (0, 0)) (by (with_reducible repeat (first | refine jAf ?_ _ | refine jAi ?_ | refine jAe ?_ _)); exact BK135.out) hb); have n1_ := jAa.mk (jAp (g := gb137) (o := .cells #[.string ((jAl l0_1 x24_1).f0), .int .i64 ((jAl l0_1 x24_1).f1), .slice (some ad138) ((jAl l0_1 x24_1).f2).length c136_2, .slice A136_3 ((jAl l0_1 x24_1).f3).length c136_3] 45 (0, 0)) (by (with_reducible repeat (first | refine jAf ?_ _ | refine jAi ?_ | refine jAe ?_ _)); exact BK137.out) hb); have n2_ := jAa.mk (jAu (by repeat (first | (with_reducible first | exact HB.out | apply jAj | apply jAd | apply jAk | refine jAh ?_ GE135.out | refine jAh ?_ GE137.out) | exact HB.out)) hb); have n3_ := jAa.mk (hbox); have n4_ := jAa.mk ((by rw [hg]; exact (jBj (by repeat (first | (with_reducible first | exact HB.out | apply jAj | apply jAd | apply jAk | refine jAh ?_ GE135.out | refine jAh ?_ GE137.out) | exact HB.out))) : w.heap.size ≤ gb139)); have n5_ := jAa.mk ((by rw [hg]; exact (jBj (by repeat (first | (with_reducible first | exact HB.out | apply jAj | apply jAd | apply jAk | refine jAh ?_ GE135.out | refine jAh ?_ GE137.out) | exact HB.out))) : w.heap.size ≤ gb139)); have n6_ := jAa.mk ((by rw [hg]; exact Nat.ne_of_lt (jBu (g := gb135) (o := .cells #[.int .i64 a0_0, .slice (some ad136) l0_1.length c0_1, .slice A0_2 l0_2.length c0_2] 25 (0, 0)) (by (with_reducible repeat (first | refine jAf ?_ _ | refine jAi ?_ | refine jAe ?_ _)); exact BK135.out)) : gb135 ≠ gb139)); have n7_ := jAa.mk ((by rw [hg]; exact Nat.ne_of_gt (jBu (g := gb135) (o := .cells #[.int .i64 a0_0, .slice (some ad136) l0_1.length c0_1, .slice A0_2 l0_2.length c0_2] 25 (0, 0)) (by (with_reducible repeat (first | refine jAf ?_ _ | refine jAi ?_ | refine jAe ?_ _)); exact BK135.out)) : gb139 ≠ gb135)); have n8_ := jAa.mk ((by rw [hg]; exact Nat.ne_of_lt (jBu (g := gb137) (o := .cells #[.string ((jAl l0_1 x24_1).f0), .int .i64 ((jAl l0_1 x24_1).f1), .slice (some ad138) ((jAl l0_1 x24_1).f2).length c136_2, .slice A136_3 ((jAl l0_1 x24_1).f3).length c136_3] 45 (0, 0)) (by (with_reducible repeat (first | refine jAf ?_ _ | refine jAi ?_ | refine jAe ?_ _)); exact BK137.out)) : gb137 ≠ gb139)); have n9_ := jAa.mk ((by rw [hg]; exact Nat.ne_of_gt (jBu (g := gb137) (o := .cells #[.string ((jAl l0_1 x24_1).f0), .int .i64 ((jAl l0_1 x24_1).f1), .slice (some ad138) ((jAl l0_1 x24_1).f2).length c136_2, .slice A136_3 ((jAl l0_1 x24_1).f3).length c136_3] 45 (0, 0)) (by (with_reducible repeat (first | refine jAf ?_ _ | refine jAi ?_ | refine jAe ?_ _)); exact BK137.out)) : gb139 ≠ gb137)); clear BK135; clear BK137; clear HB; have BK135 := n0_; have BK137 := n1_; have HB := n2_; have BK139 := n3_; have GW139 := n4_; have GE139 := n5_; have NB135_139 := n6_; have NB139_135 := n7_; have NB137_139 := n8_; have NB139_137 := n9_; clear n0_ n1_ n2_ n3_ n4_ n5_ n6_ n7_ n8_ n9_; clear hb hbox hg; have hnb17 := NB139_135.out; have hnc17 := NB135_139.out; have hnb18 := NB139_137.out; have hnc18 := NB137_139.out; have hcz19_0 : w16.cell? ⟨gb139, 0, none⟩ = some (.string (⟨#[]⟩ : ByteArray)) := (jAb BK139.out 0).trans rfl; have hcz19_1 : w16.cell? ⟨gb139, 1, none⟩ = some (.int .i64 0) := (jAb BK139.out 1).trans rfl; have hcz19_2 : w16.cell? ⟨gb139, 2, none⟩ = some (.bool false) := (jAb BK139.out 2).trans rfl; have hcz19_3 : w16.cell? ⟨gb139, 3, none⟩ = some (.bool false) := (jAb BK139.out 3).trans rfl; have hcz19_4 : w16.cell? ⟨gb139, 4, none⟩ = some (.string (⟨#[]⟩ : ByteArray)) := (jAb BK139.out 4).trans rfl; have hcz19_5 : w16.cell? ⟨gb139, 5, none⟩ = some (.int .i64 0) := (jAb BK139.out 5).trans rfl; have hfz19_0 := jAg BK139.out 0; have hfz19_1 := jAg BK139.out 1; have hfz19_2 := jAg BK139.out 2; have hfz19_3 := jAg BK139.out 3; have hfz19_4 := jAg BK139.out 4; have hfz19_5 := jAg BK139.out 5))
            go_roundg k2
            case measure => have := HK1.out; have := HK2.out; omega
            case rel => exact ⟨(wrap64 ((wrap64 (x3_2 + (((jBn ((jAl l0_1 x24_1).f2) x44_2).f0).size : Int))) + (((jBn ((jAl l0_1 x24_1).f2) x44_2).f4).size : Int))), (wrap64 (x44_2 + 1)), (by first | rfl | (simp; done) | (simp [*]; done)), (by first | rfl | (simp; done) | (simp [*]; done)), H', ⟨by have := HK1.out; have := HK2.out; omega⟩, ⟨by (with_reducible repeat (first | refine jAf ?_ _ | refine jAi ?_ | refine jAe ?_ _)); refine jBa ?_ NB135_139.out _; (with_reducible repeat (first | refine jAf ?_ _ | refine jAi ?_ | refine jAe ?_ _)); refine jBa ?_ NB135_139.out _; (with_reducible repeat (first | refine jAf ?_ _ | refine jAi ?_ | refine jAe ?_ _)); refine jBa ?_ NB135_139.out _; (with_reducible repeat (first | refine jAf ?_ _ | refine jAi ?_ | refine jAe ?_ _)); refine jBa ?_ NB135_139.out _; (with_reducible repeat (first | refine jAf ?_ _ | refine jAi ?_ | refine jAe ?_ _)); refine jBa ?_ NB135_139.out _; (with_reducible repeat (first | refine jAf ?_ _ | refine jAi ?_ | refine jAe ?_ _)); refine jBa ?_ NB135_139.out _; (with_reducible repeat (first | refine jAf ?_ _ | refine jAi ?_ | refine jAe ?_ _)); exact BK135.out⟩, ⟨by (with_reducible repeat (first | refine jAf ?_ _ | refine jAi ?_ | refine jAe ?_ _)); refine jBa ?_ NB137_139.out _; (with_reducible repeat (first | refine jAf ?_ _ | refine jAi ?_ | refine jAe ?_ _)); refine jBa ?_ NB137_139.out _; (with_reducible repeat (first | refine jAf ?_ _ | refine jAi ?_ | refine jAe ?_ _)); refine jBa ?_ NB137_139.out _; (with_reducible repeat (first | refine jAf ?_ _ | refine jAi ?_ | refine jAe ?_ _)); refine jBa ?_ NB137_139.out _; (with_reducible repeat (first | refine jAf ?_ _ | refine jAi ?_ | refine jAe ?_ _)); refine jBa ?_ NB137_139.out _; (with_reducible repeat (first | refine jAf ?_ _ | refine jAi ?_ | refine jAe ?_ _)); refine jBa ?_ NB137_139.out _; (with_reducible repeat (first | refine jAf ?_ _ | refine jAi ?_ | refine jAe ?_ _)); exact BK137.out⟩, ⟨by repeat (first | (with_reducible first | exact HB.out | apply jAj | apply jAd | apply jAk | refine jAh ?_ GE135.out | refine jAh ?_ GE137.out | refine jAh ?_ GE139.out) | exact HB.out)⟩⟩
           ·rw [if_neg c15] at H
            exact absurd H (by simp)
          ·rw [if_neg c14] at H
           exact absurd H (by simp)
         ·rw [if_neg c13] at H
          have c13b0 : decide (x44_2 < (((jAl l0_1 x24_1).f2).length : Int)) = false := decide_eq_false c13
          clear c13
          have H' := jAa.mk H
          clear H
          have hnb20 := NB137_135.out
          have hnc20 := NB135_137.out
          have hcz21_0 : wr.cell? ⟨gb137, 0, none⟩ = some (.string ((jAl l0_1 x24_1).f0)) := (jAb BK137.out 0).trans rfl
          have hcz21_1 : wr.cell? ⟨gb137, 1, none⟩ = some (.int .i64 ((jAl l0_1 x24_1).f1)) := (jAb BK137.out 1).trans rfl
          have hcz21_2 : wr.cell? ⟨gb137, 2, none⟩ = some (.slice A136_2 ((jAl l0_1 x24_1).f2).length c136_2) := (jAb BK137.out 2).trans rfl
          have hcz21_3 : wr.cell? ⟨gb137, 3, none⟩ = some (.slice A136_3 ((jAl l0_1 x24_1).f3).length c136_3) := (jAb BK137.out 3).trans rfl
          have hfz21_0 := jAg BK137.out 0
          have hfz21_1 := jAg BK137.out 1
          have hfz21_2 := jAg BK137.out 2
          have hfz21_3 := jAg BK137.out 3
          go_wp2
          go_loopg [61] k2 (fun kq v61 w' => ∃ (x61_3 : Int), v61 = .int .i64 x61_3 ∧ jAa (jAz.l2 kq x3_2 l0_1 (l0_1.length : Int) x24_1 ((jAl l0_1 x24_1).f3) (((jAl l0_1 x24_1).f3).length : Int) x61_3 a0_0 l0_1 l0_2 = some r) ∧ jAa (kq ≤ k2) ∧ jAa (w'.heap[gb135]? = some (.cells #[.int .i64 a0_0, (.slice (some ad136) l0_1.length c0_1), (.slice A0_2 l0_2.length c0_2)] 25 (0, 0))) ∧ jAa (w'.heap[gb137]? = some (.cells #[.string ((jAl l0_1 x24_1).f0), .int .i64 ((jAl l0_1 x24_1).f1), (.slice A136_2 ((jAl l0_1 x24_1).f2).length c136_2), (.slice A136_3 ((jAl l0_1 x24_1).f3).length c136_3)] 45 (0, 0))) ∧ jAa (Below w.heap.size w w'))
          case atStart => exact ⟨(0), (by first | rfl | (simp; done) | (simp [*]; done)), H', ⟨Nat.le_refl _⟩, ⟨by (with_reducible repeat (first | refine jAf ?_ _ | refine jAi ?_ | refine jAe ?_ _)); exact BK135.out⟩, ⟨by (with_reducible repeat (first | refine jAf ?_ _ | refine jAi ?_ | refine jAe ?_ _)); exact BK137.out⟩, ⟨by repeat (first | (with_reducible first | exact HB.out | apply jAj | apply jAd | apply jAk | refine jAh ?_ GE135.out | refine jAh ?_ GE137.out) | exact HB.out)⟩⟩
          case round =>
           clear H'
           try clear c1
           try clear p1
           try clear q1
           try clear hx1
           try clear c2
           try clear c2b0
           try clear p2
           try clear p6
           try clear c7
           try clear c7b0
           try clear c8
           try clear c8b0
           try clear c9
           try clear c9b0
           try clear c11
           try clear c13
           try clear c13b0
           try clear p13
           try clear q13
           try clear hx13
           try clear c14
           try clear c14b0
           try clear c15
           try clear c15b0
           try clear c17
           try clear c18
           try clear c20
           try clear hcz12_0
           try clear hcz12_1
           try clear hcz12_2
           try clear hcz12_3
           try clear hcz19_0
           try clear hcz19_1
           try clear hcz19_2
           try clear hcz19_3
           try clear hcz19_4
           try clear hcz19_5
           try clear hcz21_0
           try clear hcz21_1
           try clear hcz21_2
           try clear hcz21_3
           try clear hcz4_0
           try clear hcz4_1
           try clear hcz4_2
           try clear hcz6_0
           try clear hcz6_1
           try clear hcz6_2
           try clear hfz12_0
           try clear hfz12_1
           try clear hfz12_2
           try clear hfz12_3
           try clear hfz19_0
           try clear hfz19_1
           try clear hfz19_2
           try clear hfz19_3
           try clear hfz19_4
           try clear hfz19_5
           try clear hfz21_0
           try clear hfz21_1
           try clear hfz21_2
           try clear hfz21_3
           try clear hfz4_0
           try clear hfz4_1
           try clear hfz4_2
           try clear hfz6_0
           try clear hfz6_1
           try clear hfz6_2
           try clear hx136_0
           try clear hx136_1
           try clear hx136_2
           try clear hx136_3
           try clear hx138_0
           try clear hx138_1
           try clear hx138_2
           try clear hx138_3
           try clear hx138_4
           try clear hx138_5
           try clear p1
           try clear p136
           try clear p138
           try clear p2
           try clear p6
           try clear q1
           try clear q136
           try clear q138
           obtain ⟨x61_3, rfl, HA, HK3, BK135, BK137, HB⟩ := hrel
           cases gk with
           | zero => exact absurd HA.out (by simp [jAz.l2])
           | succ k3 =>
            have H := HA.out
            clear HA
            simp only [jAz.l2] at H
            by_cases c22 : x61_3 < (((jAl l0_1 x24_1).f3).length : Int)
            ·rw [if_pos c22] at H
             have c22b0 : decide (x61_3 < (((jAl l0_1 x24_1).f3).length : Int)) = true := decide_eq_true c22
             clear c22
             by_cases c23 : 0 ≤ x61_3
             ·rw [if_pos c23] at H
              have c23b0 : decide (0 ≤ x61_3) = true := decide_eq_true c23
              clear c23
              by_cases c24 : x61_3 < (((jAl l0_1 x24_1).f3).length : Int)
              ·rw [if_pos c24] at H
               have c24b0 : decide (x61_3 < (((jAl l0_1 x24_1).f3).length : Int)) = true := decide_eq_true c24
               clear c24
               replace H := Option.bind_eq_some_iff.mp H
               obtain ⟨t142, A250, H⟩ := H
               replace H : (if t142 = true then (some true) else (jAz.l2 k3 x3_2 l0_1 (l0_1.length : Int) x24_1 ((jAl l0_1 x24_1).f3) (((jAl l0_1 x24_1).f3).length : Int) (wrap64 (x61_3 + 1)) a0_0 l0_1 l0_2)) = some r := H
               have A25 := jAa.mk A250
               clear A250
               by_cases c26 : t142 = true
               ·subst c26
                have H1 : (some true) = some r := by rw [if_pos rfl] at H; exact H
                clear H
                have H := H1
                clear H1
                obtain rfl := Option.some.inj H
                have p140 : 0 ≤ (x61_3 : Int) := of_decide_eq_true (by first | (with_reducible assumption) | assumption)
                have q140 : x61_3 < (((jAl l0_1 x24_1).f3).length : Int) := of_decide_eq_true (by first | (with_reducible assumption) | assumption)
                obtain ⟨ad140, A140_5, c140_5, e140, hx140_0, hx140_1, hx140_2, hx140_3, hx140_4, hx140_5, hl140_5, hi140_5⟩ := jDx HR136_3.out x61_3 p140 q140
                cases e140
                replace hx140_0 := (HB.out.cell (World.block_lt_of_cell? w _ hx140_0)).trans hx140_0
                replace hx140_1 := (HB.out.cell (World.block_lt_of_cell? w _ hx140_1)).trans hx140_1
                replace hx140_2 := (HB.out.cell (World.block_lt_of_cell? w _ hx140_2)).trans hx140_2
                replace hx140_3 := (HB.out.cell (World.block_lt_of_cell? w _ hx140_3)).trans hx140_3
                replace hx140_4 := (HB.out.cell (World.block_lt_of_cell? w _ hx140_4)).trans hx140_4
                replace hx140_5 := (HB.out.cell (World.block_lt_of_cell? w _ hx140_5)).trans hx140_5
                have HR140_5 := jAa.mk hi140_5
                have HC140_5 := jAa.mk hl140_5
                clear hi140_5 hl140_5
                replace p140 := eq_true p140
                replace q140 := eq_true q140
                go_wp2_with (first | ((with_reducible refine jCa (N := 9) rfl ?_); refine jBv ?hg (N := 9) ?hd (cs := #[.int .i64 0, .int .i64 0, .int .i64 0, .int .i64 0, .string (⟨#[]⟩ : ByteArray), .slice none 0 0]) (t := 72) ?hr ?_; (case hd => rfl); (case hg => rfl); (case hr => first | (go_simp; done) | (go_simp; rfl)); intro gb141 hg w27 hbox hb; have n0_ := jAa.mk (jAp (g := gb135) (o := .cells #[.int .i64 a0_0, .slice (some ad136) l0_1.length c0_1, .slice A0_2 l0_2.length c0_2] 25 (0, 0)) (by (with_reducible repeat (first | refine jAf ?_ _ | refine jAi ?_ | refine jAe ?_ _)); exact BK135.out) hb); have n1_ := jAa.mk (jAp (g := gb137) (o := .cells #[.string ((jAl l0_1 x24_1).f0), .int .i64 ((jAl l0_1 x24_1).f1), .slice A136_2 ((jAl l0_1 x24_1).f2).length c136_2, .slice (some ad140) ((jAl l0_1 x24_1).f3).length c136_3] 45 (0, 0)) (by (with_reducible repeat (first | refine jAf ?_ _ | refine jAi ?_ | refine jAe ?_ _)); exact BK137.out) hb); have n2_ := jAa.mk (jAu (by repeat (first | (with_reducible first | exact HB.out | apply jAj | apply jAd | apply jAk | refine jAh ?_ GE135.out | refine jAh ?_ GE137.out) | exact HB.out)) hb); have n3_ := jAa.mk (hbox); have n4_ := jAa.mk ((by rw [hg]; exact (jBj (by repeat (first | (with_reducible first | exact HB.out | apply jAj | apply jAd | apply jAk | refine jAh ?_ GE135.out | refine jAh ?_ GE137.out) | exact HB.out))) : w.heap.size ≤ gb141)); have n5_ := jAa.mk ((by rw [hg]; exact (jBj (by repeat (first | (with_reducible first | exact HB.out | apply jAj | apply jAd | apply jAk | refine jAh ?_ GE135.out | refine jAh ?_ GE137.out) | exact HB.out))) : w.heap.size ≤ gb141)); have n6_ := jAa.mk ((by rw [hg]; exact Nat.ne_of_lt (jBu (g := gb135) (o := .cells #[.int .i64 a0_0, .slice (some ad136) l0_1.length c0_1, .slice A0_2 l0_2.length c0_2] 25 (0, 0)) (by (with_reducible repeat (first | refine jAf ?_ _ | refine jAi ?_ | refine jAe ?_ _)); exact BK135.out)) : gb135 ≠ gb141)); have n7_ := jAa.mk ((by rw [hg]; exact Nat.ne_of_gt (jBu (g := gb135) (o := .cells #[.int .i64 a0_0, .slice (some ad136) l0_1.length c0_1, .slice A0_2 l0_2.length c0_2] 25 (0, 0)) (by (with_reducible repeat (first | refine jAf ?_ _ | refine jAi ?_ | refine jAe ?_ _)); exact BK135.out)) : gb141 ≠ gb135)); have n8_ := jAa.mk ((by rw [hg]; exact Nat.ne_of_lt (jBu (g := gb137) (o := .cells #[.string ((jAl l0_1 x24_1).f0), .int .i64 ((jAl l0_1 x24_1).f1), .slice A136_2 ((jAl l0_1 x24_1).f2).length c136_2, .slice (some ad140) ((jAl l0_1 x24_1).f3).length c136_3] 45 (0, 0)) (by (with_reducible repeat (first | refine jAf ?_ _ | refine jAi ?_ | refine jAe ?_ _)); exact BK137.out)) : gb137 ≠ gb141)); have n9_ := jAa.mk ((by rw [hg]; exact Nat.ne_of_gt (jBu (g := gb137) (o := .cells #[.string ((jAl l0_1 x24_1).f0), .int .i64 ((jAl l0_1 x24_1).f1), .slice A136_2 ((jAl l0_1 x24_1).f2).length c136_2, .slice (some ad140) ((jAl l0_1 x24_1).f3).length c136_3] 45 (0, 0)) (by (with_reducible repeat (first | refine jAf ?_ _ | refine jAi ?_ | refine jAe ?_ _)); exact BK137.out)) : gb141 ≠ gb137)); clear BK135; clear BK137; clear HB; have BK135 := n0_; have BK137 := n1_; have HB := n2_; have BK141 := n3_; have GW141 := n4_; have GE141 := n5_; have NB135_141 := n6_; have NB141_135 := n7_; have NB137_141 := n8_; have NB141_137 := n9_; clear n0_ n1_ n2_ n3_ n4_ n5_ n6_ n7_ n8_ n9_; clear hb hbox hg; have hnb28 := NB141_135.out; have hnc28 := NB135_141.out; have hnb29 := NB141_137.out; have hnc29 := NB137_141.out; have hcz30_0 : w27.cell? ⟨gb141, 0, none⟩ = some (.int .i64 0) := (jAb BK141.out 0).trans rfl; have hcz30_1 : w27.cell? ⟨gb141, 1, none⟩ = some (.int .i64 0) := (jAb BK141.out 1).trans rfl; have hcz30_2 : w27.cell? ⟨gb141, 2, none⟩ = some (.int .i64 0) := (jAb BK141.out 2).trans rfl; have hcz30_3 : w27.cell? ⟨gb141, 3, none⟩ = some (.int .i64 0) := (jAb BK141.out 3).trans rfl; have hcz30_4 : w27.cell? ⟨gb141, 4, none⟩ = some (.string (⟨#[]⟩ : ByteArray)) := (jAb BK141.out 4).trans rfl; have hcz30_5 : w27.cell? ⟨gb141, 5, none⟩ = some (.slice none 0 0) := (jAb BK141.out 5).trans rfl; have hfz30_0 := jAg BK141.out 0; have hfz30_1 := jAg BK141.out 1; have hfz30_2 := jAg BK141.out 2; have hfz30_3 := jAg BK141.out 3; have hfz30_4 := jAg BK141.out 4; have hfz30_5 := jAg BK141.out 5) | ((with_reducible refine jBl (f := 45) rfl ?_); refine jCe (some 66) rfl rfl Tryd.func45 (by kernel_rfl) rfl #[.agg #[.int .i64 ((jAq ((jAl l0_1 x24_1).f3) x61_3).f0), .int .i64 ((jAq ((jAl l0_1 x24_1).f3) x61_3).f1), .int .i64 ((jAq ((jAl l0_1 x24_1).f3) x61_3).f2.f0), .int .i64 ((jAq ((jAl l0_1 x24_1).f3) x61_3).f2.f1), .string ((jAq ((jAl l0_1 x24_1).f3) x61_3).f2.f2), .slice A140_5 ((jAq ((jAl l0_1 x24_1).f3) x61_3).f3).length c140_5]] rfl (by (try simp only [List.map_toArray, List.map_cons, List.map_nil]); first | done | rfl | (simp only [List.length_drop, List.length_take]; rfl)) ?_; (with_reducible refine (jCk.calls k3 ((jAq ((jAl l0_1 x24_1).f3) x61_3).f0) ((jAq ((jAl l0_1 x24_1).f3) x61_3).f1) ((jAq ((jAl l0_1 x24_1).f3) x61_3).f2.f0) ((jAq ((jAl l0_1 x24_1).f3) x61_3).f2.f1) ((jAq ((jAl l0_1 x24_1).f3) x61_3).f2.f2) _ _ ((jAq ((jAl l0_1 x24_1).f3) x61_3).f3) true _ ?side1 ?side2 A25.out).mono ?_); (case side1 => exact Kd.C_below HR140_5.out (by repeat (first | (with_reducible first | exact HB.out | apply jAj | apply jAd | apply jAk | refine jAh ?_ GE135.out | refine jAh ?_ GE137.out | refine jAh ?_ GE141.out) | exact HB.out))); (case side2 => exact HC140_5.out); rintro e w31 ⟨rfl, hb⟩; refine ⟨_, rfl, ?_⟩; have n0_ := jAa.mk (jAp (g := gb135) (o := .cells #[.int .i64 a0_0, .slice (some ad136) l0_1.length c0_1, .slice A0_2 l0_2.length c0_2] 25 (0, 0)) (by (with_reducible repeat (first | refine jAf ?_ _ | refine jAi ?_ | refine jAe ?_ _)); refine jBa ?_ NB135_141.out _; (with_reducible repeat (first | refine jAf ?_ _ | refine jAi ?_ | refine jAe ?_ _)); refine jBa ?_ NB135_141.out _; (with_reducible repeat (first | refine jAf ?_ _ | refine jAi ?_ | refine jAe ?_ _)); refine jBa ?_ NB135_141.out _; (with_reducible repeat (first | refine jAf ?_ _ | refine jAi ?_ | refine jAe ?_ _)); refine jBa ?_ NB135_141.out _; (with_reducible repeat (first | refine jAf ?_ _ | refine jAi ?_ | refine jAe ?_ _)); refine jBa ?_ NB135_141.out _; (with_reducible repeat (first | refine jAf ?_ _ | refine jAi ?_ | refine jAe ?_ _)); refine jBa ?_ NB135_141.out _; (with_reducible repeat (first | refine jAf ?_ _ | refine jAi ?_ | refine jAe ?_ _)); exact BK135.out) hb); have n1_ := jAa.mk (jAp (g := gb137) (o := .cells #[.string ((jAl l0_1 x24_1).f0), .int .i64 ((jAl l0_1 x24_1).f1), .slice A136_2 ((jAl l0_1 x24_1).f2).length c136_2, .slice (some ad140) ((jAl l0_1 x24_1).f3).length c136_3] 45 (0, 0)) (by (with_reducible repeat (first | refine jAf ?_ _ | refine jAi ?_ | refine jAe ?_ _)); refine jBa ?_ NB137_141.out _; (with_reducible repeat (first | refine jAf ?_ _ | refine jAi ?_ | refine jAe ?_ _)); refine jBa ?_ NB137_141.out _; (with_reducible repeat (first | refine jAf ?_ _ | refine jAi ?_ | refine jAe ?_ _)); refine jBa ?_ NB137_141.out _; (with_reducible repeat (first | refine jAf ?_ _ | refine jAi ?_ | refine jAe ?_ _)); refine jBa ?_ NB137_141.out _; (with_reducible repeat (first | refine jAf ?_ _ | refine jAi ?_ | refine jAe ?_ _)); refine jBa ?_ NB137_141.out _; (with_reducible repeat (first | refine jAf ?_ _ | refine jAi ?_ | refine jAe ?_ _)); refine jBa ?_ NB137_141.out _; (with_reducible repeat (first | refine jAf ?_ _ | refine jAi ?_ | refine jAe ?_ _)); exact BK137.out) hb); have n2_ := jAa.mk (jAp (g := gb141) (o := .cells #[.int .i64 ((jAq ((jAl l0_1 x24_1).f3) x61_3).f0), .int .i64 ((jAq ((jAl l0_1 x24_1).f3) x61_3).f1), .int .i64 ((jAq ((jAl l0_1 x24_1).f3) x61_3).f2.f0), .int .i64 ((jAq ((jAl l0_1 x24_1).f3) x61_3).f2.f1), .string ((jAq ((jAl l0_1 x24_1).f3) x61_3).f2.f2), .slice A140_5 ((jAq ((jAl l0_1 x24_1).f3) x61_3).f3).length c140_5] 72 (0, 0)) (by (with_reducible repeat (first | refine jAf ?_ _ | refine jAi ?_ | refine jAe ?_ _)); refine jBf (cs := #[.int .i64 ((jAq ((jAl l0_1 x24_1).f3) x61_3).f0), .int .i64 ((jAq ((jAl l0_1 x24_1).f3) x61_3).f1), .int .i64 ((jAq ((jAl l0_1 x24_1).f3) x61_3).f2.f0), .int .i64 ((jAq ((jAl l0_1 x24_1).f3) x61_3).f2.f1), .string ((jAq ((jAl l0_1 x24_1).f3) x61_3).f2.f2), .slice none 0 0]) ?_ 5 _ rfl; (with_reducible repeat (first | refine jAf ?_ _ | refine jAi ?_ | refine jAe ?_ _)); refine jBf (cs := #[.int .i64 ((jAq ((jAl l0_1 x24_1).f3) x61_3).f0), .int .i64 ((jAq ((jAl l0_1 x24_1).f3) x61_3).f1), .int .i64 ((jAq ((jAl l0_1 x24_1).f3) x61_3).f2.f0), .int .i64 ((jAq ((jAl l0_1 x24_1).f3) x61_3).f2.f1), .string (⟨#[]⟩ : ByteArray), .slice none 0 0]) ?_ 4 _ rfl; (with_reducible repeat (first | refine jAf ?_ _ | refine jAi ?_ | refine jAe ?_ _)); refine jBf (cs := #[.int .i64 ((jAq ((jAl l0_1 x24_1).f3) x61_3).f0), .int .i64 ((jAq ((jAl l0_1 x24_1).f3) x61_3).f1), .int .i64 ((jAq ((jAl l0_1 x24_1).f3) x61_3).f2.f0), .int .i64 0, .string (⟨#[]⟩ : ByteArray), .slice none 0 0]) ?_ 3 _ rfl; (with_reducible repeat (first | refine jAf ?_ _ | refine jAi ?_ | refine jAe ?_ _)); refine jBf (cs := #[.int .i64 ((jAq ((jAl l0_1 x24_1).f3) x61_3).f0), .int .i64 ((jAq ((jAl l0_1 x24_1).f3) x61_3).f1), .int .i64 0, .int .i64 0, .string (⟨#[]⟩ : ByteArray), .slice none 0 0]) ?_ 2 _ rfl; (with_reducible repeat (first | refine jAf ?_ _ | refine jAi ?_ | refine jAe ?_ _)); refine jBf (cs := #[.int .i64 ((jAq ((jAl l0_1 x24_1).f3) x61_3).f0), .int .i64 0, .int .i64 0, .int .i64 0, .string (⟨#[]⟩ : ByteArray), .slice none 0 0]) ?_ 1 _ rfl; (with_reducible repeat (first | refine jAf ?_ _ | refine jAi ?_ | refine jAe ?_ _)); refine jBf (cs := #[.int .i64 0, .int .i64 0, .int .i64 0, .int .i64 0, .string (⟨#[]⟩ : ByteArray), .slice none 0 0]) ?_ 0 _ rfl; (with_reducible repeat (first | refine jAf ?_ _ | refine jAi ?_ | refine jAe ?_ _)); exact BK141.out) hb); have n3_ := jAa.mk (jAu (by repeat (first | (with_reducible first | exact HB.out | apply jAj | apply jAd | apply jAk | refine jAh ?_ GE135.out | refine jAh ?_ GE137.out | refine jAh ?_ GE141.out) | exact HB.out)) hb); clear BK135; clear BK137; clear BK141; clear HB; have BK135 := n0_; have BK137 := n1_; have BK141 := n2_; have HB := n3_; clear n0_ n1_ n2_ n3_; (try clear hb); (try clear hb2); (try clear hk); (try clear hi)))
                go_ret
                exact ⟨by first | rfl | (simp [jBd, jBe] <;> rfl) | (simp [*, jBd, jBe] <;> rfl), by repeat (first | (with_reducible first | exact HB.out | apply jAj | apply jAd | apply jAk | refine jAh ?_ GE135.out | refine jAh ?_ GE137.out | refine jAh ?_ GE141.out) | exact HB.out)⟩
               ·replace c26 := Bool.eq_false_iff.mpr c26
                subst c26
                have H1 : (jAz.l2 k3 x3_2 l0_1 (l0_1.length : Int) x24_1 ((jAl l0_1 x24_1).f3) (((jAl l0_1 x24_1).f3).length : Int) (wrap64 (x61_3 + 1)) a0_0 l0_1 l0_2) = some r := by rw [if_neg (show ¬ (false = true) by decide)] at H; exact H
                clear H
                have H := H1
                clear H1
                have H' := jAa.mk H
                clear H
                have p140 : 0 ≤ (x61_3 : Int) := of_decide_eq_true (by first | (with_reducible assumption) | assumption)
                have q140 : x61_3 < (((jAl l0_1 x24_1).f3).length : Int) := of_decide_eq_true (by first | (with_reducible assumption) | assumption)
                obtain ⟨ad140, A140_5, c140_5, e140, hx140_0, hx140_1, hx140_2, hx140_3, hx140_4, hx140_5, hl140_5, hi140_5⟩ := jDx HR136_3.out x61_3 p140 q140
                cases e140
                replace hx140_0 := (HB.out.cell (World.block_lt_of_cell? w _ hx140_0)).trans hx140_0
                replace hx140_1 := (HB.out.cell (World.block_lt_of_cell? w _ hx140_1)).trans hx140_1
                replace hx140_2 := (HB.out.cell (World.block_lt_of_cell? w _ hx140_2)).trans hx140_2
                replace hx140_3 := (HB.out.cell (World.block_lt_of_cell? w _ hx140_3)).trans hx140_3
                replace hx140_4 := (HB.out.cell (World.block_lt_of_cell? w _ hx140_4)).trans hx140_4
                replace hx140_5 := (HB.out.cell (World.block_lt_of_cell? w _ hx140_5)).trans hx140_5
                have HR140_5 := jAa.mk hi140_5
                have HC140_5 := jAa.mk hl140_5
                clear hi140_5 hl140_5
                replace p140 := eq_true p140
                replace q140 := eq_true q140
                go_wp2_with (first | ((with_reducible refine jCa (N := 9) rfl ?_); refine jBv ?hg (N := 9) ?hd (cs := #[.int .i64 0, .int .i64 0, .int .i64 0, .int .i64 0, .string (⟨#[]⟩ : ByteArray), .slice none 0 0]) (t := 72) ?hr ?_; (case hd => rfl); (case hg => rfl); (case hr => first | (go_simp; done) | (go_simp; rfl)); intro gb141 hg w32 hbox hb; have n0_ := jAa.mk (jAp (g := gb135) (o := .cells #[.int .i64 a0_0, .slice (some ad136) l0_1.length c0_1, .slice A0_2 l0_2.length c0_2] 25 (0, 0)) (by (with_reducible repeat (first | refine jAf ?_ _ | refine jAi ?_ | refine jAe ?_ _)); exact BK135.out) hb); have n1_ := jAa.mk (jAp (g := gb137) (o := .cells #[.string ((jAl l0_1 x24_1).f0), .int .i64 ((jAl l0_1 x24_1).f1), .slice A136_2 ((jAl l0_1 x24_1).f2).length c136_2, .slice (some ad140) ((jAl l0_1 x24_1).f3).length c136_3] 45 (0, 0)) (by (with_reducible repeat (first | refine jAf ?_ _ | refine jAi ?_ | refine jAe ?_ _)); exact BK137.out) hb); have n2_ := jAa.mk (jAu (by repeat (first | (with_reducible first | exact HB.out | apply jAj | apply jAd | apply jAk | refine jAh ?_ GE135.out | refine jAh ?_ GE137.out) | exact HB.out)) hb); have n3_ := jAa.mk (hbox); have n4_ := jAa.mk ((by rw [hg]; exact (jBj (by repeat (first | (with_reducible first | exact HB.out | apply jAj | apply jAd | apply jAk | refine jAh ?_ GE135.out | refine jAh ?_ GE137.out) | exact HB.out))) : w.heap.size ≤ gb141)); have n5_ := jAa.mk ((by rw [hg]; exact (jBj (by repeat (first | (with_reducible first | exact HB.out | apply jAj | apply jAd | apply jAk | refine jAh ?_ GE135.out | refine jAh ?_ GE137.out) | exact HB.out))) : w.heap.size ≤ gb141)); have n6_ := jAa.mk ((by rw [hg]; exact Nat.ne_of_lt (jBu (g := gb135) (o := .cells #[.int .i64 a0_0, .slice (some ad136) l0_1.length c0_1, .slice A0_2 l0_2.length c0_2] 25 (0, 0)) (by (with_reducible repeat (first | refine jAf ?_ _ | refine jAi ?_ | refine jAe ?_ _)); exact BK135.out)) : gb135 ≠ gb141)); have n7_ := jAa.mk ((by rw [hg]; exact Nat.ne_of_gt (jBu (g := gb135) (o := .cells #[.int .i64 a0_0, .slice (some ad136) l0_1.length c0_1, .slice A0_2 l0_2.length c0_2] 25 (0, 0)) (by (with_reducible repeat (first | refine jAf ?_ _ | refine jAi ?_ | refine jAe ?_ _)); exact BK135.out)) : gb141 ≠ gb135)); have n8_ := jAa.mk ((by rw [hg]; exact Nat.ne_of_lt (jBu (g := gb137) (o := .cells #[.string ((jAl l0_1 x24_1).f0), .int .i64 ((jAl l0_1 x24_1).f1), .slice A136_2 ((jAl l0_1 x24_1).f2).length c136_2, .slice (some ad140) ((jAl l0_1 x24_1).f3).length c136_3] 45 (0, 0)) (by (with_reducible repeat (first | refine jAf ?_ _ | refine jAi ?_ | refine jAe ?_ _)); exact BK137.out)) : gb137 ≠ gb141)); have n9_ := jAa.mk ((by rw [hg]; exact Nat.ne_of_gt (jBu (g := gb137) (o := .cells #[.string ((jAl l0_1 x24_1).f0), .int .i64 ((jAl l0_1 x24_1).f1), .slice A136_2 ((jAl l0_1 x24_1).f2).length c136_2, .slice (some ad140) ((jAl l0_1 x24_1).f3).length c136_3] 45 (0, 0)) (by (with_reducible repeat (first | refine jAf ?_ _ | refine jAi ?_ | refine jAe ?_ _)); exact BK137.out)) : gb141 ≠ gb137)); clear BK135; clear BK137; clear HB; have BK135 := n0_; have BK137 := n1_; have HB := n2_; have BK141 := n3_; have GW141 := n4_; have GE141 := n5_; have NB135_141 := n6_; have NB141_135 := n7_; have NB137_141 := n8_; have NB141_137 := n9_; clear n0_ n1_ n2_ n3_ n4_ n5_ n6_ n7_ n8_ n9_; clear hb hbox hg; have hnb33 := NB141_135.out; have hnc33 := NB135_141.out; have hnb34 := NB141_137.out; have hnc34 := NB137_141.out; have hcz35_0 : w32.cell? ⟨gb141, 0, none⟩ = some (.int .i64 0) := (jAb BK141.out 0).trans rfl; have hcz35_1 : w32.cell? ⟨gb141, 1, none⟩ = some (.int .i64 0) := (jAb BK141.out 1).trans rfl; have hcz35_2 : w32.cell? ⟨gb141, 2, none⟩ = some (.int .i64 0) := (jAb BK141.out 2).trans rfl; have hcz35_3 : w32.cell? ⟨gb141, 3, none⟩ = some (.int .i64 0) := (jAb BK141.out 3).trans rfl; have hcz35_4 : w32.cell? ⟨gb141, 4, none⟩ = some (.string (⟨#[]⟩ : ByteArray)) := (jAb BK141.out 4).trans rfl; have hcz35_5 : w32.cell? ⟨gb141, 5, none⟩ = some (.slice none 0 0) := (jAb BK141.out 5).trans rfl; have hfz35_0 := jAg BK141.out 0; have hfz35_1 := jAg BK141.out 1; have hfz35_2 := jAg BK141.out 2; have hfz35_3 := jAg BK141.out 3; have hfz35_4 := jAg BK141.out 4; have hfz35_5 := jAg BK141.out 5) | ((with_reducible refine jBl (f := 45) rfl ?_); refine jCe (some 66) rfl rfl Tryd.func45 (by kernel_rfl) rfl #[.agg #[.int .i64 ((jAq ((jAl l0_1 x24_1).f3) x61_3).f0), .int .i64 ((jAq ((jAl l0_1 x24_1).f3) x61_3).f1), .int .i64 ((jAq ((jAl l0_1 x24_1).f3) x61_3).f2.f0), .int .i64 ((jAq ((jAl l0_1 x24_1).f3) x61_3).f2.f1), .string ((jAq ((jAl l0_1 x24_1).f3) x61_3).f2.f2), .slice A140_5 ((jAq ((jAl l0_1 x24_1).f3) x61_3).f3).length c140_5]] rfl (by (try simp only [List.map_toArray, List.map_cons, List.map_nil]); first | done | rfl | (simp only [List.length_drop, List.length_take]; rfl)) ?_; (with_reducible refine (jCk.calls k3 ((jAq ((jAl l0_1 x24_1).f3) x61_3).f0) ((jAq ((jAl l0_1 x24_1).f3) x61_3).f1) ((jAq ((jAl l0_1 x24_1).f3) x61_3).f2.f0) ((jAq ((jAl l0_1 x24_1).f3) x61_3).f2.f1) ((jAq ((jAl l0_1 x24_1).f3) x61_3).f2.f2) _ _ ((jAq ((jAl l0_1 x24_1).f3) x61_3).f3) false _ ?side1 ?side2 A25.out).mono ?_); (case side1 => exact Kd.C_below HR140_5.out (by repeat (first | (with_reducible first | exact HB.out | apply jAj | apply jAd | apply jAk | refine jAh ?_ GE135.out | refine jAh ?_ GE137.out | refine jAh ?_ GE141.out) | exact HB.out))); (case side2 => exact HC140_5.out); rintro e w36 ⟨rfl, hb⟩; refine ⟨_, rfl, ?_⟩; have n0_ := jAa.mk (jAp (g := gb135) (o := .cells #[.int .i64 a0_0, .slice (some ad136) l0_1.length c0_1, .slice A0_2 l0_2.length c0_2] 25 (0, 0)) (by (with_reducible repeat (first | refine jAf ?_ _ | refine jAi ?_ | refine jAe ?_ _)); refine jBa ?_ NB135_141.out _; (with_reducible repeat (first | refine jAf ?_ _ | refine jAi ?_ | refine jAe ?_ _)); refine jBa ?_ NB135_141.out _; (with_reducible repeat (first | refine jAf ?_ _ | refine jAi ?_ | refine jAe ?_ _)); refine jBa ?_ NB135_141.out _; (with_reducible repeat (first | refine jAf ?_ _ | refine jAi ?_ | refine jAe ?_ _)); refine jBa ?_ NB135_141.out _; (with_reducible repeat (first | refine jAf ?_ _ | refine jAi ?_ | refine jAe ?_ _)); refine jBa ?_ NB135_141.out _; (with_reducible repeat (first | refine jAf ?_ _ | refine jAi ?_ | refine jAe ?_ _)); refine jBa ?_ NB135_141.out _; (with_reducible repeat (first | refine jAf ?_ _ | refine jAi ?_ | refine jAe ?_ _)); exact BK135.out) hb); have n1_ := jAa.mk (jAp (g := gb137) (o := .cells #[.string ((jAl l0_1 x24_1).f0), .int .i64 ((jAl l0_1 x24_1).f1), .slice A136_2 ((jAl l0_1 x24_1).f2).length c136_2, .slice (some ad140) ((jAl l0_1 x24_1).f3).length c136_3] 45 (0, 0)) (by (with_reducible repeat (first | refine jAf ?_ _ | refine jAi ?_ | refine jAe ?_ _)); refine jBa ?_ NB137_141.out _; (with_reducible repeat (first | refine jAf ?_ _ | refine jAi ?_ | refine jAe ?_ _)); refine jBa ?_ NB137_141.out _; (with_reducible repeat (first | refine jAf ?_ _ | refine jAi ?_ | refine jAe ?_ _)); refine jBa ?_ NB137_141.out _; (with_reducible repeat (first | refine jAf ?_ _ | refine jAi ?_ | refine jAe ?_ _)); refine jBa ?_ NB137_141.out _; (with_reducible repeat (first | refine jAf ?_ _ | refine jAi ?_ | refine jAe ?_ _)); refine jBa ?_ NB137_141.out _; (with_reducible repeat (first | refine jAf ?_ _ | refine jAi ?_ | refine jAe ?_ _)); refine jBa ?_ NB137_141.out _; (with_reducible repeat (first | refine jAf ?_ _ | refine jAi ?_ | refine jAe ?_ _)); exact BK137.out) hb); have n2_ := jAa.mk (jAp (g := gb141) (o := .cells #[.int .i64 ((jAq ((jAl l0_1 x24_1).f3) x61_3).f0), .int .i64 ((jAq ((jAl l0_1 x24_1).f3) x61_3).f1), .int .i64 ((jAq ((jAl l0_1 x24_1).f3) x61_3).f2.f0), .int .i64 ((jAq ((jAl l0_1 x24_1).f3) x61_3).f2.f1), .string ((jAq ((jAl l0_1 x24_1).f3) x61_3).f2.f2), .slice A140_5 ((jAq ((jAl l0_1 x24_1).f3) x61_3).f3).length c140_5] 72 (0, 0)) (by (with_reducible repeat (first | refine jAf ?_ _ | refine jAi ?_ | refine jAe ?_ _)); refine jBf (cs := #[.int .i64 ((jAq ((jAl l0_1 x24_1).f3) x61_3).f0), .int .i64 ((jAq ((jAl l0_1 x24_1).f3) x61_3).f1), .int .i64 ((jAq ((jAl l0_1 x24_1).f3) x61_3).f2.f0), .int .i64 ((jAq ((jAl l0_1 x24_1).f3) x61_3).f2.f1), .string ((jAq ((jAl l0_1 x24_1).f3) x61_3).f2.f2), .slice none 0 0]) ?_ 5 _ rfl; (with_reducible repeat (first | refine jAf ?_ _ | refine jAi ?_ | refine jAe ?_ _)); refine jBf (cs := #[.int .i64 ((jAq ((jAl l0_1 x24_1).f3) x61_3).f0), .int .i64 ((jAq ((jAl l0_1 x24_1).f3) x61_3).f1), .int .i64 ((jAq ((jAl l0_1 x24_1).f3) x61_3).f2.f0), .int .i64 ((jAq ((jAl l0_1 x24_1).f3) x61_3).f2.f1), .string (⟨#[]⟩ : ByteArray), .slice none 0 0]) ?_ 4 _ rfl; (with_reducible repeat (first | refine jAf ?_ _ | refine jAi ?_ | refine jAe ?_ _)); refine jBf (cs := #[.int .i64 ((jAq ((jAl l0_1 x24_1).f3) x61_3).f0), .int .i64 ((jAq ((jAl l0_1 x24_1).f3) x61_3).f1), .int .i64 ((jAq ((jAl l0_1 x24_1).f3) x61_3).f2.f0), .int .i64 0, .string (⟨#[]⟩ : ByteArray), .slice none 0 0]) ?_ 3 _ rfl; (with_reducible repeat (first | refine jAf ?_ _ | refine jAi ?_ | refine jAe ?_ _)); refine jBf (cs := #[.int .i64 ((jAq ((jAl l0_1 x24_1).f3) x61_3).f0), .int .i64 ((jAq ((jAl l0_1 x24_1).f3) x61_3).f1), .int .i64 0, .int .i64 0, .string (⟨#[]⟩ : ByteArray), .slice none 0 0]) ?_ 2 _ rfl; (with_reducible repeat (first | refine jAf ?_ _ | refine jAi ?_ | refine jAe ?_ _)); refine jBf (cs := #[.int .i64 ((jAq ((jAl l0_1 x24_1).f3) x61_3).f0), .int .i64 0, .int .i64 0, .int .i64 0, .string (⟨#[]⟩ : ByteArray), .slice none 0 0]) ?_ 1 _ rfl; (with_reducible repeat (first | refine jAf ?_ _ | refine jAi ?_ | refine jAe ?_ _)); refine jBf (cs := #[.int .i64 0, .int .i64 0, .int .i64 0, .int .i64 0, .string (⟨#[]⟩ : ByteArray), .slice none 0 0]) ?_ 0 _ rfl; (with_reducible repeat (first | refine jAf ?_ _ | refine jAi ?_ | refine jAe ?_ _)); exact BK141.out) hb); have n3_ := jAa.mk (jAu (by repeat (first | (with_reducible first | exact HB.out | apply jAj | apply jAd | apply jAk | refine jAh ?_ GE135.out | refine jAh ?_ GE137.out | refine jAh ?_ GE141.out) | exact HB.out)) hb); clear BK135; clear BK137; clear BK141; clear HB; have BK135 := n0_; have BK137 := n1_; have BK141 := n2_; have HB := n3_; clear n0_ n1_ n2_ n3_; (try clear hb); (try clear hb2); (try clear hk); (try clear hi)))
                go_roundg k3
                case measure => have := HK1.out; have := HK2.out; have := HK3.out; omega
                case rel => exact ⟨(wrap64 (x61_3 + 1)), (by first | rfl | (simp; done) | (simp [*]; done)), H', ⟨by have := HK1.out; have := HK2.out; have := HK3.out; omega⟩, ⟨by (with_reducible repeat (first | refine jAf ?_ _ | refine jAi ?_ | refine jAe ?_ _)); exact BK135.out⟩, ⟨by (with_reducible repeat (first | refine jAf ?_ _ | refine jAi ?_ | refine jAe ?_ _)); exact BK137.out⟩, ⟨by repeat (first | (with_reducible first | exact HB.out | apply jAj | apply jAd | apply jAk | refine jAh ?_ GE135.out | refine jAh ?_ GE137.out | refine jAh ?_ GE141.out) | exact HB.out)⟩⟩
              ·rw [if_neg c24] at H
               exact absurd H (by simp)
             ·rw [if_neg c23] at H
              exact absurd H (by simp)
            ·rw [if_neg c22] at H
             have c22b0 : decide (x61_3 < (((jAl l0_1 x24_1).f3).length : Int)) = false := decide_eq_false c22
             clear c22
             by_cases c37 : x3_2 > 3000
             ·rw [if_pos c37] at H
              have c37b0 : decide (3000 < x3_2) = true := decide_eq_true c37
              clear c37
              obtain rfl := Option.some.inj H
              go_wp2
              go_ret
              exact ⟨by first | rfl | (simp [jBd, jBe] <;> rfl) | (simp [*, jBd, jBe] <;> rfl), by repeat (first | (with_reducible first | exact HB.out | apply jAj | apply jAd | apply jAk | refine jAh ?_ GE135.out | refine jAh ?_ GE137.out) | exact HB.out)⟩
             ·rw [if_neg c37] at H
              have c37b0 : decide (3000 < x3_2) = false := decide_eq_false c37
              clear c37
              have H' := jAa.mk H
              clear H
              go_wp2
              go_roundg k3
              case measure => have := HK1.out; have := HK2.out; have := HK3.out; omega
              case rel => exact ⟨(x3_2), (wrap64 (x24_1 + 1)), (by first | rfl | (simp; done) | (simp [*]; done)), (by first | rfl | (simp; done) | (simp [*]; done)), H', ⟨by have := HK1.out; have := HK2.out; have := HK3.out; omega⟩, ⟨by (with_reducible repeat (first | refine jAf ?_ _ | refine jAi ?_ | refine jAe ?_ _)); exact BK135.out⟩, ⟨by repeat (first | (with_reducible first | exact HB.out | apply jAj | apply jAd | apply jAk | refine jAh ?_ GE135.out | refine jAh ?_ GE137.out) | exact HB.out)⟩⟩
      ·rw [if_neg c9] at H
       exact absurd H (by simp)
     ·rw [if_neg c8] at H
      exact absurd H (by simp)
    ·rw [if_neg c7] at H
     have c7b0 : decide (x24_1 < (l0_1.length : Int)) = false := decide_eq_false c7
     clear c7
     have H' := jAa.mk H
     clear H
     have hcz38_0 : wr.cell? ⟨gb135, 0, none⟩ = some (.int .i64 a0_0) := (jAb BK135.out 0).trans rfl
     have hcz38_1 : wr.cell? ⟨gb135, 1, none⟩ = some (.slice A0_1 l0_1.length c0_1) := (jAb BK135.out 1).trans rfl
     have hcz38_2 : wr.cell? ⟨gb135, 2, none⟩ = some (.slice A0_2 l0_2.length c0_2) := (jAb BK135.out 2).trans rfl
     have hfz38_0 := jAg BK135.out 0
     have hfz38_1 := jAg BK135.out 1
     have hfz38_2 := jAg BK135.out 2
     go_wp2
     go_loopg [3, 74] k1 (fun kq v3 v74 w' => ∃ (x3_2 : Int) (x74_2 : Int), v3 = .int .i64 x3_2 ∧ v74 = .int .i64 x74_2 ∧ jAa (jAz.l3 kq x3_2 l0_2 (l0_2.length : Int) x74_2 = some r) ∧ jAa (kq ≤ k1) ∧ jAa (w'.heap[gb135]? = some (.cells #[.int .i64 a0_0, (.slice A0_1 l0_1.length c0_1), (.slice A0_2 l0_2.length c0_2)] 25 (0, 0))) ∧ jAa (Below w.heap.size w w'))
     case atStart => exact ⟨(x3_1), (0), (by first | rfl | (simp; done) | (simp [*]; done)), (by first | rfl | (simp; done) | (simp [*]; done)), H', ⟨Nat.le_refl _⟩, ⟨by (with_reducible repeat (first | refine jAf ?_ _ | refine jAi ?_ | refine jAe ?_ _)); exact BK135.out⟩, ⟨by repeat (first | (with_reducible first | exact HB.out | apply jAj | apply jAd | apply jAk | refine jAh ?_ GE135.out) | exact HB.out)⟩⟩
     case round =>
      clear H'
      try clear c1
      try clear p1
      try clear q1
      try clear hx1
      try clear c2
      try clear c2b0
      try clear p2
      try clear c3
      try clear c4
      try clear p6
      try clear c7
      try clear c7b0
      try clear c8
      try clear c8b0
      try clear c9
      try clear c9b0
      try clear c11
      try clear c13
      try clear c13b0
      try clear p13
      try clear q13
      try clear hx13
      try clear c14
      try clear c14b0
      try clear p14
      try clear q14
      try clear hx14
      try clear c15
      try clear c15b0
      try clear c17
      try clear c18
      try clear c20
      try clear c22
      try clear c22b0
      try clear c23
      try clear c23b0
      try clear c24
      try clear c24b0
      try clear c26
      try clear c28
      try clear c29
      try clear c33
      try clear c34
      try clear c37
      try clear c37b0
      try clear hcz12_0
      try clear hcz12_1
      try clear hcz12_2
      try clear hcz12_3
      try clear hcz19_0
      try clear hcz19_1
      try clear hcz19_2
      try clear hcz19_3
      try clear hcz19_4
      try clear hcz19_5
      try clear hcz21_0
      try clear hcz21_1
      try clear hcz21_2
      try clear hcz21_3
      try clear hcz30_0
      try clear hcz30_1
      try clear hcz30_2
      try clear hcz30_3
      try clear hcz30_4
      try clear hcz30_5
      try clear hcz35_0
      try clear hcz35_1
      try clear hcz35_2
      try clear hcz35_3
      try clear hcz35_4
      try clear hcz35_5
      try clear hcz38_0
      try clear hcz38_1
      try clear hcz38_2
      try clear hcz4_0
      try clear hcz4_1
      try clear hcz4_2
      try clear hcz6_0
      try clear hcz6_1
      try clear hcz6_2
      try clear hfz12_0
      try clear hfz12_1
      try clear hfz12_2
      try clear hfz12_3
      try clear hfz19_0
      try clear hfz19_1
      try clear hfz19_2
      try clear hfz19_3
      try clear hfz19_4
      try clear hfz19_5
      try clear hfz21_0
      try clear hfz21_1
      try clear hfz21_2
      try clear hfz21_3
      try clear hfz30_0
      try clear hfz30_1
      try clear hfz30_2
      try clear hfz30_3
      try clear hfz30_4
      try clear hfz30_5
      try clear hfz35_0
      try clear hfz35_1
      try clear hfz35_2
      try clear hfz35_3
      try clear hfz35_4
      try clear hfz35_5
      try clear hfz38_0
      try clear hfz38_1
      try clear hfz38_2
      try clear hfz4_0
      try clear hfz4_1
      try clear hfz4_2
      try clear hfz6_0
      try clear hfz6_1
      try clear hfz6_2
      try clear hx136_0
      try clear hx136_1
      try clear hx136_2
      try clear hx136_3
      try clear hx138_0
      try clear hx138_1
      try clear hx138_2
      try clear hx138_3
      try clear hx138_4
      try clear hx138_5
      try clear hx140_0
      try clear hx140_1
      try clear hx140_2
      try clear hx140_3
      try clear hx140_4
      try clear hx140_5
      try clear p1
      try clear p13
      try clear p136
      try clear p138
      try clear p140
      try clear p2
      try clear p6
      try clear q1
      try clear q13
      try clear q136
      try clear q138
      try clear q140
      obtain ⟨x3_2, x74_2, rfl, rfl, HA, HK2, BK135, HB⟩ := hrel
      cases gk with
      | zero => exact absurd HA.out (by simp [jAz.l3])
      | succ k2 =>
       have H := HA.out
       clear HA
       simp only [jAz.l3] at H
       by_cases c39 : x74_2 < (l0_2.length : Int)
       ·rw [if_pos c39] at H
        have c39b0 : decide (x74_2 < (l0_2.length : Int)) = true := decide_eq_true c39
        clear c39
        by_cases c40 : 0 ≤ x74_2
        ·rw [if_pos c40] at H
         have c40b0 : decide (0 ≤ x74_2) = true := decide_eq_true c40
         clear c40
         by_cases c41 : x74_2 < (l0_2.length : Int)
         ·rw [if_pos c41] at H
          have c41b0 : decide (x74_2 < (l0_2.length : Int)) = true := decide_eq_true c41
          clear c41
          have H' := jAa.mk H
          clear H
          have p143 : 0 ≤ (x74_2 : Int) := of_decide_eq_true (by first | (with_reducible assumption) | assumption)
          have q143 : x74_2 < (l0_2.length : Int) := of_decide_eq_true (by first | (with_reducible assumption) | assumption)
          obtain ⟨ad143, e143, hx143_0, hx143_1, hx143_2⟩ := at_T27 HR0_2.out x74_2 p143 q143
          cases e143
          replace hx143_0 := (HB.out.cell (World.block_lt_of_cell? w _ hx143_0)).trans hx143_0
          replace hx143_1 := (HB.out.cell (World.block_lt_of_cell? w _ hx143_1)).trans hx143_1
          replace hx143_2 := (HB.out.cell (World.block_lt_of_cell? w _ hx143_2)).trans hx143_2
          replace p143 := eq_true p143
          replace q143 := eq_true q143
          go_wp2_with (first | ((with_reducible refine jCa (N := 11) rfl ?_); refine jBv ?hg (N := 11) ?hd (cs := #[.int .i64 0, .string (⟨#[]⟩ : ByteArray), .int .i64 0]) (t := 27) ?hr ?_; (case hd => rfl); (case hg => rfl); (case hr => first | (go_simp; done) | (go_simp; rfl)); intro gb144 hg w42 hbox hb; have n0_ := jAa.mk (jAp (g := gb135) (o := .cells #[.int .i64 a0_0, .slice A0_1 l0_1.length c0_1, .slice (some ad143) l0_2.length c0_2] 25 (0, 0)) (by (with_reducible repeat (first | refine jAf ?_ _ | refine jAi ?_ | refine jAe ?_ _)); exact BK135.out) hb); have n1_ := jAa.mk (jAu (by repeat (first | (with_reducible first | exact HB.out | apply jAj | apply jAd | apply jAk | refine jAh ?_ GE135.out) | exact HB.out)) hb); have n2_ := jAa.mk (hbox); have n3_ := jAa.mk ((by rw [hg]; exact (jBj (by repeat (first | (with_reducible first | exact HB.out | apply jAj | apply jAd | apply jAk | refine jAh ?_ GE135.out) | exact HB.out))) : w.heap.size ≤ gb144)); have n4_ := jAa.mk ((by rw [hg]; exact (jBj (by repeat (first | (with_reducible first | exact HB.out | apply jAj | apply jAd | apply jAk | refine jAh ?_ GE135.out) | exact HB.out))) : w.heap.size ≤ gb144)); have n5_ := jAa.mk ((by rw [hg]; exact Nat.ne_of_lt (jBu (g := gb135) (o := .cells #[.int .i64 a0_0, .slice A0_1 l0_1.length c0_1, .slice (some ad143) l0_2.length c0_2] 25 (0, 0)) (by (with_reducible repeat (first | refine jAf ?_ _ | refine jAi ?_ | refine jAe ?_ _)); exact BK135.out)) : gb135 ≠ gb144)); have n6_ := jAa.mk ((by rw [hg]; exact Nat.ne_of_gt (jBu (g := gb135) (o := .cells #[.int .i64 a0_0, .slice A0_1 l0_1.length c0_1, .slice (some ad143) l0_2.length c0_2] 25 (0, 0)) (by (with_reducible repeat (first | refine jAf ?_ _ | refine jAi ?_ | refine jAe ?_ _)); exact BK135.out)) : gb144 ≠ gb135)); clear BK135; clear HB; have BK135 := n0_; have HB := n1_; have BK144 := n2_; have GW144 := n3_; have GE144 := n4_; have NB135_144 := n5_; have NB144_135 := n6_; clear n0_ n1_ n2_ n3_ n4_ n5_ n6_; clear hb hbox hg; have hnb43 := NB144_135.out; have hnc43 := NB135_144.out; have hcz44_0 : w42.cell? ⟨gb144, 0, none⟩ = some (.int .i64 0) := (jAb BK144.out 0).trans rfl; have hcz44_1 : w42.cell? ⟨gb144, 1, none⟩ = some (.string (⟨#[]⟩ : ByteArray)) := (jAb BK144.out 1).trans rfl; have hcz44_2 : w42.cell? ⟨gb144, 2, none⟩ = some (.int .i64 0) := (jAb BK144.out 2).trans rfl; have hfz44_0 := jAg BK144.out 0; have hfz44_1 := jAg BK144.out 1; have hfz44_2 := jAg BK144.out 2))
          go_roundg k2
          case measure => have := HK1.out; have := HK2.out; omega
          case rel => exact ⟨(wrap64 (x3_2 + (((jCf l0_2 x74_2).f1).size : Int))), (wrap64 (x74_2 + 1)), (by first | rfl | (simp; done) | (simp [*]; done)), (by first | rfl | (simp; done) | (simp [*]; done)), H', ⟨by have := HK1.out; have := HK2.out; omega⟩, ⟨by (with_reducible repeat (first | refine jAf ?_ _ | refine jAi ?_ | refine jAe ?_ _)); refine jBa ?_ NB135_144.out _; (with_reducible repeat (first | refine jAf ?_ _ | refine jAi ?_ | refine jAe ?_ _)); refine jBa ?_ NB135_144.out _; (with_reducible repeat (first | refine jAf ?_ _ | refine jAi ?_ | refine jAe ?_ _)); refine jBa ?_ NB135_144.out _; (with_reducible repeat (first | refine jAf ?_ _ | refine jAi ?_ | refine jAe ?_ _)); exact BK135.out⟩, ⟨by repeat (first | (with_reducible first | exact HB.out | apply jAj | apply jAd | apply jAk | refine jAh ?_ GE135.out | refine jAh ?_ GE144.out) | exact HB.out)⟩⟩
         ·rw [if_neg c41] at H
          exact absurd H (by simp)
        ·rw [if_neg c40] at H
         exact absurd H (by simp)
       ·rw [if_neg c39] at H
        have c39b0 : decide (x74_2 < (l0_2.length : Int)) = false := decide_eq_false c39
        clear c39
        obtain rfl := Option.some.inj H
        go_wp2
        go_ret
        exact ⟨by first | rfl | (simp [jBd, jBe] <;> rfl) | (simp [*, jBd, jBe] <;> rfl), by repeat (first | (with_reducible first | exact HB.out | apply jAj | apply jAd | apply jAk | refine jAh ?_ GE135.out) | exact HB.out)⟩
end Go.Proofs.YtefdfgmlmjnmlaaDoor.Rf
end

section
namespace Go.Proofs.YtefdfgmlmjnmlaaDoor.My
open Go.RowKit Go.Proofs.YtefdfgmlmjnmlaaDoorW.PrintWords Go.Proofs.YtefdfgmlmjnmlaaDoor.Rf
/-- An expression whose lists are no longer than can be. -/
inductive OkE : S72 → Prop
  | mk (e : S72) (hl : e.f3.length ≤ 9223372036854775807) (h : ∀ x, x ∈ e.f3 → OkE x) : OkE e
theorem OkE.len {e : S72} (h : OkE e) : e.f3.length ≤ 9223372036854775807 := by cases h; assumption
theorem OkE.sub {e x : S72} (h : OkE e) (hx : x ∈ e.f3) : OkE x := by cases h with | mk _ _ h => exact h x hx
theorem jCn {α : Type} {l : List α} {z : α} {i : Nat} (h : i < l.length) : l.getD i z ∈ l := by
  simp [List.getD, List.getElem?_eq_getElem h]
theorem jEb (l : List S72) (i : Nat) : jAq l (i : Int) = l.getD i z72 := rfl
theorem rd59_nat (l : List S59) (i : Nat) : jBn l (i : Int) = l.getD i z59 := rfl
theorem C_each {α : Type} {d : Kd α} {w : World} {A : Option Addr} {n : Nat} {xs : List α} (h : d.C w A n xs) {x : α} (hx : x ∈ xs) : ∃ c, d.K w x c := by
  obtain ⟨i, hi, rfl⟩ := List.getElem_of_mem hx
  have hl := Kd.C_len h
  obtain ⟨ad, c, _, _, hK, _⟩ := Kd.C_get h xs[i] (i : Int) (by omega) (by omega)
  refine ⟨c, ?_⟩
  simpa [List.getD, List.getElem?_eq_getElem hi] using hK
theorem okE_upto {w : World} : ∀ n x cs, (Kd.upto F72 6 [72] n).K w x cs → OkE x := by
  intro n
  induction n with
  | zero => intro x cs h; exact h.elim
  | succ n ih =>
    intro x cs h
    obtain ⟨_, _, rfl, rfl, ⟨_, _, rfl, rfl, ⟨_, _, rfl, s2, ⟨A5, c5, rfl, l5, g5⟩⟩⟩⟩ := h
    refine OkE.mk x (Kd.C_max g5) (fun y hy => ?_)
    obtain ⟨c, hc⟩ := C_each g5 hy
    exact ih y c hc
theorem okE_of {w : World} {x : S72} {cs : List Value} (h : k72.K w x cs) : OkE x := by
  obtain ⟨n, h⟩ := h
  exact okE_upto n x cs h
structure OkT (t : S45) : Prop where
  cols : t.f2.length ≤ 9223372036854775807
  checks : t.f3.length ≤ 9223372036854775807
  each : ∀ x, x ∈ t.f3 → OkE x
theorem okT_of {w : World} {t : S45} {cs : List Value} (h : k45.K w t cs) : OkT t := by
  obtain ⟨A2, c2, A3, c3, rfl, l2, g2, l3, g3⟩ := k45_open h
  refine ⟨Kd.C_max g2, Kd.C_max g3, fun x hx => ?_⟩
  obtain ⟨c, hc⟩ := C_each g3 hx
  exact okE_of hc
theorem size_l0 (l : List S72) (hl : l.length ≤ 9223372036854775807) (h : ∀ x, x ∈ l → ∃ r, Ev (fun k => jBp.f k x.f0 x.f1 x.f2.f0 x.f2.f1 x.f2.f2 x.f3) r) : ∀ d i a b, i + d = l.length →
    ∃ r, Ev (fun k => jBp.l0 k a b l (l.length : Int) (i : Int)) r := by
  intro d
  induction d with
  | zero =>
    intro i a b hi
    exact ⟨_, Ev.step (f := fun _ => some (a, wrap64 (b + 1))) (fun k => by simp only [jBp.l0]; rw [if_neg (by omega)]) (Ev.now _)⟩
  | succ d ih =>
    intro i a b hi
    have hlt : i < l.length := by omega
    obtain ⟨r, hr⟩ := h _ (jCn (z := z72) hlt)
    obtain ⟨r', hr'⟩ := ih (i + 1) (wrap64 (a + r.1)) (mx b r.2) (by omega)
    refine ⟨r', Ev.step (fun k => ?_) (Ev.bind (f := fun k bt => jBp.l0 k (wrap64 (a + bt.1)) (mx b bt.2) l (l.length : Int) ((i + 1 : Nat) : Int)) hr hr')⟩
    simp only [jBp.l0]
    rw [if_pos (by omega), if_pos (by omega), if_pos (by omega), jEb]
    simp only [jCr hlt hl]
theorem size_ev {e : S72} (h : OkE e) : ∃ r, Ev (fun k => jBp.f k e.f0 e.f1 e.f2.f0 e.f2.f1 e.f2.f2 e.f3) r := by
  induction h with
  | mk e hl _ ih =>
    obtain ⟨r, hr⟩ := size_l0 e.f3 hl ih e.f3.length 0 1 0 (by omega)
    exact ⟨r, Ev.step (fun k => by simp only [jBp.f]; rfl) hr⟩
theorem long_l0 (a b c d' : Int) (s : ByteArray) (q l : List S72) (hl : l.length ≤ 9223372036854775807) (h : ∀ x, x ∈ l → ∃ r, Ev (fun k => jBo.f k x.f0 x.f1 x.f2.f0 x.f2.f1 x.f2.f2 x.f3) r) : ∀ d i, i + d = l.length →
    ∃ r, Ev (fun k => jBo.l0 k l (l.length : Int) (i : Int) a b c d' s q) r := by
  intro d
  induction d with
  | zero =>
    intro i hi
    exact ⟨_, Ev.step (f := fun _ => some (decide ((s.size : Int) > 200))) (fun k => by simp only [jBo.l0]; rw [if_neg (by omega)]) (Ev.now _)⟩
  | succ d ih =>
    intro i hi
    have hlt : i < l.length := by omega
    obtain ⟨r, hr⟩ := h _ (jCn (z := z72) hlt)
    obtain ⟨r', hr'⟩ := ih (i + 1) (by omega)
    have hstep : ∀ k, jBo.l0 (k + 1) l (l.length : Int) (i : Int) a b c d' s q = (jBo.f k (l.getD i z72).f0 (l.getD i z72).f1 (l.getD i z72).f2.f0 (l.getD i z72).f2.f1 (l.getD i z72).f2.f2 (l.getD i z72).f3).bind fun t => if t = true then some true else jBo.l0 k l (l.length : Int) ((i + 1 : Nat) : Int) a b c d' s q := by
      intro k
      simp only [jBo.l0]
      rw [if_pos (by omega), if_pos (by omega), if_pos (by omega), jEb, jCr hlt hl]
    cases r with
    | true => exact ⟨true, Ev.step hstep (Ev.bind hr (Ev.now _))⟩
    | false => exact ⟨r', Ev.step hstep (Ev.bind hr (by simpa using hr'))⟩
theorem long_ev {e : S72} (h : OkE e) : ∃ r, Ev (fun k => jBo.f k e.f0 e.f1 e.f2.f0 e.f2.f1 e.f2.f2 e.f3) r := by
  induction h with
  | mk e hl _ ih =>
    obtain ⟨r, hr⟩ := long_l0 e.f0 e.f1 e.f2.f0 e.f2.f1 e.f2.f2 e.f3 e.f3 hl ih e.f3.length 0 (by omega)
    exact ⟨r, Ev.step (fun k => by simp only [jBo.f]; rfl) hr⟩
theorem great8_ev {e : S72} (h : OkE e) : ∃ r, Ev (fun k => jCk.f k e.f0 e.f1 e.f2.f0 e.f2.f1 e.f2.f2 e.f3) r := by
  obtain ⟨r, hr⟩ := size_ev h
  obtain ⟨r', hr'⟩ := long_ev h
  by_cases h1 : r.1 > 300
  · exact ⟨true, Ev.bind hr (by simpa [h1] using Ev.now true)⟩
  · by_cases h2 : r.2 > 60
    · exact ⟨true, Ev.bind hr (by simpa [h1, h2] using Ev.now true)⟩
    · exact ⟨r', Ev.bind hr (by simpa [h1, h2] using Ev.bind hr' (Ev.now r'))⟩
theorem great_l3 (gs : List S27) (hl : gs.length ≤ 9223372036854775807) : ∀ d i a, i + d = gs.length → ∃ r, Ev (fun k => jAz.l3 k a gs (gs.length : Int) (i : Int)) r := by
  intro d
  induction d with
  | zero =>
    intro i a hi
    exact ⟨_, Ev.step (f := fun _ => some (decide (a > 3000))) (fun k => by simp only [jAz.l3]; rw [if_neg (by omega)]) (Ev.now _)⟩
  | succ d ih =>
    intro i a hi
    have hlt : i < gs.length := by omega
    obtain ⟨r, hr⟩ := ih (i + 1) (wrap64 (a + ((jCf gs (i : Int)).f1.size : Int))) (by omega)
    refine ⟨r, Ev.step (fun k => ?_) hr⟩
    simp only [jAz.l3]
    rw [if_pos (by omega), if_pos (by omega), if_pos (by omega), jCr hlt hl]
theorem great_l2 (ts : List S45) (n : Int) (i0 : Int) (v : Int) (q : List S45) (gs : List S27) (l : List S72) (hl : l.length ≤ 9223372036854775807) (h : ∀ x, x ∈ l → OkE x) (a : Int)
    (hnext : ∃ r, Ev (fun k => jAz.l0 k a ts n (wrap64 (i0 + 1)) v q gs) r) : ∀ d i, i + d = l.length →
    ∃ r, Ev (fun k => jAz.l2 k a ts n i0 l (l.length : Int) (i : Int) v q gs) r := by
  intro d
  induction d with
  | zero =>
    intro i hi
    by_cases h3 : a > 3000
    · exact ⟨_, Ev.step (f := fun _ => some true) (fun k => by simp only [jAz.l2]; rw [if_neg (by omega), if_pos h3]) (Ev.now _)⟩
    · obtain ⟨r, hr⟩ := hnext
      exact ⟨r, Ev.step (fun k => by simp only [jAz.l2]; rw [if_neg (by omega), if_neg h3]) hr⟩
  | succ d ih =>
    intro i hi
    have hlt : i < l.length := by omega
    obtain ⟨r, hr⟩ := great8_ev (h _ (jCn (z := z72) hlt))
    obtain ⟨r', hr'⟩ := ih (i + 1) (by omega)
    have hstep : ∀ k, jAz.l2 (k + 1) a ts n i0 l (l.length : Int) (i : Int) v q gs = (jCk.f k (l.getD i z72).f0 (l.getD i z72).f1 (l.getD i z72).f2.f0 (l.getD i z72).f2.f1 (l.getD i z72).f2.f2 (l.getD i z72).f3).bind fun t => if t = true then some true else jAz.l2 k a ts n i0 l (l.length : Int) ((i + 1 : Nat) : Int) v q gs := by
      intro k
      simp only [jAz.l2]
      rw [if_pos (by omega), if_pos (by omega), if_pos (by omega), jEb, jCr hlt hl]
    cases r with
    | true => exact ⟨true, Ev.step hstep (Ev.bind hr (Ev.now _))⟩
    | false => exact ⟨r', Ev.step hstep (Ev.bind hr (by simpa using hr'))⟩
theorem great_l1 (ts : List S45) (n : Int) (i0 : Int) (v : Int) (q : List S45) (gs : List S27) (nm : ByteArray) (o : Int) (c2 : List S59) (cks : List S72) (cols : List S59) (hl : cols.length ≤ 9223372036854775807)
    (hnext : ∀ a, ∃ r, Ev (fun k => jAz.l2 k a ts n i0 cks (cks.length : Int) 0 v q gs) r) : ∀ d i a, i + d = cols.length →
    ∃ r, Ev (fun k => jAz.l1 k a ts n i0 cols (cols.length : Int) (i : Int) v q gs nm o c2 cks) r := by
  intro d
  induction d with
  | zero =>
    intro i a hi
    obtain ⟨r, hr⟩ := hnext a
    exact ⟨r, Ev.step (fun k => by simp only [jAz.l1]; rw [if_neg (by omega)]) hr⟩
  | succ d ih =>
    intro i a hi
    have hlt : i < cols.length := by omega
    obtain ⟨r, hr⟩ := ih (i + 1) (wrap64 ((wrap64 (a + ((jBn cols (i : Int)).f0.size : Int))) + ((jBn cols (i : Int)).f4.size : Int))) (by omega)
    refine ⟨r, Ev.step (fun k => ?_) hr⟩
    simp only [jAz.l1]
    rw [if_pos (by omega), if_pos (by omega), if_pos (by omega), jCr hlt hl]
theorem great_l0 (v : Int) (q : List S45) (gs : List S27) (ts : List S45) (hl : ts.length ≤ 9223372036854775807) (hg : gs.length ≤ 9223372036854775807) (h : ∀ t, t ∈ ts → OkT t) : ∀ d i a, i + d = ts.length →
    ∃ r, Ev (fun k => jAz.l0 k a ts (ts.length : Int) (i : Int) v q gs) r := by
  intro d
  induction d with
  | zero =>
    intro i a hi
    obtain ⟨r, hr⟩ := great_l3 gs hg gs.length 0 a (by omega)
    exact ⟨r, Ev.step (fun k => by simp only [jAz.l0]; rw [if_neg (by omega)]; rfl) hr⟩
  | succ d ih =>
    intro i a hi
    have hlt : i < ts.length := by omega
    have hT := h _ (jCn (z := z45) hlt)
    obtain ⟨r, hr⟩ := great_l1 ts (ts.length : Int) (i : Int) v q gs (ts.getD i z45).f0 (ts.getD i z45).f1 (ts.getD i z45).f2 (ts.getD i z45).f3 (ts.getD i z45).f2 hT.cols
      (fun b => great_l2 ts (ts.length : Int) (i : Int) v q gs (ts.getD i z45).f3 hT.checks hT.each b (by rw [jCr hlt hl]; exact ih (i + 1) b (by omega)) (ts.getD i z45).f3.length 0 (by omega)) (ts.getD i z45).f2.length 0
      (wrap64 ((wrap64 ((wrap64 (a + ((ts.getD i z45).f0.size : Int))) + ((ts.getD i z45).f2.length : Int))) + ((ts.getD i z45).f3.length : Int))) (by omega)
    refine ⟨r, Ev.step (fun k => ?_) hr⟩
    simp only [jAz.l0]
    rw [if_pos (by omega), if_pos (by omega), if_pos (by omega), jGi]
    rfl
theorem great_ev (v : Int) (ts : List S45) (gs : List S27) (hl : ts.length ≤ 9223372036854775807) (hg : gs.length ≤ 9223372036854775807) (h : ∀ t, t ∈ ts → OkT t) : ∃ r, Ev (fun k => jAz.f k v ts gs) r := by
  by_cases h1 : wrap64 ((ts.length : Int) + (gs.length : Int)) > 200
  · exact ⟨true, 0, fun k _ => by simp only [jAz.f]; rw [if_pos h1]⟩
  · obtain ⟨r, hr⟩ := great_l0 v ts gs ts hl hg h ts.length 0 (wrap64 ((ts.length : Int) + (gs.length : Int))) (by omega)
    exact ⟨r, Ev.congr (fun k => by simp only [jAz.f]; rw [if_neg h1]; rfl) hr⟩
end Go.Proofs.YtefdfgmlmjnmlaaDoor.My
end

section
set_option linter.unusedSimpArgs false
set_option maxRecDepth 10000
namespace Go.Proofs.YtefdfgmlmjnmlaaDoor.My
open Go.RowKit Go.Proofs.YtefdfgmlmjnmlaaDoorW.PrintWords Go.Proofs.YtefdfgmlmjnmlaaDoor.Rf
open Go.Proofs.YtefdfgmlmjnmlaaDoor
inductive All2 {α β : Type} (Q : α → β → Prop) : List α → List β → Prop
  | nil : All2 Q [] []
  | cons {a b l m} : Q a b → All2 Q l m → All2 Q (a :: l) (b :: m)
theorem all2_of {α β : Type} {Q : α → β → Prop} : ∀ (l : List α) (m : List β), l.length = m.length → (∀ (i : Nat) a b, l[i]? = some a → m[i]? = some b → Q a b) → All2 Q l m := by
  intro l
  induction l with
  | nil => intro m h _; cases m with
    | nil => exact .nil
    | cons b m => simp at h
  | cons a l ih => intro m h hq; cases m with
    | nil => simp at h
    | cons b m => exact .cons (hq 0 a b rfl rfl) (ih m (by simpa using h) (fun i a' b' h1 h2 => hq (i + 1) a' b' (by simpa using h1) (by simpa using h2)))
theorem jDj {H : Type} (d : DataW H) : 1 ≤ Rows.uptoBulk d := by
  cases d with
  | lit l => cases l <;> simp [Rows.uptoBulk]
  | nil => simp [Rows.uptoBulk]
  | ptr d => simp [Rows.uptoBulk]
  | slice elems spare => simp [Rows.uptoBulk]
  | agg parts => simp [Rows.uptoBulk]
  | iface t d => simp [Rows.uptoBulk]
  | map entries => simp [Rows.uptoBulk]
  | held h => simp [Rows.uptoBulk]
section
variable {H : Type} {enc : TypeId × Value → H} {w : World} {b : Nat} {sp : Nat → Bool} {held : Bool}
/-- A slice's reading, element by element with its datum. -/
theorem jEt {α : Type} {d : Kd α} {Q : α → DataW H → Prop} {t e : TypeId} (ht : Tryd.prog.underlying t = some (.slice e)) (hc : Tryd.prog.cellsOf e = d.sz) {fuel : Nat} {cs : List Value} {x : DataW H × List MemPlace}
    (h : DataW.trod enc Tryd.prog w b sp held fuel t cs = some x) (he : ∀ m, m < fuel → ∀ cs x, DataW.trod enc Tryd.prog w b sp held m e cs = some x → ∃ y, d.K w y cs ∧ Q y x.1) :
    ∃ A c l es, cs = [.slice A l.length c] ∧ l.length ≤ c ∧ Kd.C d w A l.length l ∧ All2 Q l es ∧ Rows.uptoBulkAll es + 1 ≤ Rows.uptoBulk x.1 := by
  rcases DataW.trod_slice ht h with ⟨rfl, rfl⟩ | ⟨a, len, cap, elems, rest, n, rfl, rfl, rfl, hb, hl, hm, hlen, hel, _, _⟩
  · exact ⟨none, 0, [], [], rfl, Nat.le_refl _, Kd.C_nil _ _, .nil, by simp [Rows.uptoBulk, Rows.uptoBulkAll]⟩
  · obtain ⟨l, hl1, hl2⟩ := list_of (P := fun i y => ∃ c z, elems[i]? = some z ∧ c.length = d.sz ∧ d.K w y c ∧ (∀ (j : Nat) u, c[j]? = some u → w.cell? (a.add (i * d.sz + j)) = some u) ∧ Q y z.1) len (fun i hi => by
      have h1 := hel i hi
      rw [List.getElem?_eq_getElem (by omega), Option.bind_eq_some_iff] at h1
      obtain ⟨c, h2, h3⟩ := h1
      obtain ⟨y, hK, hQ⟩ := he n (by omega) _ _ h3
      obtain ⟨h4, h5⟩ := cells_each h2
      refine ⟨y, c, _, List.getElem?_eq_getElem (by omega), h4.trans hc, hK, fun j u hu => ?_, hQ⟩
      rw [← Addr.add_add, ← hc]
      exact h5 j u hu)
    refine ⟨some a, cap, l, elems.map (·.1), by rw [hl1], by omega, ⟨rfl, by rw [hl1]; exact Nat.le_trans hl hm, fun _ => ⟨a, rfl, fun j p hp => ?_⟩⟩, all2_of _ _ (by rw [hl1, List.length_map, hlen]) (fun i y z hy hz => ?_), by simp only [Rows.uptoBulk]; omega⟩
    · obtain ⟨c, _, _, h1, h2, h3, _⟩ := hl2 j p hp
      exact ⟨c, h1, h2, h3⟩
    · obtain ⟨_, z', h1, _, _, _, h4⟩ := hl2 i y hy
      rw [List.getElem?_map, h1] at hz
      simp only [Option.map_some, Option.some.injEq] at hz
      exact hz ▸ h4
end
end Go.Proofs.YtefdfgmlmjnmlaaDoor.My
end

section
namespace Go.Proofs.YtefdfgmlmjnmlaaDoor.Rf
open Go.RowKit Go.Proofs.YtefdfgmlmjnmlaaDoorW.PrintWords
theorem info59 : (Tryd.prog.info? 59).map (fun i => (i.zero, i.size, i.bytes)) = some (some (.agg #[(.string ⟨#[]⟩), (.int .i64 0), (.bool false), (.bool false), (.string ⟨#[]⟩), (.int .i64 0)]), 6, 56) := by kernel_rfl
theorem info72 : (Tryd.prog.info? 72).map (fun i => (i.zero, i.size, i.bytes)) = some (some (.agg #[(.int .i64 0), (.int .i64 0), (.int .i64 0), (.int .i64 0), (.string ⟨#[]⟩), (.slice none 0 0)]), 6, 72) := by kernel_rfl
end Go.Proofs.YtefdfgmlmjnmlaaDoor.Rf
end

section
set_option linter.unusedVariables false
set_option linter.unusedSimpArgs false
namespace Go.Proofs.YtefdfgmlmjnmlaaDoor.Rf
open Go.RowKit Go.Proofs.YtefdfgmlmjnmlaaDoorW.PrintWords Go.Proofs.YtefdfgmlmjnmlaaDoorW.PrintLast Go.Proofs.YtefdfgmlmjnmlaaDoorW.PrintMore
attribute [local go_sem] jCg jCo
def jCl.f (a0 : Int) : Option (Int) := if a0 ≥ 0 then (some (IntKind.u64.wrap (2 * (IntKind.u64.wrap (a0))))) else (some (IntKind.u64.wrap ((IntKind.u64.wrap (2 * (IntKind.u64.wrap (wrap64 (-(wrap64 (a0 + 1))))))) + 1)))
set_option maxHeartbeats 8000000 in
set_option maxRecDepth 100000 in
theorem jCl.calls (a0 : Int) (r : Int) (w : World) (h : jCl.f a0 = some r) :
  Calls Tryd.prog 99 #[.int .i64 a0] w fun e w' => e = .returned (.int .u64 r) ∧ jDp w w' := by
 have H : (if a0 ≥ 0 then (some (IntKind.u64.wrap (2 * (IntKind.u64.wrap (a0))))) else (some (IntKind.u64.wrap ((IntKind.u64.wrap (2 * (IntKind.u64.wrap (wrap64 (-(wrap64 (a0 + 1))))))) + 1)))) = some r := h
 clear h
 by_cases c2 : a0 ≥ 0
 ·rw [if_pos c2] at H
  have c2b0 : decide (0 ≤ a0) = true := decide_eq_true c2
  clear c2
  obtain rfl := Option.some.inj H
  go_enter Tryd.func99, Tryd.ntmps99
  go_wp2
  go_ret
  exact ⟨by first | rfl | (simp; done) | (simp [*]; done), by repeat (first | exact jDp.refl _ | apply jDp.step)⟩
 ·rw [if_neg c2] at H
  have c2b0 : decide (0 ≤ a0) = false := decide_eq_false c2
  clear c2
  obtain rfl := Option.some.inj H
  go_enter Tryd.func99, Tryd.ntmps99
  go_wp2
  go_ret
  exact ⟨by first | rfl | (simp; done) | (simp [*]; done), by repeat (first | exact jDp.refl _ | apply jDp.step)⟩
end Go.Proofs.YtefdfgmlmjnmlaaDoor.Rf
end

section
set_option linter.unusedVariables false
set_option linter.unusedSimpArgs false
namespace Go.Proofs.YtefdfgmlmjnmlaaDoor.Rf
open Go.RowKit Go.Proofs.YtefdfgmlmjnmlaaDoorW.PrintWords Go.Proofs.YtefdfgmlmjnmlaaDoorW.PrintLast Go.Proofs.YtefdfgmlmjnmlaaDoorW.PrintMore
attribute [local go_sem] jCg jCo
def jAr.l0 : Nat → Int → ByteArray → Option (ByteArray)
 | 0, _, _ => none
 | k + 1, x3, x4 => if x3 ≥ 128 then ((some (([(IntKind.u64.wrap (128 + (Int.tmod x3 128))) % 256] : List Int) : List Int)).bind fun y298 => (if x4.size + (strOfNums y298).size ≤ 9223372036854775807 then (jAr.l0 k (IntKind.u64.wrap (Int.tdiv x3 128)) (x4 ++ (strOfNums y298))) else (none))) else ((some (([(x3) % 256] : List Int) : List Int)).bind fun y301 => (if x4.size + (strOfNums y301).size ≤ 9223372036854775807 then (some (x4 ++ (strOfNums y301))) else (none)))
def jAr.f (k : Nat) (a0 : Int) : Option (ByteArray) := (jCl.f a0).bind fun t297 => (jAr.l0 k t297 (⟨#[]⟩ : ByteArray))
set_option maxHeartbeats 8000000 in
set_option maxRecDepth 100000 in
theorem jAr.calls (k : Nat) (a0 : Int) (r : ByteArray) (w : World) (h : jAr.f k a0 = some r) :
  Calls Tryd.prog 71 #[.int .i64 a0] w fun e w' => e = .returned (.string r) ∧ Below w.heap.size w w' := by
 have HB := jAa.mk (Below.refl w.heap.size w)
 have H : ((jCl.f a0).bind fun t297 => (jAr.l0 k t297 (⟨#[]⟩ : ByteArray))) = some r := h
 clear h
 replace H := Option.bind_eq_some_iff.mp H
 obtain ⟨t297, A20, H⟩ := H
 replace H : (jAr.l0 k t297 (⟨#[]⟩ : ByteArray)) = some r := H
 have A2 := jAa.mk A20
 clear A20
 have H' := jAa.mk H
 clear H
 go_enter Tryd.func71, Tryd.ntmps71
 go_wp2_with (first | ((with_reducible refine jBl (f := 99) rfl ?_); refine jCe (some 6) rfl rfl Tryd.func99 (by kernel_rfl) rfl #[.int .i64 a0] rfl (by (try simp only [List.map_toArray, List.map_cons, List.map_nil]); first | done | rfl | (simp only [List.length_drop, List.length_take]; rfl)) ?_; (with_reducible refine (jCl.calls a0 t297 _ A2.out).mono ?_); rintro e w' ⟨rfl, ⟨nd, rfl⟩⟩; refine ⟨_, rfl, ?_⟩))
 go_loopg [3, 4] k (fun kq v3 v4 w' => ∃ (x3_1 : Int) (x4_1 : ByteArray), v3 = .int .u64 x3_1 ∧ v4 = .string x4_1 ∧ jAa (jAr.l0 kq x3_1 x4_1 = some r) ∧ jAa (kq ≤ k) ∧ jAa (Below w.heap.size w w'))
 case atStart => exact ⟨(t297), ((⟨#[]⟩ : ByteArray)), (by first | rfl | (simp; done) | (simp [*]; done)), (by first | rfl | (simp; done) | (simp [*]; done)), H', ⟨Nat.le_refl _⟩, ⟨by repeat (first | (with_reducible first | exact HB.out | apply jAj | apply jAd | apply jAk) | exact HB.out)⟩⟩
 case round =>
  clear H'
  try clear p2
  obtain ⟨x3_1, x4_1, rfl, rfl, HA, HK1, HB⟩ := hrel
  cases gk with
  | zero => exact absurd HA.out (by simp [jAr.l0])
  | succ k1 =>
   have H := HA.out
   clear HA
   simp only [jAr.l0] at H
   by_cases c3 : x3_1 ≥ 128
   ·rw [if_pos c3] at H
    have c3b0 : decide (128 ≤ x3_1) = true := decide_eq_true c3
    clear c3
    obtain ⟨y298, hy298⟩ : ∃ y_ : List Int, y_ = (([(IntKind.u64.wrap (128 + (Int.tmod x3_1 128))) % 256] : List Int)) := ⟨_, rfl⟩
    replace H : (if x4_1.size + (strOfNums y298).size ≤ 9223372036854775807 then (jAr.l0 k1 (IntKind.u64.wrap (Int.tdiv x3_1 128)) (x4_1 ++ (strOfNums y298))) else (none)) = some r := by first | (rw [hy298]; with_reducible exact H) | (have H2_ := (Option.bind_some _ _).symm.trans H; rw [hy298]; with_reducible exact H2_) | (have H2_ := (Option.bind_some _ _).symm.trans H; with_reducible exact H2_) | with_reducible exact H | (rw [hy298]; exact H) | exact H
    have Ny298 := jAa.mk hy298
    clear hy298
    by_cases c4 : x4_1.size + (strOfNums y298).size ≤ 9223372036854775807
    ·rw [if_pos c4] at H
     have c4b0 := eq_true c4
     have c4b1 : decide (x4_1.size + (strOfNums y298).size ≤ 9223372036854775807) = true := decide_eq_true c4
     try have c4b2 : (9223372036854775807 < x4_1.size + (strOfNums y298).size) = False := eq_false (Nat.not_lt.2 c4)
     have H' := jAa.mk H
     clear H
     go_wp2_with (first | ((with_reducible refine jCa (N := 14) rfl ?_); refine Kd.R_lit (Kd.int .u8) _ 5 ?hg (N := 14) ?hd (xs := ([(IntKind.u64.wrap (128 + (Int.tmod x3_1 128))) % 256] : List Int)) (inner := [.int .u8 ((IntKind.u64.wrap (128 + (Int.tmod x3_1 128))) % 256)]) (ok := fun _ => True) (okp := fun _ => True) ?hr ?hp (fun _ hk => hk) trivial (Below.refl _ _) (Nat.le_refl _) (by simp) ?_; (case hd => rfl); (case hg => rfl); (case hr => first | (go_simp; done) | (go_simp; rfl)); (case hp => exact (Reps.one (show Kd.M (Kd.int .u8) _ _ _ ((IntKind.u64.wrap (128 + (Int.tmod x3_1 128))) % 256) [.int .u8 ((IntKind.u64.wrap (128 + (Int.tmod x3_1 128))) % 256)] from rfl) (Reps.none _ _))); intro v299 w5 ho6 hb hg_ hnew_; clear hg_ hnew_; (first | rw [← Ny298.out] at ho6 | (simp only [Int.reduceToNat] at ho6; rw [← Ny298.out] at ho6)); have n0_ := jAa.mk (Kd.R_lower ho6 (jBj (by repeat (first | (with_reducible first | exact HB.out | apply jAj | apply jAd | apply jAk) | exact HB.out)))); have n1_ := jAa.mk (jAu (by repeat (first | (with_reducible first | exact HB.out | apply jAj | apply jAd | apply jAk) | exact HB.out)) hb); clear HB; have HO300 := n0_; have HB := n1_; clear n0_ n1_; clear hb ho6; have hcv7 := jHj (P := Tryd.prog) Tryd.underlying107 Tryd.underlying5 Tryd.underlying9 (Kd.own_of_R HO300.out)))
     go_roundg k1
     case measure => have := HK1.out; omega
     case rel => exact ⟨(IntKind.u64.wrap (Int.tdiv x3_1 128)), (x4_1 ++ (strOfNums y298)), (by first | rfl | (simp; done) | (simp [*]; done)), (by first | rfl | (simp; done) | (simp [*]; done)), H', ⟨by have := HK1.out; omega⟩, ⟨by repeat (first | (with_reducible first | exact HB.out | apply jAj | apply jAd | apply jAk) | exact HB.out)⟩⟩
    ·rw [if_neg c4] at H
     exact absurd H (by simp)
   ·rw [if_neg c3] at H
    have c3b0 : decide (128 ≤ x3_1) = false := decide_eq_false c3
    clear c3
    obtain ⟨y301, hy301⟩ : ∃ y_ : List Int, y_ = (([(x3_1) % 256] : List Int)) := ⟨_, rfl⟩
    replace H : (if x4_1.size + (strOfNums y301).size ≤ 9223372036854775807 then (some (x4_1 ++ (strOfNums y301))) else (none)) = some r := by first | (rw [hy301]; with_reducible exact H) | (have H2_ := (Option.bind_some _ _).symm.trans H; rw [hy301]; with_reducible exact H2_) | (have H2_ := (Option.bind_some _ _).symm.trans H; with_reducible exact H2_) | with_reducible exact H | (rw [hy301]; exact H) | exact H
    have Ny301 := jAa.mk hy301
    clear hy301
    by_cases c8 : x4_1.size + (strOfNums y301).size ≤ 9223372036854775807
    ·rw [if_pos c8] at H
     have c8b0 := eq_true c8
     have c8b1 : decide (x4_1.size + (strOfNums y301).size ≤ 9223372036854775807) = true := decide_eq_true c8
     try have c8b2 : (9223372036854775807 < x4_1.size + (strOfNums y301).size) = False := eq_false (Nat.not_lt.2 c8)
     obtain rfl := Option.some.inj H
     go_wp2_with (first | ((with_reducible refine jCa (N := 22) rfl ?_); refine Kd.R_lit (Kd.int .u8) _ 5 ?hg (N := 22) ?hd (xs := ([(x3_1) % 256] : List Int)) (inner := [.int .u8 ((x3_1) % 256)]) (ok := fun _ => True) (okp := fun _ => True) ?hr ?hp (fun _ hk => hk) trivial (Below.refl _ _) (Nat.le_refl _) (by simp) ?_; (case hd => rfl); (case hg => rfl); (case hr => first | (go_simp; done) | (go_simp; rfl)); (case hp => exact (Reps.one (show Kd.M (Kd.int .u8) _ _ _ ((x3_1) % 256) [.int .u8 ((x3_1) % 256)] from rfl) (Reps.none _ _))); intro v302 w9 ho10 hb hg_ hnew_; clear hg_ hnew_; (first | rw [← Ny301.out] at ho10 | (simp only [Int.reduceToNat] at ho10; rw [← Ny301.out] at ho10)); have n0_ := jAa.mk (Kd.R_lower ho10 (jBj (by repeat (first | (with_reducible first | exact HB.out | apply jAj | apply jAd | apply jAk) | exact HB.out)))); have n1_ := jAa.mk (jAu (by repeat (first | (with_reducible first | exact HB.out | apply jAj | apply jAd | apply jAk) | exact HB.out)) hb); clear HB; have HO303 := n0_; have HB := n1_; clear n0_ n1_; clear hb ho10; have hcv11 := jHj (P := Tryd.prog) Tryd.underlying107 Tryd.underlying5 Tryd.underlying9 (Kd.own_of_R HO303.out)))
     go_ret
     exact ⟨by first | rfl | (simp [jBd, jBe] <;> rfl) | (simp [*, jBd, jBe] <;> rfl), by repeat (first | (with_reducible first | exact HB.out | apply jAj | apply jAd | apply jAk) | exact HB.out)⟩
    ·rw [if_neg c8] at H
     exact absurd H (by simp)
end Go.Proofs.YtefdfgmlmjnmlaaDoor.Rf
end

section
set_option linter.unusedVariables false
set_option linter.unusedSimpArgs false
namespace Go.Proofs.YtefdfgmlmjnmlaaDoor.Rf
open Go.RowKit Go.Proofs.YtefdfgmlmjnmlaaDoorW.PrintWords Go.Proofs.YtefdfgmlmjnmlaaDoorW.PrintLast Go.Proofs.YtefdfgmlmjnmlaaDoorW.PrintMore
attribute [local go_sem] jCg jCo
def jBt.f (k : Nat) (a0 : ByteArray) : Option (ByteArray) := (jAr.f k (a0.size : Int)).bind fun t304 => (if t304.size + a0.size ≤ 9223372036854775807 then (some (t304 ++ a0)) else (none))
set_option maxHeartbeats 8000000 in
set_option maxRecDepth 100000 in
theorem jBt.calls (k : Nat) (a0 : ByteArray) (r : ByteArray) (w : World) (h : jBt.f k a0 = some r) :
  Calls Tryd.prog 72 #[.string a0] w fun e w' => e = .returned (.string r) ∧ Below w.heap.size w w' := by
 have HB := jAa.mk (Below.refl w.heap.size w)
 have H : ((jAr.f k (a0.size : Int)).bind fun t304 => (if t304.size + a0.size ≤ 9223372036854775807 then (some (t304 ++ a0)) else (none))) = some r := h
 clear h
 replace H := Option.bind_eq_some_iff.mp H
 obtain ⟨t304, A20, H⟩ := H
 replace H : (if t304.size + a0.size ≤ 9223372036854775807 then (some (t304 ++ a0)) else (none)) = some r := H
 have A2 := jAa.mk A20
 clear A20
 by_cases c3 : t304.size + a0.size ≤ 9223372036854775807
 ·rw [if_pos c3] at H
  have c3b0 := eq_true c3
  have c3b1 : decide (t304.size + a0.size ≤ 9223372036854775807) = true := decide_eq_true c3
  try have c3b2 : (9223372036854775807 < t304.size + a0.size) = False := eq_false (Nat.not_lt.2 c3)
  obtain rfl := Option.some.inj H
  go_enter Tryd.func72, Tryd.ntmps72
  go_wp2_with (first | ((with_reducible refine jBl (f := 71) rfl ?_); refine jCe (some 5) rfl rfl Tryd.func71 (by kernel_rfl) rfl #[.int .i64 (a0.size : Int)] rfl (by (try simp only [List.map_toArray, List.map_cons, List.map_nil]); first | done | rfl | (simp only [List.length_drop, List.length_take]; rfl)) ?_; (with_reducible refine (jAr.calls k (a0.size : Int) t304 _ A2.out).mono ?_); rintro e w4 ⟨rfl, hb⟩; refine ⟨_, rfl, ?_⟩; have n0_ := jAa.mk (jAu (by repeat (first | (with_reducible first | exact HB.out | apply jAj | apply jAd | apply jAk) | exact HB.out)) hb); clear HB; have HB := n0_; clear n0_; (try clear hb); (try clear hb2); (try clear hk); (try clear hi)))
  go_ret
  exact ⟨by first | rfl | (simp [jBd, jBe] <;> rfl) | (simp [*, jBd, jBe] <;> rfl), by repeat (first | (with_reducible first | exact HB.out | apply jAj | apply jAd | apply jAk) | exact HB.out)⟩
 ·rw [if_neg c3] at H
  exact absurd H (by simp)
end Go.Proofs.YtefdfgmlmjnmlaaDoor.Rf
end

section
set_option linter.unusedVariables false
set_option linter.unusedSimpArgs false
namespace Go.Proofs.YtefdfgmlmjnmlaaDoor.Rf
open Go.RowKit Go.Proofs.YtefdfgmlmjnmlaaDoorW.PrintWords Go.Proofs.YtefdfgmlmjnmlaaDoorW.PrintLast Go.Proofs.YtefdfgmlmjnmlaaDoorW.PrintMore
attribute [local go_sem] jCg jCo
def jBs.f (k : Nat) (a0 : Bool) : Option (ByteArray) := if a0 = true then ((jAr.f k 1).bind fun t305 => (some t305)) else ((jAr.f k 0).bind fun t306 => (some t306))
set_option maxHeartbeats 8000000 in
set_option maxRecDepth 100000 in
theorem jBs.calls (k : Nat) (a0 : Bool) (r : ByteArray) (w : World) (h : jBs.f k a0 = some r) :
  Calls Tryd.prog 73 #[.bool a0] w fun e w' => e = .returned (.string r) ∧ Below w.heap.size w w' := by
 have HB := jAa.mk (Below.refl w.heap.size w)
 have H : (if a0 = true then ((jAr.f k 1).bind fun t305 => (some t305)) else ((jAr.f k 0).bind fun t306 => (some t306))) = some r := h
 clear h
 by_cases c2 : a0 = true
 ·subst c2
  have H1 : ((jAr.f k 1).bind fun t305 => (some t305)) = some r := by rw [if_pos rfl] at H; exact H
  clear H
  have H := H1
  clear H1
  replace H := Option.bind_eq_some_iff.mp H
  obtain ⟨t305, A30, H⟩ := H
  replace H : (some t305) = some r := H
  have A3 := jAa.mk A30
  clear A30
  obtain rfl := Option.some.inj H
  go_enter Tryd.func73, Tryd.ntmps73
  go_wp2_with (first | ((with_reducible refine jBl (f := 71) rfl ?_); refine jCe (some 4) rfl rfl Tryd.func71 (by kernel_rfl) rfl #[.int .i64 1] rfl (by (try simp only [List.map_toArray, List.map_cons, List.map_nil]); first | done | rfl | (simp only [List.length_drop, List.length_take]; rfl)) ?_; (with_reducible refine (jAr.calls k 1 t305 _ A3.out).mono ?_); rintro e w4 ⟨rfl, hb⟩; refine ⟨_, rfl, ?_⟩; have n0_ := jAa.mk (jAu (by repeat (first | (with_reducible first | exact HB.out | apply jAj | apply jAd | apply jAk) | exact HB.out)) hb); clear HB; have HB := n0_; clear n0_; (try clear hb); (try clear hb2); (try clear hk); (try clear hi)))
  go_ret
  exact ⟨by first | rfl | (simp [jBd, jBe] <;> rfl) | (simp [*, jBd, jBe] <;> rfl), by repeat (first | (with_reducible first | exact HB.out | apply jAj | apply jAd | apply jAk) | exact HB.out)⟩
 ·replace c2 := Bool.eq_false_iff.mpr c2
  subst c2
  have H1 : ((jAr.f k 0).bind fun t306 => (some t306)) = some r := by rw [if_neg (show ¬ (false = true) by decide)] at H; exact H
  clear H
  have H := H1
  clear H1
  replace H := Option.bind_eq_some_iff.mp H
  obtain ⟨t306, A50, H⟩ := H
  replace H : (some t306) = some r := H
  have A5 := jAa.mk A50
  clear A50
  obtain rfl := Option.some.inj H
  go_enter Tryd.func73, Tryd.ntmps73
  go_wp2_with (first | ((with_reducible refine jBl (f := 71) rfl ?_); refine jCe (some 5) rfl rfl Tryd.func71 (by kernel_rfl) rfl #[.int .i64 0] rfl (by (try simp only [List.map_toArray, List.map_cons, List.map_nil]); first | done | rfl | (simp only [List.length_drop, List.length_take]; rfl)) ?_; (with_reducible refine (jAr.calls k 0 t306 _ A5.out).mono ?_); rintro e w6 ⟨rfl, hb⟩; refine ⟨_, rfl, ?_⟩; have n0_ := jAa.mk (jAu (by repeat (first | (with_reducible first | exact HB.out | apply jAj | apply jAd | apply jAk) | exact HB.out)) hb); clear HB; have HB := n0_; clear n0_; (try clear hb); (try clear hb2); (try clear hk); (try clear hi)))
  go_ret
  exact ⟨by first | rfl | (simp [jBd, jBe] <;> rfl) | (simp [*, jBd, jBe] <;> rfl), by repeat (first | (with_reducible first | exact HB.out | apply jAj | apply jAd | apply jAk) | exact HB.out)⟩
end Go.Proofs.YtefdfgmlmjnmlaaDoor.Rf
end

section
set_option linter.unusedVariables false
set_option linter.unusedSimpArgs false
namespace Go.Proofs.YtefdfgmlmjnmlaaDoor.Rf
open Go.RowKit Go.Proofs.YtefdfgmlmjnmlaaDoorW.PrintWords Go.Proofs.YtefdfgmlmjnmlaaDoorW.PrintLast Go.Proofs.YtefdfgmlmjnmlaaDoorW.PrintMore
attribute [local go_sem] jCg jCo
def jBq.f (k : Nat) (a0_0 : Int) (a0_1 : Int) (a0_2 : ByteArray) : Option (ByteArray) := (jAr.f k a0_0).bind fun t388 => ((jAr.f k a0_1).bind fun t389 => (if t388.size + t389.size ≤ 9223372036854775807 then ((jBt.f k a0_2).bind fun t390 => (if (t388 ++ t389).size + t390.size ≤ 9223372036854775807 then (some ((t388 ++ t389) ++ t390)) else (none))) else (none)))
def jBq.T1 : Bool × List (List Nat × List Nat) := (true, [([], []), ([0], [0]), ([1], [1]), ([], []), ([3], [3]), ([4, 2], [4]), ([2, 5], [2, 5]), ([], []), ([7], [7]), ([8, 5], [8]), ([6, 9], [6, 9]), ([10, 9, 0, 1, 2, 3, 4, 5, 6, 7, 8, 9, 10], [10])])
def jBq.B1 : List Nat := [0, 1, 3, 0, 8, 31, 63, 0, 128, 447, 1023, 2047]
theorem jBq.tab1 : rtab .any (opsOf Tryd.f100 1) = jBq.T1 := by kernel_rfl
theorem jBq.bits1 : jDq jBq.T1.2 jBq.B1 = true := by kernel_rfl
set_option maxHeartbeats 8000000 in
set_option maxRecDepth 100000 in
theorem jBq.calls (k : Nat) (a0_0 : Int) (a0_1 : Int) (a0_2 : ByteArray) (r : ByteArray) (w : World) (h : jBq.f k a0_0 a0_1 a0_2 = some r) :
  Calls Tryd.prog 100 #[.agg #[.int .i64 a0_0, .int .i64 a0_1, .string a0_2]] w fun e w' => e = .returned (.string r) ∧ Below w.heap.size w w' := by
 have hu70 := Tryd.underlying70
 have HB := jAa.mk (Below.refl w.heap.size w)
 have H : ((jAr.f k a0_0).bind fun t388 => ((jAr.f k a0_1).bind fun t389 => (if t388.size + t389.size ≤ 9223372036854775807 then ((jBt.f k a0_2).bind fun t390 => (if (t388 ++ t389).size + t390.size ≤ 9223372036854775807 then (some ((t388 ++ t389) ++ t390)) else (none))) else (none)))) = some r := h
 clear h
 replace H := Option.bind_eq_some_iff.mp H
 obtain ⟨t388, A20, H⟩ := H
 replace H : ((jAr.f k a0_1).bind fun t389 => (if t388.size + t389.size ≤ 9223372036854775807 then ((jBt.f k a0_2).bind fun t390 => (if (t388 ++ t389).size + t390.size ≤ 9223372036854775807 then (some ((t388 ++ t389) ++ t390)) else (none))) else (none))) = some r := H
 have A2 := jAa.mk A20
 clear A20
 replace H := Option.bind_eq_some_iff.mp H
 obtain ⟨t389, A30, H⟩ := H
 replace H : (if t388.size + t389.size ≤ 9223372036854775807 then ((jBt.f k a0_2).bind fun t390 => (if (t388 ++ t389).size + t390.size ≤ 9223372036854775807 then (some ((t388 ++ t389) ++ t390)) else (none))) else (none)) = some r := H
 have A3 := jAa.mk A30
 clear A30
 by_cases c4 : t388.size + t389.size ≤ 9223372036854775807
 ·rw [if_pos c4] at H
  have c4b0 := eq_true c4
  have c4b1 : decide (t388.size + t389.size ≤ 9223372036854775807) = true := decide_eq_true c4
  try have c4b2 : (9223372036854775807 < t388.size + t389.size) = False := eq_false (Nat.not_lt.2 c4)
  replace H := Option.bind_eq_some_iff.mp H
  obtain ⟨t390, A50, H⟩ := H
  replace H : (if (t388 ++ t389).size + t390.size ≤ 9223372036854775807 then (some ((t388 ++ t389) ++ t390)) else (none)) = some r := H
  have A5 := jAa.mk A50
  clear A50
  by_cases c6 : (t388 ++ t389).size + t390.size ≤ 9223372036854775807
  ·rw [if_pos c6] at H
   have c6b0 := eq_true c6
   have c6b1 : decide ((t388 ++ t389).size + t390.size ≤ 9223372036854775807) = true := decide_eq_true c6
   try have c6b2 : (9223372036854775807 < (t388 ++ t389).size + t390.size) = False := eq_false (Nat.not_lt.2 c6)
   try (have c6b2x := c6b2; simp only [ByteArray.size_append] at c6b2x)
   obtain rfl := Option.some.inj H
   go_enter Tryd.func100, Tryd.ntmps100
   try go_wp2_with (first | ((with_reducible refine jCa (N := 1) rfl ?_); refine jBv ?hg (N := 1) ?hd (cs := #[.int .i64 a0_0, .int .i64 a0_1, .string a0_2]) (t := 70) ?hr ?_; (case hd => rfl); (case hg => rfl); (case hr => first | (go_simp; done) | (go_simp; rfl)); intro gb387 hg w7 hbox hb; have n0_ := jAa.mk (jAu (by repeat (first | (with_reducible first | exact HB.out | apply jAj | apply jAd | apply jAk) | exact HB.out)) hb); have n1_ := jAa.mk (hbox); have n2_ := jAa.mk ((by rw [hg]; exact (jBj (by repeat (first | (with_reducible first | exact HB.out | apply jAj | apply jAd | apply jAk) | exact HB.out))) : w.heap.size ≤ gb387)); have n3_ := jAa.mk ((by rw [hg]; exact (jBj (by repeat (first | (with_reducible first | exact HB.out | apply jAj | apply jAd | apply jAk) | exact HB.out))) : w.heap.size ≤ gb387)); clear HB; have HB := n0_; have BK387 := n1_; have GW387 := n2_; have GE387 := n3_; clear n0_ n1_ n2_ n3_; clear hb hbox hg))
   have n0_ := jAa.mk (jAi BK387.out)
   have n1_ := jAa.mk (jAk HB.out)
   clear BK387
   clear HB
   have BK387 := n0_
   have HB := n1_
   clear n0_ n1_
   refine jDz (n := 12) (S := fun w' => w'.cell? ⟨gb387, 0, none⟩ = some (.int .i64 a0_0) ∧ w'.cell? ⟨gb387, 1, none⟩ = some (.int .i64 a0_1) ∧ w'.cell? ⟨gb387, 2, none⟩ = some (.string a0_2)) (ds := []) #[false, false, false, false, false, false, false, false, false, false, false, false] (by kernel_rfl) rfl rfl ⟨(jAb BK387.out 0).trans rfl, (jAb BK387.out 1).trans rfl, (jAb BK387.out 2).trans rfl⟩ (fun hHeld => ?_); refine jDl jBq.tab1 jBq.bits1 (fun HT_ HW_ => ?_)
   generalize w7.drew = w8 at BK387 HB hHeld ⊢
   refine pure_ (i := 0) (N := some 3) (v := ?_) (a' := ?_) #[true, false, false, false, false, false, false, false, false, false, false, false] rfl rfl (jCc HT_.out (by kernel_rfl)) (fun _ _ _ h => h) (Or.inl ⟨by rfl, ?_⟩) ?_ ?_
   rotate_left
   ·intro w'
    go_simp
    with_reducible rfl
   rotate_left
   ·simp only [Act.put, List.setIfInBounds_toArray, List.set_cons_zero, List.set_cons_succ, i64_w, i32_w]
    rfl
   refine pure_ (i := 3) (N := some 6) (v := ?_) (a' := ?_) #[true, false, false, true, false, false, false, false, false, false, false, false] rfl rfl (jCc HT_.out (by kernel_rfl)) (fun _ _ _ h => h) (Or.inl ⟨by rfl, ?_⟩) ?_ ?_
   rotate_left
   ·intro w'
    go_simp
    with_reducible rfl
   rotate_left
   ·simp only [Act.put, List.setIfInBounds_toArray, List.set_cons_zero, List.set_cons_succ, i64_w, i32_w]
    rfl
   refine pure_ (i := 7) (N := some 10) (v := ?_) (a' := ?_) #[true, false, false, true, false, false, false, true, false, false, false, false] rfl rfl (jCc HT_.out (by kernel_rfl)) (fun _ _ _ h => h) (Or.inl ⟨by rfl, ?_⟩) ?_ ?_
   rotate_left
   ·intro w'
    go_simp
    with_reducible rfl
   rotate_left
   ·simp only [Act.put, List.setIfInBounds_toArray, List.set_cons_zero, List.set_cons_succ, i64_w, i32_w]
    rfl
   refine take_ (i := 1) (N := some 4) (v := ?_) (a' := ?_) #[true, true, false, true, false, false, false, true, false, false, false, false] rfl rfl (jCm HT_.out HW_.out (by kernel_rfl)) (fun _ _ _ h => h) (Or.inl ⟨by rfl, ?_⟩) hHeld ?_ ?_
   rotate_left
   ·rintro w' ⟨s0, s1, s2⟩
    go_simp
    with_reducible rfl
   rotate_left
   ·simp only [Act.put, List.setIfInBounds_toArray, List.set_cons_zero, List.set_cons_succ, i64_w, i32_w]
    rfl
   refine take_ (i := 4) (N := some 7) (v := ?_) (a' := ?_) #[true, true, false, true, true, false, false, true, false, false, false, false] rfl rfl (jCm HT_.out HW_.out (by kernel_rfl)) (fun _ _ _ h => h) (Or.inl ⟨by rfl, ?_⟩) hHeld ?_ ?_
   rotate_left
   ·rintro w' ⟨s0, s1, s2⟩
    go_simp
    with_reducible rfl
   rotate_left
   ·simp only [Act.put, List.setIfInBounds_toArray, List.set_cons_zero, List.set_cons_succ, i64_w, i32_w]
    rfl
   refine take_ (i := 8) (N := some 11) (v := ?_) (a' := ?_) #[true, true, false, true, true, false, false, true, true, false, false, false] rfl rfl (jCm HT_.out HW_.out (by kernel_rfl)) (fun _ _ _ h => h) (Or.inl ⟨by rfl, ?_⟩) hHeld ?_ ?_
   rotate_left
   ·rintro w' ⟨s0, s1, s2⟩
    go_simp
    with_reducible rfl
   rotate_left
   ·simp only [Act.put, List.setIfInBounds_toArray, List.set_cons_zero, List.set_cons_succ, i64_w, i32_w]
    rfl
   refine one_ (i := 2) (N := some 5) #[true, true, true, true, true, false, false, true, true, false, false, false] rfl rfl (jCu HT_.out (by kernel_rfl)) (by decide) (fun K hK => ?_)
   refine goes_ Tryd.func71 (by kernel_rfl) rfl #[.int .i64 a0_0] (by rfl) rfl rfl (by (try simp only [List.map_toArray, List.map_cons, List.map_nil]); first | done | rfl | (simp only [List.length_drop, List.length_take]; rfl)) ?_
   with_reducible refine (jAr.calls k a0_0 t388 _ A2.out).mono ?_
   rintro e w9 ⟨rfl, hb⟩
   refine ⟨_, rfl, ?_⟩
   have n0_ := jAa.mk (jAp (g := gb387) (o := .cells #[.int .i64 a0_0, .int .i64 a0_1, .string a0_2] 70 (0, 0)) (by (with_reducible repeat (first | refine jAf ?_ _ | refine jAi ?_ | refine jAe ?_ _)); exact BK387.out) hb)
   have n1_ := jAa.mk (jAu (by repeat (first | (with_reducible first | exact HB.out | apply jAj | apply jAd | apply jAk | refine jAh ?_ GE387.out) | exact HB.out)) hb)
   clear BK387
   clear HB
   have BK387 := n0_
   have HB := n1_
   clear n0_ n1_
   (try clear hb)
   (try clear hb2)
   (try clear hk)
   (try clear hi)
   refine hK.out _ _ ⟨(jAb BK387.out 0).trans rfl, (jAb BK387.out 1).trans rfl, (jAb BK387.out 2).trans rfl⟩ (fun hHeld => ?_)
   clear hK K
   refine norm_ (a' := ?_) ?_ ?_
   rotate_left
   ·show Act.put _ (some 5) _ = _
    simp only [Act.put, List.setIfInBounds_toArray, List.set_cons_zero, List.set_cons_succ, i64_w, i32_w]
    rfl
   refine one_ (i := 5) (N := some 8) #[true, true, true, true, true, true, false, true, true, false, false, false] rfl rfl (jCu HT_.out (by kernel_rfl)) (by decide) (fun K hK => ?_)
   refine goes_ Tryd.func71 (by kernel_rfl) rfl #[.int .i64 a0_1] (by rfl) rfl rfl (by (try simp only [List.map_toArray, List.map_cons, List.map_nil]); first | done | rfl | (simp only [List.length_drop, List.length_take]; rfl)) ?_
   with_reducible refine (jAr.calls k a0_1 t389 _ A3.out).mono ?_
   rintro e w10 ⟨rfl, hb⟩
   refine ⟨_, rfl, ?_⟩
   have n0_ := jAa.mk (jAp (g := gb387) (o := .cells #[.int .i64 a0_0, .int .i64 a0_1, .string a0_2] 70 (0, 0)) (by (with_reducible repeat (first | refine jAf ?_ _ | refine jAi ?_ | refine jAe ?_ _)); exact BK387.out) hb)
   have n1_ := jAa.mk (jAu (by repeat (first | (with_reducible first | exact HB.out | apply jAj | apply jAd | apply jAk | refine jAh ?_ GE387.out) | exact HB.out)) hb)
   clear BK387
   clear HB
   have BK387 := n0_
   have HB := n1_
   clear n0_ n1_
   (try clear hb)
   (try clear hb2)
   (try clear hk)
   (try clear hi)
   refine hK.out _ _ ⟨(jAb BK387.out 0).trans rfl, (jAb BK387.out 1).trans rfl, (jAb BK387.out 2).trans rfl⟩ (fun hHeld => ?_)
   clear hK K
   refine norm_ (a' := ?_) ?_ ?_
   rotate_left
   ·show Act.put _ (some 8) _ = _
    simp only [Act.put, List.setIfInBounds_toArray, List.set_cons_zero, List.set_cons_succ, i64_w, i32_w]
    rfl
   refine pure_ (i := 6) (N := some 9) (v := ?_) (a' := ?_) #[true, true, true, true, true, true, true, true, true, false, false, false] rfl rfl (jCc HT_.out (by kernel_rfl)) (fun _ _ _ h => h) (Or.inl ⟨by rfl, ?_⟩) ?_ ?_
   rotate_left
   ·intro w'
    go_simp
    with_reducible rfl
   rotate_left
   ·simp only [Act.put, List.setIfInBounds_toArray, List.set_cons_zero, List.set_cons_succ, i64_w, i32_w]
    rfl
   refine one_ (i := 9) (N := some 12) #[true, true, true, true, true, true, true, true, true, true, false, false] rfl rfl (jCu HT_.out (by kernel_rfl)) (by decide) (fun K hK => ?_)
   refine goes_ Tryd.func72 (by kernel_rfl) rfl #[.string a0_2] (by rfl) rfl rfl (by (try simp only [List.map_toArray, List.map_cons, List.map_nil]); first | done | rfl | (simp only [List.length_drop, List.length_take]; rfl)) ?_
   with_reducible refine (jBt.calls k a0_2 t390 _ A5.out).mono ?_
   rintro e w11 ⟨rfl, hb⟩
   refine ⟨_, rfl, ?_⟩
   have n0_ := jAa.mk (jAp (g := gb387) (o := .cells #[.int .i64 a0_0, .int .i64 a0_1, .string a0_2] 70 (0, 0)) (by (with_reducible repeat (first | refine jAf ?_ _ | refine jAi ?_ | refine jAe ?_ _)); exact BK387.out) hb)
   have n1_ := jAa.mk (jAu (by repeat (first | (with_reducible first | exact HB.out | apply jAj | apply jAd | apply jAk | refine jAh ?_ GE387.out) | exact HB.out)) hb)
   clear BK387
   clear HB
   have BK387 := n0_
   have HB := n1_
   clear n0_ n1_
   (try clear hb)
   (try clear hb2)
   (try clear hk)
   (try clear hi)
   refine hK.out _ _ ⟨(jAb BK387.out 0).trans rfl, (jAb BK387.out 1).trans rfl, (jAb BK387.out 2).trans rfl⟩ (fun hHeld => ?_)
   clear hK K
   refine norm_ (a' := ?_) ?_ ?_
   rotate_left
   ·show Act.put _ (some 12) _ = _
    simp only [Act.put, List.setIfInBounds_toArray, List.set_cons_zero, List.set_cons_succ, i64_w, i32_w]
    rfl
   refine pure_ (i := 10) (N := some 13) (v := ?_) (a' := ?_) #[true, true, true, true, true, true, true, true, true, true, true, false] rfl rfl (jCc HT_.out (by kernel_rfl)) (fun _ _ _ h => h) (Or.inl ⟨by rfl, ?_⟩) ?_ ?_
   rotate_left
   ·intro w'
    go_simp
    with_reducible rfl
   rotate_left
   ·simp only [Act.put, List.setIfInBounds_toArray, List.set_cons_zero, List.set_cons_succ, i64_w, i32_w]
    rfl
   refine pure_ (i := 11) (N := some 2) (v := ?_) (a' := ?_) #[true, true, true, true, true, true, true, true, true, true, true, true] rfl rfl (jCc HT_.out (by kernel_rfl)) (fun _ _ _ h => h) (Or.inl ⟨by rfl, ?_⟩) ?_ ?_
   rotate_left
   ·intro w'
    go_simp
    with_reducible rfl
   rotate_left
   ·simp only [Act.put, List.setIfInBounds_toArray, List.set_cons_zero, List.set_cons_succ, i64_w, i32_w]
    rfl
   refine done_ (jEm HT_.out (by kernel_rfl)) ?_
   try go_wp2
   go_ret
   exact ⟨by first | rfl | (simp [jBd, jBe] <;> rfl) | (simp [*, jBd, jBe] <;> rfl), by repeat (first | (with_reducible first | exact HB.out | apply jAj | apply jAd | apply jAk | refine jAh ?_ GE387.out) | exact HB.out)⟩
  ·rw [if_neg c6] at H
   exact absurd H (by simp)
 ·rw [if_neg c4] at H
  exact absurd H (by simp)
end Go.Proofs.YtefdfgmlmjnmlaaDoor.Rf
end
