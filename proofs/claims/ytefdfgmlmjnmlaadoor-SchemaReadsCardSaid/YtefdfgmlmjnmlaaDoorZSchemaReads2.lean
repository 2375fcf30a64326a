/- Lemmas for the law SchemaReads: what the functions that it reaches compute, with those words of the kit's print that they use. No condition. Joined out of this session's smaller texts (part 2 of 7). -/
import Derived.Test.YtefdfgmlmjnmlaaDoorProg
import Derived.Below
import Derived.Deep.Draws
import Derived.Deep.AppendLies
import Derived.Maps.AppendAt
import Derived.OwnWalk
import Derived.Laws.BytesArg
import Derived.Laws.MakeOwn
import Derived.Laws.OwnMore
import Derived.Deep.OwnRows
import Derived.Tactics
import Derived.Lib.ConvBytes
import Derived.Laws.Slices
import Derived.WalkKit
import Derived.KernelRfl
import Derived.RowKit3
import Derived.Deep.LoopGhost
import Derived.Deep.QuietTactic
import Derived.BigQuiet
import Derived.WideLaws
import Derived.Deep.DeepCutAuto
import Derived.Deep.CutBlock
import Derived.Deep.RegionHeld3
import Derived.Laws.Rows
import Derived.Lib.AppendStr
import Derived.ArgAppend
import Derived.Laws.IdiomCopy
import Derived.OrdersHeld
import Derived.Laws.BitsLemmas
import Derived.RowKit
import Derived.WalkLawsBesides
import Derived.Test.YtefdfgmlmjnmlaaDoorZSchemaReads1
import Derived.ProofKit
import Derived.OpenShut
import Derived.Lib.OthersKept
import Derived.BigCall
import Derived.Shelf.Strings.Builder1
import Derived.Shelf.Small.Utf8
import Derived.Shelf.Small.Strs
import Derived.Shelf.Small.Wraps
import Derived.Shelf.Strings.BuilderF
import Derived.Shelf.Strings.BuilderK
import Derived.Shelf.Strings.Search1
import Derived.Shelf.Unicode.DecodeSlow
import Derived.Shelf.Unicode.DecodeAny
import Derived.Shelf.Unicode.DecodeLast
import Derived.Test.YtefdfgmlmjnmlaaDoorTie
import Derived.Test.YtefdfgmlmjnmlaaDoorCards
import Derived.ShutString
import Derived.ChangeOld
import Derived.LaidMore
import Derived.Lay
import Derived.SevenTiedAt
import Derived.Stop.Joined
import Derived.Lib.LaidU8T
import Derived.Lib.LaidIn
import Derived.Lib.IndexAny
section
set_option linter.unusedVariables false
set_option linter.unusedSimpArgs false
namespace Go.Proofs.YtefdfgmlmjnmlaaDoor.Rf
open Go.RowKit Go.Proofs.YtefdfgmlmjnmlaaDoorW.PrintWords Go.Proofs.YtefdfgmlmjnmlaaDoorW.PrintLast Go.Proofs.YtefdfgmlmjnmlaaDoorW.PrintMore
def errW : Option Int → Value
 | none => .nilIface
 | some c => .iface 0 (.int .i64 c)
theorem errW_none : errW none = .nilIface := rfl
theorem errW_some (c : Int) : errW (some c) = .iface 0 (.int .i64 c) := rfl
theorem info27 : (Tryd.prog.info? 27).map (fun i => (i.zero, i.size, i.bytes)) = some (some (.agg #[(.int .i64 0), (.string ⟨#[]⟩), (.int .i64 0)]), 3, 32) := by kernel_rfl
theorem info45 : (Tryd.prog.info? 45).map (fun i => (i.zero, i.size, i.bytes)) = some (some (.agg #[(.string ⟨#[]⟩), (.int .i64 0), (.slice none 0 0), (.slice none 0 0)]), 4, 72) := by kernel_rfl
structure S70 where
 f0 : Int
 f1 : Int
 f2 : ByteArray
def z70 : S70 := ⟨(0 : Int), (0 : Int), (⟨#[]⟩ : ByteArray)⟩
def k70 : Kd S70 := Kd.iso (Kd.pair (Kd.int .i64) (Kd.pair (Kd.int .i64) Kd.string)) (fun x : S70 => (x.f0, x.f1, x.f2))
theorem k70_open {w : World} {x : S70} {cs : List Value} (h : k70.K w x cs) : cs = [.int .i64 x.f0, .int .i64 x.f1, .string x.f2] := by
 obtain ⟨_, _, rfl, rfl, ⟨_, _, rfl, rfl, rfl⟩⟩ := h
 exact rfl
theorem k70_mkM (w : World) (base : Nat) (ok : Nat → Prop) (x : S70)  : k70.M w base ok x [.int .i64 x.f0, .int .i64 x.f1, .string x.f2] := ⟨[.int .i64 x.f0], [.int .i64 x.f1, .string x.f2], rfl, rfl, ⟨[.int .i64 x.f1], [.string x.f2], rfl, rfl, rfl⟩⟩
structure S72 where
 f0 : Int
 f1 : Int
 f2 : S70
 f3 : (List S72)
def z72 : S72 := ⟨(0 : Int), (0 : Int), z70, ([] : List S72)⟩
def F72 (d : Kd S72) : Kd S72 := Kd.iso (Kd.pair (Kd.int .i64) (Kd.pair (Kd.int .i64) (Kd.pair k70 (Kd.slice 72 d)))) (fun x : S72 => (x.f0, x.f1, x.f2, x.f3))
theorem mono72 : Kd.Mono F72 := Kd.mono_iso _ (Kd.mono_pair (Kd.mono_const _) (Kd.mono_pair (Kd.mono_const _) (Kd.mono_pair (Kd.mono_const _) (Kd.mono_slice 72 Kd.mono_id))))
theorem sub72 : Kd.Sub F72 [72] := Kd.sub_iso _ (Kd.sub_pair (Kd.sub_const _ (by decide)) (Kd.sub_pair (Kd.sub_const _ (by decide)) (Kd.sub_pair (Kd.sub_const _ (by decide)) (Kd.sub_slice 72 (by decide) Kd.sub_id))))
theorem sz72 : ∀ n, (Kd.upto F72 6 [72] n).sz = 6 := Kd.upto_sz (fun _ => rfl)
def k72 : Kd S72 := Kd.fix F72 6 [72] sz72 (Kd.upto_E sub72)
theorem k72_open {w : World} {x : S72} {cs : List Value} (h : k72.K w x cs) : ∃ A5 c5, cs = [.int .i64 x.f0, .int .i64 x.f1, .int .i64 x.f2.f0, .int .i64 x.f2.f1, .string x.f2.f2, .slice A5 x.f3.length c5] ∧ x.f3.length ≤ c5 ∧ k72.C w A5 x.f3.length x.f3 := by
 obtain ⟨n, h⟩ := h
 cases n with
 | zero => exact h.elim
 | succ n =>
  obtain ⟨_, _, rfl, rfl, ⟨_, _, rfl, rfl, ⟨_, _, rfl, s2, ⟨A5, c5, rfl, l5, g5⟩⟩⟩⟩ := h
  obtain rfl := k70_open s2
  exact ⟨A5, c5, rfl, l5, Kd.fix_C g5⟩
theorem k72_mkM (w : World) (base : Nat) (ok : Nat → Prop) (x : S72) {v5 : Value} (g5 : k72.R 72 w base ok v5 x.f3) : k72.M w base ok x [.int .i64 x.f0, .int .i64 x.f1, .int .i64 x.f2.f0, .int .i64 x.f2.f1, .string x.f2.f2, v5] := by
 obtain ⟨n5, q5⟩ := Kd.fix_R_back mono72 g5
 have r5 := Kd.upto_R_le mono72 sz72 (show n5 ≤ n5 by omega) q5
 exact ⟨n5 + 1, ⟨[.int .i64 x.f0], [.int .i64 x.f1, .int .i64 x.f2.f0, .int .i64 x.f2.f1, .string x.f2.f2, v5], rfl, rfl, ⟨[.int .i64 x.f1], [.int .i64 x.f2.f0, .int .i64 x.f2.f1, .string x.f2.f2, v5], rfl, rfl, ⟨[.int .i64 x.f2.f0, .int .i64 x.f2.f1, .string x.f2.f2], [v5], rfl, (k70_mkM w base ok x.f2 ), ⟨v5, rfl, r5⟩⟩⟩⟩⟩
def rd_T72 (xs : List S72) (i : Int) : S72 := xs.getD i.toNat z72
theorem at_T72 {w : World} {A : Option Addr} {n : Nat} {xs : List S72} (h : Kd.C k72 w A n xs) (i : Int) (h0 : 0 ≤ i) (h1 : i < n) : ∃ ad A5 c5, A = some ad ∧ w.cell? (ad.add (i.toNat * 6)) = some (.int .i64 (rd_T72 xs i).f0) ∧ w.cell? ⟨(ad.add (i.toNat * 6)).block, (ad.add (i.toNat * 6)).off + 1, none⟩ = some (.int .i64 (rd_T72 xs i).f1) ∧ w.cell? ⟨(ad.add (i.toNat * 6)).block, (ad.add (i.toNat * 6)).off + 2, none⟩ = some (.int .i64 (rd_T72 xs i).f2.f0) ∧ w.cell? ⟨(ad.add (i.toNat * 6)).block, (ad.add (i.toNat * 6)).off + 3, none⟩ = some (.int .i64 (rd_T72 xs i).f2.f1) ∧ w.cell? ⟨(ad.add (i.toNat * 6)).block, (ad.add (i.toNat * 6)).off + 4, none⟩ = some (.string (rd_T72 xs i).f2.f2) ∧ w.cell? ⟨(ad.add (i.toNat * 6)).block, (ad.add (i.toNat * 6)).off + 5, none⟩ = some (.slice A5 (rd_T72 xs i).f3.length c5) ∧ (rd_T72 xs i).f3.length ≤ c5 ∧ k72.C w A5 (rd_T72 xs i).f3.length (rd_T72 xs i).f3 := by
 obtain ⟨ad, c, e, _, hK, hc0⟩ := Kd.C_get h z72 i h0 h1
 have hc : ∀ j u, c[j]? = some u → w.cell? (ad.add (i.toNat * 6 + j)) = some u := hc0
 obtain ⟨A5, c5, rfl, l5, g5⟩ := k72_open hK
 exact ⟨ad, A5, c5, e, hc 0 _ rfl, by rw [← add_field _ _ 1 (by omega)]; exact hc 1 _ rfl, by rw [← add_field _ _ 2 (by omega)]; exact hc 2 _ rfl, by rw [← add_field _ _ 3 (by omega)]; exact hc 3 _ rfl, by rw [← add_field _ _ 4 (by omega)]; exact hc 4 _ rfl, by rw [← add_field _ _ 5 (by omega)]; exact hc 5 _ rfl, l5, g5⟩
structure S59 where
 f0 : ByteArray
 f1 : Int
 f2 : Bool
 f3 : Bool
 f4 : ByteArray
 f5 : Int
def z59 : S59 := ⟨(⟨#[]⟩ : ByteArray), (0 : Int), false, false, (⟨#[]⟩ : ByteArray), (0 : Int)⟩
def k59 : Kd S59 := Kd.iso (Kd.pair Kd.string (Kd.pair (Kd.int .i64) (Kd.pair Kd.bool (Kd.pair Kd.bool (Kd.pair Kd.string (Kd.int .i64)))))) (fun x : S59 => (x.f0, x.f1, x.f2, x.f3, x.f4, x.f5))
theorem k59_open {w : World} {x : S59} {cs : List Value} (h : k59.K w x cs) : cs = [.string x.f0, .int .i64 x.f1, .bool x.f2, .bool x.f3, .string x.f4, .int .i64 x.f5] := by
 obtain ⟨_, _, rfl, rfl, ⟨_, _, rfl, rfl, ⟨_, _, rfl, rfl, ⟨_, _, rfl, rfl, ⟨_, _, rfl, rfl, rfl⟩⟩⟩⟩⟩ := h
 exact rfl
theorem k59_mk (w : World) (x : S59)  : k59.K w x [.string x.f0, .int .i64 x.f1, .bool x.f2, .bool x.f3, .string x.f4, .int .i64 x.f5] := ⟨[.string x.f0], [.int .i64 x.f1, .bool x.f2, .bool x.f3, .string x.f4, .int .i64 x.f5], rfl, rfl, ⟨[.int .i64 x.f1], [.bool x.f2, .bool x.f3, .string x.f4, .int .i64 x.f5], rfl, rfl, ⟨[.bool x.f2], [.bool x.f3, .string x.f4, .int .i64 x.f5], rfl, rfl, ⟨[.bool x.f3], [.string x.f4, .int .i64 x.f5], rfl, rfl, ⟨[.string x.f4], [.int .i64 x.f5], rfl, rfl, rfl⟩⟩⟩⟩⟩
theorem k59_mkM (w : World) (base : Nat) (ok : Nat → Prop) (x : S59)  : k59.M w base ok x [.string x.f0, .int .i64 x.f1, .bool x.f2, .bool x.f3, .string x.f4, .int .i64 x.f5] := ⟨[.string x.f0], [.int .i64 x.f1, .bool x.f2, .bool x.f3, .string x.f4, .int .i64 x.f5], rfl, rfl, ⟨[.int .i64 x.f1], [.bool x.f2, .bool x.f3, .string x.f4, .int .i64 x.f5], rfl, rfl, ⟨[.bool x.f2], [.bool x.f3, .string x.f4, .int .i64 x.f5], rfl, rfl, ⟨[.bool x.f3], [.string x.f4, .int .i64 x.f5], rfl, rfl, ⟨[.string x.f4], [.int .i64 x.f5], rfl, rfl, rfl⟩⟩⟩⟩⟩
def rd_T59 (xs : List S59) (i : Int) : S59 := xs.getD i.toNat z59
theorem at_T59 {w : World} {A : Option Addr} {n : Nat} {xs : List S59} (h : Kd.C k59 w A n xs) (i : Int) (h0 : 0 ≤ i) (h1 : i < n) : ∃ ad , A = some ad ∧ w.cell? (ad.add (i.toNat * 6)) = some (.string (rd_T59 xs i).f0) ∧ w.cell? ⟨(ad.add (i.toNat * 6)).block, (ad.add (i.toNat * 6)).off + 1, none⟩ = some (.int .i64 (rd_T59 xs i).f1) ∧ w.cell? ⟨(ad.add (i.toNat * 6)).block, (ad.add (i.toNat * 6)).off + 2, none⟩ = some (.bool (rd_T59 xs i).f2) ∧ w.cell? ⟨(ad.add (i.toNat * 6)).block, (ad.add (i.toNat * 6)).off + 3, none⟩ = some (.bool (rd_T59 xs i).f3) ∧ w.cell? ⟨(ad.add (i.toNat * 6)).block, (ad.add (i.toNat * 6)).off + 4, none⟩ = some (.string (rd_T59 xs i).f4) ∧ w.cell? ⟨(ad.add (i.toNat * 6)).block, (ad.add (i.toNat * 6)).off + 5, none⟩ = some (.int .i64 (rd_T59 xs i).f5) := by
 obtain ⟨ad, c, e, _, hK, hc0⟩ := Kd.C_get h z59 i h0 h1
 have hc : ∀ j u, c[j]? = some u → w.cell? (ad.add (i.toNat * 6 + j)) = some u := hc0
 obtain rfl := k59_open hK
 exact ⟨ad, e, hc 0 _ rfl, by rw [← add_field _ _ 1 (by omega)]; exact hc 1 _ rfl, by rw [← add_field _ _ 2 (by omega)]; exact hc 2 _ rfl, by rw [← add_field _ _ 3 (by omega)]; exact hc 3 _ rfl, by rw [← add_field _ _ 4 (by omega)]; exact hc 4 _ rfl, by rw [← add_field _ _ 5 (by omega)]; exact hc 5 _ rfl⟩
structure S45 where
 f0 : ByteArray
 f1 : Int
 f2 : (List S59)
 f3 : (List S72)
def z45 : S45 := ⟨(⟨#[]⟩ : ByteArray), (0 : Int), ([] : List S59), ([] : List S72)⟩
def k45 : Kd S45 := Kd.iso (Kd.pair Kd.string (Kd.pair (Kd.int .i64) (Kd.pair (Kd.slice 59 k59) (Kd.slice 72 k72)))) (fun x : S45 => (x.f0, x.f1, x.f2, x.f3))
theorem k45_open {w : World} {x : S45} {cs : List Value} (h : k45.K w x cs) : ∃ A2 c2 A3 c3, cs = [.string x.f0, .int .i64 x.f1, .slice A2 x.f2.length c2, .slice A3 x.f3.length c3] ∧ x.f2.length ≤ c2 ∧ k59.C w A2 x.f2.length x.f2 ∧ x.f3.length ≤ c3 ∧ k72.C w A3 x.f3.length x.f3 := by
 obtain ⟨_, _, rfl, rfl, ⟨_, _, rfl, rfl, ⟨_, _, rfl, ⟨A2, c2, rfl, l2, g2⟩, ⟨A3, c3, rfl, l3, g3⟩⟩⟩⟩ := h
 exact ⟨A2, c2, A3, c3, rfl, l2, g2, l3, g3⟩
theorem k45_mkM (w : World) (base : Nat) (ok : Nat → Prop) (x : S45) {v2 : Value} (g2 : k59.R 59 w base ok v2 x.f2) {v3 : Value} (g3 : k72.R 72 w base ok v3 x.f3) : k45.M w base ok x [.string x.f0, .int .i64 x.f1, v2, v3] := ⟨[.string x.f0], [.int .i64 x.f1, v2, v3], rfl, rfl, ⟨[.int .i64 x.f1], [v2, v3], rfl, rfl, ⟨[v2], [v3], rfl, ⟨v2, rfl, g2⟩, ⟨v3, rfl, g3⟩⟩⟩⟩
def rd_T45 (xs : List S45) (i : Int) : S45 := xs.getD i.toNat z45
theorem at_T45 {w : World} {A : Option Addr} {n : Nat} {xs : List S45} (h : Kd.C k45 w A n xs) (i : Int) (h0 : 0 ≤ i) (h1 : i < n) : ∃ ad A2 c2 A3 c3, A = some ad ∧ w.cell? (ad.add (i.toNat * 4)) = some (.string (rd_T45 xs i).f0) ∧ w.cell? ⟨(ad.add (i.toNat * 4)).block, (ad.add (i.toNat * 4)).off + 1, none⟩ = some (.int .i64 (rd_T45 xs i).f1) ∧ w.cell? ⟨(ad.add (i.toNat * 4)).block, (ad.add (i.toNat * 4)).off + 2, none⟩ = some (.slice A2 (rd_T45 xs i).f2.length c2) ∧ w.cell? ⟨(ad.add (i.toNat * 4)).block, (ad.add (i.toNat * 4)).off + 3, none⟩ = some (.slice A3 (rd_T45 xs i).f3.length c3) ∧ (rd_T45 xs i).f2.length ≤ c2 ∧ k59.C w A2 (rd_T45 xs i).f2.length (rd_T45 xs i).f2 ∧ (rd_T45 xs i).f3.length ≤ c3 ∧ k72.C w A3 (rd_T45 xs i).f3.length (rd_T45 xs i).f3 := by
 obtain ⟨ad, c, e, _, hK, hc0⟩ := Kd.C_get h z45 i h0 h1
 have hc : ∀ j u, c[j]? = some u → w.cell? (ad.add (i.toNat * 4 + j)) = some u := hc0
 obtain ⟨A2, c2, A3, c3, rfl, l2, g2, l3, g3⟩ := k45_open hK
 exact ⟨ad, A2, c2, A3, c3, e, hc 0 _ rfl, by rw [← add_field _ _ 1 (by omega)]; exact hc 1 _ rfl, by rw [← add_field _ _ 2 (by omega)]; exact hc 2 _ rfl, by rw [← add_field _ _ 3 (by omega)]; exact hc 3 _ rfl, l2, g2, l3, g3⟩
structure S27 where
 f0 : Int
 f1 : ByteArray
 f2 : Int
def z27 : S27 := ⟨(0 : Int), (⟨#[]⟩ : ByteArray), (0 : Int)⟩
def k27 : Kd S27 := Kd.iso (Kd.pair (Kd.int .i64) (Kd.pair Kd.string (Kd.int .i64))) (fun x : S27 => (x.f0, x.f1, x.f2))
theorem k27_open {w : World} {x : S27} {cs : List Value} (h : k27.K w x cs) : cs = [.int .i64 x.f0, .string x.f1, .int .i64 x.f2] := by
 obtain ⟨_, _, rfl, rfl, ⟨_, _, rfl, rfl, rfl⟩⟩ := h
 exact rfl
theorem k27_mkM (w : World) (base : Nat) (ok : Nat → Prop) (x : S27)  : k27.M w base ok x [.int .i64 x.f0, .string x.f1, .int .i64 x.f2] := ⟨[.int .i64 x.f0], [.string x.f1, .int .i64 x.f2], rfl, rfl, ⟨[.string x.f1], [.int .i64 x.f2], rfl, rfl, rfl⟩⟩
def rd_T27 (xs : List S27) (i : Int) : S27 := xs.getD i.toNat z27
theorem at_T27 {w : World} {A : Option Addr} {n : Nat} {xs : List S27} (h : Kd.C k27 w A n xs) (i : Int) (h0 : 0 ≤ i) (h1 : i < n) : ∃ ad , A = some ad ∧ w.cell? (ad.add (i.toNat * 3)) = some (.int .i64 (rd_T27 xs i).f0) ∧ w.cell? ⟨(ad.add (i.toNat * 3)).block, (ad.add (i.toNat * 3)).off + 1, none⟩ = some (.string (rd_T27 xs i).f1) ∧ w.cell? ⟨(ad.add (i.toNat * 3)).block, (ad.add (i.toNat * 3)).off + 2, none⟩ = some (.int .i64 (rd_T27 xs i).f2) := by
 obtain ⟨ad, c, e, _, hK, hc0⟩ := Kd.C_get h z27 i h0 h1
 have hc : ∀ j u, c[j]? = some u → w.cell? (ad.add (i.toNat * 3 + j)) = some u := hc0
 obtain rfl := k27_open hK
 exact ⟨ad, e, hc 0 _ rfl, by rw [← add_field _ _ 1 (by omega)]; exact hc 1 _ rfl, by rw [← add_field _ _ 2 (by omega)]; exact hc 2 _ rfl⟩
end Go.Proofs.YtefdfgmlmjnmlaaDoor.Rf
end

section
namespace Go.Proofs.YtefdfgmlmjnmlaaDoor.My
open Go.RowKit Go.Proofs.YtefdfgmlmjnmlaaDoorW.PrintWords
theorem sz1 (w : World) (o : Obj) : (w.alloc o).heap.size = w.heap.size + 1 := by simp
theorem blk_new1 (w : World) (o1 o2 : Obj) : ((w.alloc o1).alloc o2).heap[w.heap.size + 1]? = some o2 := by
  have := blk_new (w.alloc o1) o2
  rwa [sz1] at this
theorem blk_new2 (w : World) (o1 o2 o3 : Obj) : (((w.alloc o1).alloc o2).alloc o3).heap[w.heap.size + 2]? = some o3 := by
  have := blk_new1 (w.alloc o1) o2 o3
  rwa [sz1] at this
theorem below1 (w : World) (o1 : Obj) : Below w.heap.size w (w.alloc o1) := below_alloc (Below.refl _ _) _
theorem below2 (w : World) (o1 o2 : Obj) : Below w.heap.size w ((w.alloc o1).alloc o2) := below_alloc (below1 w o1) _
theorem below3 (w : World) (o1 o2 o3 : Obj) : Below w.heap.size w (((w.alloc o1).alloc o2).alloc o3) := below_alloc (below2 w o1 o2) _
theorem undrew {w w' : World} (h : Below w.drew.heap.size w.drew w') : Below w.heap.size w w' := ⟨h.os, h.tape, h.output, h.size, h.block⟩
/-- Behind a call: a cell, or a block, that stood stands. -/
theorem cell_now {w w' : World} (hb : Below w.heap.size w w') {a : Addr} {v : Value} (h : w.cell? a = some v) : w'.cell? a = some v := pw_cell_below hb h
end Go.Proofs.YtefdfgmlmjnmlaaDoor.My
end

section
set_option linter.unusedSimpArgs false
set_option maxRecDepth 10000
namespace Go.Proofs.YtefdfgmlmjnmlaaDoor.My
open Go.RowKit Go.Proofs.YtefdfgmlmjnmlaaDoorW.PrintWords Go.Proofs.YtefdfgmlmjnmlaaDoor.Rf
def I64 (n : Int) : Prop := -9223372036854775808 ≤ n ∧ n ≤ 9223372036854775807
structure Q70 (x : S70) : Prop where
  a : I64 x.f0
  b : I64 x.f1
  c : x.f2.size ≤ 9223372036854775807
inductive Q72 : S72 → Prop
  | mk (e : S72) (a : I64 e.f0) (b : I64 e.f1) (c : Q70 e.f2) (h : ∀ x, x ∈ e.f3 → Q72 x) : Q72 e
structure Q59 (x : S59) : Prop where
  a : x.f0.size ≤ 9223372036854775807
  b : I64 x.f1
  c : x.f4.size ≤ 9223372036854775807
  d : I64 x.f5
structure Q27 (x : S27) : Prop where
  a : I64 x.f0
  b : x.f1.size ≤ 9223372036854775807
  c : I64 x.f2
structure Q45 (x : S45) : Prop where
  a : x.f0.size ≤ 9223372036854775807
  b : I64 x.f1
  c : ∀ y, y ∈ x.f2 → Q59 y
  d : ∀ y, y ∈ x.f3 → Q72 y
section
variable {H : Type} {enc : TypeId × Value → H} {w : World} {b : Nat} {sp : Nat → Bool} {held : Bool}
theorem c3 : Tryd.prog.cellsOf 3 = 1 := by kernel_rfl
theorem c4 : Tryd.prog.cellsOf 4 = 1 := by kernel_rfl
theorem c9 : Tryd.prog.cellsOf 9 = 1 := by kernel_rfl
theorem c72 : Tryd.prog.cellsOf 72 = 6 := by kernel_rfl
theorem c45 : Tryd.prog.cellsOf 45 = 4 := by kernel_rfl
theorem c27 : Tryd.prog.cellsOf 27 = 3 := by kernel_rfl
theorem c25 : Tryd.prog.cellsOf 25 = 3 := by kernel_rfl
theorem c42 : Tryd.prog.cellsOf 42 = 1 := by kernel_rfl
theorem c22 : Tryd.prog.cellsOf 22 = 1 := by kernel_rfl
theorem c23 : Tryd.prog.cellsOf 23 = 1 := by kernel_rfl
end
end Go.Proofs.YtefdfgmlmjnmlaaDoor.My
end

section
namespace Go.Proofs.YtefdfgmlmjnmlaaDoor.My
open Go.RowKit Go.Proofs.YtefdfgmlmjnmlaaDoorW.PrintWords
/-- Is a rune one of the set's bytes? -/
def inS (set : ByteArray) (c : Nat) : Bool := set.data.toList.any fun b => b.toNat == c
def inUpTo (set : ByteArray) (c j : Nat) : Bool := (set.data.toList.take j).any fun b => b.toNat == c
theorem inUpTo_succ (set : ByteArray) (c j : Nat) (h : j < set.size) : inUpTo set c (j + 1) = (inUpTo set c j || (set[j]'h).toNat == c) := by
  unfold inUpTo
  rw [List.take_succ_eq_append_getElem (by simpa using h), List.any_append]
  simp
  rfl
theorem inUpTo_zero (set : ByteArray) (c : Nat) : inUpTo set c 0 = false := by simp [inUpTo]
theorem inUpTo_all (set : ByteArray) (c j : Nat) (h : ¬ j < set.size) : inUpTo set c j = inS set c := by
  unfold inUpTo inS
  rw [List.take_of_length_le (by simp; omega)]
theorem inS_low (set : ByteArray) (hset : ∀ b ∈ set.data.toList, b.toNat < 128) (c : Nat) (h : inS set c = true) : c < 128 := by
  unfold inS at h
  obtain ⟨b, hb, he⟩ := List.any_eq_true.1 h
  have := hset b hb
  simp at he
  omega
theorem same_num (c d : Nat) : ((d == c) : Bool) = (((c : Int) == (d : Int)) : Bool) := by
  rw [Bool.eq_iff_iff]; simp; omega
theorem extract_end (s : ByteArray) : s.extract s.size s.size = ⟨#[]⟩ := by
  apply ByteArray.ext; simp
theorem step_low (s set : ByteArray) (hset : ∀ b ∈ set.data.toList, b.toNat < 128) (pos : Nat) (h : pos < s.size) {c n : Nat} (hc : (Utf8.decode s pos).1 = c) (hn : (Utf8.decode s pos).2 = n) (hb : inS set c = true) : n = 1 ∧ inS set (s[pos]'h).toNat = true := by
  have hl := inS_low set hset c hb
  by_cases ha : (s[pos]'h).toNat < 128
  · rw [decode_ascii s pos h ha] at hc hn
    simp only at hc hn
    subst hc hn
    exact ⟨rfl, hb⟩
  · have := (decode_high s pos h (by omega)).1
    omega
theorem step_out (s set : ByteArray) (hset : ∀ b ∈ set.data.toList, b.toNat < 128) (pos : Nat) (h : pos < s.size) {c : Nat} (hc : (Utf8.decode s pos).1 = c) (hb : inS set c = false) : inS set (s[pos]'h).toNat = false := by
  by_cases ha : (s[pos]'h).toNat < 128
  · rw [decode_ascii s pos h ha] at hc
    simp only at hc
    subst hc
    exact hb
  · cases hq : inS set (s[pos]'h).toNat with
    | false => rfl
    | true => have := inS_low set hset _ hq; omega
theorem all_next {set s : ByteArray} {pos n : Nat} (hp : pos < s.size) (hall : ∀ j, (h : j < s.size) → j < pos → inS set (s[j]'h).toNat = true) (hst : n = 1 ∧ inS set (s[pos]'hp).toNat = true) : ∀ j, (h : j < s.size) → j < pos + n → inS set (s[j]'h).toNat = true := by
  obtain ⟨rfl, h1⟩ := hst
  intro j h hj
  by_cases e : j = pos
  · subst e; exact h1
  · exact hall j h (by omega)
/-- The text behind the set's bytes at its begin. -/
def LeftOf (set s u : ByteArray) : Prop := ∃ p, p ≤ s.size ∧ u = s.extract p s.size ∧ (∀ j, (h : j < s.size) → j < p → inS set (s[j]'h).toNat = true) ∧ (∀ h : p < s.size, inS set (s[p]'h).toNat = false)
structure LeftPost (set s : ByteArray) (w : World) (e : Ending) (w' : World) : Prop where
  out : ∃ u, e = .returned (.string u) ∧ LeftOf set s u ∧ Below w.heap.size w w'
set_option maxHeartbeats 4000000 in
set_option maxRecDepth 100000 in
theorem cutLeft_calls (s set : ByteArray) (w : World) (hset : ∀ b ∈ set.data.toList, b.toNat < 128) :
    Calls Tryd.prog 57 #[.string s, .string set] w (LeftPost set s w) := by
  have HSET := Aside0.mk hset
  clear hset
  go_enter Tryd.func57, Tryd.ntmps57
  go_wp2
  go_loopw [5, 6, 7, 9] (fun _ _ _ _ wr => ∃ pos : Nat, pos ≤ s.size ∧ wr.heap[w.heap.size]? = some (.stringIter s pos) ∧ Below w.heap.size w wr ∧ Aside0 (∀ j, (h : j < s.size) → j < pos → inS set (s[j]'h).toNat = true)) (fun _ _ _ _ wr => s.size - wr.iterPos w.heap.size)
  case atStart =>
    refine ⟨0, Nat.zero_le _, World.iter_heap _ _ _, (Below.refl _ w).alloc (Nat.le_refl _) _, ⟨fun j h h0 => absurd h0 (by omega)⟩⟩
  case round =>
    obtain ⟨pos, hpos, hit, hbw, hall⟩ := hrel
    have hsz : w.heap.size < wr.heap.size := (Array.getElem?_eq_some_iff.1 hit).1
    by_cases hp : pos < s.size
    · have hnx : ∀ ty, (Instr.next (.pointer (some ⟨w.heap.size, 0, none⟩)) true ty).run Tryd.prog wr = _ := fun ty => Lib.run_next_any_at wr w.heap.size s pos ty hit hp
      have hd1 := decode_le s pos
      have hit2 := Lib.iterAt_heap wr w.heap.size s pos (pos + (Utf8.decode s pos).2) hit
      have hbw2 := Lib.below_iterAt hbw (k := w.heap.size) (Nat.le_refl _) s (pos + (Utf8.decode s pos).2)
      have hsz2 : w.heap.size < (wr.iterAt w.heap.size s (pos + (Utf8.decode s pos).2)).heap.size := by rw [Lib.iterAt_size]; omega
      generalize hW : wr.iterAt w.heap.size s (pos + (Utf8.decode s pos).2) = w2 at hnx hit2 hbw2 hsz2
      clear hW
      generalize hrn : (Utf8.decode s pos).1 = c at hnx hd1
      generalize hn : (Utf8.decode s pos).2 = n at hnx hit2 hbw2 hsz2
      have HRN := Aside0.mk hrn
      have HN := Aside0.mk hn
      have hit0 := Aside0.mk hit
      clear hrn hn hit hbw hsz
      go_wp2
      have hset' : w2.heap.size < (w2.iter set 0).heap.size := by simp [World.iter]
      have hbI : Below w2.heap.size w2 (w2.iter set 0) := (Below.refl _ _).alloc (Nat.le_refl _) _
      have hiI := World.iter_heap w2 set 0
      go_loopw [7, 9] (fun t7 _ wx => ∃ j : Nat, j ≤ set.size ∧ t7 = .bool (inUpTo set c j) ∧ wx.heap[w2.heap.size]? = some (.stringIter set j) ∧ Below w2.heap.size w2 wx) (fun _ _ wx => set.size - wx.iterPos w2.heap.size)
      case atStart => exact ⟨0, Nat.zero_le _, by rw [inUpTo_zero], hiI, hbI⟩
      case round =>
        clear hiI hbI hset' hnx
        obtain ⟨j, hj, rfl, hit, hbx⟩ := hrel
        by_cases hjl : j < set.size
        · have hasc : (set[j]'hjl).toNat < 128 := HSET.out _ (by show set.data[j]'hjl ∈ _; simp)
          have hnx : ∀ ty, (Instr.next (.pointer (some ⟨w2.heap.size, 0, none⟩)) true ty).run Tryd.prog _ = _ := fun ty => Lib.run_next_ascii_at _ w2.heap.size set j ty hit hjl hasc
          have hs1 := inUpTo_succ set c j hjl
          have hit3 := Lib.iterAt_heap _ w2.heap.size set j (j + 1) hit
          have hbx3 := Lib.below_iterAt hbx (k := w2.heap.size) (Nat.le_refl _) set (j + 1)
          generalize hd : (set[j]'hjl).toNat = d at hnx hs1 hasc
          clear hd
          have HS1 := Aside0.mk hs1
          clear hs1
          cases hb : inUpTo set c j with
          | true =>
            rw [hb] at HS1
            clear hb
            go_wp2
            go_roundw
            case rel => exact ⟨j + 1, by omega, by rw [HS1.out]; rfl, hit3, hbx3⟩
            case measure => simp only [World.iterPos, hit3, hit]; omega
          | false =>
            rw [hb] at HS1
            clear hb
            go_wp2
            go_roundw
            case rel => exact ⟨j + 1, by omega, by rw [HS1.out]; rw [Bool.false_or]; congr 1; exact (same_num c d).symm, hit3, hbx3⟩
            case measure => simp only [World.iterPos, hit3, hit]; omega
        · have hnx : ∀ ty, (Instr.next (.pointer (some ⟨w2.heap.size, 0, none⟩)) true ty).run Tryd.prog _ = _ := fun ty => Lib.run_next_end_at _ w2.heap.size set j ty hit hjl
          have hIA := inUpTo_all set c j hjl
          rw [hIA]
          clear hIA
          have hbw3 : Below w.heap.size w wr := hbw2.trans (hbx.mono (by omega))
          have hit4 : wr.heap[w.heap.size]? = some (.stringIter s (pos + n)) := by rw [hbx.block _ (by omega)]; exact hit2
          cases hb : inS set c with
          | true =>
            have hst := step_low s set HSET.out pos hp (c := c) (n := n) HRN.out HN.out hb
            clear hb
            go_wp2
            go_roundw
            case rel => exact ⟨pos + n, by omega, hit4, hbw3, ⟨all_next hp hall.out hst⟩⟩
            case measure => simp only [World.iterPos, hit4, hit0.out]; omega
          | false =>
            have hst := step_out s set HSET.out pos hp (c := c) HRN.out hb
            clear hb
            go_wp2
            go_ret
            exact ⟨_, rfl, ⟨pos, hpos, rfl, hall.out, fun _ => hst⟩, hbw3⟩
    · have hnx : ∀ ty, (Instr.next (.pointer (some ⟨w.heap.size, 0, none⟩)) true ty).run Tryd.prog wr = _ := fun ty => Lib.run_next_end_at wr w.heap.size s pos ty hit hp
      go_wp2
      go_ret
      exact ⟨_, rfl, ⟨s.size, Nat.le_refl _, (extract_end s).symm, fun j h _ => hall.out j h (by omega), fun h => absurd h (by omega)⟩, hbw⟩
end Go.Proofs.YtefdfgmlmjnmlaaDoor.My
end

section
namespace Go.Proofs
open Go.Shelf
open Go.RowKit in
open Go.RowKit in
open Go.RowKit in
def Tryd.lays137_ren : Go.Shelf.Ren := ⟨fun | 137 => 55 | 217 => 86 | 266 => 109 | n => n, fun | 9 => 9 | 5 => 5 | 3 => 3 | n => n, fun | n => n⟩
theorem Tryd.lays137 : Go.Proofs.Lays.n137 Tryd.prog Tryd.lays137_ren := {
  mixed := by kernel_rfl
  f137 := Tryd.func55.trans (congrArg some (by kernel_rfl))
  f217 := Tryd.func86.trans (congrArg some (by kernel_rfl))
  f266 := Tryd.func109.trans (congrArg some (by kernel_rfl))
  t3 := Tryd.underlying3
  a3 := Tryd.isAgg3
  z3 := Tryd.sizeOf3
  v3 := Tryd.zeroValue3
  t5 := Tryd.underlying5
  a5 := Tryd.isAgg5
  z5 := Tryd.sizeOf5
  v5 := Tryd.zeroValue5
  t9 := Tryd.underlying9
  a9 := Tryd.isAgg9
  z9 := Tryd.sizeOf9
  v9 := Tryd.zeroValue9 }
open Go.RowKit in
/-- strings.IndexByte: "IndexByte returns the index of the first instance of c in s, or -1 if c is not present in s.": IT RETURNS 'Lib.indexByte s c'; the world is as it was. (LAID: no walk: one application.) -/
theorem Tryd.strings_IndexByte (s : ByteArray) (c : Int) (w : World) :
    Calls Tryd.prog 55 #[.string s, .int .u8 c] w fun e w' => e = .returned (.int .i64 (Lib.indexByte s.data.toList c.toNat.toUInt8)) ∧ w' = w := Any.strings_IndexByte Tryd.lays137 s c w
open Go.RowKit in
open Go.RowKit in
open Go.RowKit in
open Go.RowKit in
open Go.RowKit in
open Go.RowKit in
open Go.RowKit in
open Go.RowKit in
open Go.RowKit Go.Lib in
def Tryd.lays260_ren : Go.Shelf.Ren := ⟨fun | 260 => 122 | n => n, fun | 9 => 9 | 21 => 21 | 3 => 3 | 4 => 4 | 5 => 5 | 119 => 163 | 0 => 0 | 46 => 137 | 139 => 166 | 138 => 165 | n => n, fun | 3 => 1 | 4 => 2 | n => n⟩
theorem Tryd.lays260 : Go.Proofs.Lays.n260 Tryd.prog Tryd.lays260_ren := {
  mixed := by kernel_rfl
  f260 := Tryd.func122.trans (congrArg some (by kernel_rfl))
  t0 := Tryd.underlying0
  a0 := Tryd.isAgg0
  z0 := Tryd.sizeOf0
  v0 := Tryd.zeroValue0
  t3 := Tryd.underlying3
  a3 := Tryd.isAgg3
  z3 := Tryd.sizeOf3
  v3 := Tryd.zeroValue3
  t4 := Tryd.underlying4
  a4 := Tryd.isAgg4
  z4 := Tryd.sizeOf4
  v4 := Tryd.zeroValue4
  t5 := Tryd.underlying5
  a5 := Tryd.isAgg5
  z5 := Tryd.sizeOf5
  v5 := Tryd.zeroValue5
  t9 := Tryd.underlying9
  a9 := Tryd.isAgg9
  z9 := Tryd.sizeOf9
  v9 := Tryd.zeroValue9
  t21 := Tryd.underlying21
  a21 := Tryd.isAgg21
  z21 := Tryd.sizeOf21
  v21 := Tryd.zeroValue21
  t46 := Tryd.underlying137
  a46 := Tryd.isAgg137
  z46 := Tryd.sizeOf137
  v46 := Tryd.zeroValue137
  t119 := Tryd.underlying163
  a119 := Tryd.isAgg163
  z119 := Tryd.sizeOf163
  t138 := Tryd.underlying165
  a138 := Tryd.isAgg165
  z138 := Tryd.sizeOf165
  v138 := Tryd.zeroValue165
  t139 := Tryd.underlying166
  a139 := Tryd.isAgg166
  z139 := Tryd.sizeOf166
  v139 := Tryd.zeroValue166
  g3 := by kernel_rfl
  g4 := by kernel_rfl }
open Go.RowKit Go.Lib in
def Tryd.lays197_ren : Go.Shelf.Ren := ⟨fun | 197 => 111 | 260 => 122 | n => n, fun | 9 => 9 | 21 => 21 | 3 => 3 | 4 => 4 | 5 => 5 | 105 => 121 | 119 => 163 | 0 => 0 | 46 => 137 | 139 => 166 | 138 => 165 | n => n, fun | 3 => 1 | 4 => 2 | n => n⟩
open Go.RowKit Go.Lib in
def Tryd.lays271_ren : Go.Shelf.Ren := ⟨fun | 271 => 87 | 120 => 110 | 197 => 111 | 260 => 122 | n => n, fun | 9 => 9 | 21 => 21 | 3 => 3 | 4 => 4 | 5 => 5 | 105 => 121 | 119 => 163 | 0 => 0 | 46 => 137 | 139 => 166 | 138 => 165 | n => n, fun | 3 => 1 | 4 => 2 | n => n⟩
theorem Tryd.lays271 : Go.Proofs.Lays.n271 Tryd.prog Tryd.lays271_ren := {
  mixed := by kernel_rfl
  f120 := Tryd.func110.trans (congrArg some (by kernel_rfl))
  f197 := Tryd.func111.trans (congrArg some (by kernel_rfl))
  f260 := Tryd.func122.trans (congrArg some (by kernel_rfl))
  f271 := Tryd.func87.trans (congrArg some (by kernel_rfl))
  t0 := Tryd.underlying0
  a0 := Tryd.isAgg0
  z0 := Tryd.sizeOf0
  v0 := Tryd.zeroValue0
  t3 := Tryd.underlying3
  a3 := Tryd.isAgg3
  z3 := Tryd.sizeOf3
  v3 := Tryd.zeroValue3
  t4 := Tryd.underlying4
  a4 := Tryd.isAgg4
  z4 := Tryd.sizeOf4
  v4 := Tryd.zeroValue4
  t5 := Tryd.underlying5
  a5 := Tryd.isAgg5
  z5 := Tryd.sizeOf5
  v5 := Tryd.zeroValue5
  t9 := Tryd.underlying9
  a9 := Tryd.isAgg9
  z9 := Tryd.sizeOf9
  v9 := Tryd.zeroValue9
  t21 := Tryd.underlying21
  a21 := Tryd.isAgg21
  z21 := Tryd.sizeOf21
  v21 := Tryd.zeroValue21
  t46 := Tryd.underlying137
  a46 := Tryd.isAgg137
  z46 := Tryd.sizeOf137
  v46 := Tryd.zeroValue137
  t105 := Tryd.underlying121
  a105 := Tryd.isAgg121
  z105 := Tryd.sizeOf121
  v105 := Tryd.zeroValue121
  t119 := Tryd.underlying163
  a119 := Tryd.isAgg163
  z119 := Tryd.sizeOf163
  t138 := Tryd.underlying165
  a138 := Tryd.isAgg165
  z138 := Tryd.sizeOf165
  v138 := Tryd.zeroValue165
  t139 := Tryd.underlying166
  a139 := Tryd.isAgg166
  z139 := Tryd.sizeOf166
  v139 := Tryd.zeroValue166
  g3 := by kernel_rfl
  g4 := by kernel_rfl }
open Go.RowKit Go.Lib in
/-- **unicode/utf8.DecodeLastRuneInString AT EVERY STRING.** (LAID: no walk: one application.) -/
theorem Tryd.utf8_DecodeLastRuneInString (s : ByteArray) (w : World) (hs : s.size ≤ 9223372036854775807) (hT : Lib.Utf8Tabs 1 2 w) :
    Calls Tryd.prog 87 #[.string s] w fun e w' => e = .returned (.tuple #[.int .i32 (Lib.decodeLastL s.data.toList).1, .int .i64 (Lib.decodeLastL s.data.toList).2]) ∧ Below w.heap.size w w' := Any.utf8_DecodeLastRuneInString Tryd.lays271 s w hs hT
end Go.Proofs
end

section
namespace Go.Proofs.YtefdfgmlmjnmlaaDoor.My
open Go.RowKit Go.Proofs.YtefdfgmlmjnmlaaDoorW.PrintWords
theorem last_low (l : List UInt8) (hne : l ≠ []) (h : (Lib.decodeLastL l).1 < 128) : (l.getD (l.length - 1) 0).toNat = (Lib.decodeLastL l).1 ∧ (Lib.decodeLastL l).2 = 1 := by
  unfold Lib.decodeLastL at h ⊢
  rw [if_neg hne] at h ⊢
  by_cases hb : (l.getD (l.length - 1) 0).toNat < 128
  · rw [if_pos hb]
    exact ⟨rfl, rfl⟩
  · rw [if_neg hb] at h
    exfalso
    have hst := Lib.lastStart_lt l hne
    simp only at h
    split at h
    · rename_i he
      have hd : ∀ (t : List UInt8) (c : UInt8), (l.drop (Lib.lastStart l)) = c :: t → (Lib.decodeL (l.drop (Lib.lastStart l))).1 < 128 → c.toNat < 128 ∧ (Lib.decodeL (l.drop (Lib.lastStart l))).2 = 1 := by
        intro t c ht hlow
        rw [ht] at hlow ⊢
        unfold Lib.decodeL at hlow ⊢
        have hsz : 0 < (⟨(c :: t).toArray⟩ : ByteArray).size := by show 0 < (c :: t).toArray.size; simp
        by_cases hc : c.toNat < 128
        · have hg : ((⟨(c :: t).toArray⟩ : ByteArray)[0]'hsz).toNat < 128 := hc
          rw [decode_ascii _ 0 hsz hg]
          exact ⟨hc, rfl⟩
        · have hg : 128 ≤ ((⟨(c :: t).toArray⟩ : ByteArray)[0]'hsz).toNat := by show 128 ≤ c.toNat; omega
          have := (decode_high _ 0 hsz hg).1
          omega
      obtain ⟨c, t, ht⟩ : ∃ c t, l.drop (Lib.lastStart l) = c :: t := by
        cases hq : l.drop (Lib.lastStart l) with
        | nil => have := congrArg List.length hq; simp at this; omega
        | cons c t => exact ⟨c, t, rfl⟩
      obtain ⟨hc, h2⟩ := hd t c ht h
      rw [h2] at he
      have hlen : (l.drop (Lib.lastStart l)).length = 1 := by simp; omega
      have : l.getD (l.length - 1) 0 = c := by
        have e1 : l.length - 1 = Lib.lastStart l := by omega
        rw [e1]
        have := List.getElem?_drop (xs := l) (i := Lib.lastStart l) (j := 0)
        rw [ht] at this
        simp at this
        simp [List.getD, ← this]
      rw [this] at hb
      exact hb hc
    · simp [Utf8.runeError] at h
/-- The two tables of unicode/utf8 lie as the library's text lays them. -/
structure Tabs (w : World) : Prop where
  out : Lib.Utf8Tabs 1 2 w
theorem Tabs.below {w w' : World} (h : Tabs w) (hb : Below w.heap.size w w') : Tabs w' := ⟨Go.Proofs.Utf8Tabs_below h.out hb⟩
theorem ext_ext (t : ByteArray) (q m : Nat) (h : m ≤ q) : (t.extract 0 q).extract 0 m = t.extract 0 m := by
  apply ByteArray.ext
  simp [ByteArray.data_extract, Array.extract_extract, Nat.min_eq_left h]
theorem ext_size (t : ByteArray) (q : Nat) (h : q ≤ t.size) : (t.extract 0 q).size = q := by
  simp [ByteArray.size_extract]; omega
theorem ext_all (t : ByteArray) : t.extract 0 t.size = t := by
  apply ByteArray.ext; simp
theorem step_right {t set u : ByteArray} {q c n : Nat} (hset : ∀ b ∈ set.data.toList, b.toNat < 128) (h1 : ∀ h : 0 < t.size, inS set (t[0]'h).toNat = false) (hq : q ≤ t.size) (hp : 0 < q) (hu : t.extract 0 q = u) (hcn : Lib.decodeLastL u.data.toList = (c, n)) (hb : inS set c = true) : n = 1 ∧ 1 < q := by
  have hl := inS_low set hset c hb
  have hsz : u.size = q := by rw [← hu]; exact ext_size t q hq
  have hlen : u.data.toList.length = q := by rw [Array.length_toList]; exact hsz
  have hne : u.data.toList ≠ [] := fun h => by rw [h] at hlen; simp at hlen; omega
  obtain ⟨e1, e2⟩ := last_low u.data.toList hne (by rw [hcn]; exact hl)
  rw [hcn] at e1 e2
  simp only at e1 e2
  refine ⟨e2, ?_⟩
  rcases Nat.lt_or_ge 1 q with h | h
  · exact h
  · exfalso
    obtain rfl : q = 1 := by omega
    have h0 := h1 (by omega)
    rw [hlen] at e1
    have : u.data.toList.getD (1 - 1) 0 = t[0]'(by omega) := by
      subst hu
      simp [List.getD, ByteArray.data_extract]
      show (t.data[0]?).getD 0 = t.data[0]'(by have : t.data.size = t.size := rfl; omega)
      rw [Array.getElem?_eq_getElem]
      rfl
    rw [this] at e1
    rw [e1, hb] at h0
    exact absurd h0 (by decide)
structure RightPost (t : ByteArray) (w : World) (e : Ending) (w' : World) : Prop where
  out : ∃ u : ByteArray, e = .returned (.string u) ∧ (u.size = 0 ↔ t.size = 0) ∧ Below w.heap.size w w'
set_option maxHeartbeats 4000000 in
set_option maxRecDepth 100000 in
theorem cutRight_calls (t set : ByteArray) (w : World) (hset : ∀ b ∈ set.data.toList, b.toNat < 128) (hs : t.size ≤ 9223372036854775807) (hT : Tabs w) (h1 : ∀ h : 0 < t.size, inS set (t[0]'h).toNat = false) :
    Calls Tryd.prog 56 #[.string t, .string set] w (RightPost t w) := by
  have HSET := Aside0.mk hset
  have H1 := Aside0.mk h1
  clear hset h1
  go_enter Tryd.func56, Tryd.ntmps56
  go_wp2
  go_loopw [0, 5, 6, 7, 9] (fun t0 _ _ _ _ wr => ∃ q : Nat, q ≤ t.size ∧ (0 < t.size → 0 < q) ∧ t0 = .string (t.extract 0 q) ∧ Below w.heap.size w wr) (fun t0 _ _ _ _ _ => match t0 with | .string u => u.size | _ => 0)
  case atStart =>
    exact ⟨t.size, Nat.le_refl _, id, by rw [ext_all], Below.refl _ _⟩
  case round =>
    obtain ⟨q, hq, hq0, rfl, hbw⟩ := hrel
    have hqs := ext_size t q hq
    by_cases hp : 0 < q
    · have hTr := hT.below hbw
      have hsz : w.heap.size ≤ wr.heap.size := hbw.size
      generalize hu : t.extract 0 q = u at hqs
      have HU := Aside0.mk hu
      clear hu
      have hup : (0 : Int) < u.size := by omega
      obtain ⟨c, n, hcn⟩ : ∃ c n, Lib.decodeLastL u.data.toList = (c, n) := ⟨_, _, rfl⟩
      have hD := Tryd.utf8_DecodeLastRuneInString u wr (by omega) hTr.out
      rw [hcn] at hD
      simp only at hD
      have HCN := Aside0.mk hcn
      have HD := Aside0.mk hD
      clear hcn hD
      go_wp2_with (go_at_call 87; refine HD.out.mono ?_; rintro e w2 ⟨rfl, hb2⟩)
      have hset' : w2.heap.size < (w2.iter set 0).heap.size := by simp [World.iter]
      have hbI : Below w2.heap.size w2 (w2.iter set 0) := (Below.refl _ _).alloc (Nat.le_refl _) _
      have hiI := World.iter_heap w2 set 0
      have hsw : wr.heap.size ≤ w2.heap.size := hb2.size
      clear HD
      go_loopw [7, 9] (fun t7 _ wx => ∃ j : Nat, j ≤ set.size ∧ t7 = .bool (inUpTo set c j) ∧ wx.heap[w2.heap.size]? = some (.stringIter set j) ∧ Below w2.heap.size w2 wx) (fun _ _ wx => set.size - wx.iterPos w2.heap.size)
      case atStart => exact ⟨0, Nat.zero_le _, by rw [inUpTo_zero], hiI, hbI⟩
      case round =>
        clear hiI hbI hset'
        obtain ⟨j, hj, rfl, hit, hbx⟩ := hrel
        by_cases hjl : j < set.size
        · have hasc : (set[j]'hjl).toNat < 128 := HSET.out _ (by show set.data[j]'hjl ∈ _; simp)
          have hnx : ∀ ty, (Instr.next (.pointer (some ⟨w2.heap.size, 0, none⟩)) true ty).run Tryd.prog _ = _ := fun ty => Lib.run_next_ascii_at _ w2.heap.size set j ty hit hjl hasc
          have hs1 := inUpTo_succ set c j hjl
          have hit3 := Lib.iterAt_heap _ w2.heap.size set j (j + 1) hit
          have hbx3 := Lib.below_iterAt hbx (k := w2.heap.size) (Nat.le_refl _) set (j + 1)
          generalize hd : (set[j]'hjl).toNat = d at hnx hs1 hasc
          clear hd
          have HS1 := Aside0.mk hs1
          clear hs1
          cases hb : inUpTo set c j with
          | true =>
            rw [hb] at HS1
            clear hb
            go_wp2
            go_roundw
            case rel => exact ⟨j + 1, by omega, by rw [HS1.out]; rfl, hit3, hbx3⟩
            case measure => simp only [World.iterPos, hit3, hit]; omega
          | false =>
            rw [hb] at HS1
            clear hb
            go_wp2
            go_roundw
            case rel => exact ⟨j + 1, by omega, by rw [HS1.out]; rw [Bool.false_or]; congr 1; exact (same_num c d).symm, hit3, hbx3⟩
            case measure => simp only [World.iterPos, hit3, hit]; omega
        · have hnx : ∀ ty, (Instr.next (.pointer (some ⟨w2.heap.size, 0, none⟩)) true ty).run Tryd.prog _ = _ := fun ty => Lib.run_next_end_at _ w2.heap.size set j ty hit hjl
          have hIA := inUpTo_all set c j hjl
          rw [hIA]
          clear hIA
          have hbw3 : Below w.heap.size w wr := hbw.trans ((hb2.mono hsz).trans (hbx.mono (by omega)))
          cases hb : inS set c with
          | true =>
            obtain ⟨rfl, hq2⟩ := step_right HSET.out H1.out hq hp HU.out HCN.out hb
            clear hb
            have hex : u.extract 0 (q - 1) = t.extract 0 (q - 1) := by rw [← HU.out]; exact ext_ext t q (q - 1) (by omega)
            have hxs : (t.extract 0 (q - 1)).size = q - 1 := ext_size t _ (by omega)
            have HEX := Aside0.mk hex
            clear hex
            go_wp2
            refine ⟨⟨q - 1, by omega, by omega, by rw [HEX.out], hbw3⟩, ?_⟩
            show (u.extract 0 (q - 1)).size < u.size
            rw [HEX.out, hxs]
            omega
          | false =>
            clear hb
            go_wp2
            go_ret
            exact ⟨_, rfl, by omega, hbw3⟩
    · obtain rfl : q = 0 := by omega
      have ht : t.size = 0 := by omega
      go_wp2
      go_ret
      exact ⟨_, rfl, by omega, hbw⟩
end Go.Proofs.YtefdfgmlmjnmlaaDoor.My
end

section
namespace Go.Proofs.YtefdfgmlmjnmlaaDoor.My
open Go.ChangeShapes Go.WideShapes Go.ChangeAt Go.RowKit
open Go.Proofs.YtefdfgmlmjnmlaaDoor
theorem own : ownKnob Tryd.prog.godebug = none := by kernel_rfl
abbrev tabs : List (String × DataW Unit) := [("unicode/utf8.acceptRanges", Rows.laid_unicode_utf8_acceptRanges), ("unicode/utf8.first", Rows.laid_unicode_utf8_first)]
theorem first_eq : Rows.laid_unicode_utf8_first = Lib.firstData := by kernel_rfl
theorem accept_eq : (Rows.laid_unicode_utf8_acceptRanges : DataW Unit) = Lib.acceptData := by kernel_rfl
theorem tabs_of {W : World} (h : laidMetH Tryd.prog tabs W) : Tabs W := by
  rw [MakeChecks.laidMetH_plain _ _ _ (by kernel_rfl)] at h
  have h1 := Lib.laidMet.reads h (.head _)
  have h2 := Lib.laidMet.reads h (.tail _ (.head _))
  rw [accept_eq] at h1
  rw [first_eq] at h2
  exact ⟨Go.Proofs.utf8Tabs_of_readsT (U8Types.of260 Tryd.lays260) ⟨by kernel_rfl, by kernel_rfl, by kernel_rfl, by kernel_rfl, by kernel_rfl, by kernel_rfl, by kernel_rfl⟩ h2 h1⟩
end Go.Proofs.YtefdfgmlmjnmlaaDoor.My
end

section
namespace Go.Proofs.YtefdfgmlmjnmlaaDoor.My
open Go.RowKit Go.Proofs.YtefdfgmlmjnmlaaDoorW.PrintWords Go.Proofs.YtefdfgmlmjnmlaaDoor.Rf
/-- The place of the first element that something holds of; -1: there is none. -/
def idx {α : Type} (p : α → Bool) (l : List α) : Int := if l.findIdx p < l.length then (l.findIdx p : Int) else -1
theorem idx_hit {α : Type} (p : α → Bool) (l : List α) (z : α) (k : Nat) (hk : k < l.length) (hall : ∀ j, j < k → p (l.getD j z) = false) (hp : p (l.getD k z) = true) : idx p l = k := by
  have hg : ∀ j, (h : j < l.length) → l.getD j z = l[j]'h := fun j h => by simp [List.getD, List.getElem?_eq_getElem h]
  have : l.findIdx p = k := (List.findIdx_eq hk).2 ⟨by rw [← hg k hk]; exact hp, fun j hj => by rw [← hg j (by omega)]; exact hall j hj⟩
  rw [idx, this, if_pos hk]
theorem idx_none {α : Type} (p : α → Bool) (l : List α) (z : α) (hall : ∀ j, j < l.length → p (l.getD j z) = false) : idx p l = -1 := by
  have hg : ∀ j, (h : j < l.length) → l.getD j z = l[j]'h := fun j h => by simp [List.getD, List.getElem?_eq_getElem h]
  have : l.findIdx p = l.length := List.findIdx_eq_length.2 fun x hx => by
    obtain ⟨j, hj, rfl⟩ := List.getElem_of_mem hx
    rw [← hg j hj]; exact hall j hj
  rw [idx, this, if_neg (Nat.lt_irrefl _)]
theorem idx_range {α : Type} (p : α → Bool) (l : List α) : -1 ≤ idx p l ∧ idx p l < l.length := by
  unfold idx; split <;> omega
/-- Is this the table of a name? -/
def isT (nm : ByteArray) (t : S45) : Bool := t.f0.toList == nm.toList
def findT (l : List S45) (nm : ByteArray) : Int := idx (isT nm) l
set_option maxHeartbeats 4000000 in
set_option maxRecDepth 100000 in
theorem isT_calls (t : S45) (A2 A3 : Option Addr) (c2 c3 : Nat) (nm : ByteArray) (b : Nat) (w : World) (hb : w.heap[b]? = some (.cells #[.string nm] 9 (0, 0))) :
    Calls Tryd.prog 53 #[.agg #[.string t.f0, .int .i64 t.f1, .slice A2 t.f2.length c2, .slice A3 t.f3.length c3], .pointer (some ⟨b, 0, none⟩)] w fun e w' => e = .returned (.bool (isT nm t)) ∧ Below w.heap.size w w' := by
  have c0 : w.cell? ⟨b, 0, none⟩ = some (.string nm) := blk_cell hb 0
  have hlt := blk_lt hb
  clear hb
  go_enter Tryd.func53, Tryd.ntmps53
  go_wp2
  go_ret
  exact ⟨rfl, (Below.refl _ _).alloc (Nat.le_refl _) _⟩
set_option maxHeartbeats 4000000 in
set_option maxRecDepth 100000 in
theorem idxT_calls (l : List S45) (A : Option Addr) (c : Nat) (nm : ByteArray) (b : Nat) (w : World) (hr : Kd.C k45 w A l.length l) (hb : w.heap[b]? = some (.cells #[.string nm] 9 (0, 0))) :
    Calls Tryd.prog 52 #[.slice A l.length c, .func (.func 53) #[] #[.pointer (some ⟨b, 0, none⟩)]] w fun e w' => e = .returned (.int .i64 (findT l nm)) ∧ Below w.heap.size w w' := by
  have HR := Aside0.mk hr
  have HBL := Aside0.mk hb
  have hn : l.length ≤ 9223372036854775807 := hr.2.1
  clear hr hb
  go_enter Tryd.func52, Tryd.ntmps52
  go_wp2
  go_loopw [5, 8] (fun _ t8 wr => ∃ k : Nat, t8 = .int .i64 k ∧ k ≤ l.length ∧ Aside0 (∀ j, j < k → isT nm (l.getD j z45) = false) ∧ Aside0 (Below w.heap.size w wr)) (fun _ t8 _ => l.length - (intOf t8).toNat)
  case atStart => exact ⟨0, rfl, Nat.zero_le _, ⟨fun j hj => absurd hj (by omega)⟩, ⟨Below.refl _ _⟩⟩
  case round =>
    obtain ⟨k, rfl, hk, HA, HB⟩ := hrel
    by_cases hlt : k < l.length
    · obtain ⟨ad, A2, c2, A3, c3, e, hc0, hc1, hc2, hc3, _, _, _, _⟩ := at_T45 HR.out (k : Int) (by omega) (by omega)
      subst e
      simp only [Int.toNat_natCast, rd_T45] at hc0 hc1 hc2 hc3
      generalize hx : l.getD k z45 = x at hc0 hc1 hc2 hc3
      have HXX := Aside0.mk hx
      have d0 := (HB.out.cell (World.block_lt_of_cell? w _ hc0)).trans hc0
      have d1 := (HB.out.cell (World.block_lt_of_cell? w _ hc1)).trans hc1
      have d2 := (HB.out.cell (World.block_lt_of_cell? w _ hc2)).trans hc2
      have d3 := (HB.out.cell (World.block_lt_of_cell? w _ hc3)).trans hc3
      clear hc0 hc1 hc2 hc3 hx
      have hi0 : (0 : Int) ≤ (k : Int) := by omega
      have hi1 : (k : Int) < (l.length : Int) := by omega
      have hblk := blk_below HBL.out HB.out
      have HBLK := Aside0.mk hblk
      clear hblk
      cases hp : isT nm x with
      | true =>
        have hres : findT l nm = k := idx_hit _ l z45 k hlt HA.out (by rw [HXX.out]; exact hp)
        have HP := Aside0.mk hp
        have HRES := Aside0.mk hres
        clear hp hres
        go_wp2_with (go_at_call 53; refine (isT_calls x A2 A3 c2 c3 nm b _ HBLK.out).mono ?_; rw [HP.out]; rintro e w2 ⟨rfl, hb2⟩)
        go_ret
        exact ⟨by rw [HRES.out]; rfl, HB.out.trans (hb2.mono HB.out.size)⟩
      | false =>
        have hall : ∀ j, j < k + 1 → isT nm (l.getD j z45) = false := fun j hj => by
          rcases Nat.lt_or_ge j k with h | h
          · exact HA.out j h
          · obtain rfl : j = k := by omega
            rw [HXX.out]; exact hp
        have HP := Aside0.mk hp
        have HALL := Aside0.mk hall
        clear hp hall
        go_wp2_with (go_at_call 53; refine (isT_calls x A2 A3 c2 c3 nm b _ HBLK.out).mono ?_; rw [HP.out]; rintro e w2 ⟨rfl, hb2⟩)
        go_roundw
        case rel => exact ⟨k + 1, by go_num, by omega, HALL, ⟨HB.out.trans (hb2.mono HB.out.size)⟩⟩
        case measure => simp [intOf]; omega
    · have hres : findT l nm = -1 := idx_none _ l z45 (fun j hj => HA.out j (by omega))
      have HRES := Aside0.mk hres
      clear hres
      go_wp2
      go_ret
      exact ⟨by rw [HRES.out]; rfl, HB.out⟩
/-- The table that Find answers. -/
def theT (l : List S45) (nm : ByteArray) : S45 := if findT l nm < 0 then z45 else l.getD (findT l nm).toNat z45
structure FindPost (l : List S45) (nm : ByteArray) (w : World) (e : Ending) (w' : World) : Prop where
  out : ∃ (A2 A3 : Option Addr) (c2 c3 : Nat), e = .returned (.tuple #[.agg #[.string (theT l nm).f0, .int .i64 (theT l nm).f1, .slice A2 (theT l nm).f2.length c2, .slice A3 (theT l nm).f3.length c3], .bool (decide (0 ≤ findT l nm))])
    ∧ (theT l nm).f2.length ≤ c2 ∧ k59.C w A2 (theT l nm).f2.length (theT l nm).f2 ∧ (theT l nm).f3.length ≤ c3 ∧ k72.C w A3 (theT l nm).f3.length (theT l nm).f3 ∧ Below w.heap.size w w'
set_option maxHeartbeats 4000000 in
set_option maxRecDepth 100000 in
theorem find_calls (v : Int) (l : List S45) (A : Option Addr) (c : Nat) (A' : Option Addr) (n' c' : Nat) (nm : ByteArray) (w : World) (hr : Kd.C k45 w A l.length l) :
    Calls Tryd.prog 29 #[.agg #[.int .i64 v, .slice A l.length c, .slice A' n' c'], .string nm] w (FindPost l nm w) := by
  have HR := Aside0.mk hr
  clear hr
  go_enter Tryd.func29, Tryd.ntmps29
  go_wp2_with fail
  refine (idxT_calls l A c nm (w.heap.size + 1) _ ?hC ?hN).mono ?_
  case hC => exact Kd.C_below HR.out (below3 w _ _ _)
  case hN => exact blk_alloc (blk_new1 w _ _) _
  rintro e w4 ⟨rfl, hb⟩
  have hbw : Below w.heap.size w w4 := below_step (below3 w _ _ _) hb
  have hz : w.heap.size + 2 < w4.heap.size := by have := hb.size; simp at this; omega
  have hk2 : w4.heap[w.heap.size]? = some (.cells #[.int .i64 v, .slice A l.length c, .slice A' n' c'] 25 (0, 0)) := blk_below (blk_alloc (blk_alloc (blk_new w _) _) _) hb
  have hk4 : w4.heap[w.heap.size + 2]? = some (.cells #[.string ⟨#[]⟩, .int .i64 0, .slice none 0 0, .slice none 0 0] 45 (0, 0)) := blk_below (blk_new2 w _ _ _) hb
  have a1 : w4.cell? ⟨w.heap.size, 1, none⟩ = some (.slice A l.length c) := blk_cell hk2 1
  have b0 : w4.cell? ⟨w.heap.size + 2, 0, none⟩ = some (.string ⟨#[]⟩) := blk_cell hk4 0
  have b1 : w4.cell? ⟨w.heap.size + 2, 1, none⟩ = some (.int .i64 0) := blk_cell hk4 1
  have b2 : w4.cell? ⟨w.heap.size + 2, 2, none⟩ = some (.slice none 0 0) := blk_cell hk4 2
  have b3 : w4.cell? ⟨w.heap.size + 2, 3, none⟩ = some (.slice none 0 0) := blk_cell hk4 3
  have f0 := blk_frozen hk4 0
  have f1 := blk_frozen hk4 1
  have f2 := blk_frozen hk4 2
  have f3 := blk_frozen hk4 3
  have HBW := Aside0.mk hbw
  have HK4 := Aside0.mk hk4
  clear hb hbw hk2 hk4
  have hrg := idx_range (isT nm) l
  have HT := Aside0.mk (rfl : theT l nm = theT l nm)
  by_cases hneg : findT l nm < 0
  · have hT : theT l nm = z45 := by unfold theT; rw [if_pos hneg]
    have HTT := Aside0.mk hT
    clear hT HT
    go_wp2
    refine bodyPost_ret (results_ct rfl _ _ (w.heap.size + 1 + 1) 45 #[.string ⟨#[]⟩, .int .i64 0, .slice none 0 0, .slice none 0 0] (0, 0) _ rfl (blk_put (blk_put (blk_put (blk_put HK4.out 0 _ rfl) 1 _ rfl) 2 _ rfl) 3 _ rfl) Tryd.underlying45 rfl (by kernel_rfl)) rfl ?_
    refine ⟨none, none, 0, 0, ?_, ?_, ?_, ?_, ?_, ?_⟩
    · rw [HTT.out, decide_eq_false (by omega)]; rfl
    · rw [HTT.out]; exact Nat.le_refl _
    · rw [HTT.out]; exact Kd.C_nil _ _
    · rw [HTT.out]; exact Nat.le_refl _
    · rw [HTT.out]; exact Kd.C_nil _ _
    · repeat' (refine below_set ?_ (by omega))
      exact HBW.out
  · have hlt : (findT l nm).toNat < l.length := by have := hrg.2; unfold findT at hneg ⊢; omega
    have hk : findT l nm = ((findT l nm).toNat : Int) := by omega
    generalize hkk : (findT l nm).toNat = k at hlt hk
    obtain ⟨ad, A2, c2, A3, c3, e, hc0, hc1, hc2, hc3, hl2, hC2, hl3, hC3⟩ := at_T45 HR.out (k : Int) (by omega) (by omega)
    subst e
    have hT : theT l nm = l.getD k z45 := by unfold theT; rw [if_neg hneg, hkk]
    simp only [Int.toNat_natCast, rd_T45] at hc0 hc1 hc2 hc3 hl2 hC2 hl3 hC3
    rw [← hT] at hc0 hc1 hc2 hc3 hl2 hC2 hl3 hC3
    have hwb := HBW.out
    have d0 := (hwb.cell (World.block_lt_of_cell? w _ hc0)).trans hc0
    have d1 := (hwb.cell (World.block_lt_of_cell? w _ hc1)).trans hc1
    have d2 := (hwb.cell (World.block_lt_of_cell? w _ hc2)).trans hc2
    have d3 := (hwb.cell (World.block_lt_of_cell? w _ hc3)).trans hc3
    have HH2 := Aside0.mk hl2
    have HC2 := Aside0.mk hC2
    have HH3 := Aside0.mk hl3
    have HC3 := Aside0.mk hC3
    clear hc0 hc1 hc2 hc3 hl2 hC2 hl3 hC3 hwb hT HT hkk hneg hrg
    generalize hr : findT l nm = r at hk ⊢
    generalize hx : theT l nm = x at d0 d1 d2 d3 HH2 HC2 HH3 HC3
    subst hk
    have HRR := Aside0.mk hr
    have HXX := Aside0.mk hx
    clear hr hx
    have hi0 : (0 : Int) ≤ (k : Int) := by omega
    have hi1 : (k : Int) < (l.length : Int) := by omega
    go_wp2
    refine bodyPost_ret (results_ct rfl _ _ (w.heap.size + 1 + 1) 45 #[.string x.f0, .int .i64 x.f1, .slice A2 x.f2.length c2, .slice A3 x.f3.length c3] (0, 0) _ rfl (blk_put (blk_put (blk_put (blk_put HK4.out 0 _ rfl) 1 _ rfl) 2 _ rfl) 3 _ rfl) Tryd.underlying45 rfl (by kernel_rfl)) rfl ?_
    refine ⟨A2, A3, c2, c3, ?_, ?_, ?_, ?_, ?_, ?_⟩
    · rw [HXX.out, HRR.out, decide_eq_true (show (0 : Int) ≤ (k : Int) by omega)]; rfl
    · rw [HXX.out]; exact HH2.out
    · rw [HXX.out]; exact HC2.out
    · rw [HXX.out]; exact HH3.out
    · rw [HXX.out]; exact HC3.out
    · repeat' (refine below_set ?_ (by omega))
      exact HBW.out
end Go.Proofs.YtefdfgmlmjnmlaaDoor.My
end

section
namespace Go.Proofs.YtefdfgmlmjnmlaaDoor.My
open Go.RowKit Go.Proofs.YtefdfgmlmjnmlaaDoorW.PrintWords
def low (c : UInt8) : Bool := decide (97 ≤ c.toNat) && decide (c.toNat ≤ 122)
def nameByte (c : UInt8) : Bool := low c || c.toNat == 95 || (decide (48 ≤ c.toNat) && decide (c.toNat ≤ 57))
/-- Can a text be a name? -/
def isName (s : ByteArray) : Bool := decide (0 < s.size) && decide (s.size ≤ 12) && low (s.data.toList.getD 0 0) && s.data.toList.all nameByte
structure NamePost (s : ByteArray) (w : World) (e : Ending) (w' : World) : Prop where
  out : e = .returned (.bool (isName s)) ∧ Below w.heap.size w w'
def LET : List UInt8 := [97, 98, 99, 100, 101, 102, 103, 104, 105, 106, 107, 108, 109, 110, 111, 112, 113, 114, 115, 116, 117, 118, 119, 120, 121, 122]
def SET : ByteArray := ⟨#[97, 98, 99, 100, 101, 102, 103, 104, 105, 106, 107, 108, 109, 110, 111, 112, 113, 114, 115, 116, 117, 118, 119, 120, 121, 122, 48, 49, 50, 51, 52, 53, 54, 55, 56, 57, 95]⟩
theorem of_all (p : UInt8 → Bool) (h : ∀ n, n < 256 → p (UInt8.ofNat n) = true) (c : UInt8) : p c = true := by
  have := h c.toNat c.toNat_lt
  rwa [UInt8.ofNat_toNat] at this
theorem low_let (c : UInt8) : LET.contains c = low c := by
  have := of_all (fun c => LET.contains c == low c) (by decide +kernel) c
  simpa using this
theorem inS_name (c : UInt8) : inS SET c.toNat = nameByte c := by
  have := of_all (fun c => inS SET c.toNat == nameByte c) (by decide +kernel) c
  simpa using this
theorem set_ascii : ∀ b ∈ SET.data.toList, b.toNat < 128 := by decide
theorem index_low_no (c : UInt8) (h : low c = false) : Lib.indexByte LET c < 0 := by
  have := Lib.contains_iff_indexByte LET c
  rw [low_let, h] at this
  have := of_decide_eq_false this.symm
  omega
theorem index_low_yes (c : UInt8) (h : low c = true) : 0 ≤ Lib.indexByte LET c := by
  have := Lib.contains_iff_indexByte LET c
  rw [low_let, h] at this
  exact of_decide_eq_true this.symm
theorem index_calls (s : ByteArray) (c : Int) (w : World) :
    Calls Tryd.prog 55 #[.string s, .int .u8 c] w fun e w' => e = .returned (.int .i64 (Lib.indexByte s.data.toList c.toNat.toUInt8)) ∧ w = w' :=
  (Tryd.strings_IndexByte s c w).mono fun _ _ h => ⟨h.1, h.2.symm⟩
theorem toList_nil (s : ByteArray) : s.toList = [] ↔ s.size = 0 := by
  rw [ByteArray.toList_eq]
  have : s.size = s.data.toList.length := by rw [Array.length_toList]; rfl
  rw [this]
  exact List.length_eq_zero_iff.symm
theorem head_at (s : ByteArray) (h : 0 < s.size) : s.data.toList.getD 0 0 = s[0]'h := by
  have h' : 0 < s.data.size := h
  show (s.data.toList[0]?).getD 0 = s.data[0]'h'
  rw [Array.getElem?_toList, Array.getElem?_eq_getElem h']
  rfl
theorem all_of (s : ByteArray) (p : UInt8 → Bool) (h : ∀ j, (h : j < s.size) → p (s[j]'h) = true) : s.data.toList.all p = true := by
  rw [List.all_eq_true]
  intro x hx
  obtain ⟨j, hj, rfl⟩ := List.getElem_of_mem hx
  exact h j (by simpa using hj)
theorem not_all (s : ByteArray) (p : UInt8 → Bool) (j : Nat) (h : j < s.size) (hp : p (s[j]'h) = false) : s.data.toList.all p = false := by
  rw [Bool.eq_false_iff]
  intro ha
  rw [List.all_eq_true] at ha
  have := ha (s[j]'h) (by show s.data[j]'h ∈ _; simp)
  rw [hp] at this
  exact absurd this (by decide)
/-- What is left of a text and is cut from the right: nothing, just if all bytes are the set's. -/
theorem left_all {s t : ByteArray} (h : LeftOf SET s t) : (t.size = 0 ↔ s.data.toList.all nameByte = true) ∧ (∀ h : 0 < t.size, inS SET (t[0]'h).toNat = false) := by
  obtain ⟨p, hp, rfl, hall, hno⟩ := h
  have hsz : (s.extract p s.size).size = s.size - p := by simp [ByteArray.size_extract]
  refine ⟨?_, ?_⟩
  · rw [hsz]
    constructor
    · intro h0
      exact all_of s _ fun j hj => by rw [← inS_name]; exact hall j hj (by omega)
    · intro ha
      rcases Nat.lt_or_ge p s.size with h | h
      · have := not_all s nameByte p h (by rw [← inS_name]; exact hno h)
        rw [this] at ha
        exact absurd ha (by decide)
      · omega
  · intro h
    have hps : p < s.size := by omega
    have := hno hps
    have e : (s.extract p s.size)[0]'h = s[p]'hps := by
      show (s.extract p s.size).data[0]'h = s.data[p]'hps
      simp [ByteArray.data_extract]
    rw [e]
    exact this
theorem left_size {s t : ByteArray} (h : LeftOf SET s t) : t.size ≤ s.size := by
  obtain ⟨p, hp, rfl, _⟩ := h
  simp [ByteArray.size_extract]
set_option maxHeartbeats 4000000 in
set_option maxRecDepth 100000 in
theorem name_calls (s : ByteArray) (w : World) (hs : s.size ≤ 9223372036854775807) (hT : Tabs w) :
    Calls Tryd.prog 32 #[.string s] w (NamePost s w) := by
  by_cases h0 : s.toList = []
  · have hr : isName s = false := by simp [isName, (toList_nil s).1 h0]
    go_enter Tryd.func32, Tryd.ntmps32
    go_wp2_with fail
    go_ret
    exact ⟨by show Ending.returned (.bool false) = _; rw [hr], Below.refl _ _⟩
  · by_cases h12 : s.size ≤ 12
    · have hz : 0 < s.size := by have := mt (toList_nil s).2 h0; omega
      cases hlo : low (s.data.toList.getD 0 0) with
      | false =>
        have hr : isName s = false := by simp only [isName, hlo]; simp
        have hneg := index_low_no (s[0]'hz) (by rw [← head_at s hz]; exact hlo)
        unfold LET at hneg
        clear hlo
        go_enter Tryd.func32, Tryd.ntmps32
        go_wp2_with (go_at_call 55; refine (index_calls _ _ _).mono ?_; rintro e w2 ⟨rfl, rfl⟩)
        go_ret
        exact ⟨by show Ending.returned (.bool false) = _; rw [hr], Below.refl _ _⟩
      | true =>
        have hpos := index_low_yes (s[0]'hz) (by rw [← head_at s hz]; exact hlo)
        unfold LET at hpos
        have HLO := Aside0.mk hlo
        clear hlo
        go_enter Tryd.func32, Tryd.ntmps32
        go_wp2_with (first | (go_at_call 55; refine (index_calls _ _ _).mono ?_; rintro e w2 ⟨rfl, rfl⟩) | (go_at_call 57; refine (cutLeft_calls _ SET _ set_ascii).mono ?_; rintro e w2 ⟨t, rfl, hl, hb⟩))
        refine (cutRight_calls t SET w2 set_ascii (by have := left_size hl; omega) (hT.below hb) (left_all hl).2).mono ?_
        rintro e w3 ⟨u, rfl, hu, hb2⟩
        have hall := (left_all hl).1
        have hb3 : Below w.heap.size w w3 := hb.trans (hb2.mono hb.size)
        have HU := Aside0.mk hu
        have HALL := Aside0.mk hall
        clear hu hall
        go_wp2
        go_ret
        refine ⟨?_, hb3⟩
        refine congrArg (fun b => Ending.returned (.bool b)) ?_
        have e1 := toList_nil u
        have hr : isName s = s.data.toList.all nameByte := by simp only [isName, HLO.out, decide_eq_true hz, decide_eq_true h12]; simp
        rw [hr, Bool.eq_iff_iff]
        simp [e1, HU.out, HALL.out]
        exact fun _ => h0
    · have hr : isName s = false := by simp only [isName, decide_eq_false h12]; simp
      go_enter Tryd.func32, Tryd.ntmps32
      go_wp2_with fail
      go_ret
      exact ⟨by show Ending.returned (.bool false) = _; rw [hr], Below.refl _ _⟩
end Go.Proofs.YtefdfgmlmjnmlaaDoor.My
end

section
namespace Go.Proofs.YtefdfgmlmjnmlaaDoor.My
open Go.RowKit Go.Proofs.YtefdfgmlmjnmlaaDoorW.PrintWords Go.Proofs.YtefdfgmlmjnmlaaDoor.Rf
structure BoolPost (b : Bool) (w : World) (e : Ending) (w' : World) : Prop where
  out : e = .returned (.bool b) ∧ Below w.heap.size w w'
end Go.Proofs.YtefdfgmlmjnmlaaDoor.My
end

section
namespace Go.Proofs.YtefdfgmlmjnmlaaDoor.My
open Go.RowKit Go.Proofs.YtefdfgmlmjnmlaaDoorW.PrintWords Go.Proofs.YtefdfgmlmjnmlaaDoor.Rf
theorem wrap_next {i n : Nat} (h : i < n) (hn : n ≤ 9223372036854775807) : wrap64 ((i : Int) + 1) = ((i + 1 : Nat) : Int) := by
  unfold wrap64; omega
theorem bt_nat (s : ByteArray) (i : Nat) (h : i < s.size) : bt s (i : Int) = ((s[i]'h).toNat : Int) := by
  simp [bt, h]
theorem rd45_nat (l : List S45) (i : Nat) : rd_T45 l (i : Int) = l.getD i z45 := rfl
theorem rd27_nat (l : List S27) (i : Nat) : rd_T27 l (i : Int) = l.getD i z27 := rfl
end Go.Proofs.YtefdfgmlmjnmlaaDoor.My
end

section
namespace Go.Proofs.YtefdfgmlmjnmlaaDoor.My
open Go.RowKit Go.Proofs.YtefdfgmlmjnmlaaDoorW.PrintWords Go.Proofs.YtefdfgmlmjnmlaaDoor.Rf
/-- An expression whose lists are no longer than can be. -/
inductive OkE : S72 → Prop
  | mk (e : S72) (hl : e.f3.length ≤ 9223372036854775807) (h : ∀ x, x ∈ e.f3 → OkE x) : OkE e
theorem OkE.len {e : S72} (h : OkE e) : e.f3.length ≤ 9223372036854775807 := by cases h; assumption
theorem OkE.sub {e x : S72} (h : OkE e) (hx : x ∈ e.f3) : OkE x := by cases h with | mk _ _ h => exact h x hx
theorem mem_getD {α : Type} {l : List α} {z : α} {i : Nat} (h : i < l.length) : l.getD i z ∈ l := by
  simp [List.getD, List.getElem?_eq_getElem h]
theorem rd72_nat (l : List S72) (i : Nat) : rd_T72 l (i : Int) = l.getD i z72 := rfl
theorem rd59_nat (l : List S59) (i : Nat) : rd_T59 l (i : Int) = l.getD i z59 := rfl
structure OkT (t : S45) : Prop where
  cols : t.f2.length ≤ 9223372036854775807
  checks : t.f3.length ≤ 9223372036854775807
  each : ∀ x, x ∈ t.f3 → OkE x
end Go.Proofs.YtefdfgmlmjnmlaaDoor.My
end

section
namespace Go.Proofs.YtefdfgmlmjnmlaaDoor.Rf
open Go.RowKit Go.Proofs.YtefdfgmlmjnmlaaDoorW.PrintWords
theorem info59 : (Tryd.prog.info? 59).map (fun i => (i.zero, i.size, i.bytes)) = some (some (.agg #[(.string ⟨#[]⟩), (.int .i64 0), (.bool false), (.bool false), (.string ⟨#[]⟩), (.int .i64 0)]), 6, 56) := by kernel_rfl
theorem info72 : (Tryd.prog.info? 72).map (fun i => (i.zero, i.size, i.bytes)) = some (some (.agg #[(.int .i64 0), (.int .i64 0), (.int .i64 0), (.int .i64 0), (.string ⟨#[]⟩), (.slice none 0 0)]), 6, 72) := by kernel_rfl
end Go.Proofs.YtefdfgmlmjnmlaaDoor.Rf
end

section
set_option linter.unusedVariables false
set_option linter.unusedSimpArgs false
namespace Go.Proofs.YtefdfgmlmjnmlaaDoor.Rf
open Go.RowKit Go.Proofs.YtefdfgmlmjnmlaaDoorW.PrintWords Go.Proofs.YtefdfgmlmjnmlaaDoorW.PrintLast Go.Proofs.YtefdfgmlmjnmlaaDoorW.PrintMore
def mortmainref01_Plain.f (a0 : Int) : Option (Int) := if a0 ≥ 0 then (some (IntKind.u64.wrap (2 * (IntKind.u64.wrap (a0))))) else (some (IntKind.u64.wrap ((IntKind.u64.wrap (2 * (IntKind.u64.wrap (wrap64 (-(wrap64 (a0 + 1))))))) + 1)))
set_option maxHeartbeats 8000000 in
set_option maxRecDepth 100000 in
theorem mortmainref01_Plain.calls (a0 : Int) (r : Int) (w : World) (h : mortmainref01_Plain.f a0 = some r) :
  Calls Tryd.prog 99 #[.int .i64 a0] w fun e w' => e = .returned (.int .u64 r) ∧ Drawn0 w w' := by
 have H : (if a0 ≥ 0 then (some (IntKind.u64.wrap (2 * (IntKind.u64.wrap (a0))))) else (some (IntKind.u64.wrap ((IntKind.u64.wrap (2 * (IntKind.u64.wrap (wrap64 (-(wrap64 (a0 + 1))))))) + 1)))) = some r := h
 clear h
 by_cases c2 : a0 ≥ 0
 ·rw [if_pos c2] at H
  have c2b0 : decide (0 ≤ a0) = true := decide_eq_true c2
  clear c2
  obtain rfl := Option.some.inj H
  go_enter Tryd.func99, Tryd.ntmps99
  go_wp2
  go_ret
  exact ⟨by first | rfl | (simp; done) | (simp [*]; done), by repeat (first | exact Drawn0.refl _ | apply Drawn0.step)⟩
 ·rw [if_neg c2] at H
  have c2b0 : decide (0 ≤ a0) = false := decide_eq_false c2
  clear c2
  obtain rfl := Option.some.inj H
  go_enter Tryd.func99, Tryd.ntmps99
  go_wp2
  go_ret
  exact ⟨by first | rfl | (simp; done) | (simp [*]; done), by repeat (first | exact Drawn0.refl _ | apply Drawn0.step)⟩
end Go.Proofs.YtefdfgmlmjnmlaaDoor.Rf
end

section
set_option linter.unusedVariables false
set_option linter.unusedSimpArgs false
namespace Go.Proofs.YtefdfgmlmjnmlaaDoor.Rf
open Go.RowKit Go.Proofs.YtefdfgmlmjnmlaaDoorW.PrintWords Go.Proofs.YtefdfgmlmjnmlaaDoorW.PrintLast Go.Proofs.YtefdfgmlmjnmlaaDoorW.PrintMore
def mortmainref01_Int.l0 : Nat → Int → ByteArray → Option (ByteArray)
 | 0, _, _ => none
 | k + 1, x3, x4 => if x3 ≥ 128 then ((some (([(IntKind.u64.wrap (128 + (Int.tmod x3 128))) % 256] : List Int) : List Int)).bind fun y298 => (if x4.size + (strOfNums y298).size ≤ 9223372036854775807 then (mortmainref01_Int.l0 k (IntKind.u64.wrap (Int.tdiv x3 128)) (x4 ++ (strOfNums y298))) else (none))) else ((some (([(x3) % 256] : List Int) : List Int)).bind fun y301 => (if x4.size + (strOfNums y301).size ≤ 9223372036854775807 then (some (x4 ++ (strOfNums y301))) else (none)))
def mortmainref01_Int.f (k : Nat) (a0 : Int) : Option (ByteArray) := (mortmainref01_Plain.f a0).bind fun t297 => (mortmainref01_Int.l0 k t297 (⟨#[]⟩ : ByteArray))
set_option maxHeartbeats 8000000 in
set_option maxRecDepth 100000 in
theorem mortmainref01_Int.calls (k : Nat) (a0 : Int) (r : ByteArray) (w : World) (h : mortmainref01_Int.f k a0 = some r) :
  Calls Tryd.prog 71 #[.int .i64 a0] w fun e w' => e = .returned (.string r) ∧ Below w.heap.size w w' := by
 have HB := Aside0.mk (Below.refl w.heap.size w)
 have H : ((mortmainref01_Plain.f a0).bind fun t297 => (mortmainref01_Int.l0 k t297 (⟨#[]⟩ : ByteArray))) = some r := h
 clear h
 replace H := Option.bind_eq_some_iff.mp H
 obtain ⟨t297, A20, H⟩ := H
 replace H : (mortmainref01_Int.l0 k t297 (⟨#[]⟩ : ByteArray)) = some r := H
 have A2 := Aside0.mk A20
 clear A20
 have H' := Aside0.mk H
 clear H
 go_enter Tryd.func71, Tryd.ntmps71
 go_wp2_with (first | ((with_reducible refine gate_callee (f := 99) rfl ?_); refine goesL_ (some 6) rfl rfl Tryd.func99 (by kernel_rfl) rfl #[.int .i64 a0] rfl (by (try simp only [List.map_toArray, List.map_cons, List.map_nil]); first | done | rfl | (simp only [List.length_drop, List.length_take]; rfl)) ?_; (with_reducible refine (mortmainref01_Plain.calls a0 t297 _ A2.out).mono ?_); rintro e w' ⟨rfl, ⟨nd, rfl⟩⟩; refine ⟨_, rfl, ?_⟩))
 go_loopg [3, 4] k (fun kq v3 v4 w' => ∃ (x3_1 : Int) (x4_1 : ByteArray), v3 = .int .u64 x3_1 ∧ v4 = .string x4_1 ∧ Aside0 (mortmainref01_Int.l0 kq x3_1 x4_1 = some r) ∧ Aside0 (kq ≤ k) ∧ Aside0 (Below w.heap.size w w'))
 case atStart => exact ⟨(t297), ((⟨#[]⟩ : ByteArray)), (by first | rfl | (simp; done) | (simp [*]; done)), (by first | rfl | (simp; done) | (simp [*]; done)), H', ⟨Nat.le_refl _⟩, ⟨by repeat (first | (with_reducible first | exact HB.out | apply below_alloc | apply pw_below_drewN | apply below_drew1) | exact HB.out)⟩⟩
 case round =>
  clear H'
  try clear p2
  obtain ⟨x3_1, x4_1, rfl, rfl, HA, HK1, HB⟩ := hrel
  cases gk with
  | zero => exact absurd HA.out (by simp [mortmainref01_Int.l0])
  | succ k1 =>
   have H := HA.out
   clear HA
   simp only [mortmainref01_Int.l0] at H
   by_cases c3 : x3_1 ≥ 128
   ·rw [if_pos c3] at H
    have c3b0 : decide (128 ≤ x3_1) = true := decide_eq_true c3
    clear c3
    obtain ⟨y298, hy298⟩ : ∃ y_ : List Int, y_ = (([(IntKind.u64.wrap (128 + (Int.tmod x3_1 128))) % 256] : List Int)) := ⟨_, rfl⟩
    replace H : (if x4_1.size + (strOfNums y298).size ≤ 9223372036854775807 then (mortmainref01_Int.l0 k1 (IntKind.u64.wrap (Int.tdiv x3_1 128)) (x4_1 ++ (strOfNums y298))) else (none)) = some r := by first | (rw [hy298]; with_reducible exact H) | (have H2_ := (Option.bind_some _ _).symm.trans H; rw [hy298]; with_reducible exact H2_) | (have H2_ := (Option.bind_some _ _).symm.trans H; with_reducible exact H2_) | with_reducible exact H | (rw [hy298]; exact H) | exact H
    have Ny298 := Aside0.mk hy298
    clear hy298
    by_cases c4 : x4_1.size + (strOfNums y298).size ≤ 9223372036854775807
    ·rw [if_pos c4] at H
     have c4b0 := eq_true c4
     have c4b1 : decide (x4_1.size + (strOfNums y298).size ≤ 9223372036854775807) = true := decide_eq_true c4
     try have c4b2 : (9223372036854775807 < x4_1.size + (strOfNums y298).size) = False := eq_false (Nat.not_lt.2 c4)
     have H' := Aside0.mk H
     clear H
     go_wp2_with (first | ((with_reducible refine gate_dst (N := 14) rfl ?_); refine Kd.R_lit (Kd.int .u8) _ 5 ?hg (N := 14) ?hd (xs := ([(IntKind.u64.wrap (128 + (Int.tmod x3_1 128))) % 256] : List Int)) (inner := [.int .u8 ((IntKind.u64.wrap (128 + (Int.tmod x3_1 128))) % 256)]) (ok := fun _ => True) (okp := fun _ => True) ?hr ?hp (fun _ hk => hk) trivial (Below.refl _ _) (Nat.le_refl _) (by simp) ?_; (case hd => rfl); (case hg => rfl); (case hr => first | (go_simp; done) | (go_simp; rfl)); (case hp => exact (Reps.one (show Kd.M (Kd.int .u8) _ _ _ ((IntKind.u64.wrap (128 + (Int.tmod x3_1 128))) % 256) [.int .u8 ((IntKind.u64.wrap (128 + (Int.tmod x3_1 128))) % 256)] from rfl) (Reps.none _ _))); intro v299 w5 ho6 hb hg_ hnew_; clear hg_ hnew_; (first | rw [← Ny298.out] at ho6 | (simp only [Int.reduceToNat] at ho6; rw [← Ny298.out] at ho6)); have n0_ := Aside0.mk (Kd.R_lower ho6 (below_size (by repeat (first | (with_reducible first | exact HB.out | apply below_alloc | apply pw_below_drewN | apply below_drew1) | exact HB.out)))); have n1_ := Aside0.mk (below_step (by repeat (first | (with_reducible first | exact HB.out | apply below_alloc | apply pw_below_drewN | apply below_drew1) | exact HB.out)) hb); clear HB; have HO300 := n0_; have HB := n1_; clear n0_ n1_; clear hb ho6; have hcv7 := own_string (P := Tryd.prog) Tryd.underlying107 Tryd.underlying5 Tryd.underlying9 (Kd.own_of_R HO300.out)))
     go_roundg k1
     case measure => have := HK1.out; omega
     case rel => exact ⟨(IntKind.u64.wrap (Int.tdiv x3_1 128)), (x4_1 ++ (strOfNums y298)), (by first | rfl | (simp; done) | (simp [*]; done)), (by first | rfl | (simp; done) | (simp [*]; done)), H', ⟨by have := HK1.out; omega⟩, ⟨by repeat (first | (with_reducible first | exact HB.out | apply below_alloc | apply pw_below_drewN | apply below_drew1) | exact HB.out)⟩⟩
    ·rw [if_neg c4] at H
     exact absurd H (by simp)
   ·rw [if_neg c3] at H
    have c3b0 : decide (128 ≤ x3_1) = false := decide_eq_false c3
    clear c3
    obtain ⟨y301, hy301⟩ : ∃ y_ : List Int, y_ = (([(x3_1) % 256] : List Int)) := ⟨_, rfl⟩
    replace H : (if x4_1.size + (strOfNums y301).size ≤ 9223372036854775807 then (some (x4_1 ++ (strOfNums y301))) else (none)) = some r := by first | (rw [hy301]; with_reducible exact H) | (have H2_ := (Option.bind_some _ _).symm.trans H; rw [hy301]; with_reducible exact H2_) | (have H2_ := (Option.bind_some _ _).symm.trans H; with_reducible exact H2_) | with_reducible exact H | (rw [hy301]; exact H) | exact H
    have Ny301 := Aside0.mk hy301
    clear hy301
    by_cases c8 : x4_1.size + (strOfNums y301).size ≤ 9223372036854775807
    ·rw [if_pos c8] at H
     have c8b0 := eq_true c8
     have c8b1 : decide (x4_1.size + (strOfNums y301).size ≤ 9223372036854775807) = true := decide_eq_true c8
     try have c8b2 : (9223372036854775807 < x4_1.size + (strOfNums y301).size) = False := eq_false (Nat.not_lt.2 c8)
     obtain rfl := Option.some.inj H
     go_wp2_with (first | ((with_reducible refine gate_dst (N := 22) rfl ?_); refine Kd.R_lit (Kd.int .u8) _ 5 ?hg (N := 22) ?hd (xs := ([(x3_1) % 256] : List Int)) (inner := [.int .u8 ((x3_1) % 256)]) (ok := fun _ => True) (okp := fun _ => True) ?hr ?hp (fun _ hk => hk) trivial (Below.refl _ _) (Nat.le_refl _) (by simp) ?_; (case hd => rfl); (case hg => rfl); (case hr => first | (go_simp; done) | (go_simp; rfl)); (case hp => exact (Reps.one (show Kd.M (Kd.int .u8) _ _ _ ((x3_1) % 256) [.int .u8 ((x3_1) % 256)] from rfl) (Reps.none _ _))); intro v302 w9 ho10 hb hg_ hnew_; clear hg_ hnew_; (first | rw [← Ny301.out] at ho10 | (simp only [Int.reduceToNat] at ho10; rw [← Ny301.out] at ho10)); have n0_ := Aside0.mk (Kd.R_lower ho10 (below_size (by repeat (first | (with_reducible first | exact HB.out | apply below_alloc | apply pw_below_drewN | apply below_drew1) | exact HB.out)))); have n1_ := Aside0.mk (below_step (by repeat (first | (with_reducible first | exact HB.out | apply below_alloc | apply pw_below_drewN | apply below_drew1) | exact HB.out)) hb); clear HB; have HO303 := n0_; have HB := n1_; clear n0_ n1_; clear hb ho10; have hcv11 := own_string (P := Tryd.prog) Tryd.underlying107 Tryd.underlying5 Tryd.underlying9 (Kd.own_of_R HO303.out)))
     go_ret
     exact ⟨by first | rfl | (simp [errW_none, errW_some] <;> rfl) | (simp [*, errW_none, errW_some] <;> rfl), by repeat (first | (with_reducible first | exact HB.out | apply below_alloc | apply pw_below_drewN | apply below_drew1) | exact HB.out)⟩
    ·rw [if_neg c8] at H
     exact absurd H (by simp)
end Go.Proofs.YtefdfgmlmjnmlaaDoor.Rf
end

section
set_option linter.unusedVariables false
set_option linter.unusedSimpArgs false
namespace Go.Proofs.YtefdfgmlmjnmlaaDoor.Rf
open Go.RowKit Go.Proofs.YtefdfgmlmjnmlaaDoorW.PrintWords Go.Proofs.YtefdfgmlmjnmlaaDoorW.PrintLast Go.Proofs.YtefdfgmlmjnmlaaDoorW.PrintMore
def mortmainref01_Str.f (k : Nat) (a0 : ByteArray) : Option (ByteArray) := (mortmainref01_Int.f k (a0.size : Int)).bind fun t304 => (if t304.size + a0.size ≤ 9223372036854775807 then (some (t304 ++ a0)) else (none))
set_option maxHeartbeats 8000000 in
set_option maxRecDepth 100000 in
theorem mortmainref01_Str.calls (k : Nat) (a0 : ByteArray) (r : ByteArray) (w : World) (h : mortmainref01_Str.f k a0 = some r) :
  Calls Tryd.prog 72 #[.string a0] w fun e w' => e = .returned (.string r) ∧ Below w.heap.size w w' := by
 have HB := Aside0.mk (Below.refl w.heap.size w)
 have H : ((mortmainref01_Int.f k (a0.size : Int)).bind fun t304 => (if t304.size + a0.size ≤ 9223372036854775807 then (some (t304 ++ a0)) else (none))) = some r := h
 clear h
 replace H := Option.bind_eq_some_iff.mp H
 obtain ⟨t304, A20, H⟩ := H
 replace H : (if t304.size + a0.size ≤ 9223372036854775807 then (some (t304 ++ a0)) else (none)) = some r := H
 have A2 := Aside0.mk A20
 clear A20
 by_cases c3 : t304.size + a0.size ≤ 9223372036854775807
 ·rw [if_pos c3] at H
  have c3b0 := eq_true c3
  have c3b1 : decide (t304.size + a0.size ≤ 9223372036854775807) = true := decide_eq_true c3
  try have c3b2 : (9223372036854775807 < t304.size + a0.size) = False := eq_false (Nat.not_lt.2 c3)
  obtain rfl := Option.some.inj H
  go_enter Tryd.func72, Tryd.ntmps72
  go_wp2_with (first | ((with_reducible refine gate_callee (f := 71) rfl ?_); refine goesL_ (some 5) rfl rfl Tryd.func71 (by kernel_rfl) rfl #[.int .i64 (a0.size : Int)] rfl (by (try simp only [List.map_toArray, List.map_cons, List.map_nil]); first | done | rfl | (simp only [List.length_drop, List.length_take]; rfl)) ?_; (with_reducible refine (mortmainref01_Int.calls k (a0.size : Int) t304 _ A2.out).mono ?_); rintro e w4 ⟨rfl, hb⟩; refine ⟨_, rfl, ?_⟩; have n0_ := Aside0.mk (below_step (by repeat (first | (with_reducible first | exact HB.out | apply below_alloc | apply pw_below_drewN | apply below_drew1) | exact HB.out)) hb); clear HB; have HB := n0_; clear n0_; (try clear hb); (try clear hb2); (try clear hk); (try clear hi)))
  go_ret
  exact ⟨by first | rfl | (simp [errW_none, errW_some] <;> rfl) | (simp [*, errW_none, errW_some] <;> rfl), by repeat (first | (with_reducible first | exact HB.out | apply below_alloc | apply pw_below_drewN | apply below_drew1) | exact HB.out)⟩
 ·rw [if_neg c3] at H
  exact absurd H (by simp)
end Go.Proofs.YtefdfgmlmjnmlaaDoor.Rf
end

section
set_option linter.unusedVariables false
set_option linter.unusedSimpArgs false
namespace Go.Proofs.YtefdfgmlmjnmlaaDoor.Rf
open Go.RowKit Go.Proofs.YtefdfgmlmjnmlaaDoorW.PrintWords Go.Proofs.YtefdfgmlmjnmlaaDoorW.PrintLast Go.Proofs.YtefdfgmlmjnmlaaDoorW.PrintMore
def mortmainref01_Bool.f (k : Nat) (a0 : Bool) : Option (ByteArray) := if a0 = true then ((mortmainref01_Int.f k 1).bind fun t305 => (some t305)) else ((mortmainref01_Int.f k 0).bind fun t306 => (some t306))
set_option maxHeartbeats 8000000 in
set_option maxRecDepth 100000 in
theorem mortmainref01_Bool.calls (k : Nat) (a0 : Bool) (r : ByteArray) (w : World) (h : mortmainref01_Bool.f k a0 = some r) :
  Calls Tryd.prog 73 #[.bool a0] w fun e w' => e = .returned (.string r) ∧ Below w.heap.size w w' := by
 have HB := Aside0.mk (Below.refl w.heap.size w)
 have H : (if a0 = true then ((mortmainref01_Int.f k 1).bind fun t305 => (some t305)) else ((mortmainref01_Int.f k 0).bind fun t306 => (some t306))) = some r := h
 clear h
 by_cases c2 : a0 = true
 ·subst c2
  have H1 : ((mortmainref01_Int.f k 1).bind fun t305 => (some t305)) = some r := by rw [if_pos rfl] at H; exact H
  clear H
  have H := H1
  clear H1
  replace H := Option.bind_eq_some_iff.mp H
  obtain ⟨t305, A30, H⟩ := H
  replace H : (some t305) = some r := H
  have A3 := Aside0.mk A30
  clear A30
  obtain rfl := Option.some.inj H
  go_enter Tryd.func73, Tryd.ntmps73
  go_wp2_with (first | ((with_reducible refine gate_callee (f := 71) rfl ?_); refine goesL_ (some 4) rfl rfl Tryd.func71 (by kernel_rfl) rfl #[.int .i64 1] rfl (by (try simp only [List.map_toArray, List.map_cons, List.map_nil]); first | done | rfl | (simp only [List.length_drop, List.length_take]; rfl)) ?_; (with_reducible refine (mortmainref01_Int.calls k 1 t305 _ A3.out).mono ?_); rintro e w4 ⟨rfl, hb⟩; refine ⟨_, rfl, ?_⟩; have n0_ := Aside0.mk (below_step (by repeat (first | (with_reducible first | exact HB.out | apply below_alloc | apply pw_below_drewN | apply below_drew1) | exact HB.out)) hb); clear HB; have HB := n0_; clear n0_; (try clear hb); (try clear hb2); (try clear hk); (try clear hi)))
  go_ret
  exact ⟨by first | rfl | (simp [errW_none, errW_some] <;> rfl) | (simp [*, errW_none, errW_some] <;> rfl), by repeat (first | (with_reducible first | exact HB.out | apply below_alloc | apply pw_below_drewN | apply below_drew1) | exact HB.out)⟩
 ·replace c2 := Bool.eq_false_iff.mpr c2
  subst c2
  have H1 : ((mortmainref01_Int.f k 0).bind fun t306 => (some t306)) = some r := by rw [if_neg (show ¬ (false = true) by decide)] at H; exact H
  clear H
  have H := H1
  clear H1
  replace H := Option.bind_eq_some_iff.mp H
  obtain ⟨t306, A50, H⟩ := H
  replace H : (some t306) = some r := H
  have A5 := Aside0.mk A50
  clear A50
  obtain rfl := Option.some.inj H
  go_enter Tryd.func73, Tryd.ntmps73
  go_wp2_with (first | ((with_reducible refine gate_callee (f := 71) rfl ?_); refine goesL_ (some 5) rfl rfl Tryd.func71 (by kernel_rfl) rfl #[.int .i64 0] rfl (by (try simp only [List.map_toArray, List.map_cons, List.map_nil]); first | done | rfl | (simp only [List.length_drop, List.length_take]; rfl)) ?_; (with_reducible refine (mortmainref01_Int.calls k 0 t306 _ A5.out).mono ?_); rintro e w6 ⟨rfl, hb⟩; refine ⟨_, rfl, ?_⟩; have n0_ := Aside0.mk (below_step (by repeat (first | (with_reducible first | exact HB.out | apply below_alloc | apply pw_below_drewN | apply below_drew1) | exact HB.out)) hb); clear HB; have HB := n0_; clear n0_; (try clear hb); (try clear hb2); (try clear hk); (try clear hi)))
  go_ret
  exact ⟨by first | rfl | (simp [errW_none, errW_some] <;> rfl) | (simp [*, errW_none, errW_some] <;> rfl), by repeat (first | (with_reducible first | exact HB.out | apply below_alloc | apply pw_below_drewN | apply below_drew1) | exact HB.out)⟩
end Go.Proofs.YtefdfgmlmjnmlaaDoor.Rf
end

section
set_option linter.unusedVariables false
set_option linter.unusedSimpArgs false
namespace Go.Proofs.YtefdfgmlmjnmlaaDoor.Rf
open Go.RowKit Go.Proofs.YtefdfgmlmjnmlaaDoorW.PrintWords Go.Proofs.YtefdfgmlmjnmlaaDoorW.PrintLast Go.Proofs.YtefdfgmlmjnmlaaDoorW.PrintMore
def mortmainref03_Bytes.f (k : Nat) (a0_0 : Int) (a0_1 : Int) (a0_2 : ByteArray) : Option (ByteArray) := (mortmainref01_Int.f k a0_0).bind fun t388 => ((mortmainref01_Int.f k a0_1).bind fun t389 => (if t388.size + t389.size ≤ 9223372036854775807 then ((mortmainref01_Str.f k a0_2).bind fun t390 => (if (t388 ++ t389).size + t390.size ≤ 9223372036854775807 then (some ((t388 ++ t389) ++ t390)) else (none))) else (none)))
def mortmainref03_Bytes.T1 : Bool × List (List Nat × List Nat) := (true, [([], []), ([0], [0]), ([1], [1]), ([], []), ([3], [3]), ([4, 2], [4]), ([2, 5], [2, 5]), ([], []), ([7], [7]), ([8, 5], [8]), ([6, 9], [6, 9]), ([10, 9, 0, 1, 2, 3, 4, 5, 6, 7, 8, 9, 10], [10])])
def mortmainref03_Bytes.B1 : List Nat := [0, 1, 3, 0, 8, 31, 63, 0, 128, 447, 1023, 2047]
theorem mortmainref03_Bytes.tab1 : rtab .any (opsOf Tryd.f100 1) = mortmainref03_Bytes.T1 := by kernel_rfl
theorem mortmainref03_Bytes.bits1 : waitsOk mortmainref03_Bytes.T1.2 mortmainref03_Bytes.B1 = true := by kernel_rfl
set_option maxHeartbeats 8000000 in
set_option maxRecDepth 100000 in
theorem mortmainref03_Bytes.calls (k : Nat) (a0_0 : Int) (a0_1 : Int) (a0_2 : ByteArray) (r : ByteArray) (w : World) (h : mortmainref03_Bytes.f k a0_0 a0_1 a0_2 = some r) :
  Calls Tryd.prog 100 #[.agg #[.int .i64 a0_0, .int .i64 a0_1, .string a0_2]] w fun e w' => e = .returned (.string r) ∧ Below w.heap.size w w' := by
 have hu70 := Tryd.underlying70
 have HB := Aside0.mk (Below.refl w.heap.size w)
 have H : ((mortmainref01_Int.f k a0_0).bind fun t388 => ((mortmainref01_Int.f k a0_1).bind fun t389 => (if t388.size + t389.size ≤ 9223372036854775807 then ((mortmainref01_Str.f k a0_2).bind fun t390 => (if (t388 ++ t389).size + t390.size ≤ 9223372036854775807 then (some ((t388 ++ t389) ++ t390)) else (none))) else (none)))) = some r := h
 clear h
 replace H := Option.bind_eq_some_iff.mp H
 obtain ⟨t388, A20, H⟩ := H
 replace H : ((mortmainref01_Int.f k a0_1).bind fun t389 => (if t388.size + t389.size ≤ 9223372036854775807 then ((mortmainref01_Str.f k a0_2).bind fun t390 => (if (t388 ++ t389).size + t390.size ≤ 9223372036854775807 then (some ((t388 ++ t389) ++ t390)) else (none))) else (none))) = some r := H
 have A2 := Aside0.mk A20
 clear A20
 replace H := Option.bind_eq_some_iff.mp H
 obtain ⟨t389, A30, H⟩ := H
 replace H : (if t388.size + t389.size ≤ 9223372036854775807 then ((mortmainref01_Str.f k a0_2).bind fun t390 => (if (t388 ++ t389).size + t390.size ≤ 9223372036854775807 then (some ((t388 ++ t389) ++ t390)) else (none))) else (none)) = some r := H
 have A3 := Aside0.mk A30
 clear A30
 by_cases c4 : t388.size + t389.size ≤ 9223372036854775807
 ·rw [if_pos c4] at H
  have c4b0 := eq_true c4
  have c4b1 : decide (t388.size + t389.size ≤ 9223372036854775807) = true := decide_eq_true c4
  try have c4b2 : (9223372036854775807 < t388.size + t389.size) = False := eq_false (Nat.not_lt.2 c4)
  replace H := Option.bind_eq_some_iff.mp H
  obtain ⟨t390, A50, H⟩ := H
  replace H : (if (t388 ++ t389).size + t390.size ≤ 9223372036854775807 then (some ((t388 ++ t389) ++ t390)) else (none)) = some r := H
  have A5 := Aside0.mk A50
  clear A50
  by_cases c6 : (t388 ++ t389).size + t390.size ≤ 9223372036854775807
  ·rw [if_pos c6] at H
   have c6b0 := eq_true c6
   have c6b1 : decide ((t388 ++ t389).size + t390.size ≤ 9223372036854775807) = true := decide_eq_true c6
   try have c6b2 : (9223372036854775807 < (t388 ++ t389).size + t390.size) = False := eq_false (Nat.not_lt.2 c6)
   try (have c6b2x := c6b2; simp only [ByteArray.size_append] at c6b2x)
   obtain rfl := Option.some.inj H
   go_enter Tryd.func100, Tryd.ntmps100
   try go_wp2_with (first | ((with_reducible refine gate_dst (N := 1) rfl ?_); refine box_event ?hg (N := 1) ?hd (cs := #[.int .i64 a0_0, .int .i64 a0_1, .string a0_2]) (t := 70) ?hr ?_; (case hd => rfl); (case hg => rfl); (case hr => first | (go_simp; done) | (go_simp; rfl)); intro gb387 hg w7 hbox hb; have n0_ := Aside0.mk (below_step (by repeat (first | (with_reducible first | exact HB.out | apply below_alloc | apply pw_below_drewN | apply below_drew1) | exact HB.out)) hb); have n1_ := Aside0.mk (hbox); have n2_ := Aside0.mk ((by rw [hg]; exact (below_size (by repeat (first | (with_reducible first | exact HB.out | apply below_alloc | apply pw_below_drewN | apply below_drew1) | exact HB.out))) : w.heap.size ≤ gb387)); have n3_ := Aside0.mk ((by rw [hg]; exact (below_size (by repeat (first | (with_reducible first | exact HB.out | apply below_alloc | apply pw_below_drewN | apply below_drew1) | exact HB.out))) : w.heap.size ≤ gb387)); clear HB; have HB := n0_; have BK387 := n1_; have GW387 := n2_; have GE387 := n3_; clear n0_ n1_ n2_ n3_; clear hb hbox hg))
   have n0_ := Aside0.mk (blk_drew BK387.out)
   have n1_ := Aside0.mk (below_drew1 HB.out)
   clear BK387
   clear HB
   have BK387 := n0_
   have HB := n1_
   clear n0_ n1_
   refine start_ (n := 12) (S := fun w' => w'.cell? ⟨gb387, 0, none⟩ = some (.int .i64 a0_0) ∧ w'.cell? ⟨gb387, 1, none⟩ = some (.int .i64 a0_1) ∧ w'.cell? ⟨gb387, 2, none⟩ = some (.string a0_2)) (ds := []) #[false, false, false, false, false, false, false, false, false, false, false, false] (by kernel_rfl) rfl rfl ⟨(blk_cell BK387.out 0).trans rfl, (blk_cell BK387.out 1).trans rfl, (blk_cell BK387.out 2).trans rfl⟩ (fun hHeld => ?_); refine with_tabW mortmainref03_Bytes.tab1 mortmainref03_Bytes.bits1 (fun HT_ HW_ => ?_)
   generalize w7.drew = w8 at BK387 HB hHeld ⊢
   refine pure_ (i := 0) (N := some 3) (v := ?_) (a' := ?_) #[true, false, false, false, false, false, false, false, false, false, false, false] rfl rfl (any_of HT_.out (by kernel_rfl)) (fun _ _ _ h => h) (Or.inl ⟨by rfl, ?_⟩) ?_ ?_
   rotate_left
   ·intro w'
    go_simp
    with_reducible rfl
   rotate_left
   ·simp only [Act.put, List.setIfInBounds_toArray, List.set_cons_zero, List.set_cons_succ, i64_w, i32_w]
    rfl
   refine pure_ (i := 3) (N := some 6) (v := ?_) (a' := ?_) #[true, false, false, true, false, false, false, false, false, false, false, false] rfl rfl (any_of HT_.out (by kernel_rfl)) (fun _ _ _ h => h) (Or.inl ⟨by rfl, ?_⟩) ?_ ?_
   rotate_left
   ·intro w'
    go_simp
    with_reducible rfl
   rotate_left
   ·simp only [Act.put, List.setIfInBounds_toArray, List.set_cons_zero, List.set_cons_succ, i64_w, i32_w]
    rfl
   refine pure_ (i := 7) (N := some 10) (v := ?_) (a' := ?_) #[true, false, false, true, false, false, false, true, false, false, false, false] rfl rfl (any_of HT_.out (by kernel_rfl)) (fun _ _ _ h => h) (Or.inl ⟨by rfl, ?_⟩) ?_ ?_
   rotate_left
   ·intro w'
    go_simp
    with_reducible rfl
   rotate_left
   ·simp only [Act.put, List.setIfInBounds_toArray, List.set_cons_zero, List.set_cons_succ, i64_w, i32_w]
    rfl
   refine take_ (i := 1) (N := some 4) (v := ?_) (a' := ?_) #[true, true, false, true, false, false, false, true, false, false, false, false] rfl rfl (take_ofW HT_.out HW_.out (by kernel_rfl)) (fun _ _ _ h => h) (Or.inl ⟨by rfl, ?_⟩) hHeld ?_ ?_
   rotate_left
   ·rintro w' ⟨s0, s1, s2⟩
    go_simp
    with_reducible rfl
   rotate_left
   ·simp only [Act.put, List.setIfInBounds_toArray, List.set_cons_zero, List.set_cons_succ, i64_w, i32_w]
    rfl
   refine take_ (i := 4) (N := some 7) (v := ?_) (a' := ?_) #[true, true, false, true, true, false, false, true, false, false, false, false] rfl rfl (take_ofW HT_.out HW_.out (by kernel_rfl)) (fun _ _ _ h => h) (Or.inl ⟨by rfl, ?_⟩) hHeld ?_ ?_
   rotate_left
   ·rintro w' ⟨s0, s1, s2⟩
    go_simp
    with_reducible rfl
   rotate_left
   ·simp only [Act.put, List.setIfInBounds_toArray, List.set_cons_zero, List.set_cons_succ, i64_w, i32_w]
    rfl
   refine take_ (i := 8) (N := some 11) (v := ?_) (a' := ?_) #[true, true, false, true, true, false, false, true, true, false, false, false] rfl rfl (take_ofW HT_.out HW_.out (by kernel_rfl)) (fun _ _ _ h => h) (Or.inl ⟨by rfl, ?_⟩) hHeld ?_ ?_
   rotate_left
   ·rintro w' ⟨s0, s1, s2⟩
    go_simp
    with_reducible rfl
   rotate_left
   ·simp only [Act.put, List.setIfInBounds_toArray, List.set_cons_zero, List.set_cons_succ, i64_w, i32_w]
    rfl
   refine one_ (i := 2) (N := some 5) #[true, true, true, true, true, false, false, true, true, false, false, false] rfl rfl (one_of HT_.out (by kernel_rfl)) (by decide) (fun K hK => ?_)
   refine goes_ Tryd.func71 (by kernel_rfl) rfl #[.int .i64 a0_0] (by rfl) rfl rfl (by (try simp only [List.map_toArray, List.map_cons, List.map_nil]); first | done | rfl | (simp only [List.length_drop, List.length_take]; rfl)) ?_
   with_reducible refine (mortmainref01_Int.calls k a0_0 t388 _ A2.out).mono ?_
   rintro e w9 ⟨rfl, hb⟩
   refine ⟨_, rfl, ?_⟩
   have n0_ := Aside0.mk (blk_below (g := gb387) (o := .cells #[.int .i64 a0_0, .int .i64 a0_1, .string a0_2] 70 (0, 0)) (by (with_reducible repeat (first | refine blk_drewN ?_ _ | refine blk_drew ?_ | refine blk_alloc ?_ _)); exact BK387.out) hb)
   have n1_ := Aside0.mk (below_step (by repeat (first | (with_reducible first | exact HB.out | apply below_alloc | apply pw_below_drewN | apply below_drew1 | refine below_set ?_ GE387.out) | exact HB.out)) hb)
   clear BK387
   clear HB
   have BK387 := n0_
   have HB := n1_
   clear n0_ n1_
   (try clear hb)
   (try clear hb2)
   (try clear hk)
   (try clear hi)
   refine hK.out _ _ ⟨(blk_cell BK387.out 0).trans rfl, (blk_cell BK387.out 1).trans rfl, (blk_cell BK387.out 2).trans rfl⟩ (fun hHeld => ?_)
   clear hK K
   refine norm_ (a' := ?_) ?_ ?_
   rotate_left
   ·show Act.put _ (some 5) _ = _
    simp only [Act.put, List.setIfInBounds_toArray, List.set_cons_zero, List.set_cons_succ, i64_w, i32_w]
    rfl
   refine one_ (i := 5) (N := some 8) #[true, true, true, true, true, true, false, true, true, false, false, false] rfl rfl (one_of HT_.out (by kernel_rfl)) (by decide) (fun K hK => ?_)
   refine goes_ Tryd.func71 (by kernel_rfl) rfl #[.int .i64 a0_1] (by rfl) rfl rfl (by (try simp only [List.map_toArray, List.map_cons, List.map_nil]); first | done | rfl | (simp only [List.length_drop, List.length_take]; rfl)) ?_
   with_reducible refine (mortmainref01_Int.calls k a0_1 t389 _ A3.out).mono ?_
   rintro e w10 ⟨rfl, hb⟩
   refine ⟨_, rfl, ?_⟩
   have n0_ := Aside0.mk (blk_below (g := gb387) (o := .cells #[.int .i64 a0_0, .int .i64 a0_1, .string a0_2] 70 (0, 0)) (by (with_reducible repeat (first | refine blk_drewN ?_ _ | refine blk_drew ?_ | refine blk_alloc ?_ _)); exact BK387.out) hb)
   have n1_ := Aside0.mk (below_step (by repeat (first | (with_reducible first | exact HB.out | apply below_alloc | apply pw_below_drewN | apply below_drew1 | refine below_set ?_ GE387.out) | exact HB.out)) hb)
   clear BK387
   clear HB
   have BK387 := n0_
   have HB := n1_
   clear n0_ n1_
   (try clear hb)
   (try clear hb2)
   (try clear hk)
   (try clear hi)
   refine hK.out _ _ ⟨(blk_cell BK387.out 0).trans rfl, (blk_cell BK387.out 1).trans rfl, (blk_cell BK387.out 2).trans rfl⟩ (fun hHeld => ?_)
   clear hK K
   refine norm_ (a' := ?_) ?_ ?_
   rotate_left
   ·show Act.put _ (some 8) _ = _
    simp only [Act.put, List.setIfInBounds_toArray, List.set_cons_zero, List.set_cons_succ, i64_w, i32_w]
    rfl
   refine pure_ (i := 6) (N := some 9) (v := ?_) (a' := ?_) #[true, true, true, true, true, true, true, true, true, false, false, false] rfl rfl (any_of HT_.out (by kernel_rfl)) (fun _ _ _ h => h) (Or.inl ⟨by rfl, ?_⟩) ?_ ?_
   rotate_left
   ·intro w'
    go_simp
    with_reducible rfl
   rotate_left
   ·simp only [Act.put, List.setIfInBounds_toArray, List.set_cons_zero, List.set_cons_succ, i64_w, i32_w]
    rfl
   refine one_ (i := 9) (N := some 12) #[true, true, true, true, true, true, true, true, true, true, false, false] rfl rfl (one_of HT_.out (by kernel_rfl)) (by decide) (fun K hK => ?_)
   refine goes_ Tryd.func72 (by kernel_rfl) rfl #[.string a0_2] (by rfl) rfl rfl (by (try simp only [List.map_toArray, List.map_cons, List.map_nil]); first | done | rfl | (simp only [List.length_drop, List.length_take]; rfl)) ?_
   with_reducible refine (mortmainref01_Str.calls k a0_2 t390 _ A5.out).mono ?_
   rintro e w11 ⟨rfl, hb⟩
   refine ⟨_, rfl, ?_⟩
   have n0_ := Aside0.mk (blk_below (g := gb387) (o := .cells #[.int .i64 a0_0, .int .i64 a0_1, .string a0_2] 70 (0, 0)) (by (with_reducible repeat (first | refine blk_drewN ?_ _ | refine blk_drew ?_ | refine blk_alloc ?_ _)); exact BK387.out) hb)
   have n1_ := Aside0.mk (below_step (by repeat (first | (with_reducible first | exact HB.out | apply below_alloc | apply pw_below_drewN | apply below_drew1 | refine below_set ?_ GE387.out) | exact HB.out)) hb)
   clear BK387
   clear HB
   have BK387 := n0_
   have HB := n1_
   clear n0_ n1_
   (try clear hb)
   (try clear hb2)
   (try clear hk)
   (try clear hi)
   refine hK.out _ _ ⟨(blk_cell BK387.out 0).trans rfl, (blk_cell BK387.out 1).trans rfl, (blk_cell BK387.out 2).trans rfl⟩ (fun hHeld => ?_)
   clear hK K
   refine norm_ (a' := ?_) ?_ ?_
   rotate_left
   ·show Act.put _ (some 12) _ = _
    simp only [Act.put, List.setIfInBounds_toArray, List.set_cons_zero, List.set_cons_succ, i64_w, i32_w]
    rfl
   refine pure_ (i := 10) (N := some 13) (v := ?_) (a' := ?_) #[true, true, true, true, true, true, true, true, true, true, true, false] rfl rfl (any_of HT_.out (by kernel_rfl)) (fun _ _ _ h => h) (Or.inl ⟨by rfl, ?_⟩) ?_ ?_
   rotate_left
   ·intro w'
    go_simp
    with_reducible rfl
   rotate_left
   ·simp only [Act.put, List.setIfInBounds_toArray, List.set_cons_zero, List.set_cons_succ, i64_w, i32_w]
    rfl
   refine pure_ (i := 11) (N := some 2) (v := ?_) (a' := ?_) #[true, true, true, true, true, true, true, true, true, true, true, true] rfl rfl (any_of HT_.out (by kernel_rfl)) (fun _ _ _ h => h) (Or.inl ⟨by rfl, ?_⟩) ?_ ?_
   rotate_left
   ·intro w'
    go_simp
    with_reducible rfl
   rotate_left
   ·simp only [Act.put, List.setIfInBounds_toArray, List.set_cons_zero, List.set_cons_succ, i64_w, i32_w]
    rfl
   refine done_ (done_of HT_.out (by kernel_rfl)) ?_
   try go_wp2
   go_ret
   exact ⟨by first | rfl | (simp [errW_none, errW_some] <;> rfl) | (simp [*, errW_none, errW_some] <;> rfl), by repeat (first | (with_reducible first | exact HB.out | apply below_alloc | apply pw_below_drewN | apply below_drew1 | refine below_set ?_ GE387.out) | exact HB.out)⟩
  ·rw [if_neg c6] at H
   exact absurd H (by simp)
 ·rw [if_neg c4] at H
  exact absurd H (by simp)
end Go.Proofs.YtefdfgmlmjnmlaaDoor.Rf
end

section
set_option linter.unusedVariables false
set_option linter.unusedSimpArgs false
namespace Go.Proofs.YtefdfgmlmjnmlaaDoor.Rf
open Go.RowKit Go.Proofs.YtefdfgmlmjnmlaaDoorW.PrintWords Go.Proofs.YtefdfgmlmjnmlaaDoorW.PrintLast Go.Proofs.YtefdfgmlmjnmlaaDoorW.PrintMore
mutual
def mortmainref09_exprBytes.l0 : Nat → ByteArray → List (S72) → Int → Int → Option (ByteArray)
 | 0, _, _, _, _ => none
 | k + 1, x3, x23, x24, x25 => if x25 < x24 then (if 0 ≤ x25 then (if x25 < (x23.length : Int) then ((mortmainref09_exprBytes.f k ((rd_T72 x23 x25).f0) ((rd_T72 x23 x25).f1) ((rd_T72 x23 x25).f2.f0) ((rd_T72 x23 x25).f2.f1) ((rd_T72 x23 x25).f2.f2) ((rd_T72 x23 x25).f3)).bind fun t398 => (if x3.size + t398.size ≤ 9223372036854775807 then (mortmainref09_exprBytes.l0 k (x3 ++ t398) x23 x24 (wrap64 (x25 + 1))) else (none))) else (none)) else (none)) else (some x3)
def mortmainref09_exprBytes.f : Nat → Int → Int → Int → Int → ByteArray → List (S72) → Option (ByteArray)
 | 0, _, _, _, _, _, _ => none
 | k + 1, a0_0, a0_1, a0_2, a0_3, a0_4, l0_5 => (mortmainref01_Int.f k a0_0).bind fun t392 => ((mortmainref01_Int.f k a0_1).bind fun t393 => (if t392.size + t393.size ≤ 9223372036854775807 then ((mortmainref03_Bytes.f k a0_2 a0_3 a0_4).bind fun t394 => (if (t392 ++ t393).size + t394.size ≤ 9223372036854775807 then ((mortmainref01_Int.f k (l0_5.length : Int)).bind fun t395 => (if ((t392 ++ t393) ++ t394).size + t395.size ≤ 9223372036854775807 then (mortmainref09_exprBytes.l0 k (((t392 ++ t393) ++ t394) ++ t395) l0_5 (l0_5.length : Int) 0) else (none))) else (none))) else (none)))
end
def mortmainref09_exprBytes.T1 : Bool × List (List Nat × List Nat) := (true, [([], []), ([0], [0]), ([1], [1]), ([], []), ([3], [3]), ([4, 2], [4]), ([2, 5], [2, 5]), ([], []), ([7], [7]), ([8, 5], [8]), ([6, 9], [6, 9]), ([], []), ([11], [11]), ([12], [12]), ([13, 9], [13]), ([10, 14], [10, 14]), ([15, 14, 0, 1, 2, 3, 4, 5, 6, 7, 8, 9, 10, 11, 12, 13, 14, 15], [15])])
def mortmainref09_exprBytes.B1 : List Nat := [0, 1, 3, 0, 8, 31, 63, 0, 128, 447, 1023, 0, 2048, 6144, 15295, 32767, 65535]
theorem mortmainref09_exprBytes.tab1 : rtab .any (opsOf Tryd.f74 1) = mortmainref09_exprBytes.T1 := by kernel_rfl
theorem mortmainref09_exprBytes.bits1 : waitsOk mortmainref09_exprBytes.T1.2 mortmainref09_exprBytes.B1 = true := by kernel_rfl
set_option maxHeartbeats 8000000 in
set_option maxRecDepth 100000 in
theorem mortmainref09_exprBytes.calls (k : Nat) : ∀ (a0_0 : Int) (a0_1 : Int) (a0_2 : Int) (a0_3 : Int) (a0_4 : ByteArray) (A0_5 : Option Addr) (c0_5 : Nat) (l0_5 : List (S72)) (r : ByteArray) (w : World) (hr0_5 : Kd.C k72 w A0_5 l0_5.length l0_5) (hc0_5 : l0_5.length ≤ c0_5) (h : mortmainref09_exprBytes.f k a0_0 a0_1 a0_2 a0_3 a0_4 l0_5 = some r),
  Calls Tryd.prog 74 #[.agg #[.int .i64 a0_0, .int .i64 a0_1, .int .i64 a0_2, .int .i64 a0_3, .string a0_4, .slice A0_5 l0_5.length c0_5]] w fun e w' => e = .returned (.string r) ∧ Below w.heap.size w w' := by
 induction k using Nat.strongRecOn with
 | _ k ih =>
 intro a0_0 a0_1 a0_2 a0_3 a0_4 A0_5 c0_5 l0_5 r w hr0_5 hc0_5 h
 cases k with
 | zero => exact absurd h (by simp [mortmainref09_exprBytes.f])
 | succ k =>
 simp only [mortmainref09_exprBytes.f] at h
 have hu72 := Tryd.underlying72
 have hu70 := Tryd.underlying70
 have HR0_5 := Aside0.mk hr0_5
 have HC0_5 := Aside0.mk hc0_5
 clear hr0_5 hc0_5
 have HB := Aside0.mk (Below.refl w.heap.size w)
 have H : ((mortmainref01_Int.f k a0_0).bind fun t392 => ((mortmainref01_Int.f k a0_1).bind fun t393 => (if t392.size + t393.size ≤ 9223372036854775807 then ((mortmainref03_Bytes.f k a0_2 a0_3 a0_4).bind fun t394 => (if (t392 ++ t393).size + t394.size ≤ 9223372036854775807 then ((mortmainref01_Int.f k (l0_5.length : Int)).bind fun t395 => (if ((t392 ++ t393) ++ t394).size + t395.size ≤ 9223372036854775807 then (mortmainref09_exprBytes.l0 k (((t392 ++ t393) ++ t394) ++ t395) l0_5 (l0_5.length : Int) 0) else (none))) else (none))) else (none)))) = some r := h
 clear h
 replace H := Option.bind_eq_some_iff.mp H
 obtain ⟨t392, A20, H⟩ := H
 replace H : ((mortmainref01_Int.f k a0_1).bind fun t393 => (if t392.size + t393.size ≤ 9223372036854775807 then ((mortmainref03_Bytes.f k a0_2 a0_3 a0_4).bind fun t394 => (if (t392 ++ t393).size + t394.size ≤ 9223372036854775807 then ((mortmainref01_Int.f k (l0_5.length : Int)).bind fun t395 => (if ((t392 ++ t393) ++ t394).size + t395.size ≤ 9223372036854775807 then (mortmainref09_exprBytes.l0 k (((t392 ++ t393) ++ t394) ++ t395) l0_5 (l0_5.length : Int) 0) else (none))) else (none))) else (none))) = some r := H
 have A2 := Aside0.mk A20
 clear A20
 replace H := Option.bind_eq_some_iff.mp H
 obtain ⟨t393, A30, H⟩ := H
 replace H : (if t392.size + t393.size ≤ 9223372036854775807 then ((mortmainref03_Bytes.f k a0_2 a0_3 a0_4).bind fun t394 => (if (t392 ++ t393).size + t394.size ≤ 9223372036854775807 then ((mortmainref01_Int.f k (l0_5.length : Int)).bind fun t395 => (if ((t392 ++ t393) ++ t394).size + t395.size ≤ 9223372036854775807 then (mortmainref09_exprBytes.l0 k (((t392 ++ t393) ++ t394) ++ t395) l0_5 (l0_5.length : Int) 0) else (none))) else (none))) else (none)) = some r := H
 have A3 := Aside0.mk A30
 clear A30
 by_cases c4 : t392.size + t393.size ≤ 9223372036854775807
 ·rw [if_pos c4] at H
  have c4b0 := eq_true c4
  have c4b1 : decide (t392.size + t393.size ≤ 9223372036854775807) = true := decide_eq_true c4
  try have c4b2 : (9223372036854775807 < t392.size + t393.size) = False := eq_false (Nat.not_lt.2 c4)
  replace H := Option.bind_eq_some_iff.mp H
  obtain ⟨t394, A50, H⟩ := H
  replace H : (if (t392 ++ t393).size + t394.size ≤ 9223372036854775807 then ((mortmainref01_Int.f k (l0_5.length : Int)).bind fun t395 => (if ((t392 ++ t393) ++ t394).size + t395.size ≤ 9223372036854775807 then (mortmainref09_exprBytes.l0 k (((t392 ++ t393) ++ t394) ++ t395) l0_5 (l0_5.length : Int) 0) else (none))) else (none)) = some r := H
  have A5 := Aside0.mk A50
  clear A50
  by_cases c6 : (t392 ++ t393).size + t394.size ≤ 9223372036854775807
  ·rw [if_pos c6] at H
   have c6b0 := eq_true c6
   have c6b1 : decide ((t392 ++ t393).size + t394.size ≤ 9223372036854775807) = true := decide_eq_true c6
   try have c6b2 : (9223372036854775807 < (t392 ++ t393).size + t394.size) = False := eq_false (Nat.not_lt.2 c6)
   try (have c6b2x := c6b2; simp only [ByteArray.size_append] at c6b2x)
   replace H := Option.bind_eq_some_iff.mp H
   obtain ⟨t395, A70, H⟩ := H
   replace H : (if ((t392 ++ t393) ++ t394).size + t395.size ≤ 9223372036854775807 then (mortmainref09_exprBytes.l0 k (((t392 ++ t393) ++ t394) ++ t395) l0_5 (l0_5.length : Int) 0) else (none)) = some r := H
   have A7 := Aside0.mk A70
   clear A70
   by_cases c8 : ((t392 ++ t393) ++ t394).size + t395.size ≤ 9223372036854775807
   ·rw [if_pos c8] at H
    have c8b0 := eq_true c8
    have c8b1 : decide (((t392 ++ t393) ++ t394).size + t395.size ≤ 9223372036854775807) = true := decide_eq_true c8
    try have c8b2 : (9223372036854775807 < ((t392 ++ t393) ++ t394).size + t395.size) = False := eq_false (Nat.not_lt.2 c8)
    try (have c8b2x := c8b2; simp only [ByteArray.size_append] at c8b2x)
    have H' := Aside0.mk H
    clear H
    go_enter Tryd.func74, Tryd.ntmps74
    try go_wp2_with (first | ((with_reducible refine gate_dst (N := 1) rfl ?_); refine box_event ?hg (N := 1) ?hd (cs := #[.int .i64 a0_0, .int .i64 a0_1, .int .i64 a0_2, .int .i64 a0_3, .string a0_4, .slice A0_5 l0_5.length c0_5]) (t := 72) ?hr ?_; (case hd => rfl); (case hg => rfl); (case hr => first | (go_simp; done) | (go_simp; rfl)); intro gb391 hg w9 hbox hb; have n0_ := Aside0.mk (below_step (by repeat (first | (with_reducible first | exact HB.out | apply below_alloc | apply pw_below_drewN | apply below_drew1) | exact HB.out)) hb); have n1_ := Aside0.mk (hbox); have n2_ := Aside0.mk ((by rw [hg]; exact (below_size (by repeat (first | (with_reducible first | exact HB.out | apply below_alloc | apply pw_below_drewN | apply below_drew1) | exact HB.out))) : w.heap.size ≤ gb391)); have n3_ := Aside0.mk ((by rw [hg]; exact (below_size (by repeat (first | (with_reducible first | exact HB.out | apply below_alloc | apply pw_below_drewN | apply below_drew1) | exact HB.out))) : w.heap.size ≤ gb391)); clear HB; have HB := n0_; have BK391 := n1_; have GW391 := n2_; have GE391 := n3_; clear n0_ n1_ n2_ n3_; clear hb hbox hg))
    have n0_ := Aside0.mk (blk_drew BK391.out)
    have n1_ := Aside0.mk (below_drew1 HB.out)
    clear BK391
    clear HB
    have BK391 := n0_
    have HB := n1_
    clear n0_ n1_
    refine start_ (n := 17) (S := fun w' => w'.cell? ⟨gb391, 0, none⟩ = some (.int .i64 a0_0) ∧ w'.cell? ⟨gb391, 1, none⟩ = some (.int .i64 a0_1) ∧ w'.cell? ⟨gb391, 2, none⟩ = some (.int .i64 a0_2) ∧ w'.cell? ⟨gb391, 3, none⟩ = some (.int .i64 a0_3) ∧ w'.cell? ⟨gb391, 4, none⟩ = some (.string a0_4) ∧ w'.cell? ⟨gb391, 5, none⟩ = some (.slice A0_5 l0_5.length c0_5)) (ds := []) #[false, false, false, false, false, false, false, false, false, false, false, false, false, false, false, false, false] (by kernel_rfl) rfl rfl ⟨(blk_cell BK391.out 0).trans rfl, (blk_cell BK391.out 1).trans rfl, (blk_cell BK391.out 2).trans rfl, (blk_cell BK391.out 3).trans rfl, (blk_cell BK391.out 4).trans rfl, (blk_cell BK391.out 5).trans rfl⟩ (fun hHeld => ?_); refine with_tabW mortmainref09_exprBytes.tab1 mortmainref09_exprBytes.bits1 (fun HT_ HW_ => ?_)
    generalize w9.drew = w10 at BK391 HB hHeld ⊢
    refine pure_ (i := 0) (N := some 6) (v := ?_) (a' := ?_) #[true, false, false, false, false, false, false, false, false, false, false, false, false, false, false, false, false] rfl rfl (any_of HT_.out (by kernel_rfl)) (fun _ _ _ h => h) (Or.inl ⟨by rfl, ?_⟩) ?_ ?_
    rotate_left
    ·intro w'
     go_simp
     with_reducible rfl
    rotate_left
    ·simp only [Act.put, List.setIfInBounds_toArray, List.set_cons_zero, List.set_cons_succ, i64_w, i32_w]
     rfl
    refine pure_ (i := 3) (N := some 9) (v := ?_) (a' := ?_) #[true, false, false, true, false, false, false, false, false, false, false, false, false, false, false, false, false] rfl rfl (any_of HT_.out (by kernel_rfl)) (fun _ _ _ h => h) (Or.inl ⟨by rfl, ?_⟩) ?_ ?_
    rotate_left
    ·intro w'
     go_simp
     with_reducible rfl
    rotate_left
    ·simp only [Act.put, List.setIfInBounds_toArray, List.set_cons_zero, List.set_cons_succ, i64_w, i32_w]
     rfl
    refine pure_ (i := 7) (N := some 13) (v := ?_) (a' := ?_) #[true, false, false, true, false, false, false, true, false, false, false, false, false, false, false, false, false] rfl rfl (any_of HT_.out (by kernel_rfl)) (fun _ _ _ h => h) (Or.inl ⟨by rfl, ?_⟩) ?_ ?_
    rotate_left
    ·intro w'
     go_simp
     with_reducible rfl
    rotate_left
    ·simp only [Act.put, List.setIfInBounds_toArray, List.set_cons_zero, List.set_cons_succ, i64_w, i32_w]
     rfl
    refine pure_ (i := 11) (N := some 17) (v := ?_) (a' := ?_) #[true, false, false, true, false, false, false, true, false, false, false, true, false, false, false, false, false] rfl rfl (any_of HT_.out (by kernel_rfl)) (fun _ _ _ h => h) (Or.inl ⟨by rfl, ?_⟩) ?_ ?_
    rotate_left
    ·intro w'
     go_simp
     with_reducible rfl
    rotate_left
    ·simp only [Act.put, List.setIfInBounds_toArray, List.set_cons_zero, List.set_cons_succ, i64_w, i32_w]
     rfl
    refine take_ (i := 1) (N := some 7) (v := ?_) (a' := ?_) #[true, true, false, true, false, false, false, true, false, false, false, true, false, false, false, false, false] rfl rfl (take_ofW HT_.out HW_.out (by kernel_rfl)) (fun _ _ _ h => h) (Or.inl ⟨by rfl, ?_⟩) hHeld ?_ ?_
    rotate_left
    ·rintro w' ⟨s0, s1, s2, s3, s4, s5⟩
     go_simp
     with_reducible rfl
    rotate_left
    ·simp only [Act.put, List.setIfInBounds_toArray, List.set_cons_zero, List.set_cons_succ, i64_w, i32_w]
     rfl
    refine take_ (i := 4) (N := some 10) (v := ?_) (a' := ?_) #[true, true, false, true, true, false, false, true, false, false, false, true, false, false, false, false, false] rfl rfl (take_ofW HT_.out HW_.out (by kernel_rfl)) (fun _ _ _ h => h) (Or.inl ⟨by rfl, ?_⟩) hHeld ?_ ?_
    rotate_left
    ·rintro w' ⟨s0, s1, s2, s3, s4, s5⟩
     go_simp
     with_reducible rfl
    rotate_left
    ·simp only [Act.put, List.setIfInBounds_toArray, List.set_cons_zero, List.set_cons_succ, i64_w, i32_w]
     rfl
    refine take_ (i := 8) (N := some 14) (v := ?_) (a' := ?_) #[true, true, false, true, true, false, false, true, true, false, false, true, false, false, false, false, false] rfl rfl (take_ofW HT_.out HW_.out (by kernel_rfl)) (fun _ _ _ h => h) (Or.inl ⟨by rfl, ?_⟩) hHeld ?_ ?_
    rotate_left
    ·rintro w' ⟨s0, s1, s2, s3, s4, s5⟩
     go_simp
     with_reducible rfl
    rotate_left
    ·simp only [Act.put, List.setIfInBounds_toArray, List.set_cons_zero, List.set_cons_succ, i64_w, i32_w]
     rfl
    refine take_ (i := 12) (N := some 18) (v := ?_) (a' := ?_) #[true, true, false, true, true, false, false, true, true, false, false, true, true, false, false, false, false] rfl rfl (take_ofW HT_.out HW_.out (by kernel_rfl)) (fun _ _ _ h => h) (Or.inl ⟨by rfl, ?_⟩) hHeld ?_ ?_
    rotate_left
    ·rintro w' ⟨s0, s1, s2, s3, s4, s5⟩
     go_simp
     with_reducible rfl
    rotate_left
    ·simp only [Act.put, List.setIfInBounds_toArray, List.set_cons_zero, List.set_cons_succ, i64_w, i32_w]
     rfl
    refine pure_ (i := 13) (N := some 19) (v := ?_) (a' := ?_) #[true, true, false, true, true, false, false, true, true, false, false, true, true, true, false, false, false] rfl rfl (any_of HT_.out (by kernel_rfl)) (fun _ _ _ h => h) (Or.inl ⟨by rfl, ?_⟩) ?_ ?_
    rotate_left
    ·intro w'
     go_simp
     with_reducible rfl
    rotate_left
    ·simp only [Act.put, List.setIfInBounds_toArray, List.set_cons_zero, List.set_cons_succ, i64_w, i32_w]
     rfl
    refine one_ (i := 2) (N := some 8) #[true, true, true, true, true, false, false, true, true, false, false, true, true, true, false, false, false] rfl rfl (one_of HT_.out (by kernel_rfl)) (by decide) (fun K hK => ?_)
    refine goes_ Tryd.func71 (by kernel_rfl) rfl #[.int .i64 a0_0] (by rfl) rfl rfl (by (try simp only [List.map_toArray, List.map_cons, List.map_nil]); first | done | rfl | (simp only [List.length_drop, List.length_take]; rfl)) ?_
    with_reducible refine (mortmainref01_Int.calls k a0_0 t392 _ A2.out).mono ?_
    rintro e w11 ⟨rfl, hb⟩
    refine ⟨_, rfl, ?_⟩
    have n0_ := Aside0.mk (blk_below (g := gb391) (o := .cells #[.int .i64 a0_0, .int .i64 a0_1, .int .i64 a0_2, .int .i64 a0_3, .string a0_4, .slice A0_5 l0_5.length c0_5] 72 (0, 0)) (by (with_reducible repeat (first | refine blk_drewN ?_ _ | refine blk_drew ?_ | refine blk_alloc ?_ _)); exact BK391.out) hb)
    have n1_ := Aside0.mk (below_step (by repeat (first | (with_reducible first | exact HB.out | apply below_alloc | apply pw_below_drewN | apply below_drew1 | refine below_set ?_ GE391.out) | exact HB.out)) hb)
    clear BK391
    clear HB
    have BK391 := n0_
    have HB := n1_
    clear n0_ n1_
    (try clear hb)
    (try clear hb2)
    (try clear hk)
    (try clear hi)
    refine hK.out _ _ ⟨(blk_cell BK391.out 0).trans rfl, (blk_cell BK391.out 1).trans rfl, (blk_cell BK391.out 2).trans rfl, (blk_cell BK391.out 3).trans rfl, (blk_cell BK391.out 4).trans rfl, (blk_cell BK391.out 5).trans rfl⟩ (fun hHeld => ?_)
    clear hK K
    refine norm_ (a' := ?_) ?_ ?_
    rotate_left
    ·show Act.put _ (some 8) _ = _
     simp only [Act.put, List.setIfInBounds_toArray, List.set_cons_zero, List.set_cons_succ, i64_w, i32_w]
     rfl
    refine one_ (i := 5) (N := some 11) #[true, true, true, true, true, true, false, true, true, false, false, true, true, true, false, false, false] rfl rfl (one_of HT_.out (by kernel_rfl)) (by decide) (fun K hK => ?_)
    refine goes_ Tryd.func71 (by kernel_rfl) rfl #[.int .i64 a0_1] (by rfl) rfl rfl (by (try simp only [List.map_toArray, List.map_cons, List.map_nil]); first | done | rfl | (simp only [List.length_drop, List.length_take]; rfl)) ?_
    with_reducible refine (mortmainref01_Int.calls k a0_1 t393 _ A3.out).mono ?_
    rintro e w12 ⟨rfl, hb⟩
    refine ⟨_, rfl, ?_⟩
    have n0_ := Aside0.mk (blk_below (g := gb391) (o := .cells #[.int .i64 a0_0, .int .i64 a0_1, .int .i64 a0_2, .int .i64 a0_3, .string a0_4, .slice A0_5 l0_5.length c0_5] 72 (0, 0)) (by (with_reducible repeat (first | refine blk_drewN ?_ _ | refine blk_drew ?_ | refine blk_alloc ?_ _)); exact BK391.out) hb)
    have n1_ := Aside0.mk (below_step (by repeat (first | (with_reducible first | exact HB.out | apply below_alloc | apply pw_below_drewN | apply below_drew1 | refine below_set ?_ GE391.out) | exact HB.out)) hb)
    clear BK391
    clear HB
    have BK391 := n0_
    have HB := n1_
    clear n0_ n1_
    (try clear hb)
    (try clear hb2)
    (try clear hk)
    (try clear hi)
    refine hK.out _ _ ⟨(blk_cell BK391.out 0).trans rfl, (blk_cell BK391.out 1).trans rfl, (blk_cell BK391.out 2).trans rfl, (blk_cell BK391.out 3).trans rfl, (blk_cell BK391.out 4).trans rfl, (blk_cell BK391.out 5).trans rfl⟩ (fun hHeld => ?_)
    clear hK K
    refine norm_ (a' := ?_) ?_ ?_
    rotate_left
    ·show Act.put _ (some 11) _ = _
     simp only [Act.put, List.setIfInBounds_toArray, List.set_cons_zero, List.set_cons_succ, i64_w, i32_w]
     rfl
    refine pure_ (i := 6) (N := some 12) (v := ?_) (a' := ?_) #[true, true, true, true, true, true, true, true, true, false, false, true, true, true, false, false, false] rfl rfl (any_of HT_.out (by kernel_rfl)) (fun _ _ _ h => h) (Or.inl ⟨by rfl, ?_⟩) ?_ ?_
    rotate_left
    ·intro w'
     go_simp
     with_reducible rfl
    rotate_left
    ·simp only [Act.put, List.setIfInBounds_toArray, List.set_cons_zero, List.set_cons_succ, i64_w, i32_w]
     rfl
    refine one_ (i := 9) (N := some 15) #[true, true, true, true, true, true, true, true, true, true, false, true, true, true, false, false, false] rfl rfl (one_of HT_.out (by kernel_rfl)) (by decide) (fun K hK => ?_)
    refine goes_ Tryd.func100 (by kernel_rfl) rfl #[.agg #[.int .i64 a0_2, .int .i64 a0_3, .string a0_4]] (by rfl) rfl rfl (by (try simp only [List.map_toArray, List.map_cons, List.map_nil]); first | done | rfl | (simp only [List.length_drop, List.length_take]; rfl)) ?_
    with_reducible refine (mortmainref03_Bytes.calls k a0_2 a0_3 a0_4 t394 _ A5.out).mono ?_
    rintro e w13 ⟨rfl, hb⟩
    refine ⟨_, rfl, ?_⟩
    have n0_ := Aside0.mk (blk_below (g := gb391) (o := .cells #[.int .i64 a0_0, .int .i64 a0_1, .int .i64 a0_2, .int .i64 a0_3, .string a0_4, .slice A0_5 l0_5.length c0_5] 72 (0, 0)) (by (with_reducible repeat (first | refine blk_drewN ?_ _ | refine blk_drew ?_ | refine blk_alloc ?_ _)); exact BK391.out) hb)
    have n1_ := Aside0.mk (below_step (by repeat (first | (with_reducible first | exact HB.out | apply below_alloc | apply pw_below_drewN | apply below_drew1 | refine below_set ?_ GE391.out) | exact HB.out)) hb)
    clear BK391
    clear HB
    have BK391 := n0_
    have HB := n1_
    clear n0_ n1_
    (try clear hb)
    (try clear hb2)
    (try clear hk)
    (try clear hi)
    refine hK.out _ _ ⟨(blk_cell BK391.out 0).trans rfl, (blk_cell BK391.out 1).trans rfl, (blk_cell BK391.out 2).trans rfl, (blk_cell BK391.out 3).trans rfl, (blk_cell BK391.out 4).trans rfl, (blk_cell BK391.out 5).trans rfl⟩ (fun hHeld => ?_)
    clear hK K
    refine norm_ (a' := ?_) ?_ ?_
    rotate_left
    ·show Act.put _ (some 15) _ = _
     simp only [Act.put, List.setIfInBounds_toArray, List.set_cons_zero, List.set_cons_succ, i64_w, i32_w]
     rfl
    refine pure_ (i := 10) (N := some 16) (v := ?_) (a' := ?_) #[true, true, true, true, true, true, true, true, true, true, true, true, true, true, false, false, false] rfl rfl (any_of HT_.out (by kernel_rfl)) (fun _ _ _ h => h) (Or.inl ⟨by rfl, ?_⟩) ?_ ?_
    rotate_left
    ·intro w'
     go_simp
     with_reducible rfl
    rotate_left
    ·simp only [Act.put, List.setIfInBounds_toArray, List.set_cons_zero, List.set_cons_succ, i64_w, i32_w]
     rfl
    refine one_ (i := 14) (N := some 20) #[true, true, true, true, true, true, true, true, true, true, true, true, true, true, true, false, false] rfl rfl (one_of HT_.out (by kernel_rfl)) (by decide) (fun K hK => ?_)
    refine goes_ Tryd.func71 (by kernel_rfl) rfl #[.int .i64 (l0_5.length : Int)] (by rfl) rfl rfl (by (try simp only [List.map_toArray, List.map_cons, List.map_nil]); first | done | rfl | (simp only [List.length_drop, List.length_take]; rfl)) ?_
    with_reducible refine (mortmainref01_Int.calls k (l0_5.length : Int) t395 _ A7.out).mono ?_
    rintro e w14 ⟨rfl, hb⟩
    refine ⟨_, rfl, ?_⟩
    have n0_ := Aside0.mk (blk_below (g := gb391) (o := .cells #[.int .i64 a0_0, .int .i64 a0_1, .int .i64 a0_2, .int .i64 a0_3, .string a0_4, .slice A0_5 l0_5.length c0_5] 72 (0, 0)) (by (with_reducible repeat (first | refine blk_drewN ?_ _ | refine blk_drew ?_ | refine blk_alloc ?_ _)); exact BK391.out) hb)
    have n1_ := Aside0.mk (below_step (by repeat (first | (with_reducible first | exact HB.out | apply below_alloc | apply pw_below_drewN | apply below_drew1 | refine below_set ?_ GE391.out) | exact HB.out)) hb)
    clear BK391
    clear HB
    have BK391 := n0_
    have HB := n1_
    clear n0_ n1_
    (try clear hb)
    (try clear hb2)
    (try clear hk)
    (try clear hi)
    refine hK.out _ _ ⟨(blk_cell BK391.out 0).trans rfl, (blk_cell BK391.out 1).trans rfl, (blk_cell BK391.out 2).trans rfl, (blk_cell BK391.out 3).trans rfl, (blk_cell BK391.out 4).trans rfl, (blk_cell BK391.out 5).trans rfl⟩ (fun hHeld => ?_)
    clear hK K
    refine norm_ (a' := ?_) ?_ ?_
    rotate_left
    ·show Act.put _ (some 20) _ = _
     simp only [Act.put, List.setIfInBounds_toArray, List.set_cons_zero, List.set_cons_succ, i64_w, i32_w]
     rfl
    refine pure_ (i := 15) (N := some 21) (v := ?_) (a' := ?_) #[true, true, true, true, true, true, true, true, true, true, true, true, true, true, true, true, false] rfl rfl (any_of HT_.out (by kernel_rfl)) (fun _ _ _ h => h) (Or.inl ⟨by rfl, ?_⟩) ?_ ?_
    rotate_left
    ·intro w'
     go_simp
     with_reducible rfl
    rotate_left
    ·simp only [Act.put, List.setIfInBounds_toArray, List.set_cons_zero, List.set_cons_succ, i64_w, i32_w]
     rfl
    refine pure_ (i := 16) (N := some 3) (v := ?_) (a' := ?_) #[true, true, true, true, true, true, true, true, true, true, true, true, true, true, true, true, true] rfl rfl (any_of HT_.out (by kernel_rfl)) (fun _ _ _ h => h) (Or.inl ⟨by rfl, ?_⟩) ?_ ?_
    rotate_left
    ·intro w'
     go_simp
     with_reducible rfl
    rotate_left
    ·simp only [Act.put, List.setIfInBounds_toArray, List.set_cons_zero, List.set_cons_succ, i64_w, i32_w]
     rfl
    refine done_ (done_of HT_.out (by kernel_rfl)) ?_
    have hcz15_0 : w14.cell? ⟨gb391, 0, none⟩ = some (.int .i64 a0_0) := (blk_cell BK391.out 0).trans rfl
    have hcz15_1 : w14.cell? ⟨gb391, 1, none⟩ = some (.int .i64 a0_1) := (blk_cell BK391.out 1).trans rfl
    have hcz15_2 : w14.cell? ⟨gb391, 2, none⟩ = some (.int .i64 a0_2) := (blk_cell BK391.out 2).trans rfl
    have hcz15_3 : w14.cell? ⟨gb391, 3, none⟩ = some (.int .i64 a0_3) := (blk_cell BK391.out 3).trans rfl
    have hcz15_4 : w14.cell? ⟨gb391, 4, none⟩ = some (.string a0_4) := (blk_cell BK391.out 4).trans rfl
    have hcz15_5 : w14.cell? ⟨gb391, 5, none⟩ = some (.slice A0_5 l0_5.length c0_5) := (blk_cell BK391.out 5).trans rfl
    have hfz15_0 := blk_frozen BK391.out 0
    have hfz15_1 := blk_frozen BK391.out 1
    have hfz15_2 := blk_frozen BK391.out 2
    have hfz15_3 := blk_frozen BK391.out 3
    have hfz15_4 := blk_frozen BK391.out 4
    have hfz15_5 := blk_frozen BK391.out 5
    try go_wp2
    go_loopg [3, 25] k (fun kq v3 v25 w' => ∃ (x3_1 : ByteArray) (x25_1 : Int), v3 = .string x3_1 ∧ v25 = .int .i64 x25_1 ∧ Aside0 (mortmainref09_exprBytes.l0 kq x3_1 l0_5 (l0_5.length : Int) x25_1 = some r) ∧ Aside0 (kq ≤ k) ∧ Aside0 (w'.heap[gb391]? = some (.cells #[.int .i64 a0_0, .int .i64 a0_1, .int .i64 a0_2, .int .i64 a0_3, .string a0_4, (.slice A0_5 l0_5.length c0_5)] 72 (0, 0))) ∧ Aside0 (Below w.heap.size w w'))
    case atStart => exact ⟨(((t392 ++ t393) ++ t394) ++ t395), (0), (by first | rfl | (simp; done) | (simp [*]; done)), (by first | rfl | (simp; done) | (simp [*]; done)), H', ⟨Nat.le_refl _⟩, ⟨by (with_reducible repeat (first | refine blk_drewN ?_ _ | refine blk_drew ?_ | refine blk_alloc ?_ _)); exact BK391.out⟩, ⟨by repeat (first | (with_reducible first | exact HB.out | apply below_alloc | apply pw_below_drewN | apply below_drew1 | refine below_set ?_ GE391.out) | exact HB.out)⟩⟩
    case round =>
     clear H'
     try clear c1
     try clear p2
     try clear c4
     try clear c4b0
     try clear c4b1
     try clear c4b2
     try clear c6
     try clear c6b0
     try clear c6b1
     try clear c6b2
     try clear c7
     try clear c8
     try clear c8b0
     try clear c8b1
     try clear c8b2
     try clear c10
     try clear hcz15_0
     try clear hcz15_1
     try clear hcz15_2
     try clear hcz15_3
     try clear hcz15_4
     try clear hcz15_5
     try clear hfz15_0
     try clear hfz15_1
     try clear hfz15_2
     try clear hfz15_3
     try clear hfz15_4
     try clear hfz15_5
     obtain ⟨x3_1, x25_1, rfl, rfl, HA, HK1, BK391, HB⟩ := hrel
     cases gk with
     | zero => exact absurd HA.out (by simp [mortmainref09_exprBytes.l0])
     | succ k1 =>
      have H := HA.out
      clear HA
      simp only [mortmainref09_exprBytes.l0] at H
      by_cases c16 : x25_1 < (l0_5.length : Int)
      ·rw [if_pos c16] at H
       have c16b0 : decide (x25_1 < (l0_5.length : Int)) = true := decide_eq_true c16
       clear c16
       by_cases c17 : 0 ≤ x25_1
       ·rw [if_pos c17] at H
        have c17b0 : decide (0 ≤ x25_1) = true := decide_eq_true c17
        clear c17
        by_cases c18 : x25_1 < (l0_5.length : Int)
        ·rw [if_pos c18] at H
         have c18b0 : decide (x25_1 < (l0_5.length : Int)) = true := decide_eq_true c18
         clear c18
         replace H := Option.bind_eq_some_iff.mp H
         obtain ⟨t398, A190, H⟩ := H
         replace H : (if x3_1.size + t398.size ≤ 9223372036854775807 then (mortmainref09_exprBytes.l0 k1 (x3_1 ++ t398) l0_5 (l0_5.length : Int) (wrap64 (x25_1 + 1))) else (none)) = some r := H
         have A19 := Aside0.mk A190
         clear A190
         by_cases c20 : x3_1.size + t398.size ≤ 9223372036854775807
         ·rw [if_pos c20] at H
          have c20b0 := eq_true c20
          have c20b1 : decide (x3_1.size + t398.size ≤ 9223372036854775807) = true := decide_eq_true c20
          try have c20b2 : (9223372036854775807 < x3_1.size + t398.size) = False := eq_false (Nat.not_lt.2 c20)
          have H' := Aside0.mk H
          clear H
          have p396 : 0 ≤ (x25_1 : Int) := of_decide_eq_true (by first | (with_reducible assumption) | assumption)
          have q396 : x25_1 < (l0_5.length : Int) := of_decide_eq_true (by first | (with_reducible assumption) | assumption)
          obtain ⟨ad396, A396_5, c396_5, e396, hx396_0, hx396_1, hx396_2, hx396_3, hx396_4, hx396_5, hl396_5, hi396_5⟩ := at_T72 HR0_5.out x25_1 p396 q396
          cases e396
          replace hx396_0 := (HB.out.cell (World.block_lt_of_cell? w _ hx396_0)).trans hx396_0
          replace hx396_1 := (HB.out.cell (World.block_lt_of_cell? w _ hx396_1)).trans hx396_1
          replace hx396_2 := (HB.out.cell (World.block_lt_of_cell? w _ hx396_2)).trans hx396_2
          replace hx396_3 := (HB.out.cell (World.block_lt_of_cell? w _ hx396_3)).trans hx396_3
          replace hx396_4 := (HB.out.cell (World.block_lt_of_cell? w _ hx396_4)).trans hx396_4
          replace hx396_5 := (HB.out.cell (World.block_lt_of_cell? w _ hx396_5)).trans hx396_5
          have HR396_5 := Aside0.mk hi396_5
          have HC396_5 := Aside0.mk hl396_5
          clear hi396_5 hl396_5
          replace p396 := eq_true p396
          replace q396 := eq_true q396
          go_wp2_with (first | ((with_reducible refine gate_dst (N := 5) rfl ?_); refine box_event ?hg (N := 5) ?hd (cs := #[.int .i64 0, .int .i64 0, .int .i64 0, .int .i64 0, .string (⟨#[]⟩ : ByteArray), .slice none 0 0]) (t := 72) ?hr ?_; (case hd => rfl); (case hg => rfl); (case hr => first | (go_simp; done) | (go_simp; rfl)); intro gb397 hg w21 hbox hb; have n0_ := Aside0.mk (blk_below (g := gb391) (o := .cells #[.int .i64 a0_0, .int .i64 a0_1, .int .i64 a0_2, .int .i64 a0_3, .string a0_4, .slice (some ad396) l0_5.length c0_5] 72 (0, 0)) (by (with_reducible repeat (first | refine blk_drewN ?_ _ | refine blk_drew ?_ | refine blk_alloc ?_ _)); exact BK391.out) hb); have n1_ := Aside0.mk (below_step (by repeat (first | (with_reducible first | exact HB.out | apply below_alloc | apply pw_below_drewN | apply below_drew1 | refine below_set ?_ GE391.out) | exact HB.out)) hb); have n2_ := Aside0.mk (hbox); have n3_ := Aside0.mk ((by rw [hg]; exact (below_size (by repeat (first | (with_reducible first | exact HB.out | apply below_alloc | apply pw_below_drewN | apply below_drew1 | refine below_set ?_ GE391.out) | exact HB.out))) : w.heap.size ≤ gb397)); have n4_ := Aside0.mk ((by rw [hg]; exact (below_size (by repeat (first | (with_reducible first | exact HB.out | apply below_alloc | apply pw_below_drewN | apply below_drew1 | refine below_set ?_ GE391.out) | exact HB.out))) : w.heap.size ≤ gb397)); have n5_ := Aside0.mk ((by rw [hg]; exact Nat.ne_of_lt (blk_lt (g := gb391) (o := .cells #[.int .i64 a0_0, .int .i64 a0_1, .int .i64 a0_2, .int .i64 a0_3, .string a0_4, .slice (some ad396) l0_5.length c0_5] 72 (0, 0)) (by (with_reducible repeat (first | refine blk_drewN ?_ _ | refine blk_drew ?_ | refine blk_alloc ?_ _)); exact BK391.out)) : gb391 ≠ gb397)); have n6_ := Aside0.mk ((by rw [hg]; exact Nat.ne_of_gt (blk_lt (g := gb391) (o := .cells #[.int .i64 a0_0, .int .i64 a0_1, .int .i64 a0_2, .int .i64 a0_3, .string a0_4, .slice (some ad396) l0_5.length c0_5] 72 (0, 0)) (by (with_reducible repeat (first | refine blk_drewN ?_ _ | refine blk_drew ?_ | refine blk_alloc ?_ _)); exact BK391.out)) : gb397 ≠ gb391)); clear BK391; clear HB; have BK391 := n0_; have HB := n1_; have BK397 := n2_; have GW397 := n3_; have GE397 := n4_; have NB391_397 := n5_; have NB397_391 := n6_; clear n0_ n1_ n2_ n3_ n4_ n5_ n6_; clear hb hbox hg; have hnb22 := NB397_391.out; have hnc22 := NB391_397.out; have hcz23_0 : w21.cell? ⟨gb397, 0, none⟩ = some (.int .i64 0) := (blk_cell BK397.out 0).trans rfl; have hcz23_1 : w21.cell? ⟨gb397, 1, none⟩ = some (.int .i64 0) := (blk_cell BK397.out 1).trans rfl; have hcz23_2 : w21.cell? ⟨gb397, 2, none⟩ = some (.int .i64 0) := (blk_cell BK397.out 2).trans rfl; have hcz23_3 : w21.cell? ⟨gb397, 3, none⟩ = some (.int .i64 0) := (blk_cell BK397.out 3).trans rfl; have hcz23_4 : w21.cell? ⟨gb397, 4, none⟩ = some (.string (⟨#[]⟩ : ByteArray)) := (blk_cell BK397.out 4).trans rfl; have hcz23_5 : w21.cell? ⟨gb397, 5, none⟩ = some (.slice none 0 0) := (blk_cell BK397.out 5).trans rfl; have hfz23_0 := blk_frozen BK397.out 0; have hfz23_1 := blk_frozen BK397.out 1; have hfz23_2 := blk_frozen BK397.out 2; have hfz23_3 := blk_frozen BK397.out 3; have hfz23_4 := blk_frozen BK397.out 4; have hfz23_5 := blk_frozen BK397.out 5) | ((with_reducible refine gate_callee (f := 74) rfl ?_); refine goesL_ (some 31) rfl rfl Tryd.func74 (by kernel_rfl) rfl #[.agg #[.int .i64 ((rd_T72 l0_5 x25_1).f0), .int .i64 ((rd_T72 l0_5 x25_1).f1), .int .i64 ((rd_T72 l0_5 x25_1).f2.f0), .int .i64 ((rd_T72 l0_5 x25_1).f2.f1), .string ((rd_T72 l0_5 x25_1).f2.f2), .slice A396_5 ((rd_T72 l0_5 x25_1).f3).length c396_5]] rfl (by (try simp only [List.map_toArray, List.map_cons, List.map_nil]); first | done | rfl | (simp only [List.length_drop, List.length_take]; rfl)) ?_; (with_reducible refine (ih k1 (by have := HK1.out; omega) ((rd_T72 l0_5 x25_1).f0) ((rd_T72 l0_5 x25_1).f1) ((rd_T72 l0_5 x25_1).f2.f0) ((rd_T72 l0_5 x25_1).f2.f1) ((rd_T72 l0_5 x25_1).f2.f2) _ _ ((rd_T72 l0_5 x25_1).f3) t398 _ ?side1 ?side2 A19.out).mono ?_); (case side1 => exact Kd.C_below HR396_5.out (by repeat (first | (with_reducible first | exact HB.out | apply below_alloc | apply pw_below_drewN | apply below_drew1 | refine below_set ?_ GE391.out | refine below_set ?_ GE397.out) | exact HB.out))); (case side2 => exact HC396_5.out); rintro e w24 ⟨rfl, hb⟩; refine ⟨_, rfl, ?_⟩; have n0_ := Aside0.mk (blk_below (g := gb391) (o := .cells #[.int .i64 a0_0, .int .i64 a0_1, .int .i64 a0_2, .int .i64 a0_3, .string a0_4, .slice (some ad396) l0_5.length c0_5] 72 (0, 0)) (by (with_reducible repeat (first | refine blk_drewN ?_ _ | refine blk_drew ?_ | refine blk_alloc ?_ _)); refine blk_far ?_ NB391_397.out _; (with_reducible repeat (first | refine blk_drewN ?_ _ | refine blk_drew ?_ | refine blk_alloc ?_ _)); refine blk_far ?_ NB391_397.out _; (with_reducible repeat (first | refine blk_drewN ?_ _ | refine blk_drew ?_ | refine blk_alloc ?_ _)); refine blk_far ?_ NB391_397.out _; (with_reducible repeat (first | refine blk_drewN ?_ _ | refine blk_drew ?_ | refine blk_alloc ?_ _)); refine blk_far ?_ NB391_397.out _; (with_reducible repeat (first | refine blk_drewN ?_ _ | refine blk_drew ?_ | refine blk_alloc ?_ _)); refine blk_far ?_ NB391_397.out _; (with_reducible repeat (first | refine blk_drewN ?_ _ | refine blk_drew ?_ | refine blk_alloc ?_ _)); refine blk_far ?_ NB391_397.out _; (with_reducible repeat (first | refine blk_drewN ?_ _ | refine blk_drew ?_ | refine blk_alloc ?_ _)); exact BK391.out) hb); have n1_ := Aside0.mk (blk_below (g := gb397) (o := .cells #[.int .i64 ((rd_T72 l0_5 x25_1).f0), .int .i64 ((rd_T72 l0_5 x25_1).f1), .int .i64 ((rd_T72 l0_5 x25_1).f2.f0), .int .i64 ((rd_T72 l0_5 x25_1).f2.f1), .string ((rd_T72 l0_5 x25_1).f2.f2), .slice A396_5 ((rd_T72 l0_5 x25_1).f3).length c396_5] 72 (0, 0)) (by (with_reducible repeat (first | refine blk_drewN ?_ _ | refine blk_drew ?_ | refine blk_alloc ?_ _)); refine blk_put (cs := #[.int .i64 ((rd_T72 l0_5 x25_1).f0), .int .i64 ((rd_T72 l0_5 x25_1).f1), .int .i64 ((rd_T72 l0_5 x25_1).f2.f0), .int .i64 ((rd_T72 l0_5 x25_1).f2.f1), .string ((rd_T72 l0_5 x25_1).f2.f2), .slice none 0 0]) ?_ 5 _ rfl; (with_reducible repeat (first | refine blk_drewN ?_ _ | refine blk_drew ?_ | refine blk_alloc ?_ _)); refine blk_put (cs := #[.int .i64 ((rd_T72 l0_5 x25_1).f0), .int .i64 ((rd_T72 l0_5 x25_1).f1), .int .i64 ((rd_T72 l0_5 x25_1).f2.f0), .int .i64 ((rd_T72 l0_5 x25_1).f2.f1), .string (⟨#[]⟩ : ByteArray), .slice none 0 0]) ?_ 4 _ rfl; (with_reducible repeat (first | refine blk_drewN ?_ _ | refine blk_drew ?_ | refine blk_alloc ?_ _)); refine blk_put (cs := #[.int .i64 ((rd_T72 l0_5 x25_1).f0), .int .i64 ((rd_T72 l0_5 x25_1).f1), .int .i64 ((rd_T72 l0_5 x25_1).f2.f0), .int .i64 0, .string (⟨#[]⟩ : ByteArray), .slice none 0 0]) ?_ 3 _ rfl; (with_reducible repeat (first | refine blk_drewN ?_ _ | refine blk_drew ?_ | refine blk_alloc ?_ _)); refine blk_put (cs := #[.int .i64 ((rd_T72 l0_5 x25_1).f0), .int .i64 ((rd_T72 l0_5 x25_1).f1), .int .i64 0, .int .i64 0, .string (⟨#[]⟩ : ByteArray), .slice none 0 0]) ?_ 2 _ rfl; (with_reducible repeat (first | refine blk_drewN ?_ _ | refine blk_drew ?_ | refine blk_alloc ?_ _)); refine blk_put (cs := #[.int .i64 ((rd_T72 l0_5 x25_1).f0), .int .i64 0, .int .i64 0, .int .i64 0, .string (⟨#[]⟩ : ByteArray), .slice none 0 0]) ?_ 1 _ rfl; (with_reducible repeat (first | refine blk_drewN ?_ _ | refine blk_drew ?_ | refine blk_alloc ?_ _)); refine blk_put (cs := #[.int .i64 0, .int .i64 0, .int .i64 0, .int .i64 0, .string (⟨#[]⟩ : ByteArray), .slice none 0 0]) ?_ 0 _ rfl; (with_reducible repeat (first | refine blk_drewN ?_ _ | refine blk_drew ?_ | refine blk_alloc ?_ _)); exact BK397.out) hb); have n2_ := Aside0.mk (below_step (by repeat (first | (with_reducible first | exact HB.out | apply below_alloc | apply pw_below_drewN | apply below_drew1 | refine below_set ?_ GE391.out | refine below_set ?_ GE397.out) | exact HB.out)) hb); clear BK391; clear BK397; clear HB; have BK391 := n0_; have BK397 := n1_; have HB := n2_; clear n0_ n1_ n2_; (try clear hb); (try clear hb2); (try clear hk); (try clear hi)))
          go_roundg k1
          case measure => have := HK1.out; omega
          case rel => exact ⟨(x3_1 ++ t398), (wrap64 (x25_1 + 1)), (by first | rfl | (simp; done) | (simp [*]; done)), (by first | rfl | (simp; done) | (simp [*]; done)), H', ⟨by have := HK1.out; omega⟩, ⟨by (with_reducible repeat (first | refine blk_drewN ?_ _ | refine blk_drew ?_ | refine blk_alloc ?_ _)); exact BK391.out⟩, ⟨by repeat (first | (with_reducible first | exact HB.out | apply below_alloc | apply pw_below_drewN | apply below_drew1 | refine below_set ?_ GE391.out | refine below_set ?_ GE397.out) | exact HB.out)⟩⟩
         ·rw [if_neg c20] at H
          exact absurd H (by simp)
        ·rw [if_neg c18] at H
         exact absurd H (by simp)
       ·rw [if_neg c17] at H
        exact absurd H (by simp)
      ·rw [if_neg c16] at H
       have c16b0 : decide (x25_1 < (l0_5.length : Int)) = false := decide_eq_false c16
       clear c16
       obtain rfl := Option.some.inj H
       go_wp2
       go_ret
       exact ⟨by first | rfl | (simp [errW_none, errW_some] <;> rfl) | (simp [*, errW_none, errW_some] <;> rfl), by repeat (first | (with_reducible first | exact HB.out | apply below_alloc | apply pw_below_drewN | apply below_drew1 | refine below_set ?_ GE391.out) | exact HB.out)⟩
   ·rw [if_neg c8] at H
    exact absurd H (by simp)
  ·rw [if_neg c6] at H
   exact absurd H (by simp)
 ·rw [if_neg c4] at H
  exact absurd H (by simp)
end Go.Proofs.YtefdfgmlmjnmlaaDoor.Rf
end
