/- Lemmas for the law GrantGives: what the functions that it reaches compute. No condition. Joined out of this session's smaller texts (part 1 of 4). -/
import Derived.Test.YtefdfgmlmjnmlaaDoorProg
import Derived.Below
import Derived.Deep.Draws
import Derived.Deep.AppendLies
import Derived.Maps.AppendAt
import Derived.OwnWalk
import Derived.Laws.BytesArg
import Derived.Laws.MakeOwn
import Derived.Laws.OwnMore
import Derived.Deep.OwnRows
import Derived.Tactics
import Derived.Lib.ConvBytes
import Derived.Laws.Slices
import Derived.WalkKit
import Derived.KernelRfl
import Derived.RowKit3
import Derived.Deep.LoopGhost
import Derived.Deep.QuietTactic
import Derived.BigQuiet
import Derived.WideLaws
import Derived.Deep.DeepCutAuto
import Derived.Deep.CutBlock
import Derived.Deep.RegionHeld3
import Derived.Laws.Rows
import Derived.Lib.AppendStr
import Derived.ArgAppend
import Derived.Laws.IdiomCopy
import Derived.OrdersHeld
import Derived.Laws.BitsLemmas
import Derived.RowKit
import Derived.WalkLawsBesides
import Derived.Test.YtefdfgmlmjnmlaaDoorWWords
import Derived.Test.YtefdfgmlmjnmlaaDoorWLast
import Derived.Test.YtefdfgmlmjnmlaaDoorWTab
import Derived.Test.YtefdfgmlmjnmlaaDoorWFour
import Derived.Test.YtefdfgmlmjnmlaaDoorWQPut
import Derived.Test.YtefdfgmlmjnmlaaDoorWApart
import Derived.Test.YtefdfgmlmjnmlaaDoorWArr
import Derived.Test.YtefdfgmlmjnmlaaDoorWZeros
import Derived.Test.YtefdfgmlmjnmlaaDoorWFoot
import Derived.Test.YtefdfgmlmjnmlaaDoorWKept
import Derived.Test.YtefdfgmlmjnmlaaDoorWShare
import Derived.Test.YtefdfgmlmjnmlaaDoorWN
import Derived.Test.YtefdfgmlmjnmlaaDoorWFootNe
import Derived.Test.YtefdfgmlmjnmlaaDoorWAt
import Derived.Test.YtefdfgmlmjnmlaaDoorWEqStruct
import Derived.Test.YtefdfgmlmjnmlaaDoorWRepsOne
import Derived.Test.YtefdfgmlmjnmlaaDoorWInv
import Derived.Test.YtefdfgmlmjnmlaaDoorWInvWords
import Derived.Test.YtefdfgmlmjnmlaaDoorWGuard
import Derived.Test.YtefdfgmlmjnmlaaDoorWNEv
import Derived.Test.YtefdfgmlmjnmlaaDoorWMore
import Derived.ProofKit
import Derived.OpenShut
import Derived.Lib.OthersKept
import Derived.BigCall
import Derived.Test.YtefdfgmlmjnmlaaDoorShelf
import Derived.Test.YtefdfgmlmjnmlaaDoorTie
import Derived.Test.YtefdfgmlmjnmlaaDoorCards
import Derived.ShutString
import Derived.ChangeOld
import Derived.LaidMore
import Derived.Lay
import Derived.SevenTiedAt
import Derived.Stop.Joined
import Derived.Lib.LaidU8T
import Derived.Lib.LaidIn
import Derived.Lib.IndexAny
import Derived.Lib.BufferMore
import Derived.Laws.AppendOwn
import Derived.Deep.AppendSrc
import Derived.Lib.AppendZerosOnto
import Derived.Lib.Overlaps
import Derived.Laws.Externs
section
set_option linter.unusedVariables false
set_option linter.unusedSimpArgs false
/- What the kit's print.py wrote of one Go function of this seat's translation (run by a program of this session, one function a text): the function as a plain Lean function, and that the call computes it. -/
namespace Go.Proofs.YtefdfgmlmjnmlaaDoor.Rf
open Go.RowKit Go.Proofs.YtefdfgmlmjnmlaaDoorW.PrintWords Go.Proofs.YtefdfgmlmjnmlaaDoorW.PrintLast Go.Proofs.YtefdfgmlmjnmlaaDoorW.PrintMore
attribute [local go_sem] max2_int min2_int max_two min_two max_three min_three max_four min_four   -- for this text's walks alone



def errW : Option Int → Value
  | none => .nilIface
  | some c => .iface 0 (.int .i64 c)
theorem errW_none : errW none = .nilIface := rfl
theorem errW_some (c : Int) : errW (some c) = .iface 0 (.int .i64 c) := rfl

theorem info3 : (Tryd.prog.info? 3).map (fun i => (i.zero, i.size, i.bytes)) = some (some (.int .i64 0), 1, 8) := by kernel_rfl
theorem info5 : (Tryd.prog.info? 5).map (fun i => (i.zero, i.size, i.bytes)) = some (some (.int .u8 0), 1, 1) := by kernel_rfl
theorem info27 : (Tryd.prog.info? 27).map (fun i => (i.zero, i.size, i.bytes)) = some (some (.agg #[(.int .i64 0), (.string ⟨#[]⟩), (.int .i64 0)]), 3, 32) := by kernel_rfl
theorem info45 : (Tryd.prog.info? 45).map (fun i => (i.zero, i.size, i.bytes)) = some (some (.agg #[(.string ⟨#[]⟩), (.int .i64 0), (.slice none 0 0), (.slice none 0 0)]), 4, 72) := by kernel_rfl
theorem info61 : (Tryd.prog.info? 61).map (fun i => (i.zero, i.size, i.bytes)) = some (some (.agg #[(.string ⟨#[]⟩), (.int .i64 0)]), 2, 24) := by kernel_rfl
-- the values' own types
/-! #### struct type 70 -/
structure S70 where
  f0 : Int
  f1 : Int
  f2 : ByteArray
def z70 : S70 := ⟨(0 : Int), (0 : Int), (⟨#[]⟩ : ByteArray)⟩
def k70 : Kd S70 := Kd.iso (Kd.pair (Kd.int .i64) (Kd.pair (Kd.int .i64) Kd.string)) (fun x : S70 => (x.f0, x.f1, x.f2))
theorem k70_open {w : World} {x : S70} {cs : List Value} (h : k70.K w x cs) : cs = [.int .i64 x.f0, .int .i64 x.f1, .string x.f2] := by
  obtain ⟨_, _, rfl, rfl, ⟨_, _, rfl, rfl, rfl⟩⟩ := h
  exact rfl
theorem k70_openM {w : World} {base : Nat} {ok : Nat → Prop} {x : S70} {cs : List Value} (h : k70.M w base ok x cs) : cs = [.int .i64 x.f0, .int .i64 x.f1, .string x.f2] := by
  obtain ⟨_, _, rfl, rfl, ⟨_, _, rfl, rfl, rfl⟩⟩ := h
  exact rfl
theorem k70_mk (w : World) (x : S70)  : k70.K w x [.int .i64 x.f0, .int .i64 x.f1, .string x.f2] := ⟨[.int .i64 x.f0], [.int .i64 x.f1, .string x.f2], rfl, rfl, ⟨[.int .i64 x.f1], [.string x.f2], rfl, rfl, rfl⟩⟩
theorem k70_mkM (w : World) (base : Nat) (ok : Nat → Prop) (x : S70)  : k70.M w base ok x [.int .i64 x.f0, .int .i64 x.f1, .string x.f2] := ⟨[.int .i64 x.f0], [.int .i64 x.f1, .string x.f2], rfl, rfl, ⟨[.int .i64 x.f1], [.string x.f2], rfl, rfl, rfl⟩⟩
theorem k70_mkF (W : World) (ok : Nat → Prop) (x : S70) : Kd.FK k70 W ok x [.int .i64 x.f0, .int .i64 x.f1, .string x.f2] := fun W2 _ => k70_mk W2 x
def rd_T70 (xs : List S70) (i : Int) : S70 := xs.getD i.toNat z70
theorem at_T70 {w : World} {A : Option Addr} {n : Nat} {xs : List S70} (h : Kd.C k70 w A n xs) (i : Int) (h0 : 0 ≤ i) (h1 : i < n) : ∃ ad , A = some ad ∧ w.cell? (ad.add (i.toNat * 3)) = some (.int .i64 (rd_T70 xs i).f0) ∧ w.cell? ⟨(ad.add (i.toNat * 3)).block, (ad.add (i.toNat * 3)).off + 1, none⟩ = some (.int .i64 (rd_T70 xs i).f1) ∧ w.cell? ⟨(ad.add (i.toNat * 3)).block, (ad.add (i.toNat * 3)).off + 2, none⟩ = some (.string (rd_T70 xs i).f2) := by
  obtain ⟨ad, c, e, _, hK, hc0⟩ := Kd.C_get h z70 i h0 h1
  have hc : ∀ j u, c[j]? = some u → w.cell? (ad.add (i.toNat * 3 + j)) = some u := hc0
  obtain rfl := k70_open hK
  exact ⟨ad, e, hc 0 _ rfl, by rw [← add_field _ _ 1 (by omega)]; exact hc 1 _ rfl, by rw [← add_field _ _ 2 (by omega)]; exact hc 2 _ rfl⟩

/-! #### struct type 72, nested in itself -/
structure S72 where
  f0 : Int
  f1 : Int
  f2 : S70
  f3 : (List S72)
def z72 : S72 := ⟨(0 : Int), (0 : Int), z70, ([] : List S72)⟩
def F72 (d : Kd S72) : Kd S72 := Kd.iso (Kd.pair (Kd.int .i64) (Kd.pair (Kd.int .i64) (Kd.pair k70 (Kd.slice 72 d)))) (fun x : S72 => (x.f0, x.f1, x.f2, x.f3))
theorem mono72 : Kd.Mono F72 := Kd.mono_iso _ (Kd.mono_pair (Kd.mono_const _) (Kd.mono_pair (Kd.mono_const _) (Kd.mono_pair (Kd.mono_const _) (Kd.mono_slice 72 Kd.mono_id))))
theorem sub72 : Kd.Sub F72 [72] := Kd.sub_iso _ (Kd.sub_pair (Kd.sub_const _ (by decide)) (Kd.sub_pair (Kd.sub_const _ (by decide)) (Kd.sub_pair (Kd.sub_const _ (by decide)) (Kd.sub_slice 72 (by decide) Kd.sub_id))))
theorem sz72 : ∀ n, (Kd.upto F72 6 [72] n).sz = 6 := Kd.upto_sz (fun _ => rfl)
def k72 : Kd S72 := Kd.fix F72 6 [72] sz72 (Kd.upto_E sub72)
theorem k72_open {w : World} {x : S72} {cs : List Value} (h : k72.K w x cs) : ∃ A5 c5, cs = [.int .i64 x.f0, .int .i64 x.f1, .int .i64 x.f2.f0, .int .i64 x.f2.f1, .string x.f2.f2, .slice A5 x.f3.length c5] ∧ x.f3.length ≤ c5 ∧ k72.C w A5 x.f3.length x.f3 := by
  obtain ⟨n, h⟩ := h
  cases n with
  | zero => exact h.elim
  | succ n =>
    obtain ⟨_, _, rfl, rfl, ⟨_, _, rfl, rfl, ⟨_, _, rfl, s2, ⟨A5, c5, rfl, l5, g5⟩⟩⟩⟩ := h
    obtain rfl := k70_open s2
    exact ⟨A5, c5, rfl, l5, Kd.fix_C g5⟩
theorem k72_openM {w : World} {base : Nat} {ok : Nat → Prop} {x : S72} {cs : List Value} (h : k72.M w base ok x cs) : ∃ v5, cs = [.int .i64 x.f0, .int .i64 x.f1, .int .i64 x.f2.f0, .int .i64 x.f2.f1, .string x.f2.f2, v5] ∧ k72.R 72 w base ok v5 x.f3 := by
  obtain ⟨n, h⟩ := h
  cases n with
  | zero => exact h.elim
  | succ n =>
    obtain ⟨_, _, rfl, rfl, ⟨_, _, rfl, rfl, ⟨_, _, rfl, s2, ⟨v5, rfl, g5⟩⟩⟩⟩ := h
    obtain rfl := k70_openM s2
    exact ⟨v5, rfl, Kd.fix_R g5⟩
theorem k72_mk (w : World) (x : S72) {A5 : Option Addr} {c5 : Nat} (l5 : x.f3.length ≤ c5) (g5 : k72.C w A5 x.f3.length x.f3) : k72.K w x [.int .i64 x.f0, .int .i64 x.f1, .int .i64 x.f2.f0, .int .i64 x.f2.f1, .string x.f2.f2, .slice A5 x.f3.length c5] := by
  obtain ⟨n5, q5⟩ := Kd.fix_C_back mono72 g5
  have r5 := Kd.upto_C_le mono72 sz72 (show n5 ≤ n5 by omega) q5
  exact ⟨n5 + 1, ⟨[.int .i64 x.f0], [.int .i64 x.f1, .int .i64 x.f2.f0, .int .i64 x.f2.f1, .string x.f2.f2, .slice A5 x.f3.length c5], rfl, rfl, ⟨[.int .i64 x.f1], [.int .i64 x.f2.f0, .int .i64 x.f2.f1, .string x.f2.f2, .slice A5 x.f3.length c5], rfl, rfl, ⟨[.int .i64 x.f2.f0, .int .i64 x.f2.f1, .string x.f2.f2], [.slice A5 x.f3.length c5], rfl, (k70_mk w x.f2 ), ⟨A5, c5, rfl, l5, r5⟩⟩⟩⟩⟩
theorem k72_mkM (w : World) (base : Nat) (ok : Nat → Prop) (x : S72) {v5 : Value} (g5 : k72.R 72 w base ok v5 x.f3) : k72.M w base ok x [.int .i64 x.f0, .int .i64 x.f1, .int .i64 x.f2.f0, .int .i64 x.f2.f1, .string x.f2.f2, v5] := by
  obtain ⟨n5, q5⟩ := Kd.fix_R_back mono72 g5
  have r5 := Kd.upto_R_le mono72 sz72 (show n5 ≤ n5 by omega) q5
  exact ⟨n5 + 1, ⟨[.int .i64 x.f0], [.int .i64 x.f1, .int .i64 x.f2.f0, .int .i64 x.f2.f1, .string x.f2.f2, v5], rfl, rfl, ⟨[.int .i64 x.f1], [.int .i64 x.f2.f0, .int .i64 x.f2.f1, .string x.f2.f2, v5], rfl, rfl, ⟨[.int .i64 x.f2.f0, .int .i64 x.f2.f1, .string x.f2.f2], [v5], rfl, (k70_mkM w base ok x.f2 ), ⟨v5, rfl, r5⟩⟩⟩⟩⟩
theorem k72_openF {W : World} {ok : Nat → Prop} {x : S72} {cs : List Value} (h : Kd.FK k72 W ok x cs) : ∃ A5 c5, cs = [.int .i64 x.f0, .int .i64 x.f1, .int .i64 x.f2.f0, .int .i64 x.f2.f1, .string x.f2.f2, .slice A5 x.f3.length c5] ∧ x.f3.length ≤ c5 ∧ Kd.F k72 W ok A5 x.f3.length x.f3 := by
  obtain ⟨A5, c5, rfl, l5, _⟩ := k72_open (Kd.FK_now h)
  exact ⟨A5, c5, rfl, l5, (fun W' hW => by obtain ⟨A5_, c5_, he, l5_, g5_⟩ := k72_open (h W' hW); injection (Option.some.inj (show some (Value.slice A5 x.f3.length c5) = some (Value.slice A5_ x.f3.length c5_) from congrArg (fun l => l[5]?) he)) with ha_ _ _; rw [ha_]; exact g5_)⟩
theorem k72_mkF (W : World) (ok : Nat → Prop) (x : S72) {A5 : Option Addr} {c5 : Nat} (l5 : x.f3.length ≤ c5) (g5 : Kd.F k72 W ok A5 x.f3.length x.f3) : Kd.FK k72 W ok x [.int .i64 x.f0, .int .i64 x.f1, .int .i64 x.f2.f0, .int .i64 x.f2.f1, .string x.f2.f2, .slice A5 x.f3.length c5] := fun W2 hW => k72_mk W2 x l5 (g5 W2 hW)
def rd_T72 (xs : List S72) (i : Int) : S72 := xs.getD i.toNat z72
theorem at_T72 {w : World} {A : Option Addr} {n : Nat} {xs : List S72} (h : Kd.C k72 w A n xs) (i : Int) (h0 : 0 ≤ i) (h1 : i < n) : ∃ ad A5 c5, A = some ad ∧ w.cell? (ad.add (i.toNat * 6)) = some (.int .i64 (rd_T72 xs i).f0) ∧ w.cell? ⟨(ad.add (i.toNat * 6)).block, (ad.add (i.toNat * 6)).off + 1, none⟩ = some (.int .i64 (rd_T72 xs i).f1) ∧ w.cell? ⟨(ad.add (i.toNat * 6)).block, (ad.add (i.toNat * 6)).off + 2, none⟩ = some (.int .i64 (rd_T72 xs i).f2.f0) ∧ w.cell? ⟨(ad.add (i.toNat * 6)).block, (ad.add (i.toNat * 6)).off + 3, none⟩ = some (.int .i64 (rd_T72 xs i).f2.f1) ∧ w.cell? ⟨(ad.add (i.toNat * 6)).block, (ad.add (i.toNat * 6)).off + 4, none⟩ = some (.string (rd_T72 xs i).f2.f2) ∧ w.cell? ⟨(ad.add (i.toNat * 6)).block, (ad.add (i.toNat * 6)).off + 5, none⟩ = some (.slice A5 (rd_T72 xs i).f3.length c5) ∧ (rd_T72 xs i).f3.length ≤ c5 ∧ k72.C w A5 (rd_T72 xs i).f3.length (rd_T72 xs i).f3 := by
  obtain ⟨ad, c, e, _, hK, hc0⟩ := Kd.C_get h z72 i h0 h1
  have hc : ∀ j u, c[j]? = some u → w.cell? (ad.add (i.toNat * 6 + j)) = some u := hc0
  obtain ⟨A5, c5, rfl, l5, g5⟩ := k72_open hK
  exact ⟨ad, A5, c5, e, hc 0 _ rfl, by rw [← add_field _ _ 1 (by omega)]; exact hc 1 _ rfl, by rw [← add_field _ _ 2 (by omega)]; exact hc 2 _ rfl, by rw [← add_field _ _ 3 (by omega)]; exact hc 3 _ rfl, by rw [← add_field _ _ 4 (by omega)]; exact hc 4 _ rfl, by rw [← add_field _ _ 5 (by omega)]; exact hc 5 _ rfl, l5, g5⟩

/-! #### struct type 59 -/
structure S59 where
  f0 : ByteArray
  f1 : Int
  f2 : Bool
  f3 : Bool
  f4 : ByteArray
  f5 : Int
def z59 : S59 := ⟨(⟨#[]⟩ : ByteArray), (0 : Int), false, false, (⟨#[]⟩ : ByteArray), (0 : Int)⟩
def k59 : Kd S59 := Kd.iso (Kd.pair Kd.string (Kd.pair (Kd.int .i64) (Kd.pair Kd.bool (Kd.pair Kd.bool (Kd.pair Kd.string (Kd.int .i64)))))) (fun x : S59 => (x.f0, x.f1, x.f2, x.f3, x.f4, x.f5))
theorem k59_open {w : World} {x : S59} {cs : List Value} (h : k59.K w x cs) : cs = [.string x.f0, .int .i64 x.f1, .bool x.f2, .bool x.f3, .string x.f4, .int .i64 x.f5] := by
  obtain ⟨_, _, rfl, rfl, ⟨_, _, rfl, rfl, ⟨_, _, rfl, rfl, ⟨_, _, rfl, rfl, ⟨_, _, rfl, rfl, rfl⟩⟩⟩⟩⟩ := h
  exact rfl
theorem k59_openM {w : World} {base : Nat} {ok : Nat → Prop} {x : S59} {cs : List Value} (h : k59.M w base ok x cs) : cs = [.string x.f0, .int .i64 x.f1, .bool x.f2, .bool x.f3, .string x.f4, .int .i64 x.f5] := by
  obtain ⟨_, _, rfl, rfl, ⟨_, _, rfl, rfl, ⟨_, _, rfl, rfl, ⟨_, _, rfl, rfl, ⟨_, _, rfl, rfl, rfl⟩⟩⟩⟩⟩ := h
  exact rfl
theorem k59_mk (w : World) (x : S59)  : k59.K w x [.string x.f0, .int .i64 x.f1, .bool x.f2, .bool x.f3, .string x.f4, .int .i64 x.f5] := ⟨[.string x.f0], [.int .i64 x.f1, .bool x.f2, .bool x.f3, .string x.f4, .int .i64 x.f5], rfl, rfl, ⟨[.int .i64 x.f1], [.bool x.f2, .bool x.f3, .string x.f4, .int .i64 x.f5], rfl, rfl, ⟨[.bool x.f2], [.bool x.f3, .string x.f4, .int .i64 x.f5], rfl, rfl, ⟨[.bool x.f3], [.string x.f4, .int .i64 x.f5], rfl, rfl, ⟨[.string x.f4], [.int .i64 x.f5], rfl, rfl, rfl⟩⟩⟩⟩⟩
theorem k59_mkM (w : World) (base : Nat) (ok : Nat → Prop) (x : S59)  : k59.M w base ok x [.string x.f0, .int .i64 x.f1, .bool x.f2, .bool x.f3, .string x.f4, .int .i64 x.f5] := ⟨[.string x.f0], [.int .i64 x.f1, .bool x.f2, .bool x.f3, .string x.f4, .int .i64 x.f5], rfl, rfl, ⟨[.int .i64 x.f1], [.bool x.f2, .bool x.f3, .string x.f4, .int .i64 x.f5], rfl, rfl, ⟨[.bool x.f2], [.bool x.f3, .string x.f4, .int .i64 x.f5], rfl, rfl, ⟨[.bool x.f3], [.string x.f4, .int .i64 x.f5], rfl, rfl, ⟨[.string x.f4], [.int .i64 x.f5], rfl, rfl, rfl⟩⟩⟩⟩⟩
theorem k59_mkF (W : World) (ok : Nat → Prop) (x : S59) : Kd.FK k59 W ok x [.string x.f0, .int .i64 x.f1, .bool x.f2, .bool x.f3, .string x.f4, .int .i64 x.f5] := fun W2 _ => k59_mk W2 x
def rd_T59 (xs : List S59) (i : Int) : S59 := xs.getD i.toNat z59
theorem at_T59 {w : World} {A : Option Addr} {n : Nat} {xs : List S59} (h : Kd.C k59 w A n xs) (i : Int) (h0 : 0 ≤ i) (h1 : i < n) : ∃ ad , A = some ad ∧ w.cell? (ad.add (i.toNat * 6)) = some (.string (rd_T59 xs i).f0) ∧ w.cell? ⟨(ad.add (i.toNat * 6)).block, (ad.add (i.toNat * 6)).off + 1, none⟩ = some (.int .i64 (rd_T59 xs i).f1) ∧ w.cell? ⟨(ad.add (i.toNat * 6)).block, (ad.add (i.toNat * 6)).off + 2, none⟩ = some (.bool (rd_T59 xs i).f2) ∧ w.cell? ⟨(ad.add (i.toNat * 6)).block, (ad.add (i.toNat * 6)).off + 3, none⟩ = some (.bool (rd_T59 xs i).f3) ∧ w.cell? ⟨(ad.add (i.toNat * 6)).block, (ad.add (i.toNat * 6)).off + 4, none⟩ = some (.string (rd_T59 xs i).f4) ∧ w.cell? ⟨(ad.add (i.toNat * 6)).block, (ad.add (i.toNat * 6)).off + 5, none⟩ = some (.int .i64 (rd_T59 xs i).f5) := by
  obtain ⟨ad, c, e, _, hK, hc0⟩ := Kd.C_get h z59 i h0 h1
  have hc : ∀ j u, c[j]? = some u → w.cell? (ad.add (i.toNat * 6 + j)) = some u := hc0
  obtain rfl := k59_open hK
  exact ⟨ad, e, hc 0 _ rfl, by rw [← add_field _ _ 1 (by omega)]; exact hc 1 _ rfl, by rw [← add_field _ _ 2 (by omega)]; exact hc 2 _ rfl, by rw [← add_field _ _ 3 (by omega)]; exact hc 3 _ rfl, by rw [← add_field _ _ 4 (by omega)]; exact hc 4 _ rfl, by rw [← add_field _ _ 5 (by omega)]; exact hc 5 _ rfl⟩

def rd_L6 (xs : List (List S59)) (i : Int) : (List S59) := xs.getD i.toNat ([] : List S59)
theorem at_L6 {w : World} {A : Option Addr} {n : Nat} {xs : List (List S59)} (h : Kd.C (Kd.slice 59 k59) w A n xs) (i : Int) (h0 : 0 ≤ i) (h1 : i < n) : ∃ ad A0 c0, A = some ad ∧ w.cell? (ad.add i.toNat) = some (.slice A0 (rd_L6 xs i).length c0) ∧ (rd_L6 xs i).length ≤ c0 ∧ k59.C w A0 (rd_L6 xs i).length (rd_L6 xs i) := by
  obtain ⟨ad, c, e, _, hK, hc0⟩ := Kd.C_get h ([] : List S59) i h0 h1
  have hc : ∀ j u, c[j]? = some u → w.cell? (ad.add (i.toNat * 1 + j)) = some u := hc0
  obtain ⟨A0, c0, rfl, l0, g0⟩ := hK
  exact ⟨ad, A0, c0, e, by have hq := hc 0 _ rfl; rwa [Nat.mul_one, Nat.add_zero] at hq, l0, g0⟩

def rd_L7 (xs : List (List S72)) (i : Int) : (List S72) := xs.getD i.toNat ([] : List S72)
theorem at_L7 {w : World} {A : Option Addr} {n : Nat} {xs : List (List S72)} (h : Kd.C (Kd.slice 72 k72) w A n xs) (i : Int) (h0 : 0 ≤ i) (h1 : i < n) : ∃ ad A0 c0, A = some ad ∧ w.cell? (ad.add i.toNat) = some (.slice A0 (rd_L7 xs i).length c0) ∧ (rd_L7 xs i).length ≤ c0 ∧ k72.C w A0 (rd_L7 xs i).length (rd_L7 xs i) := by
  obtain ⟨ad, c, e, _, hK, hc0⟩ := Kd.C_get h ([] : List S72) i h0 h1
  have hc : ∀ j u, c[j]? = some u → w.cell? (ad.add (i.toNat * 1 + j)) = some u := hc0
  obtain ⟨A0, c0, rfl, l0, g0⟩ := hK
  exact ⟨ad, A0, c0, e, by have hq := hc 0 _ rfl; rwa [Nat.mul_one, Nat.add_zero] at hq, l0, g0⟩

/-! #### struct type 45 -/
structure S45 where
  f0 : ByteArray
  f1 : Int
  f2 : (List S59)
  f3 : (List S72)
def z45 : S45 := ⟨(⟨#[]⟩ : ByteArray), (0 : Int), ([] : List S59), ([] : List S72)⟩
def k45 : Kd S45 := Kd.iso (Kd.pair Kd.string (Kd.pair (Kd.int .i64) (Kd.pair (Kd.slice 59 k59) (Kd.slice 72 k72)))) (fun x : S45 => (x.f0, x.f1, x.f2, x.f3))
theorem k45_open {w : World} {x : S45} {cs : List Value} (h : k45.K w x cs) : ∃ A2 c2 A3 c3, cs = [.string x.f0, .int .i64 x.f1, .slice A2 x.f2.length c2, .slice A3 x.f3.length c3] ∧ x.f2.length ≤ c2 ∧ k59.C w A2 x.f2.length x.f2 ∧ x.f3.length ≤ c3 ∧ k72.C w A3 x.f3.length x.f3 := by
  obtain ⟨_, _, rfl, rfl, ⟨_, _, rfl, rfl, ⟨_, _, rfl, ⟨A2, c2, rfl, l2, g2⟩, ⟨A3, c3, rfl, l3, g3⟩⟩⟩⟩ := h
  exact ⟨A2, c2, A3, c3, rfl, l2, g2, l3, g3⟩
theorem k45_openM {w : World} {base : Nat} {ok : Nat → Prop} {x : S45} {cs : List Value} (h : k45.M w base ok x cs) : ∃ v2 v3, cs = [.string x.f0, .int .i64 x.f1, v2, v3] ∧ k59.R 59 w base ok v2 x.f2 ∧ k72.R 72 w base ok v3 x.f3 := by
  obtain ⟨_, _, rfl, rfl, ⟨_, _, rfl, rfl, ⟨_, _, rfl, ⟨v2, rfl, g2⟩, ⟨v3, rfl, g3⟩⟩⟩⟩ := h
  exact ⟨v2, v3, rfl, g2, g3⟩
theorem k45_mk (w : World) (x : S45) {A2 : Option Addr} {c2 : Nat} (l2 : x.f2.length ≤ c2) (g2 : k59.C w A2 x.f2.length x.f2) {A3 : Option Addr} {c3 : Nat} (l3 : x.f3.length ≤ c3) (g3 : k72.C w A3 x.f3.length x.f3) : k45.K w x [.string x.f0, .int .i64 x.f1, .slice A2 x.f2.length c2, .slice A3 x.f3.length c3] := ⟨[.string x.f0], [.int .i64 x.f1, .slice A2 x.f2.length c2, .slice A3 x.f3.length c3], rfl, rfl, ⟨[.int .i64 x.f1], [.slice A2 x.f2.length c2, .slice A3 x.f3.length c3], rfl, rfl, ⟨[.slice A2 x.f2.length c2], [.slice A3 x.f3.length c3], rfl, ⟨A2, c2, rfl, l2, g2⟩, ⟨A3, c3, rfl, l3, g3⟩⟩⟩⟩
theorem k45_mkM (w : World) (base : Nat) (ok : Nat → Prop) (x : S45) {v2 : Value} (g2 : k59.R 59 w base ok v2 x.f2) {v3 : Value} (g3 : k72.R 72 w base ok v3 x.f3) : k45.M w base ok x [.string x.f0, .int .i64 x.f1, v2, v3] := ⟨[.string x.f0], [.int .i64 x.f1, v2, v3], rfl, rfl, ⟨[.int .i64 x.f1], [v2, v3], rfl, rfl, ⟨[v2], [v3], rfl, ⟨v2, rfl, g2⟩, ⟨v3, rfl, g3⟩⟩⟩⟩
theorem k45_openF {W : World} {ok : Nat → Prop} {x : S45} {cs : List Value} (h : Kd.FK k45 W ok x cs) : ∃ A2 c2 A3 c3, cs = [.string x.f0, .int .i64 x.f1, .slice A2 x.f2.length c2, .slice A3 x.f3.length c3] ∧ x.f2.length ≤ c2 ∧ Kd.F k59 W ok A2 x.f2.length x.f2 ∧ x.f3.length ≤ c3 ∧ Kd.F k72 W ok A3 x.f3.length x.f3 := by
  obtain ⟨A2, c2, A3, c3, rfl, l2, _, l3, _⟩ := k45_open (Kd.FK_now h)
  exact ⟨A2, c2, A3, c3, rfl, l2, (fun W' hW => by obtain ⟨A2_, c2_, A3_, c3_, he, l2_, g2_, l3_, g3_⟩ := k45_open (h W' hW); injection (Option.some.inj (show some (Value.slice A2 x.f2.length c2) = some (Value.slice A2_ x.f2.length c2_) from congrArg (fun l => l[2]?) he)) with ha_ _ _; rw [ha_]; exact g2_), l3, (fun W' hW => by obtain ⟨A2_, c2_, A3_, c3_, he, l2_, g2_, l3_, g3_⟩ := k45_open (h W' hW); injection (Option.some.inj (show some (Value.slice A3 x.f3.length c3) = some (Value.slice A3_ x.f3.length c3_) from congrArg (fun l => l[3]?) he)) with ha_ _ _; rw [ha_]; exact g3_)⟩
theorem k45_mkF (W : World) (ok : Nat → Prop) (x : S45) {A2 : Option Addr} {c2 : Nat} (l2 : x.f2.length ≤ c2) (g2 : Kd.F k59 W ok A2 x.f2.length x.f2) {A3 : Option Addr} {c3 : Nat} (l3 : x.f3.length ≤ c3) (g3 : Kd.F k72 W ok A3 x.f3.length x.f3) : Kd.FK k45 W ok x [.string x.f0, .int .i64 x.f1, .slice A2 x.f2.length c2, .slice A3 x.f3.length c3] := fun W2 hW => k45_mk W2 x l2 (g2 W2 hW) l3 (g3 W2 hW)
def rd_T45 (xs : List S45) (i : Int) : S45 := xs.getD i.toNat z45
theorem at_T45 {w : World} {A : Option Addr} {n : Nat} {xs : List S45} (h : Kd.C k45 w A n xs) (i : Int) (h0 : 0 ≤ i) (h1 : i < n) : ∃ ad A2 c2 A3 c3, A = some ad ∧ w.cell? (ad.add (i.toNat * 4)) = some (.string (rd_T45 xs i).f0) ∧ w.cell? ⟨(ad.add (i.toNat * 4)).block, (ad.add (i.toNat * 4)).off + 1, none⟩ = some (.int .i64 (rd_T45 xs i).f1) ∧ w.cell? ⟨(ad.add (i.toNat * 4)).block, (ad.add (i.toNat * 4)).off + 2, none⟩ = some (.slice A2 (rd_T45 xs i).f2.length c2) ∧ w.cell? ⟨(ad.add (i.toNat * 4)).block, (ad.add (i.toNat * 4)).off + 3, none⟩ = some (.slice A3 (rd_T45 xs i).f3.length c3) ∧ (rd_T45 xs i).f2.length ≤ c2 ∧ k59.C w A2 (rd_T45 xs i).f2.length (rd_T45 xs i).f2 ∧ (rd_T45 xs i).f3.length ≤ c3 ∧ k72.C w A3 (rd_T45 xs i).f3.length (rd_T45 xs i).f3 := by
  obtain ⟨ad, c, e, _, hK, hc0⟩ := Kd.C_get h z45 i h0 h1
  have hc : ∀ j u, c[j]? = some u → w.cell? (ad.add (i.toNat * 4 + j)) = some u := hc0
  obtain ⟨A2, c2, A3, c3, rfl, l2, g2, l3, g3⟩ := k45_open hK
  exact ⟨ad, A2, c2, A3, c3, e, hc 0 _ rfl, by rw [← add_field _ _ 1 (by omega)]; exact hc 1 _ rfl, by rw [← add_field _ _ 2 (by omega)]; exact hc 2 _ rfl, by rw [← add_field _ _ 3 (by omega)]; exact hc 3 _ rfl, l2, g2, l3, g3⟩

/-! #### struct type 27 -/
structure S27 where
  f0 : Int
  f1 : ByteArray
  f2 : Int
def z27 : S27 := ⟨(0 : Int), (⟨#[]⟩ : ByteArray), (0 : Int)⟩
def k27 : Kd S27 := Kd.iso (Kd.pair (Kd.int .i64) (Kd.pair Kd.string (Kd.int .i64))) (fun x : S27 => (x.f0, x.f1, x.f2))
theorem k27_open {w : World} {x : S27} {cs : List Value} (h : k27.K w x cs) : cs = [.int .i64 x.f0, .string x.f1, .int .i64 x.f2] := by
  obtain ⟨_, _, rfl, rfl, ⟨_, _, rfl, rfl, rfl⟩⟩ := h
  exact rfl
theorem k27_openM {w : World} {base : Nat} {ok : Nat → Prop} {x : S27} {cs : List Value} (h : k27.M w base ok x cs) : cs = [.int .i64 x.f0, .string x.f1, .int .i64 x.f2] := by
  obtain ⟨_, _, rfl, rfl, ⟨_, _, rfl, rfl, rfl⟩⟩ := h
  exact rfl
theorem k27_mk (w : World) (x : S27)  : k27.K w x [.int .i64 x.f0, .string x.f1, .int .i64 x.f2] := ⟨[.int .i64 x.f0], [.string x.f1, .int .i64 x.f2], rfl, rfl, ⟨[.string x.f1], [.int .i64 x.f2], rfl, rfl, rfl⟩⟩
theorem k27_mkM (w : World) (base : Nat) (ok : Nat → Prop) (x : S27)  : k27.M w base ok x [.int .i64 x.f0, .string x.f1, .int .i64 x.f2] := ⟨[.int .i64 x.f0], [.string x.f1, .int .i64 x.f2], rfl, rfl, ⟨[.string x.f1], [.int .i64 x.f2], rfl, rfl, rfl⟩⟩
theorem k27_mkF (W : World) (ok : Nat → Prop) (x : S27) : Kd.FK k27 W ok x [.int .i64 x.f0, .string x.f1, .int .i64 x.f2] := fun W2 _ => k27_mk W2 x
def rd_T27 (xs : List S27) (i : Int) : S27 := xs.getD i.toNat z27
theorem at_T27 {w : World} {A : Option Addr} {n : Nat} {xs : List S27} (h : Kd.C k27 w A n xs) (i : Int) (h0 : 0 ≤ i) (h1 : i < n) : ∃ ad , A = some ad ∧ w.cell? (ad.add (i.toNat * 3)) = some (.int .i64 (rd_T27 xs i).f0) ∧ w.cell? ⟨(ad.add (i.toNat * 3)).block, (ad.add (i.toNat * 3)).off + 1, none⟩ = some (.string (rd_T27 xs i).f1) ∧ w.cell? ⟨(ad.add (i.toNat * 3)).block, (ad.add (i.toNat * 3)).off + 2, none⟩ = some (.int .i64 (rd_T27 xs i).f2) := by
  obtain ⟨ad, c, e, _, hK, hc0⟩ := Kd.C_get h z27 i h0 h1
  have hc : ∀ j u, c[j]? = some u → w.cell? (ad.add (i.toNat * 3 + j)) = some u := hc0
  obtain rfl := k27_open hK
  exact ⟨ad, e, hc 0 _ rfl, by rw [← add_field _ _ 1 (by omega)]; exact hc 1 _ rfl, by rw [← add_field _ _ 2 (by omega)]; exact hc 2 _ rfl⟩

/-! #### struct type 61 -/
structure S61 where
  f0 : ByteArray
  f1 : Int
def z61 : S61 := ⟨(⟨#[]⟩ : ByteArray), (0 : Int)⟩
def k61 : Kd S61 := Kd.iso (Kd.pair Kd.string (Kd.int .i64)) (fun x : S61 => (x.f0, x.f1))
theorem k61_open {w : World} {x : S61} {cs : List Value} (h : k61.K w x cs) : cs = [.string x.f0, .int .i64 x.f1] := by
  obtain ⟨_, _, rfl, rfl, rfl⟩ := h
  exact rfl
theorem k61_openM {w : World} {base : Nat} {ok : Nat → Prop} {x : S61} {cs : List Value} (h : k61.M w base ok x cs) : cs = [.string x.f0, .int .i64 x.f1] := by
  obtain ⟨_, _, rfl, rfl, rfl⟩ := h
  exact rfl
theorem k61_mk (w : World) (x : S61)  : k61.K w x [.string x.f0, .int .i64 x.f1] := ⟨[.string x.f0], [.int .i64 x.f1], rfl, rfl, rfl⟩
theorem k61_mkM (w : World) (base : Nat) (ok : Nat → Prop) (x : S61)  : k61.M w base ok x [.string x.f0, .int .i64 x.f1] := ⟨[.string x.f0], [.int .i64 x.f1], rfl, rfl, rfl⟩
theorem k61_mkF (W : World) (ok : Nat → Prop) (x : S61) : Kd.FK k61 W ok x [.string x.f0, .int .i64 x.f1] := fun W2 _ => k61_mk W2 x
def rd_T61 (xs : List S61) (i : Int) : S61 := xs.getD i.toNat z61
theorem at_T61 {w : World} {A : Option Addr} {n : Nat} {xs : List S61} (h : Kd.C k61 w A n xs) (i : Int) (h0 : 0 ≤ i) (h1 : i < n) : ∃ ad , A = some ad ∧ w.cell? (ad.add (i.toNat * 2)) = some (.string (rd_T61 xs i).f0) ∧ w.cell? ⟨(ad.add (i.toNat * 2)).block, (ad.add (i.toNat * 2)).off + 1, none⟩ = some (.int .i64 (rd_T61 xs i).f1) := by
  obtain ⟨ad, c, e, _, hK, hc0⟩ := Kd.C_get h z61 i h0 h1
  have hc : ∀ j u, c[j]? = some u → w.cell? (ad.add (i.toNat * 2 + j)) = some u := hc0
  obtain rfl := k61_open hK
  exact ⟨ad, e, hc 0 _ rfl, by rw [← add_field _ _ 1 (by omega)]; exact hc 1 _ rfl⟩

end Go.Proofs.YtefdfgmlmjnmlaaDoor.Rf
end

section
/- Small lemmas on worlds: where new blocks lie. -/
namespace Go.Proofs.YtefdfgmlmjnmlaaDoor.My
open Go.RowKit Go.Proofs.YtefdfgmlmjnmlaaDoorW.PrintWords

theorem sz1 (w : World) (o : Obj) : (w.alloc o).heap.size = w.heap.size + 1 := by simp
theorem blk_new1 (w : World) (o1 o2 : Obj) : ((w.alloc o1).alloc o2).heap[w.heap.size + 1]? = some o2 := by
  have := blk_new (w.alloc o1) o2
  rwa [sz1] at this
theorem blk_new2 (w : World) (o1 o2 o3 : Obj) : (((w.alloc o1).alloc o2).alloc o3).heap[w.heap.size + 2]? = some o3 := by
  have := blk_new1 (w.alloc o1) o2 o3
  rwa [sz1] at this
theorem blk_new3 (w : World) (o1 o2 o3 o4 : Obj) : ((((w.alloc o1).alloc o2).alloc o3).alloc o4).heap[w.heap.size + 3]? = some o4 := by
  have := blk_new2 (w.alloc o1) o2 o3 o4
  rwa [sz1] at this
theorem below1 (w : World) (o1 : Obj) : Below w.heap.size w (w.alloc o1) := below_alloc (Below.refl _ _) _
theorem below2 (w : World) (o1 o2 : Obj) : Below w.heap.size w ((w.alloc o1).alloc o2) := below_alloc (below1 w o1) _
theorem below3 (w : World) (o1 o2 o3 : Obj) : Below w.heap.size w (((w.alloc o1).alloc o2).alloc o3) := below_alloc (below2 w o1 o2) _
theorem below4 (w : World) (o1 o2 o3 o4 : Obj) : Below w.heap.size w ((((w.alloc o1).alloc o2).alloc o3).alloc o4) := below_alloc (below3 w o1 o2 o3) _
theorem undrew {w w' : World} (h : Below w.drew.heap.size w.drew w') : Below w.heap.size w w' := ⟨h.os, h.tape, h.output, h.size, h.block⟩
theorem undrewN {w w' : World} {n : Nat} (h : Below (w.drewN n).heap.size (w.drewN n) w') : Below w.heap.size w w' := ⟨h.os, h.tape, h.output, h.size, h.block⟩
/-- Behind a call: a cell, or a block, that stood stands. -/
theorem cell_now {w w' : World} (hb : Below w.heap.size w w') {a : Addr} {v : Value} (h : w.cell? a = some v) : w'.cell? a = some v := pw_cell_below hb h
end Go.Proofs.YtefdfgmlmjnmlaaDoor.My
end

section
set_option linter.unusedSimpArgs false
set_option maxRecDepth 10000
/- What an argument reads as, opened into the values' own types: schemas, tables, columns, grants, expressions. -/
namespace Go.Proofs.YtefdfgmlmjnmlaaDoor.My
open Go.RowKit Go.Proofs.YtefdfgmlmjnmlaaDoorW.PrintWords Go.Proofs.YtefdfgmlmjnmlaaDoor.Rf

def I64 (n : Int) : Prop := -9223372036854775808 ≤ n ∧ n ≤ 9223372036854775807
theorem i64_of {n : Int} (h : (Lit.int .i64 n).wf = true) : I64 n := by
  exact Go.bounds_i64 h
structure Q70 (x : S70) : Prop where
  a : I64 x.f0
  b : I64 x.f1
  c : x.f2.size ≤ 9223372036854775807
inductive Q72 : S72 → Prop
  | mk (e : S72) (a : I64 e.f0) (b : I64 e.f1) (c : Q70 e.f2) (h : ∀ x, x ∈ e.f3 → Q72 x) : Q72 e
structure Q59 (x : S59) : Prop where
  a : x.f0.size ≤ 9223372036854775807
  b : I64 x.f1
  c : x.f4.size ≤ 9223372036854775807
  d : I64 x.f5
structure Q27 (x : S27) : Prop where
  a : I64 x.f0
  b : x.f1.size ≤ 9223372036854775807
  c : I64 x.f2
structure Q45 (x : S45) : Prop where
  a : x.f0.size ≤ 9223372036854775807
  b : I64 x.f1
  c : ∀ y, y ∈ x.f2 → Q59 y
  d : ∀ y, y ∈ x.f3 → Q72 y

theorem list_of {α : Type} {P : Nat → α → Prop} : ∀ n, (∀ i, i < n → ∃ y, P i y) → ∃ l : List α, l.length = n ∧ ∀ i y, l[i]? = some y → P i y := by
  intro n
  induction n with
  | zero => intro _; exact ⟨[], rfl, fun i y h => by simp at h⟩
  | succ n ih =>
    intro h
    obtain ⟨l, hl, hp⟩ := ih (fun i hi => h i (by omega))
    obtain ⟨y, hy⟩ := h n (by omega)
    refine ⟨l ++ [y], by simp [hl], fun i z hz => ?_⟩
    rcases Nat.lt_or_ge i n with hi | hi
    · rw [List.getElem?_append_left (by omega)] at hz
      exact hp i z hz
    · rw [List.getElem?_append_right (by omega)] at hz
      have hi' : i = n := by
        have := (List.getElem?_eq_some_iff.1 hz).1
        simp at this
        omega
      subst hi'
      rw [hl, Nat.sub_self] at hz
      simp at hz
      exact hz ▸ hy
theorem cells_each {w : World} {b : Nat} {a : Addr} {n : Nat} {cs : List Value} (h : w.cells? b a n = some cs) : cs.length = n ∧ ∀ (i : Nat) u, cs[i]? = some u → w.cell? (a.add i) = some u := by
  unfold World.cells? at h
  split at h
  · have hl : cs.length = n := by simpa using mapM_some_length h
    refine ⟨hl, fun i u hu => ?_⟩
    have hi : i < n := by have := (List.getElem?_eq_some_iff.1 hu).1; omega
    exact (mapM_some_get h i i (by simp [hi])).trans hu
  · cases h
theorem list3 {α : Type} {l : List α} (h : l.length = 3) : ∃ a0 a1 a2, l = [a0, a1, a2] := by
  match l, h with
  | [a0, a1, a2], _ => exact ⟨a0, a1, a2, rfl⟩
theorem list4 {α : Type} {l : List α} (h : l.length = 4) : ∃ a0 a1 a2 a3, l = [a0, a1, a2, a3] := by
  match l, h with
  | [a0, a1, a2, a3], _ => exact ⟨a0, a1, a2, a3, rfl⟩
theorem list6 {α : Type} {l : List α} (h : l.length = 6) : ∃ a0 a1 a2 a3 a4 a5, l = [a0, a1, a2, a3, a4, a5] := by
  match l, h with
  | [a0, a1, a2, a3, a4, a5], _ => exact ⟨a0, a1, a2, a3, a4, a5, rfl⟩
section
variable {H : Type} {enc : TypeId × Value → H} {w : World} {b : Nat} {sp : Nat → Bool} {held : Bool}
theorem open_rowK {α : Type} {d : Kd α} {Q : α → Prop} {t e : TypeId} (ht : Tryd.prog.underlying t = some (.slice e)) (hc : Tryd.prog.cellsOf e = d.sz) {fuel : Nat} {cs : List Value} {x : DataW H × List MemPlace}
    (h : DataW.trod enc Tryd.prog w b sp held fuel t cs = some x) (he : ∀ m, m < fuel → ∀ cs x, DataW.trod enc Tryd.prog w b sp held m e cs = some x → ∃ y, d.K w y cs ∧ Q y) :
    ∃ A c l, cs = [.slice A l.length c] ∧ l.length ≤ c ∧ Kd.C d w A l.length l ∧ ∀ y, y ∈ l → Q y := by
  rcases DataW.trod_slice ht h with ⟨rfl, _⟩ | ⟨a, len, cap, elems, rest, n, rfl, rfl, _, hb, hl, hm, hlen, hel, _, _⟩
  · exact ⟨none, 0, [], rfl, Nat.le_refl _, Kd.C_nil _ _, fun y hy => by cases hy⟩
  · obtain ⟨l, hl1, hl2⟩ := list_of (P := fun i y => ∃ c, c.length = d.sz ∧ d.K w y c ∧ (∀ (j : Nat) u, c[j]? = some u → w.cell? (a.add (i * d.sz + j)) = some u) ∧ Q y) len (fun i hi => by
      have h1 := hel i hi
      rw [List.getElem?_eq_getElem (by omega), Option.bind_eq_some_iff] at h1
      obtain ⟨c, h2, h3⟩ := h1
      obtain ⟨y, hK, hQ⟩ := he n (by omega) _ _ h3
      obtain ⟨h4, h5⟩ := cells_each h2
      refine ⟨y, c, h4.trans hc, hK, fun j u hu => ?_, hQ⟩
      rw [← Addr.add_add, ← hc]
      exact h5 j u hu)
    refine ⟨some a, cap, l, by rw [hl1], by omega, ⟨rfl, by rw [hl1]; exact Nat.le_trans hl hm, fun _ => ⟨a, rfl, fun j p hp => ?_⟩⟩, fun y hy => ?_⟩
    · obtain ⟨c, h1, h2, h3, _⟩ := hl2 j p hp
      exact ⟨c, h1, h2, h3⟩
    · obtain ⟨i, hi⟩ := List.getElem?_of_mem hy
      obtain ⟨_, _, _, _, h4⟩ := hl2 i y hi
      exact h4

theorem open3 {fuel : Nat} {cs : List Value} {x : DataW H × List MemPlace} (h : DataW.trod enc Tryd.prog w b sp held fuel 3 cs = some x) : ∃ n, cs = [.int .i64 n] ∧ I64 n := by
  obtain ⟨n, h1, _, h2⟩ := DataW.trod_int Tryd.underlying3 h
  exact ⟨n, h1, i64_of h2⟩
theorem open9 {fuel : Nat} {cs : List Value} {x : DataW H × List MemPlace} (h : DataW.trod enc Tryd.prog w b sp held fuel 9 cs = some x) : ∃ s, cs = [.string s] ∧ s.size ≤ 9223372036854775807 := by
  obtain ⟨n, h1, _, h2⟩ := DataW.trod_string Tryd.underlying9 h
  exact ⟨n, h1, h2⟩
theorem open4 {fuel : Nat} {cs : List Value} {x : DataW H × List MemPlace} (h : DataW.trod enc Tryd.prog w b sp held fuel 4 cs = some x) : ∃ q, cs = [.bool q] := by
  obtain ⟨n, h1, _⟩ := DataW.trod_bool Tryd.underlying4 h
  exact ⟨n, h1⟩
theorem c3 : Tryd.prog.cellsOf 3 = 1 := by kernel_rfl
theorem c4 : Tryd.prog.cellsOf 4 = 1 := by kernel_rfl
theorem c9 : Tryd.prog.cellsOf 9 = 1 := by kernel_rfl
theorem c70 : Tryd.prog.cellsOf 70 = 3 := by kernel_rfl
theorem c72 : Tryd.prog.cellsOf 72 = 6 := by kernel_rfl
theorem c59 : Tryd.prog.cellsOf 59 = 6 := by kernel_rfl
theorem c45 : Tryd.prog.cellsOf 45 = 4 := by kernel_rfl
theorem c27 : Tryd.prog.cellsOf 27 = 3 := by kernel_rfl
theorem c25 : Tryd.prog.cellsOf 25 = 3 := by kernel_rfl
theorem c42 : Tryd.prog.cellsOf 42 = 1 := by kernel_rfl
theorem c43 : Tryd.prog.cellsOf 43 = 1 := by kernel_rfl
theorem c22 : Tryd.prog.cellsOf 22 = 1 := by kernel_rfl
theorem c23 : Tryd.prog.cellsOf 23 = 1 := by kernel_rfl

theorem open70 {fuel : Nat} {cs : List Value} {x : DataW H × List MemPlace} (h : DataW.trod enc Tryd.prog w b sp held fuel 70 cs = some x) : ∃ y, k70.K w y cs ∧ Q70 y := by
  obtain ⟨xs, n, rfl, _, hl, hx, hf⟩ := DataW.trod_struct Tryd.underlying70 h
  rw [c70] at hl
  obtain ⟨v0, v1, v2, rfl⟩ := list3 hl
  obtain ⟨x0, x1, x2, rfl⟩ := list3 (show xs.length = 3 from hx)
  have h0 := hf 0 _ rfl
  have h1 := hf 1 _ rfl
  have h2 := hf 2 _ rfl
  simp only [c3, c9, List.drop_zero, List.drop_succ_cons, List.take_succ_cons, List.take_zero, List.getElem?_cons_zero, List.getElem?_cons_succ] at h0 h1 h2
  obtain ⟨a0, e0, q0⟩ := open3 h0
  obtain ⟨a1, e1, q1⟩ := open3 h1
  obtain ⟨a2, e2, q2⟩ := open9 h2
  cases e0; cases e1; cases e2
  exact ⟨⟨a0, a1, a2⟩, k70_mk w _, ⟨q0, q1, q2⟩⟩
theorem open72 : ∀ (fuel : Nat) (cs : List Value) (x : DataW H × List MemPlace), DataW.trod enc Tryd.prog w b sp held fuel 72 cs = some x → ∃ y, k72.K w y cs ∧ Q72 y := by
  intro fuel
  induction fuel using Nat.strongRecOn with
  | ind fuel ih =>
    intro cs x h
    obtain ⟨xs, n, rfl, _, hl, hx, hf⟩ := DataW.trod_struct Tryd.underlying72 h
    rw [c72] at hl
    obtain ⟨v0, v1, v2, v3, v4, v5, rfl⟩ := list6 hl
    obtain ⟨x0, x1, x2, x3, rfl⟩ := list4 (show xs.length = 4 from hx)
    have h0 := hf 0 _ rfl
    have h1 := hf 1 _ rfl
    have h2 := hf 2 _ rfl
    have h3 := hf 3 _ rfl
    simp only [c3, c70, c43, List.drop_zero, List.drop_succ_cons, List.take_succ_cons, List.take_zero, List.getElem?_cons_zero, List.getElem?_cons_succ] at h0 h1 h2 h3
    obtain ⟨a0, e0, q0⟩ := open3 h0
    obtain ⟨a1, e1, q1⟩ := open3 h1
    obtain ⟨a2, e2, q2⟩ := open70 h2
    obtain ⟨A, c, l, e3, l3, g3, q3⟩ := open_rowK (d := k72) (Q := Q72) Tryd.underlying43 (by rw [c72]; rfl) h3 (fun m hm => ih m (by omega))
    have e2 := k70_open e2
    cases e0; cases e1; cases e2; cases e3
    exact ⟨⟨a0, a1, a2, l⟩, k72_mk w ⟨a0, a1, a2, l⟩ l3 g3, Q72.mk _ q0 q1 q2 q3⟩
theorem open59 {fuel : Nat} {cs : List Value} {x : DataW H × List MemPlace} (h : DataW.trod enc Tryd.prog w b sp held fuel 59 cs = some x) : ∃ y, k59.K w y cs ∧ Q59 y := by
  obtain ⟨xs, n, rfl, _, hl, hx, hf⟩ := DataW.trod_struct Tryd.underlying59 h
  rw [c59] at hl
  obtain ⟨v0, v1, v2, v3, v4, v5, rfl⟩ := list6 hl
  obtain ⟨x0, x1, x2, x3, x4, x5, rfl⟩ := list6 (show xs.length = 6 from hx)
  have h0 := hf 0 _ rfl
  have h1 := hf 1 _ rfl
  have h2 := hf 2 _ rfl
  have h3 := hf 3 _ rfl
  have h4 := hf 4 _ rfl
  have h5 := hf 5 _ rfl
  simp only [c3, c4, c9, List.drop_zero, List.drop_succ_cons, List.take_succ_cons, List.take_zero, List.getElem?_cons_zero, List.getElem?_cons_succ] at h0 h1 h2 h3 h4 h5
  obtain ⟨a0, e0, q0⟩ := open9 h0
  obtain ⟨a1, e1, q1⟩ := open3 h1
  obtain ⟨a2, e2⟩ := open4 h2
  obtain ⟨a3, e3⟩ := open4 h3
  obtain ⟨a4, e4, q4⟩ := open9 h4
  obtain ⟨a5, e5, q5⟩ := open3 h5
  cases e0; cases e1; cases e2; cases e3; cases e4; cases e5
  exact ⟨⟨a0, a1, a2, a3, a4, a5⟩, k59_mk w _, ⟨q0, q1, q4, q5⟩⟩
theorem open27 {fuel : Nat} {cs : List Value} {x : DataW H × List MemPlace} (h : DataW.trod enc Tryd.prog w b sp held fuel 27 cs = some x) : ∃ y, k27.K w y cs ∧ Q27 y := by
  obtain ⟨xs, n, rfl, _, hl, hx, hf⟩ := DataW.trod_struct Tryd.underlying27 h
  rw [c27] at hl
  obtain ⟨v0, v1, v2, rfl⟩ := list3 hl
  obtain ⟨x0, x1, x2, rfl⟩ := list3 (show xs.length = 3 from hx)
  have h0 := hf 0 _ rfl
  have h1 := hf 1 _ rfl
  have h2 := hf 2 _ rfl
  simp only [c3, c9, List.drop_zero, List.drop_succ_cons, List.take_succ_cons, List.take_zero, List.getElem?_cons_zero, List.getElem?_cons_succ] at h0 h1 h2
  obtain ⟨a0, e0, q0⟩ := open3 h0
  obtain ⟨a1, e1, q1⟩ := open9 h1
  obtain ⟨a2, e2, q2⟩ := open3 h2
  cases e0; cases e1; cases e2
  exact ⟨⟨a0, a1, a2⟩, k27_mk w _, ⟨q0, q1, q2⟩⟩
theorem open45 {fuel : Nat} {cs : List Value} {x : DataW H × List MemPlace} (h : DataW.trod enc Tryd.prog w b sp held fuel 45 cs = some x) : ∃ y, k45.K w y cs ∧ Q45 y := by
  obtain ⟨xs, n, rfl, _, hl, hx, hf⟩ := DataW.trod_struct Tryd.underlying45 h
  rw [c45] at hl
  obtain ⟨v0, v1, v2, v3, rfl⟩ := list4 hl
  obtain ⟨x0, x1, x2, x3, rfl⟩ := list4 (show xs.length = 4 from hx)
  have h0 := hf 0 _ rfl
  have h1 := hf 1 _ rfl
  have h2 := hf 2 _ rfl
  have h3 := hf 3 _ rfl
  simp only [c3, c9, c42, c43, List.drop_zero, List.drop_succ_cons, List.take_succ_cons, List.take_zero, List.getElem?_cons_zero, List.getElem?_cons_succ] at h0 h1 h2 h3
  obtain ⟨a0, e0, q0⟩ := open9 h0
  obtain ⟨a1, e1, q1⟩ := open3 h1
  obtain ⟨A, c, l, e2, l2, g2, q2⟩ := open_rowK (d := k59) (Q := Q59) Tryd.underlying42 (by rw [c59]; rfl) h2 (fun m _ _ _ hm => open59 hm)
  obtain ⟨A', c', l', e3, l3, g3, q3⟩ := open_rowK (d := k72) (Q := Q72) Tryd.underlying43 (by rw [c72]; rfl) h3 (fun m _ => open72 m)
  cases e0; cases e1; cases e2; cases e3
  exact ⟨⟨a0, a1, l, l'⟩, k45_mk w ⟨a0, a1, l, l'⟩ l2 g2 l3 g3, ⟨q0, q1, q2, q3⟩⟩
theorem open22 {fuel : Nat} {cs : List Value} {x : DataW H × List MemPlace} (h : DataW.trod enc Tryd.prog w b sp held fuel 22 cs = some x) :
    ∃ A c l, cs = [.slice A l.length c] ∧ l.length ≤ c ∧ Kd.C k45 w A l.length l ∧ ∀ y, y ∈ l → Q45 y :=
  open_rowK (d := k45) (Q := Q45) Tryd.underlying22 (by rw [c45]; rfl) h (fun _ _ _ _ hm => open45 hm)
theorem open23 {fuel : Nat} {cs : List Value} {x : DataW H × List MemPlace} (h : DataW.trod enc Tryd.prog w b sp held fuel 23 cs = some x) :
    ∃ A c l, cs = [.slice A l.length c] ∧ l.length ≤ c ∧ Kd.C k27 w A l.length l ∧ ∀ y, y ∈ l → Q27 y :=
  open_rowK (d := k27) (Q := Q27) Tryd.underlying23 (by rw [c27]; rfl) h (fun _ _ _ _ hm => open27 hm)
theorem open25 {fuel : Nat} {cs : List Value} {x : DataW H × List MemPlace} (h : DataW.trod enc Tryd.prog w b sp held fuel 25 cs = some x) :
    ∃ v A c l A' c' l', cs = [.int .i64 v, .slice A l.length c, .slice A' l'.length c'] ∧ I64 v ∧ l.length ≤ c ∧ Kd.C k45 w A l.length l ∧ (∀ y, y ∈ l → Q45 y) ∧ l'.length ≤ c' ∧ Kd.C k27 w A' l'.length l' ∧ ∀ y, y ∈ l' → Q27 y := by
  obtain ⟨xs, n, rfl, _, hl, hx, hf⟩ := DataW.trod_struct Tryd.underlying25 h
  rw [c25] at hl
  obtain ⟨v0, v1, v2, rfl⟩ := list3 hl
  obtain ⟨x0, x1, x2, rfl⟩ := list3 (show xs.length = 3 from hx)
  have h0 := hf 0 _ rfl
  have h1 := hf 1 _ rfl
  have h2 := hf 2 _ rfl
  simp only [c3, c22, c23, List.drop_zero, List.drop_succ_cons, List.take_succ_cons, List.take_zero, List.getElem?_cons_zero, List.getElem?_cons_succ] at h0 h1 h2
  obtain ⟨a0, e0, q0⟩ := open3 h0
  obtain ⟨A, c, l, e1, l1, g1, q1⟩ := open22 h1
  obtain ⟨A', c', l', e2, l2, g2, q2⟩ := open23 h2
  cases e0; cases e1; cases e2
  exact ⟨_, _, _, _, _, _, _, rfl, q0, l1, g1, q1, l2, g2, q2⟩
end
end Go.Proofs.YtefdfgmlmjnmlaaDoor.My
end

section
/- schema.cutLeft: what is left of a text behind the bytes of an ASCII set at its begin. -/
namespace Go.Proofs.YtefdfgmlmjnmlaaDoor.My
open Go.RowKit Go.Proofs.YtefdfgmlmjnmlaaDoorW.PrintWords

/-- Is a rune one of the set's bytes? -/
def inS (set : ByteArray) (c : Nat) : Bool := set.data.toList.any fun b => b.toNat == c
def inUpTo (set : ByteArray) (c j : Nat) : Bool := (set.data.toList.take j).any fun b => b.toNat == c

theorem inUpTo_succ (set : ByteArray) (c j : Nat) (h : j < set.size) : inUpTo set c (j + 1) = (inUpTo set c j || (set[j]'h).toNat == c) := by
  unfold inUpTo
  rw [List.take_succ_eq_append_getElem (by simpa using h), List.any_append]
  simp
  rfl
theorem inUpTo_zero (set : ByteArray) (c : Nat) : inUpTo set c 0 = false := by simp [inUpTo]
theorem inUpTo_all (set : ByteArray) (c j : Nat) (h : ¬ j < set.size) : inUpTo set c j = inS set c := by
  unfold inUpTo inS
  rw [List.take_of_length_le (by simp; omega)]
theorem inS_low (set : ByteArray) (hset : ∀ b ∈ set.data.toList, b.toNat < 128) (c : Nat) (h : inS set c = true) : c < 128 := by
  unfold inS at h
  obtain ⟨b, hb, he⟩ := List.any_eq_true.1 h
  have := hset b hb
  simp at he
  omega

theorem same_num (c d : Nat) : ((d == c) : Bool) = (((c : Int) == (d : Int)) : Bool) := by
  rw [Bool.eq_iff_iff]; simp; omega
theorem extract_end (s : ByteArray) : s.extract s.size s.size = ⟨#[]⟩ := by
  apply ByteArray.ext; simp
theorem step_low (s set : ByteArray) (hset : ∀ b ∈ set.data.toList, b.toNat < 128) (pos : Nat) (h : pos < s.size) {c n : Nat} (hc : (Utf8.decode s pos).1 = c) (hn : (Utf8.decode s pos).2 = n) (hb : inS set c = true) : n = 1 ∧ inS set (s[pos]'h).toNat = true := by
  have hl := inS_low set hset c hb
  by_cases ha : (s[pos]'h).toNat < 128
  · rw [decode_ascii s pos h ha] at hc hn
    simp only at hc hn
    subst hc hn
    exact ⟨rfl, hb⟩
  · have := (decode_high s pos h (by omega)).1
    omega
theorem step_out (s set : ByteArray) (hset : ∀ b ∈ set.data.toList, b.toNat < 128) (pos : Nat) (h : pos < s.size) {c : Nat} (hc : (Utf8.decode s pos).1 = c) (hb : inS set c = false) : inS set (s[pos]'h).toNat = false := by
  by_cases ha : (s[pos]'h).toNat < 128
  · rw [decode_ascii s pos h ha] at hc
    simp only at hc
    subst hc
    exact hb
  · cases hq : inS set (s[pos]'h).toNat with
    | false => rfl
    | true => have := inS_low set hset _ hq; omega

theorem all_next {set s : ByteArray} {pos n : Nat} (hp : pos < s.size) (hall : ∀ j, (h : j < s.size) → j < pos → inS set (s[j]'h).toNat = true) (hst : n = 1 ∧ inS set (s[pos]'hp).toNat = true) : ∀ j, (h : j < s.size) → j < pos + n → inS set (s[j]'h).toNat = true := by
  obtain ⟨rfl, h1⟩ := hst
  intro j h hj
  by_cases e : j = pos
  · subst e; exact h1
  · exact hall j h (by omega)

/-- The text behind the set's bytes at its begin. -/
def LeftOf (set s u : ByteArray) : Prop := ∃ p, p ≤ s.size ∧ u = s.extract p s.size ∧ (∀ j, (h : j < s.size) → j < p → inS set (s[j]'h).toNat = true) ∧ (∀ h : p < s.size, inS set (s[p]'h).toNat = false)
structure LeftPost (set s : ByteArray) (w : World) (e : Ending) (w' : World) : Prop where
  out : ∃ u, e = .returned (.string u) ∧ LeftOf set s u ∧ Below w.heap.size w w'

set_option maxHeartbeats 4000000 in
set_option maxRecDepth 100000 in
theorem cutLeft_calls (s set : ByteArray) (w : World) (hset : ∀ b ∈ set.data.toList, b.toNat < 128) :
    Calls Tryd.prog 57 #[.string s, .string set] w (LeftPost set s w) := by
  have HSET := Aside0.mk hset
  clear hset
  go_enter Tryd.func57, Tryd.ntmps57
  go_wp2
  go_loopw [5, 6, 7, 9] (fun _ _ _ _ wr => ∃ pos : Nat, pos ≤ s.size ∧ wr.heap[w.heap.size]? = some (.stringIter s pos) ∧ Below w.heap.size w wr ∧ Aside0 (∀ j, (h : j < s.size) → j < pos → inS set (s[j]'h).toNat = true)) (fun _ _ _ _ wr => s.size - wr.iterPos w.heap.size)
  case atStart =>
    refine ⟨0, Nat.zero_le _, World.iter_heap _ _ _, (Below.refl _ w).alloc (Nat.le_refl _) _, ⟨fun j h h0 => absurd h0 (by omega)⟩⟩
  case round =>
    obtain ⟨pos, hpos, hit, hbw, hall⟩ := hrel
    have hsz : w.heap.size < wr.heap.size := (Array.getElem?_eq_some_iff.1 hit).1
    by_cases hp : pos < s.size
    · have hnx : ∀ ty, (Instr.next (.pointer (some ⟨w.heap.size, 0, none⟩)) true ty).run Tryd.prog wr = _ := fun ty => Lib.run_next_any_at wr w.heap.size s pos ty hit hp
      have hd1 := decode_le s pos
      have hit2 := Lib.iterAt_heap wr w.heap.size s pos (pos + (Utf8.decode s pos).2) hit
      have hbw2 := Lib.below_iterAt hbw (k := w.heap.size) (Nat.le_refl _) s (pos + (Utf8.decode s pos).2)
      have hsz2 : w.heap.size < (wr.iterAt w.heap.size s (pos + (Utf8.decode s pos).2)).heap.size := by rw [Lib.iterAt_size]; omega
      generalize hW : wr.iterAt w.heap.size s (pos + (Utf8.decode s pos).2) = w2 at hnx hit2 hbw2 hsz2
      clear hW
      generalize hrn : (Utf8.decode s pos).1 = c at hnx hd1
      generalize hn : (Utf8.decode s pos).2 = n at hnx hit2 hbw2 hsz2
      have HRN := Aside0.mk hrn
      have HN := Aside0.mk hn
      have hit0 := Aside0.mk hit
      clear hrn hn hit hbw hsz
      go_wp2
      have hset' : w2.heap.size < (w2.iter set 0).heap.size := by simp [World.iter]
      have hbI : Below w2.heap.size w2 (w2.iter set 0) := (Below.refl _ _).alloc (Nat.le_refl _) _
      have hiI := World.iter_heap w2 set 0
      go_loopw [7, 9] (fun t7 _ wx => ∃ j : Nat, j ≤ set.size ∧ t7 = .bool (inUpTo set c j) ∧ wx.heap[w2.heap.size]? = some (.stringIter set j) ∧ Below w2.heap.size w2 wx) (fun _ _ wx => set.size - wx.iterPos w2.heap.size)
      case atStart => exact ⟨0, Nat.zero_le _, by rw [inUpTo_zero], hiI, hbI⟩
      case round =>
        clear hiI hbI hset' hnx
        obtain ⟨j, hj, rfl, hit, hbx⟩ := hrel
        by_cases hjl : j < set.size
        · have hasc : (set[j]'hjl).toNat < 128 := HSET.out _ (by show set.data[j]'hjl ∈ _; simp)
          have hnx : ∀ ty, (Instr.next (.pointer (some ⟨w2.heap.size, 0, none⟩)) true ty).run Tryd.prog _ = _ := fun ty => Lib.run_next_ascii_at _ w2.heap.size set j ty hit hjl hasc
          have hs1 := inUpTo_succ set c j hjl
          have hit3 := Lib.iterAt_heap _ w2.heap.size set j (j + 1) hit
          have hbx3 := Lib.below_iterAt hbx (k := w2.heap.size) (Nat.le_refl _) set (j + 1)
          generalize hd : (set[j]'hjl).toNat = d at hnx hs1 hasc
          clear hd
          have HS1 := Aside0.mk hs1
          clear hs1
          cases hb : inUpTo set c j with
          | true =>
            rw [hb] at HS1
            clear hb
            go_wp2
            go_roundw
            case rel => exact ⟨j + 1, by omega, by rw [HS1.out]; rfl, hit3, hbx3⟩
            case measure => simp only [World.iterPos, hit3, hit]; omega
          | false =>
            rw [hb] at HS1
            clear hb
            go_wp2
            go_roundw
            case rel => exact ⟨j + 1, by omega, by rw [HS1.out]; rw [Bool.false_or]; congr 1; exact (same_num c d).symm, hit3, hbx3⟩
            case measure => simp only [World.iterPos, hit3, hit]; omega
        · have hnx : ∀ ty, (Instr.next (.pointer (some ⟨w2.heap.size, 0, none⟩)) true ty).run Tryd.prog _ = _ := fun ty => Lib.run_next_end_at _ w2.heap.size set j ty hit hjl
          have hIA := inUpTo_all set c j hjl
          rw [hIA]
          clear hIA
          have hbw3 : Below w.heap.size w wr := hbw2.trans (hbx.mono (by omega))
          have hit4 : wr.heap[w.heap.size]? = some (.stringIter s (pos + n)) := by rw [hbx.block _ (by omega)]; exact hit2
          cases hb : inS set c with
          | true =>
            have hst := step_low s set HSET.out pos hp (c := c) (n := n) HRN.out HN.out hb
            clear hb
            go_wp2
            go_roundw
            case rel => exact ⟨pos + n, by omega, hit4, hbw3, ⟨all_next hp hall.out hst⟩⟩
            case measure => simp only [World.iterPos, hit4, hit0.out]; omega
          | false =>
            have hst := step_out s set HSET.out pos hp (c := c) HRN.out hb
            clear hb
            go_wp2
            go_ret
            exact ⟨_, rfl, ⟨pos, hpos, rfl, hall.out, fun _ => hst⟩, hbw3⟩
    · have hnx : ∀ ty, (Instr.next (.pointer (some ⟨w.heap.size, 0, none⟩)) true ty).run Tryd.prog wr = _ := fun ty => Lib.run_next_end_at wr w.heap.size s pos ty hit hp
      go_wp2
      go_ret
      exact ⟨_, rfl, ⟨s.size, Nat.le_refl _, (extract_end s).symm, fun j h _ => hall.out j h (by omega), fun h => absurd h (by omega)⟩, hbw⟩

end Go.Proofs.YtefdfgmlmjnmlaaDoor.My
end

section
/- schema.cutRight: of a text whose first byte is none of an ASCII set's, something is left. -/
namespace Go.Proofs.YtefdfgmlmjnmlaaDoor.My
open Go.RowKit Go.Proofs.YtefdfgmlmjnmlaaDoorW.PrintWords

theorem last_low (l : List UInt8) (hne : l ≠ []) (h : (Lib.decodeLastL l).1 < 128) : (l.getD (l.length - 1) 0).toNat = (Lib.decodeLastL l).1 ∧ (Lib.decodeLastL l).2 = 1 := by
  unfold Lib.decodeLastL at h ⊢
  rw [if_neg hne] at h ⊢
  by_cases hb : (l.getD (l.length - 1) 0).toNat < 128
  · rw [if_pos hb]
    exact ⟨rfl, rfl⟩
  · rw [if_neg hb] at h
    exfalso
    have hst := Lib.lastStart_lt l hne
    simp only at h
    split at h
    · rename_i he
      have hd : ∀ (t : List UInt8) (c : UInt8), (l.drop (Lib.lastStart l)) = c :: t → (Lib.decodeL (l.drop (Lib.lastStart l))).1 < 128 → c.toNat < 128 ∧ (Lib.decodeL (l.drop (Lib.lastStart l))).2 = 1 := by
        intro t c ht hlow
        rw [ht] at hlow ⊢
        unfold Lib.decodeL at hlow ⊢
        have hsz : 0 < (⟨(c :: t).toArray⟩ : ByteArray).size := by show 0 < (c :: t).toArray.size; simp
        by_cases hc : c.toNat < 128
        · have hg : ((⟨(c :: t).toArray⟩ : ByteArray)[0]'hsz).toNat < 128 := hc
          rw [decode_ascii _ 0 hsz hg]
          exact ⟨hc, rfl⟩
        · have hg : 128 ≤ ((⟨(c :: t).toArray⟩ : ByteArray)[0]'hsz).toNat := by show 128 ≤ c.toNat; omega
          have := (decode_high _ 0 hsz hg).1
          omega
      obtain ⟨c, t, ht⟩ : ∃ c t, l.drop (Lib.lastStart l) = c :: t := by
        cases hq : l.drop (Lib.lastStart l) with
        | nil => have := congrArg List.length hq; simp at this; omega
        | cons c t => exact ⟨c, t, rfl⟩
      obtain ⟨hc, h2⟩ := hd t c ht h
      rw [h2] at he
      have hlen : (l.drop (Lib.lastStart l)).length = 1 := by simp; omega
      have : l.getD (l.length - 1) 0 = c := by
        have e1 : l.length - 1 = Lib.lastStart l := by omega
        rw [e1]
        have := List.getElem?_drop (xs := l) (i := Lib.lastStart l) (j := 0)
        rw [ht] at this
        simp at this
        simp [List.getD, ← this]
      rw [this] at hb
      exact hb hc
    · simp [Utf8.runeError] at h

/-- The two tables of unicode/utf8 lie as the library's text lays them. -/
structure Tabs (w : World) : Prop where
  out : Lib.Utf8Tabs 1 2 w
theorem Tabs.below {w w' : World} (h : Tabs w) (hb : Below w.heap.size w w') : Tabs w' := ⟨Go.Proofs.Utf8Tabs_below h.out hb⟩

theorem ext_ext (t : ByteArray) (q m : Nat) (h : m ≤ q) : (t.extract 0 q).extract 0 m = t.extract 0 m := by
  apply ByteArray.ext
  simp [ByteArray.data_extract, Array.extract_extract, Nat.min_eq_left h]
theorem ext_size (t : ByteArray) (q : Nat) (h : q ≤ t.size) : (t.extract 0 q).size = q := by
  simp [ByteArray.size_extract]; omega
theorem ext_all (t : ByteArray) : t.extract 0 t.size = t := by
  apply ByteArray.ext; simp

theorem step_right {t set u : ByteArray} {q c n : Nat} (hset : ∀ b ∈ set.data.toList, b.toNat < 128) (h1 : ∀ h : 0 < t.size, inS set (t[0]'h).toNat = false) (hq : q ≤ t.size) (hp : 0 < q) (hu : t.extract 0 q = u) (hcn : Lib.decodeLastL u.data.toList = (c, n)) (hb : inS set c = true) : n = 1 ∧ 1 < q := by
  have hl := inS_low set hset c hb
  have hsz : u.size = q := by rw [← hu]; exact ext_size t q hq
  have hlen : u.data.toList.length = q := by rw [Array.length_toList]; exact hsz
  have hne : u.data.toList ≠ [] := fun h => by rw [h] at hlen; simp at hlen; omega
  obtain ⟨e1, e2⟩ := last_low u.data.toList hne (by rw [hcn]; exact hl)
  rw [hcn] at e1 e2
  simp only at e1 e2
  refine ⟨e2, ?_⟩
  rcases Nat.lt_or_ge 1 q with h | h
  · exact h
  · exfalso
    obtain rfl : q = 1 := by omega
    have h0 := h1 (by omega)
    rw [hlen] at e1
    have : u.data.toList.getD (1 - 1) 0 = t[0]'(by omega) := by
      subst hu
      simp [List.getD, ByteArray.data_extract]
      show (t.data[0]?).getD 0 = t.data[0]'(by have : t.data.size = t.size := rfl; omega)
      rw [Array.getElem?_eq_getElem]
      rfl
    rw [this] at e1
    rw [e1, hb] at h0
    exact absurd h0 (by decide)

structure RightPost (t : ByteArray) (w : World) (e : Ending) (w' : World) : Prop where
  out : ∃ u : ByteArray, e = .returned (.string u) ∧ (u.size = 0 ↔ t.size = 0) ∧ Below w.heap.size w w'

set_option maxHeartbeats 4000000 in
set_option maxRecDepth 100000 in
theorem cutRight_calls (t set : ByteArray) (w : World) (hset : ∀ b ∈ set.data.toList, b.toNat < 128) (hs : t.size ≤ 9223372036854775807) (hT : Tabs w) (h1 : ∀ h : 0 < t.size, inS set (t[0]'h).toNat = false) :
    Calls Tryd.prog 56 #[.string t, .string set] w (RightPost t w) := by
  have HSET := Aside0.mk hset
  have H1 := Aside0.mk h1
  clear hset h1
  go_enter Tryd.func56, Tryd.ntmps56
  go_wp2
  go_loopw [0, 5, 6, 7, 9] (fun t0 _ _ _ _ wr => ∃ q : Nat, q ≤ t.size ∧ (0 < t.size → 0 < q) ∧ t0 = .string (t.extract 0 q) ∧ Below w.heap.size w wr) (fun t0 _ _ _ _ _ => match t0 with | .string u => u.size | _ => 0)
  case atStart =>
    exact ⟨t.size, Nat.le_refl _, id, by rw [ext_all], Below.refl _ _⟩
  case round =>
    obtain ⟨q, hq, hq0, rfl, hbw⟩ := hrel
    have hqs := ext_size t q hq
    by_cases hp : 0 < q
    · have hTr := hT.below hbw
      have hsz : w.heap.size ≤ wr.heap.size := hbw.size
      generalize hu : t.extract 0 q = u at hqs
      have HU := Aside0.mk hu
      clear hu
      have hup : (0 : Int) < u.size := by omega
      obtain ⟨c, n, hcn⟩ : ∃ c n, Lib.decodeLastL u.data.toList = (c, n) := ⟨_, _, rfl⟩
      have hD := Tryd.utf8_DecodeLastRuneInString u wr (by omega) hTr.out
      rw [hcn] at hD
      simp only at hD
      have HCN := Aside0.mk hcn
      have HD := Aside0.mk hD
      clear hcn hD
      go_wp2_with (go_at_call 87; refine HD.out.mono ?_; rintro e w2 ⟨rfl, hb2⟩)
      have hset' : w2.heap.size < (w2.iter set 0).heap.size := by simp [World.iter]
      have hbI : Below w2.heap.size w2 (w2.iter set 0) := (Below.refl _ _).alloc (Nat.le_refl _) _
      have hiI := World.iter_heap w2 set 0
      have hsw : wr.heap.size ≤ w2.heap.size := hb2.size
      clear HD
      go_loopw [7, 9] (fun t7 _ wx => ∃ j : Nat, j ≤ set.size ∧ t7 = .bool (inUpTo set c j) ∧ wx.heap[w2.heap.size]? = some (.stringIter set j) ∧ Below w2.heap.size w2 wx) (fun _ _ wx => set.size - wx.iterPos w2.heap.size)
      case atStart => exact ⟨0, Nat.zero_le _, by rw [inUpTo_zero], hiI, hbI⟩
      case round =>
        clear hiI hbI hset'
        obtain ⟨j, hj, rfl, hit, hbx⟩ := hrel
        by_cases hjl : j < set.size
        · have hasc : (set[j]'hjl).toNat < 128 := HSET.out _ (by show set.data[j]'hjl ∈ _; simp)
          have hnx : ∀ ty, (Instr.next (.pointer (some ⟨w2.heap.size, 0, none⟩)) true ty).run Tryd.prog _ = _ := fun ty => Lib.run_next_ascii_at _ w2.heap.size set j ty hit hjl hasc
          have hs1 := inUpTo_succ set c j hjl
          have hit3 := Lib.iterAt_heap _ w2.heap.size set j (j + 1) hit
          have hbx3 := Lib.below_iterAt hbx (k := w2.heap.size) (Nat.le_refl _) set (j + 1)
          generalize hd : (set[j]'hjl).toNat = d at hnx hs1 hasc
          clear hd
          have HS1 := Aside0.mk hs1
          clear hs1
          cases hb : inUpTo set c j with
          | true =>
            rw [hb] at HS1
            clear hb
            go_wp2
            go_roundw
            case rel => exact ⟨j + 1, by omega, by rw [HS1.out]; rfl, hit3, hbx3⟩
            case measure => simp only [World.iterPos, hit3, hit]; omega
          | false =>
            rw [hb] at HS1
            clear hb
            go_wp2
            go_roundw
            case rel => exact ⟨j + 1, by omega, by rw [HS1.out]; rw [Bool.false_or]; congr 1; exact (same_num c d).symm, hit3, hbx3⟩
            case measure => simp only [World.iterPos, hit3, hit]; omega
        · have hnx : ∀ ty, (Instr.next (.pointer (some ⟨w2.heap.size, 0, none⟩)) true ty).run Tryd.prog _ = _ := fun ty => Lib.run_next_end_at _ w2.heap.size set j ty hit hjl
          have hIA := inUpTo_all set c j hjl
          rw [hIA]
          clear hIA
          have hbw3 : Below w.heap.size w wr := hbw.trans ((hb2.mono hsz).trans (hbx.mono (by omega)))
          cases hb : inS set c with
          | true =>
            obtain ⟨rfl, hq2⟩ := step_right HSET.out H1.out hq hp HU.out HCN.out hb
            clear hb
            have hex : u.extract 0 (q - 1) = t.extract 0 (q - 1) := by rw [← HU.out]; exact ext_ext t q (q - 1) (by omega)
            have hxs : (t.extract 0 (q - 1)).size = q - 1 := ext_size t _ (by omega)
            have HEX := Aside0.mk hex
            clear hex
            go_wp2
            refine ⟨⟨q - 1, by omega, by omega, by rw [HEX.out], hbw3⟩, ?_⟩
            show (u.extract 0 (q - 1)).size < u.size
            rw [HEX.out, hxs]
            omega
          | false =>
            clear hb
            go_wp2
            go_ret
            exact ⟨_, rfl, by omega, hbw3⟩
    · obtain rfl : q = 0 := by omega
      have ht : t.size = 0 := by omega
      go_wp2
      go_ret
      exact ⟨_, rfl, by omega, hbw⟩

end Go.Proofs.YtefdfgmlmjnmlaaDoor.My
end

section
/- What all rows share: the tables laid. -/
namespace Go.Proofs.YtefdfgmlmjnmlaaDoor.My
open Go.ChangeShapes Go.WideShapes Go.ChangeAt Go.RowKit
open Go.Proofs.YtefdfgmlmjnmlaaDoor

theorem own : ownKnob Tryd.prog.godebug = none := by kernel_rfl
theorem laidOut : laidOutB Tryd.prog = true := by kernel_rfl
abbrev tabs : List (String × DataW Unit) := [("unicode/utf8.acceptRanges", Rows.laid_unicode_utf8_acceptRanges), ("unicode/utf8.first", Rows.laid_unicode_utf8_first)]
theorem first_eq : Rows.laid_unicode_utf8_first = Lib.firstData := by kernel_rfl
theorem accept_eq : (Rows.laid_unicode_utf8_acceptRanges : DataW Unit) = Lib.acceptData := by kernel_rfl
theorem tabs_of {W : World} (h : laidMetH Tryd.prog tabs W) : Tabs W := by
  rw [MakeChecks.laidMetH_plain _ _ _ (by kernel_rfl)] at h
  have h1 := Lib.laidMet.reads h (.head _)
  have h2 := Lib.laidMet.reads h (.tail _ (.head _))
  rw [accept_eq] at h1
  rw [first_eq] at h2
  exact ⟨Go.Proofs.utf8Tabs_of_readsT (U8Types.of260 Tryd.lays260) ⟨by kernel_rfl, by kernel_rfl, by kernel_rfl, by kernel_rfl, by kernel_rfl, by kernel_rfl, by kernel_rfl⟩ h2 h1⟩
end Go.Proofs.YtefdfgmlmjnmlaaDoor.My
end

section
set_option linter.unusedVariables false
set_option linter.unusedSimpArgs false
/- What the kit's print.py wrote of one Go function of this seat's translation (run by a program of this session, one function a text): the function as a plain Lean function, and that the call computes it. -/
namespace Go.Proofs.YtefdfgmlmjnmlaaDoor.Rf
open Go.RowKit Go.Proofs.YtefdfgmlmjnmlaaDoorW.PrintWords Go.Proofs.YtefdfgmlmjnmlaaDoorW.PrintLast Go.Proofs.YtefdfgmlmjnmlaaDoorW.PrintMore
attribute [local go_sem] max2_int min2_int max_two min_two max_three min_three max_four min_four   -- for this text's walks alone

/-! ### cmp_Or_int: function 81 -/
def cmp_Or_int.l0 : Nat → Int → List Int → Int → Int → Option (Int)
  | 0, _, _, _, _ => none
  | k + 1, x3, x6, x7, x8 => if x8 < x7 then (if 0 ≤ x8 then (if x8 < (x6.length : Int) then (if (rd x6 x8) = x3 then (cmp_Or_int.l0 k x3 x6 x7 (wrap64 (x8 + 1))) else (some (rd x6 x8))) else (none)) else (none)) else (some x3)
def cmp_Or_int.f (k : Nat) (l0 : List Int) : Option (Int) := cmp_Or_int.l0 k 0 l0 (l0.length : Int) 0
theorem cmp_Or_int.mono_l : ∀ k, (∀ y0 y1 y2 y3, LeO (cmp_Or_int.l0 k y0 y1 y2 y3) (cmp_Or_int.l0 (k + 1) y0 y1 y2 y3))
  | 0 => fun _ _ _ _ r h => by simp [cmp_Or_int.l0] at h
  | k + 1 => by
    have ih0 := cmp_Or_int.mono_l k
    · intro y0 y1 y2 y3
      unfold cmp_Or_int.l0
      repeat' first
      | (with_reducible exact ih0 _ _ _ _)
      | (with_reducible exact LeO.refl _)
      | (with_reducible exact LeO.none _)
      | (with_reducible refine LeO.ite ?_ ?_)
      | (with_reducible refine LeO.bind ?_ (fun _ => ?_))
      | exact ih0 _ _ _ _
      | exact LeO.none _
      | refine LeO.ite ?_ ?_
      | refine LeO.bind ?_ (fun _ => ?_)
theorem cmp_Or_int.mono : ∀ a0 k, LeO (cmp_Or_int.f k a0) (cmp_Or_int.f (k + 1) a0) := by
  intro a0 k
  have ih0 := cmp_Or_int.mono_l k
  unfold cmp_Or_int.f
  repeat' first
      | (with_reducible exact ih0 _ _ _ _)
      | (with_reducible exact LeO.refl _)
      | (with_reducible exact LeO.none _)
      | (with_reducible refine LeO.ite ?_ ?_)
      | (with_reducible refine LeO.bind ?_ (fun _ => ?_))
      | exact ih0 _ _ _ _
      | exact LeO.none _
      | refine LeO.ite ?_ ?_
      | refine LeO.bind ?_ (fun _ => ?_)
set_option maxHeartbeats 8000000 in
set_option maxRecDepth 100000 in
theorem cmp_Or_int.calls (k : Nat) (A0 : Option Addr) (c0 : Nat) (l0 : List Int) (r : Int) (w : World) (hr0 : Kd.C (Kd.int .i64) w A0 l0.length l0) (hc0 : l0.length ≤ c0) (h : cmp_Or_int.f k l0 = some r) :
    Calls Tryd.prog 81 #[.slice A0 l0.length c0] w fun e w' => e = .returned (.int .i64 r) ∧ Drawn0 w w' := by
  have HR0 := Aside0.mk hr0
  have HC0 := Aside0.mk hc0
  clear hr0 hc0
  have H : (cmp_Or_int.l0 k 0 l0 (l0.length : Int) 0) = some r := h
  clear h
  have H' := Aside0.mk H
  clear H
  go_enter Tryd.func81, Tryd.ntmps81
  go_wp2
  go_loopg [8] k (fun kq v8 w' => ∃ (x8_1 : Int), v8 = .int .i64 x8_1 ∧ Aside0 (cmp_Or_int.l0 kq 0 l0 (l0.length : Int) x8_1 = some r) ∧ Aside0 (kq ≤ k) ∧ Drawn0 w w')
  case atStart => exact ⟨(0), (by first | rfl | (simp; done) | (simp [*]; done)), H', ⟨Nat.le_refl _⟩, by repeat (first | exact Drawn0.refl _ | apply Drawn0.step)⟩
  case round =>
    clear H'
    obtain ⟨x8_1, rfl, HA, HK1, ⟨m1, rfl⟩⟩ := hrel
    cases gk with
    | zero => exact absurd HA.out (by simp [cmp_Or_int.l0])
    | succ k1 =>
      have H := HA.out
      clear HA
      simp only [cmp_Or_int.l0] at H
      by_cases c2 : x8_1 < (l0.length : Int)
      · rw [if_pos c2] at H
        have c2b0 : decide (x8_1 < (l0.length : Int)) = true := decide_eq_true c2
        clear c2
        by_cases c3 : 0 ≤ x8_1
        · rw [if_pos c3] at H
          have c3b0 : decide (0 ≤ x8_1) = true := decide_eq_true c3
          clear c3
          by_cases c4 : x8_1 < (l0.length : Int)
          · rw [if_pos c4] at H
            have c4b0 : decide (x8_1 < (l0.length : Int)) = true := decide_eq_true c4
            clear c4
            by_cases c5 : (rd l0 x8_1) = 0
            · rw [if_pos c5] at H
              have c5b0 : ((rd l0 x8_1) == 0) = true := beq_iff_eq.mpr c5
              have c5b1 : ((rd l0 x8_1) != 0) = false := bne_eq_false_iff_eq.mpr c5
              clear c5
              have H' := Aside0.mk H
              clear H
              have p103 : 0 ≤ (x8_1 : Int) := of_decide_eq_true (by first | (with_reducible assumption) | assumption)
              have q103 : x8_1 < (l0.length : Int) := of_decide_eq_true (by first | (with_reducible assumption) | assumption)
              obtain ⟨ad103, e103, hx103_0⟩ := Kd.at_int HR0.out x8_1 p103 q103
              cases e103
              replace p103 := eq_true p103
              replace q103 := eq_true q103
              go_wp2
              go_roundg k1
              case measure => have := HK1.out; omega
              case rel => exact ⟨(wrap64 (x8_1 + 1)), (by first | rfl | (simp; done) | (simp [*]; done)), H', ⟨by have := HK1.out; omega⟩, by repeat (first | exact Drawn0.refl _ | apply Drawn0.step)⟩
            · rw [if_neg c5] at H
              have c5b0 : ((rd l0 x8_1) == 0) = false := beq_eq_false_iff_ne.mpr c5
              have c5b1 : ((rd l0 x8_1) != 0) = true := bne_iff_ne.mpr c5
              obtain rfl := Option.some.inj H
              have p103 : 0 ≤ (x8_1 : Int) := of_decide_eq_true (by first | (with_reducible assumption) | assumption)
              have q103 : x8_1 < (l0.length : Int) := of_decide_eq_true (by first | (with_reducible assumption) | assumption)
              obtain ⟨ad103, e103, hx103_0⟩ := Kd.at_int HR0.out x8_1 p103 q103
              cases e103
              replace p103 := eq_true p103
              replace q103 := eq_true q103
              go_wp2
              go_ret
              exact ⟨by first | rfl | (simp; done) | (simp [*]; done), by repeat (first | exact Drawn0.refl _ | apply Drawn0.step)⟩
          · rw [if_neg c4] at H
            exact absurd H (by simp)
        · rw [if_neg c3] at H
          exact absurd H (by simp)
      · rw [if_neg c2] at H
        have c2b0 : decide (x8_1 < (l0.length : Int)) = false := decide_eq_false c2
        clear c2
        obtain rfl := Option.some.inj H
        go_wp2
        go_ret
        exact ⟨by first | rfl | (simp; done) | (simp [*]; done), by repeat (first | exact Drawn0.refl _ | apply Drawn0.step)⟩

end Go.Proofs.YtefdfgmlmjnmlaaDoor.Rf
end

section
set_option linter.unusedVariables false
set_option linter.unusedSimpArgs false
/- What the kit's print.py wrote of one Go function of this seat's translation (run by a program of this session, one function a text): the function as a plain Lean function, and that the call computes it. -/
namespace Go.Proofs.YtefdfgmlmjnmlaaDoor.Rf
open Go.RowKit Go.Proofs.YtefdfgmlmjnmlaaDoorW.PrintWords Go.Proofs.YtefdfgmlmjnmlaaDoorW.PrintLast Go.Proofs.YtefdfgmlmjnmlaaDoorW.PrintMore
attribute [local go_sem] max2_int min2_int max_two min_two max_three min_three max_four min_four   -- for this text's walks alone

/-! ### cmp_isNaN_int: function 107 -/
def cmp_isNaN_int.f (a0 : Int) : Option (Bool) := some (a0 != a0)
set_option maxHeartbeats 8000000 in
set_option maxRecDepth 100000 in
theorem cmp_isNaN_int.calls (a0 : Int) (r : Bool) (w : World) (h : cmp_isNaN_int.f a0 = some r) :
    Calls Tryd.prog 107 #[.int .i64 a0] w fun e w' => e = .returned (.bool r) ∧ Drawn0 w w' := by
  have H : (some (a0 != a0)) = some r := h
  clear h
  obtain rfl := Option.some.inj H
  go_enter Tryd.func107, Tryd.ntmps107
  go_wp2
  go_ret
  exact ⟨by first | rfl | (simp; done) | (simp [*]; done), by repeat (first | exact Drawn0.refl _ | apply Drawn0.step)⟩

end Go.Proofs.YtefdfgmlmjnmlaaDoor.Rf
end

section
set_option linter.unusedVariables false
set_option linter.unusedSimpArgs false
/- What the kit's print.py wrote of one Go function of this seat's translation (run by a program of this session, one function a text): the function as a plain Lean function, and that the call computes it. -/
namespace Go.Proofs.YtefdfgmlmjnmlaaDoor.Rf
open Go.RowKit Go.Proofs.YtefdfgmlmjnmlaaDoorW.PrintWords Go.Proofs.YtefdfgmlmjnmlaaDoorW.PrintLast Go.Proofs.YtefdfgmlmjnmlaaDoorW.PrintMore
attribute [local go_sem] max2_int min2_int max_two min_two max_three min_three max_four min_four   -- for this text's walks alone

/-! ### cmp_Compare_int: function 82 -/
def cmp_Compare_int.f (a0 : Int) (a1 : Int) : Option (Int) := (cmp_isNaN_int.f a0).bind fun t104 => ((cmp_isNaN_int.f a1).bind fun t105 => (if t104 = true then (if t105 = true then (some 0) else (some (-1))) else (if t105 = true then (some 1) else (if a0 < a1 then (some (-1)) else (if a0 > a1 then (some 1) else (some 0))))))
set_option maxHeartbeats 8000000 in
set_option maxRecDepth 100000 in
theorem cmp_Compare_int.calls (a0 : Int) (a1 : Int) (r : Int) (w : World) (h : cmp_Compare_int.f a0 a1 = some r) :
    Calls Tryd.prog 82 #[.int .i64 a0, .int .i64 a1] w fun e w' => e = .returned (.int .i64 r) ∧ Drawn0 w w' := by
  have H : ((cmp_isNaN_int.f a0).bind fun t104 => ((cmp_isNaN_int.f a1).bind fun t105 => (if t104 = true then (if t105 = true then (some 0) else (some (-1))) else (if t105 = true then (some 1) else (if a0 < a1 then (some (-1)) else (if a0 > a1 then (some 1) else (some 0))))))) = some r := h
  clear h
  replace H := Option.bind_eq_some_iff.mp H
  obtain ⟨t104, A30, H⟩ := H
  replace H : ((cmp_isNaN_int.f a1).bind fun t105 => (if t104 = true then (if t105 = true then (some 0) else (some (-1))) else (if t105 = true then (some 1) else (if a0 < a1 then (some (-1)) else (if a0 > a1 then (some 1) else (some 0)))))) = some r := H
  have A3 := Aside0.mk A30
  clear A30
  replace H := Option.bind_eq_some_iff.mp H
  obtain ⟨t105, A40, H⟩ := H
  replace H : (if t104 = true then (if t105 = true then (some 0) else (some (-1))) else (if t105 = true then (some 1) else (if a0 < a1 then (some (-1)) else (if a0 > a1 then (some 1) else (some 0))))) = some r := H
  have A4 := Aside0.mk A40
  clear A40
  by_cases c5 : t104 = true
  · subst c5
    have H1 : (if t105 = true then (some 0) else (some (-1))) = some r := by rw [if_pos rfl] at H; exact H
    clear H
    have H := H1
    clear H1
    by_cases c6 : t105 = true
    · subst c6
      have H1 : (some 0) = some r := by rw [if_pos rfl] at H; exact H
      clear H
      have H := H1
      clear H1
      obtain rfl := Option.some.inj H
      go_enter Tryd.func82, Tryd.ntmps82
      go_wp2_with (first | ((with_reducible refine gate_callee (f := 107) rfl ?_); refine goesL_ (some 8) rfl rfl Tryd.func107 (by kernel_rfl) rfl #[.int .i64 a0] rfl (by (try simp only [List.map_toArray, List.map_cons, List.map_nil]); first | done | rfl | (simp only [List.length_drop, List.length_take]; rfl)) ?_; (with_reducible refine (cmp_isNaN_int.calls a0 true _ A3.out).mono ?_); rintro e w' ⟨rfl, ⟨nd, rfl⟩⟩; refine ⟨_, rfl, ?_⟩) | ((with_reducible refine gate_callee (f := 107) rfl ?_); refine goesL_ (some 10) rfl rfl Tryd.func107 (by kernel_rfl) rfl #[.int .i64 a1] rfl (by (try simp only [List.map_toArray, List.map_cons, List.map_nil]); first | done | rfl | (simp only [List.length_drop, List.length_take]; rfl)) ?_; (with_reducible refine (cmp_isNaN_int.calls a1 true _ A4.out).mono ?_); rintro e w' ⟨rfl, ⟨nd, rfl⟩⟩; refine ⟨_, rfl, ?_⟩))
      go_ret
      exact ⟨by first | rfl | (simp; done) | (simp [*]; done), by repeat (first | exact Drawn0.refl _ | apply Drawn0.step)⟩
    · replace c6 := Bool.eq_false_iff.mpr c6
      subst c6
      have H1 : (some (-1)) = some r := by rw [if_neg (show ¬ (false = true) by decide)] at H; exact H
      clear H
      have H := H1
      clear H1
      obtain rfl := Option.some.inj H
      go_enter Tryd.func82, Tryd.ntmps82
      go_wp2_with (first | ((with_reducible refine gate_callee (f := 107) rfl ?_); refine goesL_ (some 8) rfl rfl Tryd.func107 (by kernel_rfl) rfl #[.int .i64 a0] rfl (by (try simp only [List.map_toArray, List.map_cons, List.map_nil]); first | done | rfl | (simp only [List.length_drop, List.length_take]; rfl)) ?_; (with_reducible refine (cmp_isNaN_int.calls a0 true _ A3.out).mono ?_); rintro e w' ⟨rfl, ⟨nd, rfl⟩⟩; refine ⟨_, rfl, ?_⟩) | ((with_reducible refine gate_callee (f := 107) rfl ?_); refine goesL_ (some 10) rfl rfl Tryd.func107 (by kernel_rfl) rfl #[.int .i64 a1] rfl (by (try simp only [List.map_toArray, List.map_cons, List.map_nil]); first | done | rfl | (simp only [List.length_drop, List.length_take]; rfl)) ?_; (with_reducible refine (cmp_isNaN_int.calls a1 false _ A4.out).mono ?_); rintro e w' ⟨rfl, ⟨nd, rfl⟩⟩; refine ⟨_, rfl, ?_⟩))
      go_ret
      exact ⟨by first | rfl | (simp; done) | (simp [*]; done), by repeat (first | exact Drawn0.refl _ | apply Drawn0.step)⟩
  · replace c5 := Bool.eq_false_iff.mpr c5
    subst c5
    have H1 : (if t105 = true then (some 1) else (if a0 < a1 then (some (-1)) else (if a0 > a1 then (some 1) else (some 0)))) = some r := by rw [if_neg (show ¬ (false = true) by decide)] at H; exact H
    clear H
    have H := H1
    clear H1
    by_cases c7 : t105 = true
    · subst c7
      have H1 : (some 1) = some r := by rw [if_pos rfl] at H; exact H
      clear H
      have H := H1
      clear H1
      obtain rfl := Option.some.inj H
      go_enter Tryd.func82, Tryd.ntmps82
      go_wp2_with (first | ((with_reducible refine gate_callee (f := 107) rfl ?_); refine goesL_ (some 8) rfl rfl Tryd.func107 (by kernel_rfl) rfl #[.int .i64 a0] rfl (by (try simp only [List.map_toArray, List.map_cons, List.map_nil]); first | done | rfl | (simp only [List.length_drop, List.length_take]; rfl)) ?_; (with_reducible refine (cmp_isNaN_int.calls a0 false _ A3.out).mono ?_); rintro e w' ⟨rfl, ⟨nd, rfl⟩⟩; refine ⟨_, rfl, ?_⟩) | ((with_reducible refine gate_callee (f := 107) rfl ?_); refine goesL_ (some 10) rfl rfl Tryd.func107 (by kernel_rfl) rfl #[.int .i64 a1] rfl (by (try simp only [List.map_toArray, List.map_cons, List.map_nil]); first | done | rfl | (simp only [List.length_drop, List.length_take]; rfl)) ?_; (with_reducible refine (cmp_isNaN_int.calls a1 true _ A4.out).mono ?_); rintro e w' ⟨rfl, ⟨nd, rfl⟩⟩; refine ⟨_, rfl, ?_⟩))
      go_ret
      exact ⟨by first | rfl | (simp; done) | (simp [*]; done), by repeat (first | exact Drawn0.refl _ | apply Drawn0.step)⟩
    · replace c7 := Bool.eq_false_iff.mpr c7
      subst c7
      have H1 : (if a0 < a1 then (some (-1)) else (if a0 > a1 then (some 1) else (some 0))) = some r := by rw [if_neg (show ¬ (false = true) by decide)] at H; exact H
      clear H
      have H := H1
      clear H1
      by_cases c8 : a0 < a1
      · rw [if_pos c8] at H
        have c8b0 : decide (a0 < a1) = true := decide_eq_true c8
        clear c8
        obtain rfl := Option.some.inj H
        go_enter Tryd.func82, Tryd.ntmps82
        go_wp2_with (first | ((with_reducible refine gate_callee (f := 107) rfl ?_); refine goesL_ (some 8) rfl rfl Tryd.func107 (by kernel_rfl) rfl #[.int .i64 a0] rfl (by (try simp only [List.map_toArray, List.map_cons, List.map_nil]); first | done | rfl | (simp only [List.length_drop, List.length_take]; rfl)) ?_; (with_reducible refine (cmp_isNaN_int.calls a0 false _ A3.out).mono ?_); rintro e w' ⟨rfl, ⟨nd, rfl⟩⟩; refine ⟨_, rfl, ?_⟩) | ((with_reducible refine gate_callee (f := 107) rfl ?_); refine goesL_ (some 10) rfl rfl Tryd.func107 (by kernel_rfl) rfl #[.int .i64 a1] rfl (by (try simp only [List.map_toArray, List.map_cons, List.map_nil]); first | done | rfl | (simp only [List.length_drop, List.length_take]; rfl)) ?_; (with_reducible refine (cmp_isNaN_int.calls a1 false _ A4.out).mono ?_); rintro e w' ⟨rfl, ⟨nd, rfl⟩⟩; refine ⟨_, rfl, ?_⟩))
        go_ret
        exact ⟨by first | rfl | (simp; done) | (simp [*]; done), by repeat (first | exact Drawn0.refl _ | apply Drawn0.step)⟩
      · rw [if_neg c8] at H
        have c8b0 : decide (a0 < a1) = false := decide_eq_false c8
        clear c8
        by_cases c9 : a0 > a1
        · rw [if_pos c9] at H
          have c9b0 : decide (a1 < a0) = true := decide_eq_true c9
          clear c9
          obtain rfl := Option.some.inj H
          go_enter Tryd.func82, Tryd.ntmps82
          go_wp2_with (first | ((with_reducible refine gate_callee (f := 107) rfl ?_); refine goesL_ (some 8) rfl rfl Tryd.func107 (by kernel_rfl) rfl #[.int .i64 a0] rfl (by (try simp only [List.map_toArray, List.map_cons, List.map_nil]); first | done | rfl | (simp only [List.length_drop, List.length_take]; rfl)) ?_; (with_reducible refine (cmp_isNaN_int.calls a0 false _ A3.out).mono ?_); rintro e w' ⟨rfl, ⟨nd, rfl⟩⟩; refine ⟨_, rfl, ?_⟩) | ((with_reducible refine gate_callee (f := 107) rfl ?_); refine goesL_ (some 10) rfl rfl Tryd.func107 (by kernel_rfl) rfl #[.int .i64 a1] rfl (by (try simp only [List.map_toArray, List.map_cons, List.map_nil]); first | done | rfl | (simp only [List.length_drop, List.length_take]; rfl)) ?_; (with_reducible refine (cmp_isNaN_int.calls a1 false _ A4.out).mono ?_); rintro e w' ⟨rfl, ⟨nd, rfl⟩⟩; refine ⟨_, rfl, ?_⟩))
          go_ret
          exact ⟨by first | rfl | (simp; done) | (simp [*]; done), by repeat (first | exact Drawn0.refl _ | apply Drawn0.step)⟩
        · rw [if_neg c9] at H
          have c9b0 : decide (a1 < a0) = false := decide_eq_false c9
          clear c9
          obtain rfl := Option.some.inj H
          go_enter Tryd.func82, Tryd.ntmps82
          go_wp2_with (first | ((with_reducible refine gate_callee (f := 107) rfl ?_); refine goesL_ (some 8) rfl rfl Tryd.func107 (by kernel_rfl) rfl #[.int .i64 a0] rfl (by (try simp only [List.map_toArray, List.map_cons, List.map_nil]); first | done | rfl | (simp only [List.length_drop, List.length_take]; rfl)) ?_; (with_reducible refine (cmp_isNaN_int.calls a0 false _ A3.out).mono ?_); rintro e w' ⟨rfl, ⟨nd, rfl⟩⟩; refine ⟨_, rfl, ?_⟩) | ((with_reducible refine gate_callee (f := 107) rfl ?_); refine goesL_ (some 10) rfl rfl Tryd.func107 (by kernel_rfl) rfl #[.int .i64 a1] rfl (by (try simp only [List.map_toArray, List.map_cons, List.map_nil]); first | done | rfl | (simp only [List.length_drop, List.length_take]; rfl)) ?_; (with_reducible refine (cmp_isNaN_int.calls a1 false _ A4.out).mono ?_); rintro e w' ⟨rfl, ⟨nd, rfl⟩⟩; refine ⟨_, rfl, ?_⟩))
          go_ret
          exact ⟨by first | rfl | (simp; done) | (simp [*]; done), by repeat (first | exact Drawn0.refl _ | apply Drawn0.step)⟩

end Go.Proofs.YtefdfgmlmjnmlaaDoor.Rf
end

section
set_option linter.unusedVariables false
set_option linter.unusedSimpArgs false
/- What the kit's print.py wrote of one Go function of this seat's translation (run by a program of this session, one function a text): the function as a plain Lean function, and that the call computes it. -/
namespace Go.Proofs.YtefdfgmlmjnmlaaDoor.Rf
open Go.RowKit Go.Proofs.YtefdfgmlmjnmlaaDoorW.PrintWords Go.Proofs.YtefdfgmlmjnmlaaDoorW.PrintLast Go.Proofs.YtefdfgmlmjnmlaaDoorW.PrintMore
attribute [local go_sem] max2_int min2_int max_two min_two max_three min_three max_four min_four   -- for this text's walks alone

/-! ### cmp_isNaN_string: function 108 -/
def cmp_isNaN_string.f (a0 : ByteArray) : Option (Bool) := some (a0.toList != a0.toList)
set_option maxHeartbeats 8000000 in
set_option maxRecDepth 100000 in
theorem cmp_isNaN_string.calls (a0 : ByteArray) (r : Bool) (w : World) (h : cmp_isNaN_string.f a0 = some r) :
    Calls Tryd.prog 108 #[.string a0] w fun e w' => e = .returned (.bool r) ∧ Drawn0 w w' := by
  have H : (some (a0.toList != a0.toList)) = some r := h
  clear h
  obtain rfl := Option.some.inj H
  go_enter Tryd.func108, Tryd.ntmps108
  go_wp2
  go_ret
  exact ⟨by first | rfl | (simp; done) | (simp [*]; done), by repeat (first | exact Drawn0.refl _ | apply Drawn0.step)⟩

end Go.Proofs.YtefdfgmlmjnmlaaDoor.Rf
end

section
set_option linter.unusedVariables false
set_option linter.unusedSimpArgs false
/- cmp.Compare at strings: as a plain Lean function, and that the call computes it. -/
namespace Go.Proofs.YtefdfgmlmjnmlaaDoor.Rf
open Go.RowKit Go.Proofs.YtefdfgmlmjnmlaaDoorW.PrintWords Go.Proofs.YtefdfgmlmjnmlaaDoorW.PrintLast Go.Proofs.YtefdfgmlmjnmlaaDoorW.PrintMore
attribute [local go_sem] max2_int min2_int max_two min_two max_three min_three max_four min_four   -- for this text's walks alone

/-! ### cmp_Compare_string: function 83 -/
def cmp_Compare_string.f (a0 : ByteArray) (a1 : ByteArray) : Option (Int) := (cmp_isNaN_string.f a0).bind fun t106 => ((cmp_isNaN_string.f a1).bind fun t107 => (if t106 = true then (if t107 = true then (some 0) else (some (-1))) else (if t107 = true then (some 1) else (if (Op.bytesLess a0.toList a1.toList) = true then (some (-1)) else (if (Op.bytesLess a1.toList a0.toList) = true then (some 1) else (some 0))))))
theorem bl_eq : ∀ (x y : List UInt8), Op.bytesLess x y = decide (x < y)
  | [], [] => by simp [Op.bytesLess]
  | _ :: _, [] => by simp [Op.bytesLess]
  | [], _ :: _ => by simp [Op.bytesLess]
  | a :: x, b :: y => by
    rw [Op.bytesLess, bl_eq x y]
    simp only [List.cons_lt_cons_iff]
    by_cases h1 : a < b <;> by_cases h2 : a = b <;> by_cases h3 : x < y <;> simp [h1, h2, h3]
theorem bl_irrefl (x : List UInt8) : Op.bytesLess x x = false := by
  rw [bl_eq]; exact decide_eq_false (List.lt_irrefl x)
theorem bl_total {x y : List UInt8} (h1 : Op.bytesLess x y = false) (h2 : Op.bytesLess y x = false) : x = y := by
  rw [bl_eq] at h1 h2
  exact List.le_antisymm (List.not_lt.1 (of_decide_eq_false h2)) (List.not_lt.1 (of_decide_eq_false h1))
theorem bl_asymm {x y : List UInt8} (h1 : Op.bytesLess x y = true) : Op.bytesLess y x = false := by
  rw [bl_eq] at h1 ⊢
  exact decide_eq_false (List.lt_asymm (of_decide_eq_true h1))
theorem bl_trans {x y z : List UInt8} (h1 : Op.bytesLess x y = true) (h2 : Op.bytesLess y z = true) : Op.bytesLess x z = true := by
  rw [bl_eq] at h1 h2 ⊢
  exact decide_eq_true (List.lt_trans (of_decide_eq_true h1) (of_decide_eq_true h2))
theorem nan_no (a : ByteArray) : cmp_isNaN_string.f a = some false := by simp [cmp_isNaN_string.f]
set_option maxHeartbeats 8000000 in
set_option maxRecDepth 100000 in
theorem cmp_Compare_string.calls (a0 : ByteArray) (a1 : ByteArray) (r : Int) (w : World) (h : cmp_Compare_string.f a0 a1 = some r) :
    Calls Tryd.prog 83 #[.string a0, .string a1] w fun e w' => e = .returned (.int .i64 r) ∧ Drawn0 w w' := by
  simp only [cmp_Compare_string.f, nan_no, Option.bind_some, Bool.false_eq_true, if_false] at h
  cases h1 : Op.bytesLess a0.toList a1.toList with
  | true =>
    rw [h1, if_pos rfl] at h
    obtain rfl := Option.some.inj h
    clear h
    go_enter Tryd.func83, Tryd.ntmps83
    go_wp2_with (go_at_call 108; refine (cmp_isNaN_string.calls _ false _ (nan_no _)).mono ?_; rintro e w' ⟨rfl, ⟨nd, rfl⟩⟩)
    go_ret
    exact ⟨rfl, by repeat (first | exact Drawn0.refl _ | apply Drawn0.step)⟩
  | false =>
    rw [h1, if_neg (by decide)] at h
    cases h2 : Op.bytesLess a1.toList a0.toList with
    | true =>
      rw [h2, if_pos rfl] at h
      obtain rfl := Option.some.inj h
      clear h
      have h3 : (a0.toList == a1.toList) = false := by
        rw [beq_eq_false_iff_ne]; intro e; rw [e, bl_irrefl] at h2; exact absurd h2 (by decide)
      go_enter Tryd.func83, Tryd.ntmps83
      go_wp2_with (go_at_call 108; refine (cmp_isNaN_string.calls _ false _ (nan_no _)).mono ?_; rintro e w' ⟨rfl, ⟨nd, rfl⟩⟩)
      go_ret
      exact ⟨rfl, by repeat (first | exact Drawn0.refl _ | apply Drawn0.step)⟩
    | false =>
      rw [h2, if_neg (by decide)] at h
      obtain rfl := Option.some.inj h
      clear h
      have h3 : (a0.toList == a1.toList) = true := by rw [beq_iff_eq]; exact bl_total h1 h2
      go_enter Tryd.func83, Tryd.ntmps83
      go_wp2_with (go_at_call 108; refine (cmp_isNaN_string.calls _ false _ (nan_no _)).mono ?_; rintro e w' ⟨rfl, ⟨nd, rfl⟩⟩)
      go_ret
      exact ⟨rfl, by repeat (first | exact Drawn0.refl _ | apply Drawn0.step)⟩

end Go.Proofs.YtefdfgmlmjnmlaaDoor.Rf
end

section
set_option linter.unusedVariables false
set_option linter.unusedSimpArgs false
/- What the kit's print.py wrote of one Go function of this seat's translation (run by a program of this session, one function a text): the function as a plain Lean function, and that the call computes it. -/
namespace Go.Proofs.YtefdfgmlmjnmlaaDoor.Rf
open Go.RowKit Go.Proofs.YtefdfgmlmjnmlaaDoorW.PrintWords Go.Proofs.YtefdfgmlmjnmlaaDoorW.PrintLast Go.Proofs.YtefdfgmlmjnmlaaDoorW.PrintMore
attribute [local go_sem] max2_int min2_int max_two min_two max_three min_three max_four min_four   -- for this text's walks alone

/-! ### grant_order: function 46 -/
def grant_order.f (k : Nat) (a0_0 : Int) (a0_1 : ByteArray) (a0_2 : Int) (a1_0 : Int) (a1_1 : ByteArray) (a1_2 : Int) : Option (Int) := (cmp_Compare_int.f a0_0 a1_0).bind fun t110 => ((cmp_Compare_string.f a0_1 a1_1).bind fun t111 => ((cmp_Or_int.f k (([t110, t111] : List Int))).bind fun t115 => (some t115)))
theorem grant_order.mono : ∀ a0 a1 a2 a3 a4 a5 k, LeO (grant_order.f k a0 a1 a2 a3 a4 a5) (grant_order.f (k + 1) a0 a1 a2 a3 a4 a5) := by
  intro a0 a1 a2 a3 a4 a5 k
  unfold grant_order.f
  repeat' first
      | (with_reducible exact cmp_Or_int.mono _ _)
      | (with_reducible exact LeO.refl _)
      | (with_reducible exact LeO.none _)
      | (with_reducible refine LeO.ite ?_ ?_)
      | (with_reducible refine LeO.bind ?_ (fun _ => ?_))
      | exact cmp_Or_int.mono _ _
      | exact LeO.none _
      | refine LeO.ite ?_ ?_
      | refine LeO.bind ?_ (fun _ => ?_)
def grant_order.T1 : Bool × List (List Nat × List Nat) := (true, [([], []), ([0], [0]), ([], []), ([2], [2]), ([1, 3], [1, 3]), ([], []), ([5], [5]), ([], []), ([7], [7]), ([6, 8, 4], [6, 8]), ([4, 9], [4, 9]), ([10, 9], [10]), ([11, 11, 0, 1, 2, 3, 4, 5, 6, 7, 8, 9, 10, 11], [11])])
def grant_order.B1 : List Nat := [0, 1, 0, 4, 15, 0, 32, 0, 128, 511, 1023, 2047, 4095]
theorem grant_order.tab1 : rtab .any (opsOf Tryd.f46 1) = grant_order.T1 := by kernel_rfl
theorem grant_order.bits1 : waitsOk grant_order.T1.2 grant_order.B1 = true := by kernel_rfl
set_option maxHeartbeats 8000000 in
set_option maxRecDepth 100000 in
theorem grant_order.calls (k : Nat) (a0_0 : Int) (a0_1 : ByteArray) (a0_2 : Int) (a1_0 : Int) (a1_1 : ByteArray) (a1_2 : Int) (r : Int) (w : World) (h : grant_order.f k a0_0 a0_1 a0_2 a1_0 a1_1 a1_2 = some r) :
    Calls Tryd.prog 46 #[.agg #[.int .i64 a0_0, .string a0_1, .int .i64 a0_2], .agg #[.int .i64 a1_0, .string a1_1, .int .i64 a1_2]] w fun e w' => e = .returned (.int .i64 r) ∧ Below w.heap.size w w' := by
  have hu27 := Tryd.underlying27
  have HB := Aside0.mk (Below.refl w.heap.size w)
  have H : ((cmp_Compare_int.f a0_0 a1_0).bind fun t110 => ((cmp_Compare_string.f a0_1 a1_1).bind fun t111 => ((cmp_Or_int.f k (([t110, t111] : List Int))).bind fun t115 => (some t115)))) = some r := h
  clear h
  replace H := Option.bind_eq_some_iff.mp H
  obtain ⟨t110, A30, H⟩ := H
  replace H : ((cmp_Compare_string.f a0_1 a1_1).bind fun t111 => ((cmp_Or_int.f k (([t110, t111] : List Int))).bind fun t115 => (some t115))) = some r := H
  have A3 := Aside0.mk A30
  clear A30
  replace H := Option.bind_eq_some_iff.mp H
  obtain ⟨t111, A40, H⟩ := H
  replace H : ((cmp_Or_int.f k (([t110, t111] : List Int))).bind fun t115 => (some t115)) = some r := H
  have A4 := Aside0.mk A40
  clear A40
  obtain ⟨y112, hy112⟩ : ∃ y_ : List Int, y_ = (([t110, t111] : List Int)) := ⟨_, rfl⟩
  replace H : ((cmp_Or_int.f k y112).bind fun t115 => (some t115)) = some r := by first | (rw [hy112]; with_reducible exact H) | (have H2_ := (Option.bind_some _ _).symm.trans H; rw [hy112]; with_reducible exact H2_) | (have H2_ := (Option.bind_some _ _).symm.trans H; with_reducible exact H2_) | with_reducible exact H | (rw [hy112]; exact H) | exact H
  have Ny112 := Aside0.mk hy112
  clear hy112
  replace H := Option.bind_eq_some_iff.mp H
  obtain ⟨t115, A50, H⟩ := H
  replace H : (some t115) = some r := H
  have A5 := Aside0.mk A50
  clear A50
  obtain rfl := Option.some.inj H
  go_enter Tryd.func46, Tryd.ntmps46
  try go_wp2_with (first | ((with_reducible refine gate_dst (N := 2) rfl ?_); refine box_event ?hg (N := 2) ?hd (cs := #[.int .i64 a0_0, .string a0_1, .int .i64 a0_2]) (t := 27) ?hr ?_; (case hd => rfl); (case hg => rfl); (case hr => first | (go_simp; done) | (go_simp; rfl)); intro gb108 hg w6 hbox hb; have n0_ := Aside0.mk (below_step (by repeat (first | (with_reducible first | exact HB.out | apply below_alloc | apply pw_below_drewN | apply below_drew1) | exact HB.out)) hb); have n1_ := Aside0.mk (hbox); have n2_ := Aside0.mk ((by rw [hg]; exact (below_size (by repeat (first | (with_reducible first | exact HB.out | apply below_alloc | apply pw_below_drewN | apply below_drew1) | exact HB.out))) : w.heap.size ≤ gb108)); have n3_ := Aside0.mk ((by rw [hg]; exact (below_size (by repeat (first | (with_reducible first | exact HB.out | apply below_alloc | apply pw_below_drewN | apply below_drew1) | exact HB.out))) : w.heap.size ≤ gb108)); clear HB; have HB := n0_; have BK108 := n1_; have GW108 := n2_; have GE108 := n3_; clear n0_ n1_ n2_ n3_; clear hb hbox hg) | ((with_reducible refine gate_dst (N := 3) rfl ?_); refine box_event ?hg (N := 3) ?hd (cs := #[.int .i64 a1_0, .string a1_1, .int .i64 a1_2]) (t := 27) ?hr ?_; (case hd => rfl); (case hg => rfl); (case hr => first | (go_simp; done) | (go_simp; rfl)); intro gb109 hg w7 hbox hb; have n0_ := Aside0.mk (blk_below (g := gb108) (o := .cells #[.int .i64 a0_0, .string a0_1, .int .i64 a0_2] 27 (0, 0)) (by (with_reducible repeat (first | refine blk_drewN ?_ _ | refine blk_drew ?_ | refine blk_alloc ?_ _)); exact BK108.out) hb); have n1_ := Aside0.mk (below_step (by repeat (first | (with_reducible first | exact HB.out | apply below_alloc | apply pw_below_drewN | apply below_drew1 | refine below_set ?_ GE108.out) | exact HB.out)) hb); have n2_ := Aside0.mk (hbox); have n3_ := Aside0.mk ((by rw [hg]; exact (below_size (by repeat (first | (with_reducible first | exact HB.out | apply below_alloc | apply pw_below_drewN | apply below_drew1 | refine below_set ?_ GE108.out) | exact HB.out))) : w.heap.size ≤ gb109)); have n4_ := Aside0.mk ((by rw [hg]; exact (below_size (by repeat (first | (with_reducible first | exact HB.out | apply below_alloc | apply pw_below_drewN | apply below_drew1 | refine below_set ?_ GE108.out) | exact HB.out))) : w.heap.size ≤ gb109)); have n5_ := Aside0.mk ((by rw [hg]; exact Nat.ne_of_lt (blk_lt (g := gb108) (o := .cells #[.int .i64 a0_0, .string a0_1, .int .i64 a0_2] 27 (0, 0)) (by (with_reducible repeat (first | refine blk_drewN ?_ _ | refine blk_drew ?_ | refine blk_alloc ?_ _)); exact BK108.out)) : gb108 ≠ gb109)); have n6_ := Aside0.mk ((by rw [hg]; exact Nat.ne_of_gt (blk_lt (g := gb108) (o := .cells #[.int .i64 a0_0, .string a0_1, .int .i64 a0_2] 27 (0, 0)) (by (with_reducible repeat (first | refine blk_drewN ?_ _ | refine blk_drew ?_ | refine blk_alloc ?_ _)); exact BK108.out)) : gb109 ≠ gb108)); clear BK108; clear HB; have BK108 := n0_; have HB := n1_; have BK109 := n2_; have GW109 := n3_; have GE109 := n4_; have NB108_109 := n5_; have NB109_108 := n6_; clear n0_ n1_ n2_ n3_ n4_ n5_ n6_; clear hb hbox hg))
  have n0_ := Aside0.mk (blk_drew BK108.out)
  have n1_ := Aside0.mk (blk_drew BK109.out)
  have n2_ := Aside0.mk (below_drew1 HB.out)
  clear BK108
  clear BK109
  clear HB
  have BK108 := n0_
  have BK109 := n1_
  have HB := n2_
  clear n0_ n1_ n2_
  refine start_ (n := 13) (S := fun w' => w'.cell? ⟨gb108, 0, none⟩ = some (.int .i64 a0_0) ∧ w'.cell? ⟨gb108, 1, none⟩ = some (.string a0_1) ∧ w'.cell? ⟨gb108, 2, none⟩ = some (.int .i64 a0_2) ∧ w'.cell? ⟨gb109, 0, none⟩ = some (.int .i64 a1_0) ∧ w'.cell? ⟨gb109, 1, none⟩ = some (.string a1_1) ∧ w'.cell? ⟨gb109, 2, none⟩ = some (.int .i64 a1_2)) (ds := []) #[false, false, false, false, false, false, false, false, false, false, false, false, false] (by kernel_rfl) rfl rfl ⟨(blk_cell BK108.out 0).trans rfl, (blk_cell BK108.out 1).trans rfl, (blk_cell BK108.out 2).trans rfl, (blk_cell BK109.out 0).trans rfl, (blk_cell BK109.out 1).trans rfl, (blk_cell BK109.out 2).trans rfl⟩ (fun hHeld => ?_); refine with_tabW grant_order.tab1 grant_order.bits1 (fun HT_ HW_ => ?_)
  generalize w7.drew = w8 at BK108 BK109 HB hHeld ⊢
  refine pure_ (i := 0) (N := some 5) (v := ?_) (a' := ?_) #[true, false, false, false, false, false, false, false, false, false, false, false, false] rfl rfl (any_of HT_.out (by kernel_rfl)) (fun _ _ _ h => h) (Or.inl ⟨by rfl, ?_⟩) ?_ ?_
  rotate_left
  · intro w'
    go_simp
    with_reducible rfl
  rotate_left
  · simp only [Act.put, List.setIfInBounds_toArray, List.set_cons_zero, List.set_cons_succ, i64_w, i32_w]
    rfl
  refine pure_ (i := 2) (N := some 7) (v := ?_) (a' := ?_) #[true, false, true, false, false, false, false, false, false, false, false, false, false] rfl rfl (any_of HT_.out (by kernel_rfl)) (fun _ _ _ h => h) (Or.inl ⟨by rfl, ?_⟩) ?_ ?_
  rotate_left
  · intro w'
    go_simp
    with_reducible rfl
  rotate_left
  · simp only [Act.put, List.setIfInBounds_toArray, List.set_cons_zero, List.set_cons_succ, i64_w, i32_w]
    rfl
  refine pure_ (i := 5) (N := some 10) (v := ?_) (a' := ?_) #[true, false, true, false, false, true, false, false, false, false, false, false, false] rfl rfl (any_of HT_.out (by kernel_rfl)) (fun _ _ _ h => h) (Or.inl ⟨by rfl, ?_⟩) ?_ ?_
  rotate_left
  · intro w'
    go_simp
    with_reducible rfl
  rotate_left
  · simp only [Act.put, List.setIfInBounds_toArray, List.set_cons_zero, List.set_cons_succ, i64_w, i32_w]
    rfl
  refine pure_ (i := 7) (N := some 12) (v := ?_) (a' := ?_) #[true, false, true, false, false, true, false, true, false, false, false, false, false] rfl rfl (any_of HT_.out (by kernel_rfl)) (fun _ _ _ h => h) (Or.inl ⟨by rfl, ?_⟩) ?_ ?_
  rotate_left
  · intro w'
    go_simp
    with_reducible rfl
  rotate_left
  · simp only [Act.put, List.setIfInBounds_toArray, List.set_cons_zero, List.set_cons_succ, i64_w, i32_w]
    rfl
  refine take_ (i := 1) (N := some 6) (v := ?_) (a' := ?_) #[true, true, true, false, false, true, false, true, false, false, false, false, false] rfl rfl (take_ofW HT_.out HW_.out (by kernel_rfl)) (fun _ _ _ h => h) (Or.inl ⟨by rfl, ?_⟩) hHeld ?_ ?_
  rotate_left
  · rintro w' ⟨s0, s1, s2, s3, s4, s5⟩
    go_simp
    with_reducible rfl
  rotate_left
  · simp only [Act.put, List.setIfInBounds_toArray, List.set_cons_zero, List.set_cons_succ, i64_w, i32_w]
    rfl
  refine take_ (i := 3) (N := some 8) (v := ?_) (a' := ?_) #[true, true, true, true, false, true, false, true, false, false, false, false, false] rfl rfl (take_ofW HT_.out HW_.out (by kernel_rfl)) (fun _ _ _ h => h) (Or.inl ⟨by rfl, ?_⟩) hHeld ?_ ?_
  rotate_left
  · rintro w' ⟨s0, s1, s2, s3, s4, s5⟩
    go_simp
    with_reducible rfl
  rotate_left
  · simp only [Act.put, List.setIfInBounds_toArray, List.set_cons_zero, List.set_cons_succ, i64_w, i32_w]
    rfl
  refine take_ (i := 6) (N := some 11) (v := ?_) (a' := ?_) #[true, true, true, true, false, true, true, true, false, false, false, false, false] rfl rfl (take_ofW HT_.out HW_.out (by kernel_rfl)) (fun _ _ _ h => h) (Or.inl ⟨by rfl, ?_⟩) hHeld ?_ ?_
  rotate_left
  · rintro w' ⟨s0, s1, s2, s3, s4, s5⟩
    go_simp
    with_reducible rfl
  rotate_left
  · simp only [Act.put, List.setIfInBounds_toArray, List.set_cons_zero, List.set_cons_succ, i64_w, i32_w]
    rfl
  refine take_ (i := 8) (N := some 13) (v := ?_) (a' := ?_) #[true, true, true, true, false, true, true, true, true, false, false, false, false] rfl rfl (take_ofW HT_.out HW_.out (by kernel_rfl)) (fun _ _ _ h => h) (Or.inl ⟨by rfl, ?_⟩) hHeld ?_ ?_
  rotate_left
  · rintro w' ⟨s0, s1, s2, s3, s4, s5⟩
    go_simp
    with_reducible rfl
  rotate_left
  · simp only [Act.put, List.setIfInBounds_toArray, List.set_cons_zero, List.set_cons_succ, i64_w, i32_w]
    rfl
  refine one_ (i := 4) (N := some 9) #[true, true, true, true, true, true, true, true, true, false, false, false, false] rfl rfl (one_of HT_.out (by kernel_rfl)) (by decide) (fun K hK => ?_)
  refine goes_ Tryd.func82 (by kernel_rfl) rfl #[.int .i64 a0_0, .int .i64 a1_0] (by rfl) rfl rfl (by (try simp only [List.map_toArray, List.map_cons, List.map_nil]); first | done | rfl | (simp only [List.length_drop, List.length_take]; rfl)) ?_
  with_reducible refine (cmp_Compare_int.calls a0_0 a1_0 t110 _ A3.out).mono ?_
  rintro e w' ⟨rfl, ⟨nd, rfl⟩⟩
  refine ⟨_, rfl, ?_⟩
  refine hK.out _ _ ⟨(blk_cell BK108.out 0).trans rfl, (blk_cell BK108.out 1).trans rfl, (blk_cell BK108.out 2).trans rfl, (blk_cell BK109.out 0).trans rfl, (blk_cell BK109.out 1).trans rfl, (blk_cell BK109.out 2).trans rfl⟩ (fun hHeld => ?_)
  clear hK K
  refine norm_ (a' := ?_) ?_ ?_
  rotate_left
  · show Act.put _ (some 9) _ = _
    simp only [Act.put, List.setIfInBounds_toArray, List.set_cons_zero, List.set_cons_succ, i64_w, i32_w]
    rfl
  refine one_ (i := 9) (N := some 14) #[true, true, true, true, true, true, true, true, true, true, false, false, false] rfl rfl (one_of HT_.out (by kernel_rfl)) (by decide) (fun K hK => ?_)
  refine goes_ Tryd.func83 (by kernel_rfl) rfl #[.string a0_1, .string a1_1] (by rfl) rfl rfl (by (try simp only [List.map_toArray, List.map_cons, List.map_nil]); first | done | rfl | (simp only [List.length_drop, List.length_take]; rfl)) ?_
  with_reducible refine (cmp_Compare_string.calls a0_1 a1_1 t111 _ A4.out).mono ?_
  rintro e w' ⟨rfl, ⟨nd, rfl⟩⟩
  refine ⟨_, rfl, ?_⟩
  refine hK.out _ _ ⟨(blk_cell BK108.out 0).trans rfl, (blk_cell BK108.out 1).trans rfl, (blk_cell BK108.out 2).trans rfl, (blk_cell BK109.out 0).trans rfl, (blk_cell BK109.out 1).trans rfl, (blk_cell BK109.out 2).trans rfl⟩ (fun hHeld => ?_)
  clear hK K
  refine norm_ (a' := ?_) ?_ ?_
  rotate_left
  · show Act.put _ (some 14) _ = _
    simp only [Act.put, List.setIfInBounds_toArray, List.set_cons_zero, List.set_cons_succ, i64_w, i32_w]
    rfl
  refine one_ (i := 10) (N := some 15) #[true, true, true, true, true, true, true, true, true, true, true, false, false] rfl rfl (one_of HT_.out (by kernel_rfl)) (by decide) (fun K hK => ?_)
  refine Kd.R_lit_step (Kd.int .i64) _ 3 ?hg (N := 15) ?hd (xs := ([t110, t111] : List Int)) (inner := [.int .i64 t110, .int .i64 t111]) (ok := fun _ => True) (okp := fun _ => True) ?hr ?hp (fun _ hk => hk) trivial (Below.refl _ _) (Nat.le_refl _) (by simp) ?_; (case hd => rfl); (case hg => rfl); (case hr => first | (go_simp; done) | (go_simp; rfl)); (case hp => exact (Reps.one (show Kd.M (Kd.int .i64) _ _ _ t110 [.int .i64 t110] from rfl) (Reps.one (show Kd.M (Kd.int .i64) _ _ _ t111 [.int .i64 t111] from rfl) (Reps.none _ _))))
  intro v113 w9 ho10 hb hg_ hnew_
  clear hg_ hnew_
  (first | rw [← Ny112.out] at ho10 | (simp only [Int.reduceToNat] at ho10; rw [← Ny112.out] at ho10))
  have n0_ := Aside0.mk (Kd.R_lower ho10 (below_size (by repeat (first | (with_reducible first | exact HB.out | apply below_alloc | apply pw_below_drewN | apply below_drew1 | refine below_set ?_ GE108.out | refine below_set ?_ GE109.out) | exact HB.out))))
  have n1_ := Aside0.mk (blk_below (g := gb108) (o := .cells #[.int .i64 a0_0, .string a0_1, .int .i64 a0_2] 27 (0, 0)) (by (with_reducible repeat (first | refine blk_drewN ?_ _ | refine blk_drew ?_ | refine blk_alloc ?_ _)); exact BK108.out) hb)
  have n2_ := Aside0.mk (blk_below (g := gb109) (o := .cells #[.int .i64 a1_0, .string a1_1, .int .i64 a1_2] 27 (0, 0)) (by (with_reducible repeat (first | refine blk_drewN ?_ _ | refine blk_drew ?_ | refine blk_alloc ?_ _)); exact BK109.out) hb)
  have n3_ := Aside0.mk (below_step (by repeat (first | (with_reducible first | exact HB.out | apply below_alloc | apply pw_below_drewN | apply below_drew1 | refine below_set ?_ GE108.out | refine below_set ?_ GE109.out) | exact HB.out)) hb)
  clear BK108
  clear BK109
  clear HB
  have HO114 := n0_
  have BK108 := n1_
  have BK109 := n2_
  have HB := n3_
  clear n0_ n1_ n2_ n3_
  clear hb ho10
  obtain ⟨Ao11, co11, eo11⟩ := Kd.R_slice HO114.out
  (first | subst eo11 | (injection eo11 with f1_ f2_ f3_; have f4_ := f1_.symm; have f5_ := f3_.symm; clear f1_ f2_ f3_; subst f4_; subst f5_))
  refine hK.out _ _ ⟨(blk_cell BK108.out 0).trans rfl, (blk_cell BK108.out 1).trans rfl, (blk_cell BK108.out 2).trans rfl, (blk_cell BK109.out 0).trans rfl, (blk_cell BK109.out 1).trans rfl, (blk_cell BK109.out 2).trans rfl⟩ (fun hHeld => ?_)
  clear hK K
  refine norm_ (a' := ?_) ?_ ?_
  rotate_left
  · show Act.put _ (some 15) _ = _
    simp only [Act.put, List.setIfInBounds_toArray, List.set_cons_zero, List.set_cons_succ, i64_w, i32_w]
    rfl
  refine one_ (i := 11) (N := some 16) #[true, true, true, true, true, true, true, true, true, true, true, true, false] rfl rfl (one_of HT_.out (by kernel_rfl)) (by decide) (fun K hK => ?_)
  refine goes_ Tryd.func81 (by kernel_rfl) rfl #[.slice Ao11 y112.length co11] (by rfl) rfl rfl (by (try simp only [List.map_toArray, List.map_cons, List.map_nil]); first | done | rfl | (simp only [List.length_drop, List.length_take]; rfl)) ?_
  with_reducible refine (cmp_Or_int.calls k _ _ y112 t115 _ ?side1 ?side2 A5.out).mono ?_
  (case side1 => repeat (first | exact (Kd.R_reads' HO114.out).2.2 | (with_reducible refine Kd.C_alloc ?_ _) | (with_reducible refine Kd.C_drewN ?_ _) | (with_reducible refine Kd.C_drew ?_)))
  (case side2 => exact (Kd.R_reads' HO114.out).2.1)
  rintro e w' ⟨rfl, ⟨nd, rfl⟩⟩
  refine ⟨_, rfl, ?_⟩
  refine hK.out _ _ ⟨(blk_cell BK108.out 0).trans rfl, (blk_cell BK108.out 1).trans rfl, (blk_cell BK108.out 2).trans rfl, (blk_cell BK109.out 0).trans rfl, (blk_cell BK109.out 1).trans rfl, (blk_cell BK109.out 2).trans rfl⟩ (fun hHeld => ?_)
  clear hK K
  refine norm_ (a' := ?_) ?_ ?_
  rotate_left
  · show Act.put _ (some 16) _ = _
    simp only [Act.put, List.setIfInBounds_toArray, List.set_cons_zero, List.set_cons_succ, i64_w, i32_w]
    rfl
  refine pure_ (i := 12) (N := some 4) (v := ?_) (a' := ?_) #[true, true, true, true, true, true, true, true, true, true, true, true, true] rfl rfl (any_of HT_.out (by kernel_rfl)) (fun _ _ _ h => h) (Or.inl ⟨by rfl, ?_⟩) ?_ ?_
  rotate_left
  · intro w'
    go_simp
    with_reducible rfl
  rotate_left
  · simp only [Act.put, List.setIfInBounds_toArray, List.set_cons_zero, List.set_cons_succ, i64_w, i32_w]
    rfl
  refine done_ (done_of HT_.out (by kernel_rfl)) ?_
  try go_wp2
  go_ret
  exact ⟨by first | rfl | (simp [errW_none, errW_some] <;> rfl) | (simp [*, errW_none, errW_some] <;> rfl), by repeat (first | (with_reducible first | exact HB.out | apply below_alloc | apply pw_below_drewN | apply below_drew1 | refine below_set ?_ GE108.out | refine below_set ?_ GE109.out) | exact HB.out)⟩

end Go.Proofs.YtefdfgmlmjnmlaaDoor.Rf
end

section
/- The order of grants: by roles, then by tables; grant.order and slices.BinarySearchFunc with it. -/
namespace Go.Proofs.YtefdfgmlmjnmlaaDoor.My
open Go.RowKit Go.Proofs.YtefdfgmlmjnmlaaDoorW.PrintWords Go.Proofs.YtefdfgmlmjnmlaaDoor.Rf

def cmpS (a b : ByteArray) : Int := if Op.bytesLess a.toList b.toList = true then -1 else if Op.bytesLess b.toList a.toList = true then 1 else 0
def cmpI (a b : Int) : Int := if a < b then -1 else if a > b then 1 else 0
def ord (g h : S27) : Int := if cmpI g.f0 h.f0 = 0 then cmpS g.f1 h.f1 else cmpI g.f0 h.f0

theorem cmpS_f (a b : ByteArray) : cmp_Compare_string.f a b = some (cmpS a b) := by
  simp only [cmp_Compare_string.f, nan_no, Option.bind_some, Bool.false_eq_true, if_false, cmpS]
  repeat' split
  all_goals rfl
theorem cmpI_f (a b : Int) : cmp_Compare_int.f a b = some (cmpI a b) := by
  simp only [cmp_Compare_int.f, cmp_isNaN_int.f, bne_self_eq_false, Option.bind_some, Bool.false_eq_true, if_false, cmpI]
  repeat' split
  all_goals rfl
theorem or_f (a b : Int) : cmp_Or_int.f 3 [a, b] = some (if a = 0 then b else a) := by
  simp [cmp_Or_int.f, cmp_Or_int.l0, rd, wrap64]
  by_cases ha : a = 0 <;> by_cases hb : b = 0 <;> simp [ha, hb]
theorem ord_f (g h : S27) : grant_order.f 3 g.f0 g.f1 g.f2 h.f0 h.f1 h.f2 = some (ord g h) := by
  simp only [grant_order.f, cmpS_f, cmpI_f, Option.bind_some, or_f, ord]
theorem order_calls (g h : S27) (w : World) :
    Calls Tryd.prog 46 #[.agg #[.int .i64 g.f0, .string g.f1, .int .i64 g.f2], .agg #[.int .i64 h.f0, .string h.f1, .int .i64 h.f2]] w fun e w' => e = .returned (.int .i64 (ord g h)) ∧ Below w.heap.size w w' :=
  grant_order.calls 3 g.f0 g.f1 g.f2 h.f0 h.f1 h.f2 (ord g h) w (ord_f g h)

/-- The binary search, round by round. -/
def bs (l : List S27) (g : S27) : Nat → Nat → Nat → Nat
  | 0, i, _ => i
  | f + 1, i, j => if i < j then (if ord (l.getD ((i + j) / 2) z27) g < 0 then bs l g f ((i + j) / 2 + 1) j else bs l g f i ((i + j) / 2)) else i
def searchAt (l : List S27) (g : S27) : Nat := bs l g l.length 0 l.length
def searchIs (l : List S27) (g : S27) : Bool := decide (searchAt l g < l.length) && (ord (l.getD (searchAt l g) z27) g == 0)

structure SearchPost (l : List S27) (g : S27) (w : World) (e : Ending) (w' : World) : Prop where
  out : e = .returned (.tuple #[.int .i64 (searchAt l g), .bool (searchIs l g)]) ∧ Below w.heap.size w w'

theorem half (i j : Nat) (h : i < j) (hj : j ≤ 9223372036854775807) : wrap64 ((IntKind.u64.wrap (wrap64 ((i : Int) + j))) / 2) = ((i + j) / 2 : Nat) := by
  unfold wrap64 IntKind.wrap
  simp [IntKind.bits, IntKind.signed]
  omega

set_option maxHeartbeats 4000000 in
set_option maxRecDepth 100000 in
theorem bsearch_calls (l : List S27) (A : Option Addr) (c : Nat) (g : S27) (w : World) (hr : Kd.C k27 w A l.length l) :
    Calls Tryd.prog 84 #[.slice A l.length c, .agg #[.int .i64 g.f0, .string g.f1, .int .i64 g.f2], .func (.func 46) #[] #[]] w (SearchPost l g w) := by

  have HR := Aside0.mk hr
  have hn : l.length ≤ 9223372036854775807 := hr.2.1
  clear hr
  go_enter Tryd.func84, Tryd.ntmps84
  go_wp2
  have hbw0 : Below w.heap.size w (w.alloc (.cells #[.int .i64 g.f0, .string g.f1, .int .i64 g.f2] 27)) := (Below.refl _ _).alloc (Nat.le_refl _) _
  have hbx0 : (w.alloc (.cells #[.int .i64 g.f0, .string g.f1, .int .i64 g.f2] 27)).heap[w.heap.size]? = some (.cells #[.int .i64 g.f0, .string g.f1, .int .i64 g.f2] 27 (0, 0)) := heap_alloc_new w _
  have HB0 := Aside0.mk hbw0
  have HX0 := Aside0.mk hbx0
  clear hbw0 hbx0
  go_loopw [9, 10, 11] (fun t9 t10 _ wr => ∃ f i j : Nat, t9 = .int .i64 i ∧ t10 = .int .i64 j ∧ i ≤ j ∧ j ≤ l.length ∧ j ≤ i + f ∧ Aside0 (bs l g f i j = searchAt l g) ∧ Aside0 (Below w.heap.size w wr) ∧ Aside0 (wr.heap[w.heap.size]? = some (.cells #[.int .i64 g.f0, .string g.f1, .int .i64 g.f2] 27 (0, 0)))) (fun t9 t10 _ _ => (intOf t10).toNat - (intOf t9).toNat)
  case atStart => exact ⟨l.length, 0, l.length, rfl, rfl, Nat.zero_le _, Nat.le_refl _, by omega, ⟨rfl⟩, HB0, HX0⟩
  case round =>
    clear HB0 HX0
    obtain ⟨f, i, j, rfl, rfl, hij, hjl, hf, HBS, HB, HX⟩ := hrel
    by_cases hlt : i < j
    · obtain ⟨f, rfl⟩ : ∃ m, f = m + 1 := ⟨f - 1, by omega⟩
      have hbs := HBS.out
      rw [bs, if_pos hlt] at hbs
      have hhalf := half i j hlt (by omega)
      have hh1 : i ≤ (i + j) / 2 := by omega
      have hh2 : (i + j) / 2 < j := by omega
      generalize hh : (i + j) / 2 = h at hbs hhalf hh1 hh2
      obtain ⟨ad, e, hc0, hc1, hc2⟩ := at_T27 HR.out (h : Int) (by omega) (by omega)
      subst e
      simp only [Int.toNat_natCast, rd_T27] at hc0 hc1 hc2
      generalize hx : l.getD h z27 = x at hbs hc0 hc1 hc2
      have c0 := (HB.out.cell (World.block_lt_of_cell? w _ hc0)).trans hc0
      have c1 := (HB.out.cell (World.block_lt_of_cell? w _ hc1)).trans hc1
      have c2 := (HB.out.cell (World.block_lt_of_cell? w _ hc2)).trans hc2
      have b0 : wr.cell? ⟨w.heap.size, 0, none⟩ = some (.int .i64 g.f0) := blk_cell HX.out 0
      have b1 : wr.cell? ⟨w.heap.size, 1, none⟩ = some (.string g.f1) := blk_cell HX.out 1
      have b2 : wr.cell? ⟨w.heap.size, 2, none⟩ = some (.int .i64 g.f2) := blk_cell HX.out 2
      clear hc0 hc1 hc2 hh HBS hx
      have HBS := Aside0.mk hbs
      clear hbs
      go_wp2_with fail
      simp only [hhalf]
      have hi0 : (0 : Int) ≤ (h : Int) := by omega
      have hi1 : (h : Int) < (l.length : Int) := by omega
      go_region_held3 (fun w' => w'.cell? (ad.add (h * 3)) = some (.int .i64 x.f0) ∧ w'.cell? ⟨(ad.add (h * 3)).block, (ad.add (h * 3)).off + 1, none⟩ = some (.string x.f1) ∧ w'.cell? ⟨(ad.add (h * 3)).block, (ad.add (h * 3)).off + 2, none⟩ = some (.int .i64 x.f2) ∧ w'.cell? ⟨w.heap.size, 0, none⟩ = some (.int .i64 g.f0) ∧ w'.cell? ⟨w.heap.size, 1, none⟩ = some (.string g.f1) ∧ w'.cell? ⟨w.heap.size, 2, none⟩ = some (.int .i64 g.f2))
        (first | go_keep | exact ⟨pw_cell_below hb2 c0, pw_cell_below hb2 c1, pw_cell_below hb2 c2, pw_cell_below hb2 b0, pw_cell_below hb2 b1, pw_cell_below hb2 b2⟩)
        (first | (go_at_call 46; refine (order_calls x g _).mono ?_; rintro e w2 ⟨rfl, hb2⟩))
      have hb3 : Below wr.heap.size wr w2 := undrew hb2
      by_cases ho : ord x g < 0
      · have hbs := HBS.out
        rw [if_pos ho] at hbs
        clear HBS
        have HBS := Aside0.mk hbs
        have ho' : decide (ord x g < 0) = true := decide_eq_true ho
        clear hbs
        go_wp2
        go_roundw
        case rel => exact ⟨f, h + 1, j, by go_num, rfl, by omega, hjl, by omega, HBS, ⟨HB.out.trans (hb3.mono HB.out.size)⟩, ⟨blk_below HX.out hb3⟩⟩
        case measure => simp [intOf]; omega
      · have hbs := HBS.out
        rw [if_neg ho] at hbs
        clear HBS
        have HBS := Aside0.mk hbs
        have ho' : decide (ord x g < 0) = false := decide_eq_false ho
        clear hbs
        go_wp2
        go_roundw
        case rel => exact ⟨f, i, h, rfl, rfl, by omega, by omega, by omega, HBS, ⟨HB.out.trans (hb3.mono HB.out.size)⟩, ⟨blk_below HX.out hb3⟩⟩
        case measure => simp [intOf]; omega
    · obtain rfl : i = j := by omega
      have hbs := HBS.out
      have hi : i = searchAt l g := by
        rw [← hbs]
        cases f with
        | zero => rfl
        | succ f => rw [bs, if_neg (by omega)]
      clear hbs HBS
      have HI := Aside0.mk hi
      clear hi
      by_cases hin : i < l.length
      · obtain ⟨ad, e, hc0, hc1, hc2⟩ := at_T27 HR.out (i : Int) (by omega) (by omega)
        subst e
        simp only [Int.toNat_natCast, rd_T27] at hc0 hc1 hc2
        generalize hx : l.getD i z27 = x at hc0 hc1 hc2
        have c0 := (HB.out.cell (World.block_lt_of_cell? w _ hc0)).trans hc0
        have c1 := (HB.out.cell (World.block_lt_of_cell? w _ hc1)).trans hc1
        have c2 := (HB.out.cell (World.block_lt_of_cell? w _ hc2)).trans hc2
        have b0 : wr.cell? ⟨w.heap.size, 0, none⟩ = some (.int .i64 g.f0) := blk_cell HX.out 0
        have b1 : wr.cell? ⟨w.heap.size, 1, none⟩ = some (.string g.f1) := blk_cell HX.out 1
        have b2 : wr.cell? ⟨w.heap.size, 2, none⟩ = some (.int .i64 g.f2) := blk_cell HX.out 2
        have HXX := Aside0.mk hx
        clear hc0 hc1 hc2 hx
        have hi0 : (0 : Int) ≤ (i : Int) := by omega
        have hi1 : (i : Int) < (l.length : Int) := by omega
        have hi2 : decide ((i : Int) < (l.length : Int)) = true := by simp; omega
        have hi3 : decide (i < l.length) = true := by simp; omega
        go_wp2_with fail
        go_region_held3 (fun w' => w'.cell? (ad.add (i * 3)) = some (.int .i64 x.f0) ∧ w'.cell? ⟨(ad.add (i * 3)).block, (ad.add (i * 3)).off + 1, none⟩ = some (.string x.f1) ∧ w'.cell? ⟨(ad.add (i * 3)).block, (ad.add (i * 3)).off + 2, none⟩ = some (.int .i64 x.f2) ∧ w'.cell? ⟨w.heap.size, 0, none⟩ = some (.int .i64 g.f0) ∧ w'.cell? ⟨w.heap.size, 1, none⟩ = some (.string g.f1) ∧ w'.cell? ⟨w.heap.size, 2, none⟩ = some (.int .i64 g.f2))
          (first | go_keep | exact ⟨pw_cell_below hb2 c0, pw_cell_below hb2 c1, pw_cell_below hb2 c2, pw_cell_below hb2 b0, pw_cell_below hb2 b1, pw_cell_below hb2 b2⟩)
          (first | (go_at_call 46; refine (order_calls x g _).mono ?_; rintro e w2 ⟨rfl, hb2⟩))
        have hb3 : Below wr.heap.size wr w2 := undrew hb2
        go_wp2
        go_ret2
        refine ⟨?_, HB.out.trans (hb3.mono HB.out.size)⟩
        rw [searchIs, ← HI.out, HXX.out, hi3]
        rfl
      · have hi2 : decide ((i : Int) < (l.length : Int)) = false := by simp; omega
        have hi3 : decide (i < l.length) = false := by simp; omega
        go_wp2_with fail
        go_quiet (fail)
        go_wp2
        go_ret2
        refine ⟨?_, pw_below_drewN HB.out _⟩
        rw [searchIs, ← HI.out, hi3]
        rfl
end Go.Proofs.YtefdfgmlmjnmlaaDoor.My
end

section
/- schema.Find: the first table of a name; slices.IndexFunc with its function. -/
namespace Go.Proofs.YtefdfgmlmjnmlaaDoor.My
open Go.RowKit Go.Proofs.YtefdfgmlmjnmlaaDoorW.PrintWords Go.Proofs.YtefdfgmlmjnmlaaDoor.Rf

/-- The place of the first element that something holds of; -1: there is none. -/
def idx {α : Type} (p : α → Bool) (l : List α) : Int := if l.findIdx p < l.length then (l.findIdx p : Int) else -1
theorem idx_hit {α : Type} (p : α → Bool) (l : List α) (z : α) (k : Nat) (hk : k < l.length) (hall : ∀ j, j < k → p (l.getD j z) = false) (hp : p (l.getD k z) = true) : idx p l = k := by
  have hg : ∀ j, (h : j < l.length) → l.getD j z = l[j]'h := fun j h => by simp [List.getD, List.getElem?_eq_getElem h]
  have : l.findIdx p = k := (List.findIdx_eq hk).2 ⟨by rw [← hg k hk]; exact hp, fun j hj => by rw [← hg j (by omega)]; exact hall j hj⟩
  rw [idx, this, if_pos hk]
theorem idx_none {α : Type} (p : α → Bool) (l : List α) (z : α) (hall : ∀ j, j < l.length → p (l.getD j z) = false) : idx p l = -1 := by
  have hg : ∀ j, (h : j < l.length) → l.getD j z = l[j]'h := fun j h => by simp [List.getD, List.getElem?_eq_getElem h]
  have : l.findIdx p = l.length := List.findIdx_eq_length.2 fun x hx => by
    obtain ⟨j, hj, rfl⟩ := List.getElem_of_mem hx
    rw [← hg j hj]; exact hall j hj
  rw [idx, this, if_neg (Nat.lt_irrefl _)]
theorem idx_range {α : Type} (p : α → Bool) (l : List α) : -1 ≤ idx p l ∧ idx p l < l.length := by
  unfold idx; split <;> omega

/-- Is this the table of a name? -/
def isT (nm : ByteArray) (t : S45) : Bool := t.f0.toList == nm.toList
def findT (l : List S45) (nm : ByteArray) : Int := idx (isT nm) l

set_option maxHeartbeats 4000000 in
set_option maxRecDepth 100000 in
theorem isT_calls (t : S45) (A2 A3 : Option Addr) (c2 c3 : Nat) (nm : ByteArray) (b : Nat) (w : World) (hb : w.heap[b]? = some (.cells #[.string nm] 9 (0, 0))) :
    Calls Tryd.prog 53 #[.agg #[.string t.f0, .int .i64 t.f1, .slice A2 t.f2.length c2, .slice A3 t.f3.length c3], .pointer (some ⟨b, 0, none⟩)] w fun e w' => e = .returned (.bool (isT nm t)) ∧ Below w.heap.size w w' := by
  have c0 : w.cell? ⟨b, 0, none⟩ = some (.string nm) := blk_cell hb 0
  have hlt := blk_lt hb
  clear hb
  go_enter Tryd.func53, Tryd.ntmps53
  go_wp2
  go_ret
  exact ⟨rfl, (Below.refl _ _).alloc (Nat.le_refl _) _⟩

set_option maxHeartbeats 4000000 in
set_option maxRecDepth 100000 in
theorem idxT_calls (l : List S45) (A : Option Addr) (c : Nat) (nm : ByteArray) (b : Nat) (w : World) (hr : Kd.C k45 w A l.length l) (hb : w.heap[b]? = some (.cells #[.string nm] 9 (0, 0))) :
    Calls Tryd.prog 52 #[.slice A l.length c, .func (.func 53) #[] #[.pointer (some ⟨b, 0, none⟩)]] w fun e w' => e = .returned (.int .i64 (findT l nm)) ∧ Below w.heap.size w w' := by
  have HR := Aside0.mk hr
  have HBL := Aside0.mk hb
  have hn : l.length ≤ 9223372036854775807 := hr.2.1
  clear hr hb
  go_enter Tryd.func52, Tryd.ntmps52
  go_wp2
  go_loopw [5, 8] (fun _ t8 wr => ∃ k : Nat, t8 = .int .i64 k ∧ k ≤ l.length ∧ Aside0 (∀ j, j < k → isT nm (l.getD j z45) = false) ∧ Aside0 (Below w.heap.size w wr)) (fun _ t8 _ => l.length - (intOf t8).toNat)
  case atStart => exact ⟨0, rfl, Nat.zero_le _, ⟨fun j hj => absurd hj (by omega)⟩, ⟨Below.refl _ _⟩⟩
  case round =>
    obtain ⟨k, rfl, hk, HA, HB⟩ := hrel
    by_cases hlt : k < l.length
    · obtain ⟨ad, A2, c2, A3, c3, e, hc0, hc1, hc2, hc3, _, _, _, _⟩ := at_T45 HR.out (k : Int) (by omega) (by omega)
      subst e
      simp only [Int.toNat_natCast, rd_T45] at hc0 hc1 hc2 hc3
      generalize hx : l.getD k z45 = x at hc0 hc1 hc2 hc3
      have HXX := Aside0.mk hx
      have d0 := (HB.out.cell (World.block_lt_of_cell? w _ hc0)).trans hc0
      have d1 := (HB.out.cell (World.block_lt_of_cell? w _ hc1)).trans hc1
      have d2 := (HB.out.cell (World.block_lt_of_cell? w _ hc2)).trans hc2
      have d3 := (HB.out.cell (World.block_lt_of_cell? w _ hc3)).trans hc3
      clear hc0 hc1 hc2 hc3 hx
      have hi0 : (0 : Int) ≤ (k : Int) := by omega
      have hi1 : (k : Int) < (l.length : Int) := by omega
      have hblk := blk_below HBL.out HB.out
      have HBLK := Aside0.mk hblk
      clear hblk
      cases hp : isT nm x with
      | true =>
        have hres : findT l nm = k := idx_hit _ l z45 k hlt HA.out (by rw [HXX.out]; exact hp)
        have HP := Aside0.mk hp
        have HRES := Aside0.mk hres
        clear hp hres
        go_wp2_with (go_at_call 53; refine (isT_calls x A2 A3 c2 c3 nm b _ HBLK.out).mono ?_; rw [HP.out]; rintro e w2 ⟨rfl, hb2⟩)
        go_ret
        exact ⟨by rw [HRES.out]; rfl, HB.out.trans (hb2.mono HB.out.size)⟩
      | false =>
        have hall : ∀ j, j < k + 1 → isT nm (l.getD j z45) = false := fun j hj => by
          rcases Nat.lt_or_ge j k with h | h
          · exact HA.out j h
          · obtain rfl : j = k := by omega
            rw [HXX.out]; exact hp
        have HP := Aside0.mk hp
        have HALL := Aside0.mk hall
        clear hp hall
        go_wp2_with (go_at_call 53; refine (isT_calls x A2 A3 c2 c3 nm b _ HBLK.out).mono ?_; rw [HP.out]; rintro e w2 ⟨rfl, hb2⟩)
        go_roundw
        case rel => exact ⟨k + 1, by go_num, by omega, HALL, ⟨HB.out.trans (hb2.mono HB.out.size)⟩⟩
        case measure => simp [intOf]; omega
    · have hres : findT l nm = -1 := idx_none _ l z45 (fun j hj => HA.out j (by omega))
      have HRES := Aside0.mk hres
      clear hres
      go_wp2
      go_ret
      exact ⟨by rw [HRES.out]; rfl, HB.out⟩

/-- The table that Find answers. -/
def theT (l : List S45) (nm : ByteArray) : S45 := if findT l nm < 0 then z45 else l.getD (findT l nm).toNat z45
structure FindPost (l : List S45) (nm : ByteArray) (w : World) (e : Ending) (w' : World) : Prop where
  out : ∃ (A2 A3 : Option Addr) (c2 c3 : Nat), e = .returned (.tuple #[.agg #[.string (theT l nm).f0, .int .i64 (theT l nm).f1, .slice A2 (theT l nm).f2.length c2, .slice A3 (theT l nm).f3.length c3], .bool (decide (0 ≤ findT l nm))])
    ∧ (theT l nm).f2.length ≤ c2 ∧ k59.C w A2 (theT l nm).f2.length (theT l nm).f2 ∧ (theT l nm).f3.length ≤ c3 ∧ k72.C w A3 (theT l nm).f3.length (theT l nm).f3 ∧ Below w.heap.size w w'

set_option maxHeartbeats 4000000 in
set_option maxRecDepth 100000 in
theorem find_calls (v : Int) (l : List S45) (A : Option Addr) (c : Nat) (A' : Option Addr) (n' c' : Nat) (nm : ByteArray) (w : World) (hr : Kd.C k45 w A l.length l) :
    Calls Tryd.prog 29 #[.agg #[.int .i64 v, .slice A l.length c, .slice A' n' c'], .string nm] w (FindPost l nm w) := by
  have HR := Aside0.mk hr
  clear hr
  go_enter Tryd.func29, Tryd.ntmps29
  go_wp2_with fail
  refine (idxT_calls l A c nm (w.heap.size + 1) _ ?hC ?hN).mono ?_
  case hC => exact Kd.C_below HR.out (below3 w _ _ _)
  case hN => exact blk_alloc (blk_new1 w _ _) _
  rintro e w4 ⟨rfl, hb⟩
  have hbw : Below w.heap.size w w4 := below_step (below3 w _ _ _) hb
  have hz : w.heap.size + 2 < w4.heap.size := by have := hb.size; simp at this; omega
  have hk2 : w4.heap[w.heap.size]? = some (.cells #[.int .i64 v, .slice A l.length c, .slice A' n' c'] 25 (0, 0)) := blk_below (blk_alloc (blk_alloc (blk_new w _) _) _) hb
  have hk4 : w4.heap[w.heap.size + 2]? = some (.cells #[.string ⟨#[]⟩, .int .i64 0, .slice none 0 0, .slice none 0 0] 45 (0, 0)) := blk_below (blk_new2 w _ _ _) hb
  have a1 : w4.cell? ⟨w.heap.size, 1, none⟩ = some (.slice A l.length c) := blk_cell hk2 1
  have b0 : w4.cell? ⟨w.heap.size + 2, 0, none⟩ = some (.string ⟨#[]⟩) := blk_cell hk4 0
  have b1 : w4.cell? ⟨w.heap.size + 2, 1, none⟩ = some (.int .i64 0) := blk_cell hk4 1
  have b2 : w4.cell? ⟨w.heap.size + 2, 2, none⟩ = some (.slice none 0 0) := blk_cell hk4 2
  have b3 : w4.cell? ⟨w.heap.size + 2, 3, none⟩ = some (.slice none 0 0) := blk_cell hk4 3
  have f0 := blk_frozen hk4 0
  have f1 := blk_frozen hk4 1
  have f2 := blk_frozen hk4 2
  have f3 := blk_frozen hk4 3
  have HBW := Aside0.mk hbw
  have HK4 := Aside0.mk hk4
  clear hb hbw hk2 hk4
  have hrg := idx_range (isT nm) l
  have HT := Aside0.mk (rfl : theT l nm = theT l nm)
  by_cases hneg : findT l nm < 0
  · have hT : theT l nm = z45 := by unfold theT; rw [if_pos hneg]
    have HTT := Aside0.mk hT
    clear hT HT
    go_wp2
    refine bodyPost_ret (results_ct rfl _ _ (w.heap.size + 1 + 1) 45 #[.string ⟨#[]⟩, .int .i64 0, .slice none 0 0, .slice none 0 0] (0, 0) _ rfl (blk_put (blk_put (blk_put (blk_put HK4.out 0 _ rfl) 1 _ rfl) 2 _ rfl) 3 _ rfl) Tryd.underlying45 rfl (by kernel_rfl)) rfl ?_
    refine ⟨none, none, 0, 0, ?_, ?_, ?_, ?_, ?_, ?_⟩
    · rw [HTT.out, decide_eq_false (by omega)]; rfl
    · rw [HTT.out]; exact Nat.le_refl _
    · rw [HTT.out]; exact Kd.C_nil _ _
    · rw [HTT.out]; exact Nat.le_refl _
    · rw [HTT.out]; exact Kd.C_nil _ _
    · repeat' (refine below_set ?_ (by omega))
      exact HBW.out
  · have hlt : (findT l nm).toNat < l.length := by have := hrg.2; unfold findT at hneg ⊢; omega
    have hk : findT l nm = ((findT l nm).toNat : Int) := by omega
    generalize hkk : (findT l nm).toNat = k at hlt hk
    obtain ⟨ad, A2, c2, A3, c3, e, hc0, hc1, hc2, hc3, hl2, hC2, hl3, hC3⟩ := at_T45 HR.out (k : Int) (by omega) (by omega)
    subst e
    have hT : theT l nm = l.getD k z45 := by unfold theT; rw [if_neg hneg, hkk]
    simp only [Int.toNat_natCast, rd_T45] at hc0 hc1 hc2 hc3 hl2 hC2 hl3 hC3
    rw [← hT] at hc0 hc1 hc2 hc3 hl2 hC2 hl3 hC3
    have hwb := HBW.out
    have d0 := (hwb.cell (World.block_lt_of_cell? w _ hc0)).trans hc0
    have d1 := (hwb.cell (World.block_lt_of_cell? w _ hc1)).trans hc1
    have d2 := (hwb.cell (World.block_lt_of_cell? w _ hc2)).trans hc2
    have d3 := (hwb.cell (World.block_lt_of_cell? w _ hc3)).trans hc3
    have HH2 := Aside0.mk hl2
    have HC2 := Aside0.mk hC2
    have HH3 := Aside0.mk hl3
    have HC3 := Aside0.mk hC3
    clear hc0 hc1 hc2 hc3 hl2 hC2 hl3 hC3 hwb hT HT hkk hneg hrg
    generalize hr : findT l nm = r at hk ⊢
    generalize hx : theT l nm = x at d0 d1 d2 d3 HH2 HC2 HH3 HC3
    subst hk
    have HRR := Aside0.mk hr
    have HXX := Aside0.mk hx
    clear hr hx
    have hi0 : (0 : Int) ≤ (k : Int) := by omega
    have hi1 : (k : Int) < (l.length : Int) := by omega
    go_wp2
    refine bodyPost_ret (results_ct rfl _ _ (w.heap.size + 1 + 1) 45 #[.string x.f0, .int .i64 x.f1, .slice A2 x.f2.length c2, .slice A3 x.f3.length c3] (0, 0) _ rfl (blk_put (blk_put (blk_put (blk_put HK4.out 0 _ rfl) 1 _ rfl) 2 _ rfl) 3 _ rfl) Tryd.underlying45 rfl (by kernel_rfl)) rfl ?_
    refine ⟨A2, A3, c2, c3, ?_, ?_, ?_, ?_, ?_, ?_⟩
    · rw [HXX.out, HRR.out, decide_eq_true (show (0 : Int) ≤ (k : Int) by omega)]; rfl
    · rw [HXX.out]; exact HH2.out
    · rw [HXX.out]; exact HC2.out
    · rw [HXX.out]; exact HH3.out
    · rw [HXX.out]; exact HC3.out
    · repeat' (refine below_set ?_ (by omega))
      exact HBW.out
end Go.Proofs.YtefdfgmlmjnmlaaDoor.My
end

section
/- schema.Name: what the reference's Name says, of every text. -/
namespace Go.Proofs.YtefdfgmlmjnmlaaDoor.My
open Go.RowKit Go.Proofs.YtefdfgmlmjnmlaaDoorW.PrintWords

def low (c : UInt8) : Bool := decide (97 ≤ c.toNat) && decide (c.toNat ≤ 122)
def nameByte (c : UInt8) : Bool := low c || c.toNat == 95 || (decide (48 ≤ c.toNat) && decide (c.toNat ≤ 57))
/-- Can a text be a name? -/
def isName (s : ByteArray) : Bool := decide (0 < s.size) && decide (s.size ≤ 12) && low (s.data.toList.getD 0 0) && s.data.toList.all nameByte

structure NamePost (s : ByteArray) (w : World) (e : Ending) (w' : World) : Prop where
  out : e = .returned (.bool (isName s)) ∧ Below w.heap.size w w'

def LET : List UInt8 := [97, 98, 99, 100, 101, 102, 103, 104, 105, 106, 107, 108, 109, 110, 111, 112, 113, 114, 115, 116, 117, 118, 119, 120, 121, 122]
def SET : ByteArray := ⟨#[97, 98, 99, 100, 101, 102, 103, 104, 105, 106, 107, 108, 109, 110, 111, 112, 113, 114, 115, 116, 117, 118, 119, 120, 121, 122, 48, 49, 50, 51, 52, 53, 54, 55, 56, 57, 95]⟩
theorem of_all (p : UInt8 → Bool) (h : ∀ n, n < 256 → p (UInt8.ofNat n) = true) (c : UInt8) : p c = true := by
  have := h c.toNat c.toNat_lt
  rwa [UInt8.ofNat_toNat] at this
theorem low_let (c : UInt8) : LET.contains c = low c := by
  have := of_all (fun c => LET.contains c == low c) (by decide +kernel) c
  simpa using this
theorem inS_name (c : UInt8) : inS SET c.toNat = nameByte c := by
  have := of_all (fun c => inS SET c.toNat == nameByte c) (by decide +kernel) c
  simpa using this
theorem set_ascii : ∀ b ∈ SET.data.toList, b.toNat < 128 := by decide
theorem index_low_no (c : UInt8) (h : low c = false) : Lib.indexByte LET c < 0 := by
  have := Lib.contains_iff_indexByte LET c
  rw [low_let, h] at this
  have := of_decide_eq_false this.symm
  omega
theorem index_low_yes (c : UInt8) (h : low c = true) : 0 ≤ Lib.indexByte LET c := by
  have := Lib.contains_iff_indexByte LET c
  rw [low_let, h] at this
  exact of_decide_eq_true this.symm

theorem index_calls (s : ByteArray) (c : Int) (w : World) :
    Calls Tryd.prog 55 #[.string s, .int .u8 c] w fun e w' => e = .returned (.int .i64 (Lib.indexByte s.data.toList c.toNat.toUInt8)) ∧ w = w' :=
  (Tryd.strings_IndexByte s c w).mono fun _ _ h => ⟨h.1, h.2.symm⟩

theorem toList_nil (s : ByteArray) : s.toList = [] ↔ s.size = 0 := by
  rw [ByteArray.toList_eq]
  have : s.size = s.data.toList.length := by rw [Array.length_toList]; rfl
  rw [this]
  exact List.length_eq_zero_iff.symm

theorem head_at (s : ByteArray) (h : 0 < s.size) : s.data.toList.getD 0 0 = s[0]'h := by
  have h' : 0 < s.data.size := h
  show (s.data.toList[0]?).getD 0 = s.data[0]'h'
  rw [Array.getElem?_toList, Array.getElem?_eq_getElem h']
  rfl

theorem all_of (s : ByteArray) (p : UInt8 → Bool) (h : ∀ j, (h : j < s.size) → p (s[j]'h) = true) : s.data.toList.all p = true := by
  rw [List.all_eq_true]
  intro x hx
  obtain ⟨j, hj, rfl⟩ := List.getElem_of_mem hx
  exact h j (by simpa using hj)
theorem not_all (s : ByteArray) (p : UInt8 → Bool) (j : Nat) (h : j < s.size) (hp : p (s[j]'h) = false) : s.data.toList.all p = false := by
  rw [Bool.eq_false_iff]
  intro ha
  rw [List.all_eq_true] at ha
  have := ha (s[j]'h) (by show s.data[j]'h ∈ _; simp)
  rw [hp] at this
  exact absurd this (by decide)

/-- What is left of a text and is cut from the right: nothing, just if all bytes are the set's. -/
theorem left_all {s t : ByteArray} (h : LeftOf SET s t) : (t.size = 0 ↔ s.data.toList.all nameByte = true) ∧ (∀ h : 0 < t.size, inS SET (t[0]'h).toNat = false) := by
  obtain ⟨p, hp, rfl, hall, hno⟩ := h
  have hsz : (s.extract p s.size).size = s.size - p := by simp [ByteArray.size_extract]
  refine ⟨?_, ?_⟩
  · rw [hsz]
    constructor
    · intro h0
      exact all_of s _ fun j hj => by rw [← inS_name]; exact hall j hj (by omega)
    · intro ha
      rcases Nat.lt_or_ge p s.size with h | h
      · have := not_all s nameByte p h (by rw [← inS_name]; exact hno h)
        rw [this] at ha
        exact absurd ha (by decide)
      · omega
  · intro h
    have hps : p < s.size := by omega
    have := hno hps
    have e : (s.extract p s.size)[0]'h = s[p]'hps := by
      show (s.extract p s.size).data[0]'h = s.data[p]'hps
      simp [ByteArray.data_extract]
    rw [e]
    exact this

theorem left_size {s t : ByteArray} (h : LeftOf SET s t) : t.size ≤ s.size := by
  obtain ⟨p, hp, rfl, _⟩ := h
  simp [ByteArray.size_extract]

set_option maxHeartbeats 4000000 in
set_option maxRecDepth 100000 in
theorem name_calls (s : ByteArray) (w : World) (hs : s.size ≤ 9223372036854775807) (hT : Tabs w) :
    Calls Tryd.prog 32 #[.string s] w (NamePost s w) := by
  by_cases h0 : s.toList = []
  · have hr : isName s = false := by simp [isName, (toList_nil s).1 h0]
    go_enter Tryd.func32, Tryd.ntmps32
    go_wp2_with fail
    go_ret
    exact ⟨by show Ending.returned (.bool false) = _; rw [hr], Below.refl _ _⟩
  · by_cases h12 : s.size ≤ 12
    · have hz : 0 < s.size := by have := mt (toList_nil s).2 h0; omega
      cases hlo : low (s.data.toList.getD 0 0) with
      | false =>
        have hr : isName s = false := by simp only [isName, hlo]; simp
        have hneg := index_low_no (s[0]'hz) (by rw [← head_at s hz]; exact hlo)
        unfold LET at hneg
        clear hlo
        go_enter Tryd.func32, Tryd.ntmps32
        go_wp2_with (go_at_call 55; refine (index_calls _ _ _).mono ?_; rintro e w2 ⟨rfl, rfl⟩)
        go_ret
        exact ⟨by show Ending.returned (.bool false) = _; rw [hr], Below.refl _ _⟩
      | true =>
        have hpos := index_low_yes (s[0]'hz) (by rw [← head_at s hz]; exact hlo)
        unfold LET at hpos
        have HLO := Aside0.mk hlo
        clear hlo
        go_enter Tryd.func32, Tryd.ntmps32
        go_wp2_with (first | (go_at_call 55; refine (index_calls _ _ _).mono ?_; rintro e w2 ⟨rfl, rfl⟩) | (go_at_call 57; refine (cutLeft_calls _ SET _ set_ascii).mono ?_; rintro e w2 ⟨t, rfl, hl, hb⟩))
        refine (cutRight_calls t SET w2 set_ascii (by have := left_size hl; omega) (hT.below hb) (left_all hl).2).mono ?_
        rintro e w3 ⟨u, rfl, hu, hb2⟩
        have hall := (left_all hl).1
        have hb3 : Below w.heap.size w w3 := hb.trans (hb2.mono hb.size)
        have HU := Aside0.mk hu
        have HALL := Aside0.mk hall
        clear hu hall
        go_wp2
        go_ret
        refine ⟨?_, hb3⟩
        refine congrArg (fun b => Ending.returned (.bool b)) ?_
        have e1 := toList_nil u
        have hr : isName s = s.data.toList.all nameByte := by simp only [isName, HLO.out, decide_eq_true hz, decide_eq_true h12]; simp
        rw [hr, Bool.eq_iff_iff]
        simp [e1, HU.out, HALL.out]
        exact fun _ => h0
    · have hr : isName s = false := by simp only [isName, decide_eq_false h12]; simp
      go_enter Tryd.func32, Tryd.ntmps32
      go_wp2_with fail
      go_ret
      exact ⟨by show Ending.returned (.bool false) = _; rw [hr], Below.refl _ _⟩
end Go.Proofs.YtefdfgmlmjnmlaaDoor.My
end

section
set_option linter.unusedVariables false
set_option linter.unusedSimpArgs false
/- What the kit's print.py wrote of one Go function of this seat's translation (run by a program of this session, one function a text): the function as a plain Lean function, and that the call computes it. -/
namespace Go.Proofs.YtefdfgmlmjnmlaaDoor.Rf
open Go.RowKit Go.Proofs.YtefdfgmlmjnmlaaDoorW.PrintWords Go.Proofs.YtefdfgmlmjnmlaaDoorW.PrintLast Go.Proofs.YtefdfgmlmjnmlaaDoorW.PrintMore
attribute [local go_sem] max2_int min2_int max_two min_two max_three min_three max_four min_four   -- for this text's walks alone

/-! ### grant_Role: function 18 -/
def grant_Role.f (a0 : Int) : Option (Bool) := if a0 ≥ 0 then (some (decide (a0 < 8))) else (some false)
set_option maxHeartbeats 8000000 in
set_option maxRecDepth 100000 in
theorem grant_Role.calls (a0 : Int) (r : Bool) (w : World) (h : grant_Role.f a0 = some r) :
    Calls Tryd.prog 18 #[.int .i64 a0] w fun e w' => e = .returned (.bool r) ∧ Drawn0 w w' := by
  have H : (if a0 ≥ 0 then (some (decide (a0 < 8))) else (some false)) = some r := h
  clear h
  by_cases c2 : a0 ≥ 0
  · rw [if_pos c2] at H
    have c2b0 : decide (0 ≤ a0) = true := decide_eq_true c2
    clear c2
    obtain rfl := Option.some.inj H
    go_enter Tryd.func18, Tryd.ntmps18
    go_wp2
    go_ret
    exact ⟨by first | rfl | (simp; done) | (simp [*]; done), by repeat (first | exact Drawn0.refl _ | apply Drawn0.step)⟩
  · rw [if_neg c2] at H
    have c2b0 : decide (0 ≤ a0) = false := decide_eq_false c2
    clear c2
    obtain rfl := Option.some.inj H
    go_enter Tryd.func18, Tryd.ntmps18
    go_wp2
    go_ret
    exact ⟨by first | rfl | (simp; done) | (simp [*]; done), by repeat (first | exact Drawn0.refl _ | apply Drawn0.step)⟩

end Go.Proofs.YtefdfgmlmjnmlaaDoor.Rf
end

section
/- package grant: Good, find, Owns, May, Sorted: what they answer, of every schema. -/
namespace Go.Proofs.YtefdfgmlmjnmlaaDoor.My
open Go.RowKit Go.Proofs.YtefdfgmlmjnmlaaDoorW.PrintWords Go.Proofs.YtefdfgmlmjnmlaaDoor.Rf

def goodG (g : S27) : Bool := decide (0 < g.f0) && decide (g.f0 < 8) && isName g.f1 && decide (0 < g.f2) && decide (g.f2 ≤ 31)

structure BoolPost (b : Bool) (w : World) (e : Ending) (w' : World) : Prop where
  out : e = .returned (.bool b) ∧ Below w.heap.size w w'

set_option maxHeartbeats 4000000 in
set_option maxRecDepth 100000 in
theorem good_calls (g : S27) (w : World) (hs : g.f1.size ≤ 9223372036854775807) (hT : Tabs w) :
    Calls Tryd.prog 16 #[.agg #[.int .i64 g.f0, .string g.f1, .int .i64 g.f2]] w (BoolPost (goodG g) w) := by
  have hT1 : Tabs (w.alloc (.cells #[.int .i64 g.f0, .string g.f1, .int .i64 g.f2] 27)) := hT.below (below1 w _)
  have hk := blk_new w (.cells #[.int .i64 g.f0, .string g.f1, .int .i64 g.f2] 27)
  have hb1 := below1 w (.cells #[.int .i64 g.f0, .string g.f1, .int .i64 g.f2] 27)
  have HK := Aside0.mk hk
  have HB1 := Aside0.mk hb1
  clear hk hb1
  cases hnm : isName g.f1 with
  | true =>
    go_enter Tryd.func16, Tryd.ntmps16
    go_wp2_with (go_at_call 32; refine (name_calls _ _ hs hT1).mono ?_; rintro e w2 ⟨rfl, hb2⟩; rw [hnm]; have b2 : w2.cell? ⟨w.heap.size, 2, none⟩ = some (.int .i64 g.f2) := blk_cell (blk_below HK.out hb2) 2)
    all_goals (go_ret; refine ⟨congrArg (fun b => Ending.returned (.bool b)) ?_, ?_⟩)
    all_goals (first | exact HB1.out | exact below_step HB1.out hb2 | skip)
    all_goals (simp only [goodG, hnm]; simp [*] <;> omega)
  | false =>
    go_enter Tryd.func16, Tryd.ntmps16
    go_wp2_with (go_at_call 32; refine (name_calls _ _ hs hT1).mono ?_; rintro e w2 ⟨rfl, hb2⟩; rw [hnm]; have b2 : w2.cell? ⟨w.heap.size, 2, none⟩ = some (.int .i64 g.f2) := blk_cell (blk_below HK.out hb2) 2)
    all_goals (go_ret; refine ⟨congrArg (fun b => Ending.returned (.bool b)) ?_, ?_⟩)
    all_goals (first | exact HB1.out | exact below_step HB1.out hb2 | skip)
    all_goals (simp only [goodG, hnm]; simp [*] <;> omega)

def okS (l : List S27) : Prop := ∀ g ∈ l, g.f1.size ≤ 9223372036854775807
theorem find47_calls (l : List S27) (A : Option Addr) (c : Nat) (g : S27) (w : World) (hr : Kd.C k27 w A l.length l) :
    Calls Tryd.prog 47 #[.slice A l.length c, .agg #[.int .i64 g.f0, .string g.f1, .int .i64 g.f2]] w (SearchPost l g w) := by
  have HR := Aside0.mk (Kd.C_below hr (below1 w (.cells #[.int .i64 g.f0, .string g.f1, .int .i64 g.f2] 27)))
  have hb1 := below1 w (.cells #[.int .i64 g.f0, .string g.f1, .int .i64 g.f2] 27)
  have HB1 := Aside0.mk hb1
  clear hr hb1
  go_enter Tryd.func47, Tryd.ntmps47
  go_wp2_with (go_at_call 84; refine (bsearch_calls l A c g _ HR.out).mono ?_; rintro e w2 ⟨rfl, hb2⟩)
  go_ret2
  exact ⟨rfl, below_step HB1.out hb2⟩

def roleB (r : Int) : Bool := decide (0 ≤ r) && decide (r < 8)
theorem role_calls (r : Int) (w : World) : Calls Tryd.prog 18 #[.int .i64 r] w fun e w' => e = .returned (.bool (roleB r)) ∧ w = w' := by
  go_enter Tryd.func18, Tryd.ntmps18
  go_wp2
  all_goals (go_ret; refine ⟨congrArg (fun b => Ending.returned (.bool b)) ?_, rfl⟩)
  all_goals (simp only [roleB]; simp [*] <;> omega)

/-- May a role do as a table's owner does? -/
def ownsB (l : List S45) (role : Int) (nm : ByteArray) : Bool := decide (0 ≤ findT l nm) && (roleB role && (role == 0 || (theT l nm).f1 == role))

set_option maxHeartbeats 4000000 in
set_option maxRecDepth 100000 in
theorem owns_calls (v : Int) (l : List S45) (A : Option Addr) (c : Nat) (A' : Option Addr) (n' c' : Nat) (role : Int) (nm : ByteArray) (w : World) (hr : Kd.C k45 w A l.length l) :
    Calls Tryd.prog 19 #[.agg #[.int .i64 v, .slice A l.length c, .slice A' n' c'], .int .i64 role, .string nm] w (BoolPost (ownsB l role nm) w) := by
  have HR := Aside0.mk (Kd.C_below hr (below1 w (.cells #[.int .i64 v, .slice A l.length c, .slice A' n' c'] 25)))
  have hb1 := below1 w (.cells #[.int .i64 v, .slice A l.length c, .slice A' n' c'] 25)
  have HB1 := Aside0.mk hb1
  clear hr hb1
  cases hrl : roleB role with
  | true =>
    go_enter Tryd.func19, Tryd.ntmps19
    go_wp2_with (first | (go_at_call 29; refine (find_calls v l A c A' n' c' nm _ HR.out).mono ?_; rintro e w2 ⟨A2, A3, c2, c3, rfl, _, _, _, _, hb2⟩) | (go_at_call 18; refine (role_calls _ _).mono ?_; rintro e w3 ⟨rfl, rfl⟩; rw [hrl]))
    all_goals (go_ret; refine ⟨congrArg (fun b => Ending.returned (.bool b)) ?_, ?_⟩)
    all_goals (first | exact below_alloc (below_step HB1.out hb2) _ | skip)
    all_goals (simp only [ownsB, hrl]; simp [*] <;> omega)
  | false =>
    go_enter Tryd.func19, Tryd.ntmps19
    go_wp2_with (first | (go_at_call 29; refine (find_calls v l A c A' n' c' nm _ HR.out).mono ?_; rintro e w2 ⟨A2, A3, c2, c3, rfl, _, _, _, _, hb2⟩) | (go_at_call 18; refine (role_calls _ _).mono ?_; rintro e w3 ⟨rfl, rfl⟩; rw [hrl]))
    all_goals (go_ret; refine ⟨congrArg (fun b => Ending.returned (.bool b)) ?_, ?_⟩)
    all_goals (first | exact below_alloc (below_step HB1.out hb2) _ | skip)
    all_goals (simp only [ownsB, hrl]; simp [*] <;> omega)

/-- May a role do all that with a table? -/
def mayB (l : List S45) (gs : List S27) (role : Int) (nm : ByteArray) (bits : Int) : Bool :=
  decide (0 ≤ findT l nm) && roleB role && (ownsB l role nm || (searchIs gs ⟨role, nm, 0⟩ && (Go.bits .and .i64 (gs.getD (searchAt gs ⟨role, nm, 0⟩) z27).f2 bits == bits)))
theorem searchIs_lt {gs : List S27} {g : S27} (h : searchIs gs g = true) : searchAt gs g < gs.length := by
  unfold searchIs at h
  simp at h
  exact h.1

set_option maxHeartbeats 4000000 in
set_option maxRecDepth 100000 in
theorem may_calls (v : Int) (l : List S45) (A : Option Addr) (c : Nat) (gs : List S27) (A' : Option Addr) (c' : Nat) (role : Int) (nm : ByteArray) (bits : Int) (w : World) (hr : Kd.C k45 w A l.length l) (hg : Kd.C k27 w A' gs.length gs) :
    Calls Tryd.prog 21 #[.agg #[.int .i64 v, .slice A l.length c, .slice A' gs.length c'], .int .i64 role, .string nm, .int .i64 bits] w (BoolPost (mayB l gs role nm bits) w) := by
  have HR := Aside0.mk (Kd.C_below hr (below1 w (.cells #[.int .i64 v, .slice A l.length c, .slice A' gs.length c'] 25)))
  have HG := Aside0.mk (Kd.C_below hg (below1 w (.cells #[.int .i64 v, .slice A l.length c, .slice A' gs.length c'] 25)))
  have hb1 := below1 w (.cells #[.int .i64 v, .slice A l.length c, .slice A' gs.length c'] 25)
  have hk1 := blk_new w (.cells #[.int .i64 v, .slice A l.length c, .slice A' gs.length c'] 25)
  have HB1 := Aside0.mk hb1
  have HK1 := Aside0.mk hk1
  clear hr hg hb1 hk1
  by_cases hneg : findT l nm < 0
  · have hres : mayB l gs role nm bits = false := by simp only [mayB, decide_eq_false (show ¬ (0 ≤ findT l nm) by omega)]; simp
    have hng : ¬ (0 ≤ findT l nm) := by omega
    have hdec : decide (0 ≤ findT l nm) = false := decide_eq_false hng
    go_enter Tryd.func21, Tryd.ntmps21
    go_wp2_with (first | (go_at_call 29; refine (find_calls v l A c A' gs.length c' nm _ HR.out).mono ?_; rintro e w2 ⟨A2, A3, c2, c3, rfl, _, _, _, _, hb2⟩; rw [hdec]))
    go_ret
    exact ⟨by show Ending.returned (.bool false) = _; rw [hres], below_alloc (below_step HB1.out hb2) _⟩
  · have hps : 0 ≤ findT l nm := by omega
    have hdec : decide (0 ≤ findT l nm) = true := decide_eq_true hps
    cases hrl : roleB role with
    | false =>
      have hres : mayB l gs role nm bits = false := by simp only [mayB, hrl]; simp
      clear hps hneg
      go_enter Tryd.func21, Tryd.ntmps21
      go_wp2_with (first | (go_at_call 29; refine (find_calls v l A c A' gs.length c' nm _ HR.out).mono ?_; rintro e w2 ⟨A2, A3, c2, c3, rfl, _, _, _, _, hb2⟩; rw [hdec]) | (go_at_call 18; refine (role_calls _ _).mono ?_; rintro e w3 ⟨rfl, rfl⟩; rw [hrl]))
      go_ret
      exact ⟨by show Ending.returned (.bool false) = _; rw [hres], below_alloc (below_step HB1.out hb2) _⟩
    | true =>
      have hmay : mayB l gs role nm bits = (ownsB l role nm || (searchIs gs ⟨role, nm, 0⟩ && (Go.bits .and .i64 (gs.getD (searchAt gs ⟨role, nm, 0⟩) z27).f2 bits == bits))) := by simp only [mayB, hrl, hdec]; simp
      have HM := Aside0.mk hmay
      clear hps hneg hmay
      cases how : ownsB l role nm with
      | true =>
        go_enter Tryd.func21, Tryd.ntmps21
        go_wp2_with (first | (go_at_call 29; refine (find_calls v l A c A' gs.length c' nm _ HR.out).mono ?_; rintro e w2 ⟨A2, A3, c2, c3, rfl, _, _, _, _, hb2⟩; rw [hdec]; have HR2 := Aside0.mk (Kd.C_below HR.out hb2); have HK2 := Aside0.mk (blk_below HK1.out hb2); have a0 : w2.cell? ⟨w.heap.size, 0, none⟩ = some (.int .i64 v) := blk_cell HK2.out 0; have a1 : w2.cell? ⟨w.heap.size, 1, none⟩ = some (.slice A l.length c) := blk_cell HK2.out 1; have a2 : w2.cell? ⟨w.heap.size, 2, none⟩ = some (.slice A' gs.length c') := blk_cell HK2.out 2; have hlt := blk_lt HK2.out) | (go_at_call 18; refine (role_calls _ _).mono ?_; rintro e w3 ⟨rfl, rfl⟩; rw [hrl]) | (go_at_call 19; refine (owns_calls v l A c A' gs.length c' role nm _ (Kd.C_alloc HR2.out _)).mono ?_; rintro e w4 ⟨rfl, hb4⟩; rw [how]))
        go_ret
        exact ⟨by show Ending.returned (.bool true) = _; rw [HM.out, how]; rfl, below_step (below_alloc (below_step HB1.out hb2) _) hb4⟩
      | false =>
        cases his : searchIs gs ⟨role, nm, 0⟩ with
        | false =>
          go_enter Tryd.func21, Tryd.ntmps21
          go_wp2_with (first | (go_at_call 29; refine (find_calls v l A c A' gs.length c' nm _ HR.out).mono ?_; rintro e w2 ⟨A2, A3, c2, c3, rfl, _, _, _, _, hb2⟩; rw [hdec]; have HR2 := Aside0.mk (Kd.C_below HR.out hb2); have HG2 := Aside0.mk (Kd.C_below HG.out hb2); have HK2 := Aside0.mk (blk_below HK1.out hb2); have a0 : w2.cell? ⟨w.heap.size, 0, none⟩ = some (.int .i64 v) := blk_cell HK2.out 0; have a1 : w2.cell? ⟨w.heap.size, 1, none⟩ = some (.slice A l.length c) := blk_cell HK2.out 1; have a2 : w2.cell? ⟨w.heap.size, 2, none⟩ = some (.slice A' gs.length c') := blk_cell HK2.out 2; have hlt := blk_lt HK2.out) | (go_at_call 18; refine (role_calls _ _).mono ?_; rintro e w3 ⟨rfl, rfl⟩; rw [hrl]) | (go_at_call 19; refine (owns_calls v l A c A' gs.length c' role nm _ (Kd.C_alloc HR2.out _)).mono ?_; rintro e w4 ⟨rfl, hb4⟩; rw [how]; have HG4 := Aside0.mk (Kd.C_below (Kd.C_alloc HG2.out _) hb4); have e2 : w4.cell? ⟨w.heap.size, 2, none⟩ = some (.slice A' gs.length c') := blk_cell (blk_below (blk_alloc HK2.out _) hb4) 2) | (go_at_call 47; refine (find47_calls gs A' c' ⟨role, nm, 0⟩ _ HG4.out).mono ?_; rintro e w5 ⟨rfl, hb5⟩; rw [his]; have e3 : w5.cell? ⟨w.heap.size, 2, none⟩ = some (.slice A' gs.length c') := cell_now hb5 e2))
          go_ret
          exact ⟨by show Ending.returned (.bool false) = _; rw [HM.out, how, his]; rfl, below_step (below_step (below_alloc (below_step HB1.out hb2) _) hb4) hb5⟩
        | true =>
          have hat := searchIs_lt his
          have hi0 : (0 : Int) ≤ (searchAt gs ⟨role, nm, 0⟩ : Int) := by omega
          have hi1 : (searchAt gs ⟨role, nm, 0⟩ : Int) < (gs.length : Int) := by omega
          obtain ⟨ad, e, _, _, hc2⟩ := at_T27 HG.out (searchAt gs ⟨role, nm, 0⟩ : Int) (by omega) (by omega)
          subst e
          simp only [Int.toNat_natCast, rd_T27] at hc2
          generalize hx : gs.getD (searchAt gs ⟨role, nm, 0⟩) z27 = x at hc2
          have HXX := Aside0.mk hx
          clear hx hat
          go_enter Tryd.func21, Tryd.ntmps21
          go_wp2_with (first | (go_at_call 29; refine (find_calls v l A c (some ad) gs.length c' nm _ HR.out).mono ?_; rintro e w2 ⟨A2, A3, c2, c3, rfl, _, _, _, _, hb2⟩; rw [hdec]; have HR2 := Aside0.mk (Kd.C_below HR.out hb2); have HG2 := Aside0.mk (Kd.C_below HG.out hb2); have HK2 := Aside0.mk (blk_below HK1.out hb2); have a0 : w2.cell? ⟨w.heap.size, 0, none⟩ = some (.int .i64 v) := blk_cell HK2.out 0; have a1 : w2.cell? ⟨w.heap.size, 1, none⟩ = some (.slice A l.length c) := blk_cell HK2.out 1; have a2 : w2.cell? ⟨w.heap.size, 2, none⟩ = some (.slice (some ad) gs.length c') := blk_cell HK2.out 2; have hlt := blk_lt HK2.out) | (go_at_call 18; refine (role_calls _ _).mono ?_; rintro e w3 ⟨rfl, rfl⟩; rw [hrl]) | (go_at_call 19; refine (owns_calls v l A c (some ad) gs.length c' role nm _ (Kd.C_alloc HR2.out _)).mono ?_; rintro e w4 ⟨rfl, hb4⟩; rw [how]; have HG4 := Aside0.mk (Kd.C_below (Kd.C_alloc HG2.out _) hb4); have e2 : w4.cell? ⟨w.heap.size, 2, none⟩ = some (.slice (some ad) gs.length c') := blk_cell (blk_below (blk_alloc HK2.out _) hb4) 2) | (go_at_call 47; refine (find47_calls gs (some ad) c' ⟨role, nm, 0⟩ _ HG4.out).mono ?_; rintro e w5 ⟨rfl, hb5⟩; rw [his]; have e3 : w5.cell? ⟨w.heap.size, 2, none⟩ = some (.slice (some ad) gs.length c') := cell_now hb5 e2; have d2 := cell_now hb5 (cell_now hb4 (cell_now (below1 _ _) (cell_now hb2 hc2)))))
          go_ret
          exact ⟨by rw [HM.out, how, his, HXX.out]; rfl, below_step (below_step (below_alloc (below_step HB1.out hb2) _) hb4) hb5⟩
end Go.Proofs.YtefdfgmlmjnmlaaDoor.My
end

section
/- slices.Clone of grants. -/
namespace Go.Proofs.YtefdfgmlmjnmlaaDoor.My
open Go.RowKit Go.Proofs.YtefdfgmlmjnmlaaDoorW.PrintWords Go.Proofs.YtefdfgmlmjnmlaaDoor.Rf

theorem eqNil (w : World) (a : Addr) (n c : Nat) : (binOp .eql 23 (.slice (some a) n c) (.slice none 0 0)).run Tryd.prog w = .ok (.bool false) w := Go.Lib.run_eql_slice_some_nil w a n c Tryd.underlying23
theorem eqNil0 (w : World) (n c : Nat) : (binOp .eql 23 (.slice none n c) (.slice none 0 0)).run Tryd.prog w = .ok (.bool true) w := Go.Lib.run_eql_slice_nil_nil w n c Tryd.underlying23
attribute [local go_sem] eqNil eqNil0
theorem R_empty {α : Type} (d : Kd α) (e : Nat) (w : World) : Kd.R d e (w.alloc (.cells #[] e)) w.heap.size (fun _ => True) (.slice (some ⟨w.heap.size, 0, none⟩) 0 0) [] := by
  refine ⟨fun _ _ => trivial, [], ⟨by simp, .inr ⟨w.heap.size, 0, #[], rfl, Nat.le_refl _, blk_new w _, Nat.le_refl _, by decide, by simp, by simp⟩⟩, Reps.none _ _⟩
structure ClonePost (l : List S27) (w : World) (e : Ending) (w' : World) : Prop where
  out : ∃ v, e = .returned v ∧ Kd.R k27 27 w' w.heap.size (fun _ => True) v l ∧ Below w.heap.size w w'

set_option maxHeartbeats 4000000 in
set_option maxRecDepth 100000 in
theorem clone_some (l : List S27) (ad : Addr) (c : Nat) (w : World) (hr : Kd.C k27 w (some ad) l.length l) (hl : l.length * 32 ≤ 140737488355328) :
    Calls Tryd.prog 48 #[.slice (some ad) l.length c] w (ClonePost l w) := by
  have HR := Aside0.mk (Kd.C_alloc hr (.cells #[] 27))
  clear hr
  go_enter Tryd.func48, Tryd.ntmps48
  go_wp2_with (first
    | ((with_reducible refine gate_builtin (b := .append) (xs := #[.tmp 5, .tmp 6]) rfl ?_); at_builtin; refine Kd.R_append_rows k27 (Rr := k27.K (w.alloc (.cells #[] 27))) (w0 := w) w.heap.size rfl (.tmp 5) (.tmp 6) 23 27 (.agg #[(.int .i64 0), (.string ⟨#[]⟩), (.int .i64 0)]) 32 rfl Tryd.underlying23 info27 rfl (by decide) (by omega) (.slice (some ⟨w.heap.size, 0, none⟩) 0 0) [] l (some ad) l.length c (fun _ => True) (fun _ => False) rfl rfl ?aO HR.out ?aM (fun _ hk => hk.elim) (fun _ _ => trivial) (below1 w _) ?aS ?aL ?_; (case aO => exact R_empty k27 27 w); (case aM => intro x cs hx; rw [k27_open hx]; exact k27_mkM _ _ _ x); (case aS => simp); (case aL => simpa using hl); intro v1 w1 h1 h2 h3 h4; have H1 := Aside0.mk h1; have H2 := Aside0.mk h2; clear h1 h2 h3 h4))

  go_ret
  exact ⟨_, rfl, H1.out, H2.out⟩
theorem clone_calls (l : List S27) (A : Option Addr) (c : Nat) (w : World) (hr : Kd.C k27 w A l.length l) (hl : l.length * 32 ≤ 140737488355328) :
    Calls Tryd.prog 48 #[.slice A l.length c] w (ClonePost l w) := by
  cases A with
  | some ad => exact clone_some l ad c w hr hl
  | none =>
    have h0 : l = [] := by
      rcases l with _ | ⟨x, l⟩
      · rfl
      · obtain ⟨ad, h, _⟩ := hr.2.2 (by simp)
        cases h
    subst h0
    clear hr hl
    go_enter Tryd.func48, Tryd.ntmps48
    go_wp2
    go_ret
    exact ⟨_, rfl, Kd.R_nil _ _ _ _ _, Below.refl _ _⟩
end Go.Proofs.YtefdfgmlmjnmlaaDoor.My
end

section
/- A row of grants of the call's own, as a block's cells. -/
namespace Go.Proofs.YtefdfgmlmjnmlaaDoor.My
open Go.RowKit Go.Proofs.YtefdfgmlmjnmlaaDoorW.PrintWords Go.Proofs.YtefdfgmlmjnmlaaDoor.Rf

def cellsG (x : S27) : List Value := [.int .i64 x.f0, .string x.f1, .int .i64 x.f2]
def encG : List S27 → List Value
  | [] => []
  | x :: l => cellsG x ++ encG l
theorem encG_len (l : List S27) : (encG l).length = l.length * 3 := by
  induction l with
  | nil => rfl
  | cons x l ih => simp [encG, cellsG, ih]; omega
theorem encG_append (l m : List S27) : encG (l ++ m) = encG l ++ encG m := by
  induction l with
  | nil => rfl
  | cons x l ih => simp [encG, ih]
theorem encG_drop (l : List S27) : ∀ i, (encG l).drop (i * 3) = encG (l.drop i) := by
  induction l with
  | nil => intro i; simp [encG]
  | cons x l ih =>
    intro i
    cases i with
    | zero => simp
    | succ i =>
      rw [show (i + 1) * 3 = i * 3 + 3 by omega, List.drop_succ_cons]
      rw [show encG (x :: l) = .int .i64 x.f0 :: .string x.f1 :: .int .i64 x.f2 :: encG l from rfl]
      rw [show i * 3 + 3 = (i * 3 + 2) + 1 by omega, List.drop_succ_cons, show i * 3 + 2 = (i * 3 + 1) + 1 by omega, List.drop_succ_cons, List.drop_succ_cons]
      exact ih i
theorem encG_take (l : List S27) : ∀ i, (encG l).take (i * 3) = encG (l.take i) := by
  induction l with
  | nil => intro i; simp [encG]
  | cons x l ih =>
    intro i
    cases i with
    | zero => simp [encG]
    | succ i =>
      rw [show (i + 1) * 3 = i * 3 + 3 by omega, List.take_succ_cons]
      rw [show encG (x :: l) = .int .i64 x.f0 :: .string x.f1 :: .int .i64 x.f2 :: encG l from rfl]
      rw [show i * 3 + 3 = (i * 3 + 2) + 1 by omega, List.take_succ_cons, show i * 3 + 2 = (i * 3 + 1) + 1 by omega, List.take_succ_cons, List.take_succ_cons, ih i]
      rfl
theorem encG_at (l : List S27) (i : Nat) (h : i < l.length) : (encG l)[i * 3]? = some (.int .i64 (l.getD i z27).f0) ∧ (encG l)[i * 3 + 1]? = some (.string (l.getD i z27).f1) ∧ (encG l)[i * 3 + 2]? = some (.int .i64 (l.getD i z27).f2) := by
  have hd := encG_drop l i
  rw [List.drop_eq_getElem_cons h] at hd
  have hg : l.getD i z27 = l[i] := by simp [List.getD, List.getElem?_eq_getElem h]
  rw [hg]
  have h0 := congrArg (·[0]?) hd
  have h1 := congrArg (·[1]?) hd
  have h2 := congrArg (·[2]?) hd
  simp only [List.getElem?_drop, encG, cellsG, List.cons_append, List.nil_append, List.getElem?_cons_zero, List.getElem?_cons_succ, Nat.add_zero] at h0 h1 h2
  exact ⟨h0, h1, h2⟩

/-- A block that holds grants, and may hold more. -/
structure OwnG (w : World) (g cap : Nat) (l : List S27) : Prop where
  out : ∃ cur, w.heap[g]? = some (.cells cur 27 (0, 0)) ∧ l.length ≤ cap ∧ cap ≤ maxLen ∧ cur.size = cap * 3 ∧ cur.toList.take (l.length * 3) = encG l
theorem reps_enc {w : World} {base : Nat} {ok : Nat → Prop} {l : List S27} {inner : List Value} (h : Reps (k27.M w base ok) k27.sz l inner) : inner = encG l := by
  obtain ⟨hl, hr⟩ := h
  have hl : inner.length = l.length * 3 := hl
  apply List.ext_getElem?
  intro q
  by_cases hq : q < l.length * 3
  · obtain ⟨j, r, rfl, h3⟩ : ∃ j r, q = j * 3 + r ∧ r < 3 := ⟨q / 3, q % 3, by omega, by omega⟩
    have hi : j < l.length := by omega
    have h1 := k27_openM (hr j l[j] (List.getElem?_eq_getElem hi))
    have h1 : (inner.drop (j * 3)).take 3 = _ := h1
    obtain ⟨e0, e1, e2⟩ := encG_at l j hi
    rw [show l.getD j z27 = l[j] by simp [List.getD, List.getElem?_eq_getElem hi]] at e0 e1 e2
    have hh := congrArg (·[r]?) h1
    simp only [List.getElem?_take, List.getElem?_drop] at hh
    rw [if_pos h3] at hh
    rw [hh]
    obtain rfl | rfl | rfl : r = 0 ∨ r = 1 ∨ r = 2 := by omega
    · exact e0.symm
    · exact e1.symm
    · exact e2.symm
  · rw [List.getElem?_eq_none (by omega), List.getElem?_eq_none (by rw [encG_len]; omega)]
theorem own_of_R {w : World} {base : Nat} {ok : Nat → Prop} {v : Value} {l : List S27} (h : Kd.R k27 27 w base ok v l) (hn : 0 < l.length) : ∃ g cap, v = .slice (some ⟨g, 0, none⟩) l.length cap ∧ base ≤ g ∧ OwnG w g cap l := by
  obtain ⟨_, inner, ⟨hl, h2⟩, hr⟩ := h
  rcases h2 with ⟨_, h0⟩ | ⟨g, cap, cur, rfl, hb, hh, hle, hm, hs, ht⟩
  · omega
  · refine ⟨g, cap, rfl, hb, ⟨cur, hh, hle, hm, hs, ?_⟩⟩
    rw [← reps_enc hr]
    exact ht
theorem own_cell {w : World} {g cap : Nat} {l : List S27} (h : OwnG w g cap l) (q : Nat) (hq : q < l.length * 3) : w.cell? ⟨g, q, none⟩ = (encG l)[q]? := by
  obtain ⟨cur, hh, _, _, _, ht⟩ := h.out
  rw [blk_cell hh q, ← ht, List.getElem?_take_of_lt hq, Array.getElem?_toList]
theorem own_at {w : World} {g cap : Nat} {l : List S27} (h : OwnG w g cap l) (i : Nat) (hi : i < l.length) : w.cell? ⟨g, i * 3, none⟩ = some (.int .i64 (l.getD i z27).f0) ∧ w.cell? ⟨g, i * 3 + 1, none⟩ = some (.string (l.getD i z27).f1) ∧ w.cell? ⟨g, i * 3 + 2, none⟩ = some (.int .i64 (l.getD i z27).f2) := by
  obtain ⟨e0, e1, e2⟩ := encG_at l i hi
  exact ⟨(own_cell h _ (by omega)).trans e0, (own_cell h _ (by omega)).trans e1, (own_cell h _ (by omega)).trans e2⟩
theorem own_C {w : World} {g cap : Nat} {l : List S27} (h : OwnG w g cap l) : Kd.C k27 w (some ⟨g, 0, none⟩) l.length l := by
  obtain ⟨cur, hh, hc, hm, hs, ht⟩ := h.out
  refine ⟨rfl, Nat.le_trans hc hm, fun _ => ⟨⟨g, 0, none⟩, rfl, fun j p hp => ?_⟩⟩
  obtain ⟨hj, hp⟩ := List.getElem?_eq_some_iff.1 hp
  obtain ⟨e0, e1, e2⟩ := own_at h j hj
  rw [show l.getD j z27 = p by simp [List.getD, List.getElem?_eq_getElem hj, hp]] at e0 e1 e2
  refine ⟨cellsG p, rfl, k27_mk w p, fun i u hu => ?_⟩
  have hadd : ∀ q, (⟨g, 0, none⟩ : Addr).add q = ⟨g, q, none⟩ := fun q => by cases q <;> simp [Addr.add]
  rw [hadd]
  have hi : i = 0 ∨ i = 1 ∨ i = 2 := by
    have := (List.getElem?_eq_some_iff.1 hu).1
    simp [cellsG] at this
    omega
  rcases hi with rfl | rfl | rfl
  · simp [cellsG] at hu; subst hu; exact e0
  · simp [cellsG] at hu; subst hu; exact e1
  · simp [cellsG] at hu; subst hu; exact e2
theorem own_below {w w1 : World} {g cap : Nat} {l : List S27} (h : OwnG w g cap l) (hb : Below w.heap.size w w1) : OwnG w1 g cap l := by
  obtain ⟨cur, hh, r⟩ := h.out
  exact ⟨cur, blk_below hh hb, r⟩
/-- The bits of one of them turned. -/
def setB (l : List S27) (i : Nat) (b : Int) : List S27 := l.set i ⟨(l.getD i z27).f0, (l.getD i z27).f1, b⟩
theorem setB_len (l : List S27) (i : Nat) (b : Int) : (setB l i b).length = l.length := by simp [setB]
theorem encG_setB (b : Int) : ∀ (l : List S27) (i : Nat), i < l.length → (encG l).set (i * 3 + 2) (.int .i64 b) = encG (setB l i b) := by
  intro l
  induction l with
  | nil => intro i h; simp at h
  | cons x l ih =>
    intro i h
    cases i with
    | zero => simp [encG, cellsG, setB]
    | succ i =>
      have := ih i (by simpa using h)
      rw [show (i + 1) * 3 + 2 = i * 3 + 2 + 3 by omega]
      simp only [encG, cellsG, setB, List.cons_append, List.nil_append, List.set_cons_succ, List.getD_cons_succ] at this ⊢
      rw [this]
theorem own_setB {w : World} {g cap : Nat} {l : List S27} (h : OwnG w g cap l) (i : Nat) (hi : i < l.length) (b : Int) : OwnG (w.setCell ⟨g, i * 3 + 2, none⟩ (.int .i64 b)) g cap (setB l i b) := by
  obtain ⟨cur, hh, hc, hm, hs, ht⟩ := h.out
  refine ⟨_, blk_set hh _ _, by rw [setB_len]; exact hc, hm, by simpa using hs, ?_⟩
  rw [setB_len, ← encG_setB b l i hi, ← ht, Array.toList_setIfInBounds, List.take_set]
end Go.Proofs.YtefdfgmlmjnmlaaDoor.My
end

section
/- A row of grants of the own: append into its room. -/
namespace Go.Proofs.YtefdfgmlmjnmlaaDoor.My
open Go.RowKit Go.Proofs.YtefdfgmlmjnmlaaDoorW.PrintWords Go.Proofs.YtefdfgmlmjnmlaaDoor.Rf

theorem C_cells {w : World} {a : Addr} {ys : List S27} (h : Kd.C k27 w (some a) ys.length ys) : ∀ (j : Nat) u, (encG ys)[j]? = some u → w.cell? (a.add j) = some u := by
  intro j u hu
  have hj : j < ys.length * 3 := by rw [← encG_len]; exact (List.getElem?_eq_some_iff.1 hu).1
  obtain ⟨q, r, rfl, h3⟩ : ∃ q r, j = q * 3 + r ∧ r < 3 := ⟨j / 3, j % 3, by omega, by omega⟩
  have hq : q < ys.length := by omega
  obtain ⟨ad, e, hc⟩ := h.2.2 (by omega)
  cases e
  obtain ⟨c, hl, hK, hcell⟩ := hc q ys[q] (List.getElem?_eq_getElem hq)
  have hK := k27_open hK
  subst hK
  obtain ⟨e0, e1, e2⟩ := encG_at ys q hq
  rw [show ys.getD q z27 = ys[q] by simp [List.getD, List.getElem?_eq_getElem hq]] at e0 e1 e2
  obtain rfl | rfl | rfl : r = 0 ∨ r = 1 ∨ r = 2 := by omega
  · rw [Nat.add_zero] at hu; rw [e0] at hu; cases hu; exact hcell 0 _ rfl
  · rw [e1] at hu; cases hu; exact hcell 1 _ rfl
  · rw [e2] at hu; cases hu; exact hcell 2 _ rfl
theorem encG_one (l : List S27) : ∀ u, u ∈ encG l → u.oneCell' = true := by
  induction l with
  | nil => intro u h; cases h
  | cons x l ih =>
    intro u h
    simp only [encG, cellsG, List.cons_append, List.nil_append, List.mem_cons] at h
    rcases h with rfl | rfl | rfl | h
    · rfl
    · rfl
    · rfl
    · exact ih u h
theorem infoG : ∃ i, Tryd.prog.info? 27 = some i ∧ i.size = 3 ∧ i.bytes = 32 := by
  have h := info27
  cases hi : Tryd.prog.info? 27 with
  | none => rw [hi] at h; cases h
  | some i =>
    rw [hi] at h
    simp only [Option.map_some, Option.some.injEq, Prod.mk.injEq] at h
    exact ⟨i, rfl, h.2.1, h.2.2⟩
/-- append(s[:i], ys..) where there is room: in place. -/
theorem app_in {w : World} {g cap : Nat} {l : List S27} (h : OwnG w g cap l) (i : Nat) (hi : i ≤ l.length) (a : Addr) (c : Nat) (ys : List S27) (hy : Kd.C k27 w (some a) ys.length ys) (hm : i + ys.length ≤ cap) (ty : TypeId) :
    ∃ cs, (Builtin.append_ #[23, 23] ty #[.slice (some ⟨g, 0, none⟩) i cap, .slice (some a) ys.length c]).run Tryd.prog w = .ok (.slice (some ⟨g, 0, none⟩) (i + ys.length) cap) (w.setRow g cs) ∧ OwnG (w.setRow g cs) g cap (l.take i ++ ys) := by
  obtain ⟨cur, hh, hc, hm2, hs, ht⟩ := h.out
  obtain ⟨inf, hinf, hsz, _⟩ := infoG
  have hlen := encG_len ys
  have hcl : cur.toList.length = cap * 3 := by rw [Array.length_toList]; exact hs
  have hrun := run_append_room (P := Tryd.prog) w 23 ty 27 inf Tryd.underlying23 hinf g i cap cur hh a ys.length c (encG ys) (by rw [hsz]; exact hlen) (C_cells hy) (encG_one ys) hm (by rw [hsz, hlen, hs]; omega)
  rw [hsz] at hrun
  refine ⟨_, hrun, _, setRow_heap w g cur _ 27 (0, 0) hh, ?_, hm2, ?_, ?_⟩
  · rw [List.length_append, List.length_take]; omega
  · simp only [List.size_toArray, List.length_append, List.length_take, List.length_drop, hcl, hlen]; omega
  · have h1 : (l.take i ++ ys).length * 3 = (cur.toList.take (i * 3) ++ encG ys).length := by
      rw [List.length_append, List.length_append, List.length_take, List.length_take, hcl, hlen]; omega
    have h2 : cur.toList.take (i * 3) = encG (l.take i) := by
      rw [← encG_take, ← ht, List.take_take, Nat.min_eq_left (by omega)]
    rw [h1]
    simp only [List.take_left']
    rw [h2, encG_append]
def zG : Value := .agg #[.int .i64 0, .string ⟨#[]⟩, .int .i64 0]
theorem zero27 (w : World) : (zeroValue 27).run Tryd.prog w = .ok zG w := by kernel_rfl
theorem zeros_one (n : Nat) : ∀ u, u ∈ (Builtin.zeroCells zG.cells n).toList → u.oneCell' = true := by
  intro u hu
  simp [Builtin.zeroCells, zG, Value.cells] at hu
  obtain ⟨q, _, rfl⟩ := hu
  have : q % 3 = 0 ∨ q % 3 = 1 ∨ q % 3 = 2 := by omega
  rcases this with h | h | h <;> simp [h, Value.oneCell']
theorem clear_tail {w : World} {g cap : Nat} {l : List S27} (h : OwnG w g cap l) (n c : Nat) (hn : 0 < n) (hm : l.length + n ≤ cap) (ty : TypeId) :
    ∃ cs, (Builtin.clear_ #[23] ty #[.slice (some ⟨g, l.length * 3, none⟩) n c]).run Tryd.prog w = .ok (.tuple #[]) (w.setRow g cs) ∧ OwnG (w.setRow g cs) g cap l := by
  obtain ⟨cur, hh, hc, hm2, hs, ht⟩ := h.out
  have hzl : (Builtin.zeroCells zG.cells n).toList.length = n * 3 := by rw [Array.length_toList, size_zeroCells]; rfl
  have hcl : cur.toList.length = cap * 3 := by rw [Array.length_toList]; exact hs
  have hst := run_storeCells_at Tryd.prog g (l.length * 3) 27 (Builtin.zeroCells zG.cells n).toList 0 cur w hh (by rw [hzl, hs]; omega) (zeros_one n)
  simp only [Nat.add_zero] at hst
  obtain ⟨m, rfl⟩ : ∃ m, n = m + 1 := ⟨n - 1, by omega⟩
  refine ⟨_, by simp [Builtin.clear_, run_underlying Tryd.underlying23]; exact congrArg (fun r => Result.andThen r fun _ w' => Result.ok (Value.tuple #[]) w') hst, _, setRow_heap w g cur _ 27 (0, 0) hh, hc, hm2, ?_, ?_⟩
  · simp only [List.size_toArray, List.length_append, List.length_take, List.length_drop, hcl, hzl]; omega
  · rw [← ht]
    simp only [List.append_assoc]
    rw [List.take_append_of_le_length (by rw [List.length_take, hcl]; omega), List.take_take, Nat.min_self]
end Go.Proofs.YtefdfgmlmjnmlaaDoor.My
end

section
/- Steps of a region that draws: append, clear, a store. -/
namespace Go.Proofs.YtefdfgmlmjnmlaaDoor.My
open Go.RowKit Go.Proofs.YtefdfgmlmjnmlaaDoorW.PrintWords Go.Proofs.YtefdfgmlmjnmlaaDoor.Rf

section
variable {P : Program} {ops : Array Oper} {Q : Exit → Act → World → Prop}
theorem appends_ {oi : Oper} {N : Option Tmp} {a : Act} {w : World} {K : Act → World → Prop} (s x : Operand) (t : TypeId) (hop : oi.op = .call { callee := .builtin .append, args := #[s, x], argTypes := #[t, t] })
    (hw : Region.wanted oi (yielded ops a.tmps) = true) (hN : oi.dst = N) (v u : Value) (hs : a.eval s = v) (hx : a.eval x = u) {v' : Value} {w' : World}
    (hr : (Builtin.append_ #[t, t] oi.type #[v, u]).run P w = .ok v' w') (h : K (a.put N v') w') : if Region.wanted oi (yielded ops a.tmps) = true then Oper.wp P oi a w K Q else K (a.put N undef) w := by
  rw [if_pos hw]
  subst hN
  unfold Oper.wp execOp
  simp only [hop, resolve, invoke, builtin, Sem.run_bind, Sem.run_pure, Result.andThen_ok, List.map_toArray, List.map_cons, List.map_nil, hs, hx, hr]
  exact h
theorem appendL_ {rest : List Oper} {o : Oper} {a : Act} {w : World} (hgd : o.guard = none) (s x : Operand) (t : TypeId) (ho : o.op = .call { callee := .builtin .append, args := #[s, x], argTypes := #[t, t] })
    (v u : Value) (hs : a.eval s = v) (hx : a.eval x = u) {v' : Value} {w' : World} (hr : (Builtin.append_ #[t, t] o.type #[v, u]).run P w = .ok v' w') (h : wpList P ops Q rest (a.put o.dst v') w') : wpList P ops Q (o :: rest) a w := by
  refine wpList_plain hgd fun K hK => ?_
  unfold Oper.wp execOp
  simp only [ho, resolve, invoke, builtin, Sem.run_bind, Sem.run_pure, Result.andThen_ok, List.map_toArray, List.map_cons, List.map_nil, hs, hx, hr]
  exact hK _ _ h
theorem clearL_ {rest : List Oper} {o : Oper} {a : Act} {w : World} (hgd : o.guard = none) (s : Operand) (t : TypeId) (ho : o.op = .call { callee := .builtin .clear, args := #[s], argTypes := #[t] })
    (v : Value) (hs : a.eval s = v) {v' : Value} {w' : World} (hr : (Builtin.clear_ #[t] o.type #[v]).run P w = .ok v' w') (h : wpList P ops Q rest (a.put o.dst v') w') : wpList P ops Q (o :: rest) a w := by
  refine wpList_plain hgd fun K hK => ?_
  unfold Oper.wp execOp
  simp only [ho, resolve, invoke, builtin, Sem.run_bind, Sem.run_pure, Result.andThen_ok, List.map_toArray, List.map_cons, List.map_nil, hs, hr]
  exact hK _ _ h
end
end Go.Proofs.YtefdfgmlmjnmlaaDoor.My
end

section
set_option linter.unusedSimpArgs false
set_option linter.unusedVariables false
/- A row of grants of the own: one stored over another, fewer of them. -/
namespace Go.Proofs.YtefdfgmlmjnmlaaDoor.My
open Go.RowKit Go.Proofs.YtefdfgmlmjnmlaaDoorW.PrintWords Go.Proofs.YtefdfgmlmjnmlaaDoor.Rf

theorem encG_set (x : S27) : ∀ (l : List S27) (i : Nat), i < l.length → (((encG l).set (i * 3) (.int .i64 x.f0)).set (i * 3 + 1) (.string x.f1)).set (i * 3 + 2) (.int .i64 x.f2) = encG (l.set i x) := by
  intro l
  induction l with
  | nil => intro i h; simp at h
  | cons y l ih =>
    intro i h
    cases i with
    | zero => simp [encG, cellsG]
    | succ i =>
      have := ih i (by simpa using h)
      rw [show (i + 1) * 3 = i * 3 + 3 by omega, show i * 3 + 3 + 1 = (i * 3 + 1) + 3 by omega, show i * 3 + 3 + 2 = (i * 3 + 2) + 3 by omega]
      simp only [encG, cellsG, List.cons_append, List.nil_append, List.set_cons_succ] at this ⊢
      rw [this]
theorem own_set3 {w : World} {g cap : Nat} {l : List S27} (h : OwnG w g cap l) (i : Nat) (hi : i < l.length) (x : S27) :
    OwnG (((w.setCell ⟨g, i * 3, none⟩ (.int .i64 x.f0)).setCell ⟨g, i * 3 + 1, none⟩ (.string x.f1)).setCell ⟨g, i * 3 + 2, none⟩ (.int .i64 x.f2)) g cap (l.set i x) := by
  obtain ⟨cur, hh, hc, hm, hs, ht⟩ := h.out
  refine ⟨_, blk_set (blk_set (blk_set hh _ _) _ _) _ _, by rw [List.length_set]; exact hc, hm, by simpa using hs, ?_⟩
  rw [List.length_set, ← encG_set x l i hi, ← ht]
  simp only [Array.toList_setIfInBounds, List.take_set]
theorem own_take {w : World} {g cap : Nat} {l : List S27} (h : OwnG w g cap l) (i : Nat) : OwnG w g cap (l.take i) := by
  obtain ⟨cur, hh, hc, hm, hs, ht⟩ := h.out
  refine ⟨cur, hh, by rw [List.length_take]; omega, hm, hs, ?_⟩
  rw [List.length_take, ← encG_take, ← ht, List.take_take]
  congr 1
  omega
theorem own_frozen {w : World} {g cap : Nat} {l : List S27} (h : OwnG w g cap l) (q : Nat) : w.frozen? ⟨g, q, none⟩ = false := by
  obtain ⟨cur, hh, _⟩ := h.out
  exact blk_frozen hh q
end Go.Proofs.YtefdfgmlmjnmlaaDoor.My
end

section
set_option linter.unusedSimpArgs false
set_option linter.unusedVariables false
/- A row of grants of the own: append with a new row, copy into it. -/
namespace Go.Proofs.YtefdfgmlmjnmlaaDoor.My
open Go.RowKit Go.Proofs.YtefdfgmlmjnmlaaDoorW.PrintWords Go.Proofs.YtefdfgmlmjnmlaaDoor.Rf

theorem infoG2 : ∃ i, Tryd.prog.info? 27 = some i ∧ i.size = 3 ∧ i.bytes = 32 ∧ i.zero = some zG := by
  have h := info27
  cases hi : Tryd.prog.info? 27 with
  | none => rw [hi] at h; cases h
  | some i =>
    rw [hi] at h
    simp only [Option.map_some, Option.some.injEq, Prod.mk.injEq] at h
    exact ⟨i, rfl, h.2.1, h.2.2, h.1⟩
theorem zeros_len (k : Nat) : (Builtin.zeroCells zG.cells k).toList.length = k * 3 := by
  rw [Array.length_toList, size_zeroCells]; rfl
/-- A new block that holds grants and zeros behind them. -/
theorem own_new (w : World) (l : List S27) (k : Nat) (hm : l.length + k ≤ maxLen) (cs : Array Value) (hs : cs.toList = encG l ++ (Builtin.zeroCells zG.cells k).toList) :
    OwnG (w.drew.alloc (.cells cs 27)) w.heap.size (l.length + k) l := by
  refine ⟨cs, blk_new w.drew _, by omega, hm, ?_, ?_⟩
  · rw [← Array.length_toList, hs, List.length_append, encG_len, zeros_len]; omega
  · rw [hs, List.take_append_of_le_length (by rw [encG_len]; omega), ← encG_len, List.take_length]
theorem below_new (w : World) (o : Obj) (b : Nat) (hb : b ≤ w.heap.size) : Below b w (w.drew.alloc o) :=
  (below_alloc (Below.drew (Below.refl w.heap.size w)) o).mono hb
theorem own_olds {w : World} {q cap : Nat} {l : List S27} (h : OwnG w q cap l) (i : Nat) (hi : i ≤ l.length) (len c : Nat) : (Builtin.firstCells 3 i (.slice (some ⟨q, 0, none⟩) len c)).run Tryd.prog w = .ok (encG (l.take i)).toArray w := by
  refine run_firstCells_some w 3 i ⟨q, 0, none⟩ len c (encG (l.take i)) (by rw [encG_len, List.length_take]; omega) (fun j v hj => ?_)
  have hadd : (⟨q, 0, none⟩ : Addr).add j = ⟨q, j, none⟩ := by cases j <;> simp [Addr.add]
  have hlt : j < i * 3 := by
    have := (List.getElem?_eq_some_iff.1 hj).1
    rw [encG_len, List.length_take] at this
    omega
  rw [hadd, own_cell h j (by omega)]
  rw [← encG_take, List.getElem?_take_of_lt hlt] at hj
  exact hj

/-- append(s[:i], ys..) where there is no room. -/
theorem app_grow {w : World} {q cap : Nat} {l : List S27} (h : OwnG w q cap l) (i : Nat) (hi : i ≤ l.length) (a : Addr) (c : Nat) (ys : List S27) (hy : Kd.C k27 w (some a) ys.length ys) (hg : cap < i + ys.length) (hb : (i + ys.length) * 32 ≤ 140737488355328) (ty : TypeId) :
    ∃ cap2 w2, (Builtin.append_ #[23, 23] ty #[.slice (some ⟨q, 0, none⟩) i cap, .slice (some a) ys.length c]).run Tryd.prog w = .ok (.slice (some ⟨w.heap.size, 0, none⟩) (i + ys.length) cap2) w2 ∧ OwnG w2 w.heap.size cap2 (l.take i ++ ys) ∧ ∀ b, b ≤ w.heap.size → Below b w w2 := by
  obtain ⟨inf, hinf, hsz, hby, hze⟩ := infoG2
  have hsrc : Src Tryd.prog inf.size 23 (.slice (some a) ys.length c) ys.length (encG ys) w := by
    rw [hsz]
    exact Src.ofSlice w Tryd.underlying23 a ys.length c (encG ys) (encG_len ys) (C_cells hy) (encG_one ys)
  have hold : (Builtin.firstCells inf.size i (.slice (some ⟨q, 0, none⟩) i cap)).run Tryd.prog w.drew = .ok (encG (l.take i)).toArray w.drew := by
    rw [hsz]
    exact own_olds (own_below h (below_drew (Below.refl _ _))) i hi i cap
  have hrun := run_append_grow_src w 23 23 ty 27 inf zG Tryd.underlying23 hinf hze (some ⟨q, 0, none⟩) i cap (encG (l.take i)) hold _ ys.length (encG ys) hsrc hg (by omega) (by rw [hby]; exact growslice_fits hg hb)
  have hlen : (l.take i ++ ys).length = i + ys.length := by rw [List.length_append, List.length_take]; omega
  have hge := grownCap_ge w (i + ys.length) cap 27
  refine ⟨_, _, hrun, ?_, fun b hbb => below_new w _ b hbb⟩
  have := own_new w (l.take i ++ ys) (grownCap w (i + ys.length) cap 27 - (i + ys.length)) (by
    rw [hlen]
    have := grownCap_le_maxLen w (i + ys.length) cap 27 (by simp only [maxLen]; omega)
    omega) ((encG (l.take i) ++ encG ys).toArray ++ Builtin.zeroCells zG.cells (grownCap w (i + ys.length) cap 27 - (i + ys.length))) (by rw [encG_append]; simp)
  rw [hlen, show i + ys.length + (grownCap w (i + ys.length) cap 27 - (i + ys.length)) = grownCap w (i + ys.length) cap 27 by omega] at this
  exact this
/-- append(nil, ys..). -/
theorem app_nil {w : World} (a : Addr) (c : Nat) (ys : List S27) (hy : Kd.C k27 w (some a) ys.length ys) (h0 : 0 < ys.length) (hb : ys.length * 32 ≤ 140737488355328) (ty : TypeId) :
    ∃ cap2 w2, (Builtin.append_ #[23, 23] ty #[.slice none 0 0, .slice (some a) ys.length c]).run Tryd.prog w = .ok (.slice (some ⟨w.heap.size, 0, none⟩) ys.length cap2) w2 ∧ OwnG w2 w.heap.size cap2 ys ∧ ∀ b, b ≤ w.heap.size → Below b w w2 := by
  obtain ⟨inf, hinf, hsz, hby, hze⟩ := infoG2
  have hsrc : Src Tryd.prog inf.size 23 (.slice (some a) ys.length c) ys.length (encG ys) w := by
    rw [hsz]
    exact Src.ofSlice w Tryd.underlying23 a ys.length c (encG ys) (encG_len ys) (C_cells hy) (encG_one ys)
  have hold : (Builtin.firstCells inf.size 0 (.slice none 0 0)).run Tryd.prog w.drew = .ok (([] : List Value)).toArray w.drew := by
    rw [hsz]
    exact run_firstCells_none w.drew 3 0 0 0
  have hrun := run_append_grow_src w 23 23 ty 27 inf zG Tryd.underlying23 hinf hze none 0 0 [] hold _ ys.length (encG ys) hsrc (by omega) (by omega) (by rw [hby, Nat.zero_add]; exact growslice_fits h0 hb)
  simp only [Nat.zero_add, List.nil_append] at hrun
  have hge := grownCap_ge w ys.length 0 27
  refine ⟨_, _, hrun, ?_, fun b hbb => below_new w _ b hbb⟩
  have := own_new w ys (grownCap w ys.length 0 27 - ys.length) (by
    have := grownCap_le_maxLen w ys.length 0 27 (by simp only [maxLen]; omega)
    omega) ((encG ys).toArray ++ Builtin.zeroCells zG.cells (grownCap w ys.length 0 27 - ys.length)) (by simp)
  rw [show ys.length + (grownCap w ys.length 0 27 - ys.length) = grownCap w ys.length 0 27 by omega] at this
  exact this
/-- append(s[:i], make(..)..) where there is no room. -/
theorem app_zeros {w : World} {q cap : Nat} {l : List S27} (h : OwnG w q cap l) (i : Nat) (hi : i ≤ l.length) (k : Nat) (h0 : 0 < k) (hg : cap < i + k) (hb : (i + k) * 32 ≤ 140737488355328) (ty : TypeId) :
    ∃ cap2 w2, (Builtin.append_ #[23, 3] ty #[.slice (some ⟨q, 0, none⟩) i cap, .int .i64 k]).run Tryd.prog w = .ok (.slice (some ⟨w.heap.size, 0, none⟩) (i + k) cap2) w2 ∧ i + k ≤ cap2 ∧ OwnG w2 w.heap.size cap2 (l.take i) ∧ ∀ b, b ≤ w.heap.size → Below b w w2 := by
  obtain ⟨inf, hinf, hsz, hby, hze⟩ := infoG2
  have hold : (Builtin.firstCells inf.size i (.slice (some ⟨q, 0, none⟩) i cap)).run Tryd.prog w.drew = .ok (encG (l.take i)).toArray w.drew := by
    rw [hsz]
    exact own_olds (own_below h (below_drew (Below.refl _ _))) i hi i cap
  have hrun := Go.Lib.run_append_grow_zeros w 23 3 ty 27 inf zG .i64 .i64 Tryd.underlying23 Tryd.underlying3 hinf hze (some ⟨q, 0, none⟩) i cap (encG (l.take i)) hold k h0 (by omega) hg (by omega) (by rw [hby]; omega) (by rw [hby]; exact growslice_fits hg hb)
  have hlen : (l.take i).length = i := by rw [List.length_take]; omega
  have hge := grownCap_ge w (i + k) cap 27
  have hmx := grownCap_le_maxLen w (i + k) cap 27 (by simp only [maxLen]; omega)
  refine ⟨_, _, hrun, hge, ?_, fun b hbb => below_new w _ b hbb⟩
  refine ⟨_, blk_new w.drew _, by rw [hlen]; omega, hmx, ?_, ?_⟩
  · rw [← Array.length_toList]
    simp only [Array.toList_append, List.length_append, zeros_len, encG_len, hlen]
    omega
  · simp only [Array.toList_append, List.append_assoc]
    rw [List.take_append_of_le_length (by rw [encG_len]; omega), ← encG_len, List.take_length]

/-- copy(s[j:], ys): ys over what stands from j on. -/
theorem copy_own {w : World} {q cap : Nat} {l : List S27} (h : OwnG w q cap l) (j : Nat) (hj : j ≤ l.length) (a : Addr) (ys : List S27) (hy : Kd.C k27 w (some a) ys.length ys) (hm : j + ys.length ≤ cap) (n1 c1 n2 c2 : Nat) (hmin : Nat.min n2 n1 = ys.length) (ty : TypeId) :
    ∃ cs, (Builtin.copy_ #[23, 23] ty #[.slice (some ⟨q, j * 3, none⟩) n1 c1, .slice (some a) n2 c2]).run Tryd.prog w = .ok (goInt ys.length) (w.setRow q cs) ∧ OwnG (w.setRow q cs) q cap (l.take j ++ ys ++ l.drop (j + ys.length)) := by
  obtain ⟨inf, hinf, hsz, hby, hze⟩ := infoG2
  obtain ⟨cur, hh, hc, hm2, hs, ht⟩ := h.out
  have hel := encG_len ys
  have hcl : cur.toList.length = cap * 3 := by rw [Array.length_toList]; exact hs
  have hf := run_firstCells_some (P := Tryd.prog) w 3 ys.length a n2 c2 (encG ys) hel (C_cells hy)
  have hst := run_storeCells_at Tryd.prog q (j * 3) 27 (encG ys) 0 cur w hh (by rw [hel, hs]; omega) (encG_one ys)
  simp only [Nat.add_zero] at hst
  refine ⟨(cur.toList.take (j * 3) ++ encG ys ++ cur.toList.drop (j * 3 + (encG ys).length)).toArray, ?_, _, setRow_heap w q cur _ 27 (0, 0) hh, ?_, hm2, ?_, ?_⟩
  · simp [Builtin.copy_, run_underlying Tryd.underlying23, Builtin.lenOf, sizeOf, typeInfo, hinf, hsz, hmin, hf, hst]
  · rw [List.length_append, List.length_append, List.length_take, List.length_drop]; omega
  · simp only [List.size_toArray, List.length_append, List.length_take, List.length_drop, hcl, hel]; omega
  · have h2 : cur.toList.take (j * 3) = encG (l.take j) := by
      rw [← encG_take, ← ht, List.take_take, Nat.min_eq_left (by omega)]
    have h3 : (cur.toList.drop (j * 3 + (encG ys).length)).take ((l.drop (j + ys.length)).length * 3) = encG (l.drop (j + ys.length)) := by
      rw [← encG_drop, ← ht, List.drop_take, hel, List.length_drop, show (j + ys.length) * 3 = j * 3 + ys.length * 3 by omega, show (l.length - (j + ys.length)) * 3 = l.length * 3 - (j * 3 + ys.length * 3) by omega]
    rw [encG_append, encG_append, ← h2, ← h3]
    have h4 : (cur.toList.take (j * 3)).length = j * 3 := by rw [List.length_take]; omega
    have h5 : (l.take j ++ ys ++ l.drop (j + ys.length)).length * 3 = (cur.toList.take (j * 3) ++ encG ys).length + (l.drop (j + ys.length)).length * 3 := by
      rw [List.length_append, List.length_append, List.length_append, h4, hel, List.length_take]; omega
    rw [h5]
    simp only [List.take_length_add_append]
theorem own_dropC {w : World} {q cap : Nat} {l : List S27} (h : OwnG w q cap l) (i : Nat) (hi : i < l.length) : Kd.C k27 w (some ⟨q, i * 3, none⟩) (l.drop i).length (l.drop i) := by
  have hlc : l.length ≤ cap := by obtain ⟨_, _, h, _⟩ := h.out; exact h
  have h2 := Kd.C_drop (c := cap) (own_C h) (Nat.le_of_lt hi) hlc
  rw [if_neg (by omega)] at h2
  have hadd : ∀ q2, (⟨q, 0, none⟩ : Addr).add q2 = ⟨q, q2, none⟩ := fun q2 => by cases q2 <;> simp [Addr.add]
  have h3 : (some (⟨q, 0, none⟩ : Addr)).map (·.add (i * k27.sz)) = some ⟨q, i * 3, none⟩ := congrArg some (hadd _)
  rw [h3] at h2
  exact h2
/-- The two do not overlap. -/
theorem overlaps_no (w : World) (y q cy cq : Nat) (ys l : List S27) (o lb cb : Nat) (hne : y ≠ q) (hy : OwnG w y cy ys) (hq : OwnG w q cq l) (h0 : 0 < cq) (n c : Nat) :
    (callFunc 92 #[.slice (some ⟨y, 0, none⟩) n c, .slice (some ⟨q, o, none⟩) lb cb]).run Tryd.prog w = .ok (.value (.bool false)) w := by
  obtain ⟨cy1, hh1, _, _, hs1, _⟩ := hy.out
  obtain ⟨cq1, hh2, _, _, hs2, _⟩ := hq.out
  have hz : ∀ w, (Go.sizeOf 27).run Tryd.prog w = .ok 3 w := fun w => by
    obtain ⟨inf, hinf, hsz, _⟩ := infoG2
    simp [sizeOf, typeInfo, hinf, hsz]
  rw [run_callFunc_extern Tryd.func92 (by kernel_rfl) (by kernel_rfl) (by kernel_rfl) (e := Extern.SlicesOverlaps.overlaps #[23, 23] #[4]) (by kernel_rfl),
    Lib.run_overlaps_apart w 23 4 27 Tryd.underlying23 3 hz ⟨y, 0, none⟩ ⟨q, o, none⟩ n c lb cb hne 27 27 cy1.size cq1.size (by simp [World.shape?, hh1]) (by simp [World.shape?, hh2]) (by omega) (blk_frozen hh1 0) (blk_frozen hh1 _)]
  rfl

section
variable {P : Program} {ops : Array Oper} {Q : Exit → Act → World → Prop}
theorem copyL_ {rest : List Oper} {o : Oper} {a : Act} {w : World} (hgd : o.guard = none) (d s : Operand) (t : TypeId) (ho : o.op = .call { callee := .builtin .copy, args := #[d, s], argTypes := #[t, t] })
    (v u : Value) (hd : a.eval d = v) (hs : a.eval s = u) {v' : Value} {w' : World} (hr : (Builtin.copy_ #[t, t] o.type #[v, u]).run P w = .ok v' w') (h : wpList P ops Q rest (a.put o.dst v') w') : wpList P ops Q (o :: rest) a w := by
  refine wpList_plain hgd fun K hK => ?_
  unfold Oper.wp execOp
  simp only [ho, resolve, invoke, builtin, Sem.run_bind, Sem.run_pure, Result.andThen_ok, List.map_toArray, List.map_cons, List.map_nil, hd, hs, hr]
  exact hK _ _ h
theorem copys_ {o : Oper} {a : Act} {w : World} {K : Act → World → Prop} {E : Prop} (hgd : o.guard = none) (d s : Operand) (t : TypeId) (ho : o.op = .call { callee := .builtin .copy, args := #[d, s], argTypes := #[t, t] })
    (v u : Value) (hd : a.eval d = v) (hs : a.eval s = u) {v' : Value} {w' : World} (hr : (Builtin.copy_ #[t, t] o.type #[v, u]).run P w = .ok v' w') (h : K (a.put o.dst v') w') : if Region.wanted o (yielded ops a.tmps) = true then Oper.wp P o a w K Q else E := by
  have hw : Region.wanted o (yielded ops a.tmps) = true := by simp [Region.wanted, hgd]
  rw [if_pos hw]
  unfold Oper.wp execOp
  simp only [ho, resolve, invoke, builtin, Sem.run_bind, Sem.run_pure, Result.andThen_ok, List.map_toArray, List.map_cons, List.map_nil, hd, hs, hr]
  exact h
theorem appendL2_ {rest : List Oper} {o : Oper} {a : Act} {w : World} (hgd : o.guard = none) (s x : Operand) (t tn : TypeId) (ho : o.op = .call { callee := .builtin .append, args := #[s, x], argTypes := #[t, tn] })
    (v u : Value) (hs : a.eval s = v) (hx : a.eval x = u) {v' : Value} {w' : World} (hr : (Builtin.append_ #[t, tn] o.type #[v, u]).run P w = .ok v' w') (h : wpList P ops Q rest (a.put o.dst v') w') : wpList P ops Q (o :: rest) a w := by
  refine wpList_plain hgd fun K hK => ?_
  unfold Oper.wp execOp
  simp only [ho, resolve, invoke, builtin, Sem.run_bind, Sem.run_pure, Result.andThen_ok, List.map_toArray, List.map_cons, List.map_nil, hs, hx, hr]
  exact hK _ _ h
end
end Go.Proofs.YtefdfgmlmjnmlaaDoor.My
end

section
set_option linter.unusedSimpArgs false
set_option linter.unusedVariables false
/- slices.Insert of one grant into an own row. -/
namespace Go.Proofs.YtefdfgmlmjnmlaaDoor.My
open Go.RowKit Go.Proofs.YtefdfgmlmjnmlaaDoorW.PrintWords Go.Proofs.YtefdfgmlmjnmlaaDoor.Rf
open Go.Proofs.YtefdfgmlmjnmlaaDoorW.PrintLast Go.Proofs.YtefdfgmlmjnmlaaDoorW.PrintMore

structure InsPost (l : List S27) (i : Nat) (x : S27) (b : Nat) (w : World) (e : Ending) (w' : World) : Prop where
  out : ∃ q cap, e = .returned (.slice (some ⟨q, 0, none⟩) (l.length + 1) cap) ∧ b ≤ q ∧ OwnG w' q cap (l.take i ++ x :: l.drop i)
  below : Below b w w'
theorem own_upto {w w1 : World} {g cap b : Nat} {l : List S27} (h : OwnG w g cap l) (hg : g < b) (hb : Below b w w1) : OwnG w1 g cap l := by
  obtain ⟨cur, hh, r⟩ := h.out
  exact ⟨cur, (hb.block g hg).trans hh, r⟩
theorem below_setRow {B g : Nat} {w0 w : World} (hb : Below B w0 w) (hg : B ≤ g) (cs : Array Value) : Below B w0 (w.setRow g cs) :=
  ⟨hb.os, hb.tape, hb.output, by rw [setRow_size]; exact hb.size, fun k hk => by rw [setRow_other _ _ _ _ (by omega)]; exact hb.block k hk⟩
theorem OwnG.le {w : World} {g cap : Nat} {l : List S27} (h : OwnG w g cap l) : l.length ≤ cap := by obtain ⟨_, _, h, _⟩ := h.out; exact h
theorem OwnG.max {w : World} {g cap : Nat} {l : List S27} (h : OwnG w g cap l) : cap ≤ 9223372036854775807 := by obtain ⟨_, _, _, h, _⟩ := h.out; exact h
theorem OwnG.lt {w : World} {g cap : Nat} {l : List S27} (h : OwnG w g cap l) : g < w.heap.size := by obtain ⟨_, h, _⟩ := h.out; exact blk_lt h

set_option maxHeartbeats 4000000 in
set_option maxRecDepth 100000 in
theorem ins_end_nil (x : S27) (y b : Nat) (w : World) (hy : OwnG w y 1 [x]) (hb : b ≤ w.heap.size) :
    Calls Tryd.prog 63 #[.slice none 0 0, .int .i64 0, .slice (some ⟨y, 0, none⟩) 1 1] w (InsPost [] 0 x b w) := by
  obtain ⟨cap2, w2, hrun, hown, hbel⟩ := app_nil ⟨y, 0, none⟩ 1 [x] (own_C hy) (by simp) (by simp) 23
  simp only [List.length_singleton] at hrun
  have HRUN := Aside0.mk hrun
  have HOWN := Aside0.mk hown
  clear hrun hown
  go_enter Tryd.func63, Tryd.ntmps63
  go_wp2_with (refine appendL_ rfl (.tmp 23) (.tmp 24) 23 rfl (.slice none 0 0) (.slice (some ⟨y, 0, none⟩) 1 1) ?_ ?_ HRUN.out ?_ <;> first | rfl | (simp; done) | skip)
  go_ret
  exact ⟨⟨w.heap.size, cap2, rfl, hb, HOWN.out⟩, hbel b hb⟩

set_option maxHeartbeats 4000000 in
set_option maxRecDepth 100000 in
theorem ins_end_room (l : List S27) (x : S27) (q cap y b : Nat) (w : World) (h : OwnG w q cap l) (hy : OwnG w y 1 [x]) (hb : b ≤ q) (hr : l.length < cap) :
    Calls Tryd.prog 63 #[.slice (some ⟨q, 0, none⟩) l.length cap, .int .i64 l.length, .slice (some ⟨y, 0, none⟩) 1 1] w (InsPost l l.length x b w) := by
  obtain ⟨cs, hrun, hown⟩ := app_in h l.length (Nat.le_refl _) ⟨y, 0, none⟩ 1 [x] (own_C hy) (by simp; omega) 23
  simp only [List.length_singleton, List.take_length] at hrun hown
  have HRUN := Aside0.mk hrun
  have HOWN := Aside0.mk hown
  have hcap : ¬ cap = l.length := by omega
  have hi0 : (0 : Int) ≤ (l.length : Int) := by omega
  have hm := h.max
  clear hrun hown
  go_enter Tryd.func63, Tryd.ntmps63
  go_wp2_with (refine appendL_ rfl (.tmp 23) (.tmp 24) 23 rfl (.slice (some ⟨q, 0, none⟩) l.length cap) (.slice (some ⟨y, 0, none⟩) 1 1) ?_ ?_ HRUN.out ?_ <;> first | rfl | (simp; done) | skip)
  go_ret
  exact ⟨⟨q, cap, rfl, hb, by rw [List.take_length, List.drop_length]; exact HOWN.out⟩, below_setRow (Below.refl _ _) hb _⟩

set_option maxHeartbeats 4000000 in
set_option maxRecDepth 100000 in
theorem ins_end_grow (l : List S27) (x : S27) (q cap y b : Nat) (w : World) (h : OwnG w q cap l) (hy : OwnG w y 1 [x]) (hb : b ≤ q) (hr : cap = l.length) (hl : l.length ≤ 64) :
    Calls Tryd.prog 63 #[.slice (some ⟨q, 0, none⟩) l.length cap, .int .i64 l.length, .slice (some ⟨y, 0, none⟩) 1 1] w (InsPost l l.length x b w) := by
  subst hr
  obtain ⟨cap2, w2, hrun, hown, hbel⟩ := app_grow h l.length (Nat.le_refl _) ⟨y, 0, none⟩ 1 [x] (own_C hy) (by simp) (by simp; omega) 23
  simp only [List.length_singleton, List.take_length] at hrun hown
  have HRUN := Aside0.mk hrun
  have HOWN := Aside0.mk hown
  have hi0 : (0 : Int) ≤ (l.length : Int) := by omega
  have hlt := h.lt
  clear hrun hown
  go_enter Tryd.func63, Tryd.ntmps63
  go_wp2_with (refine appendL_ rfl (.tmp 23) (.tmp 24) 23 rfl (.slice (some ⟨q, 0, none⟩) l.length l.length) (.slice (some ⟨y, 0, none⟩) 1 1) ?_ ?_ HRUN.out ?_ <;> first | rfl | (simp; done) | skip)
  go_ret
  exact ⟨⟨w.heap.size, cap2, rfl, by omega, by rw [List.take_length, List.drop_length]; exact HOWN.out⟩, hbel b (by omega)⟩
end Go.Proofs.YtefdfgmlmjnmlaaDoor.My
end

section
set_option linter.unusedSimpArgs false
set_option linter.unusedVariables false
/- slices.Insert of one grant into an own row: in the middle. -/
namespace Go.Proofs.YtefdfgmlmjnmlaaDoor.My
open Go.RowKit Go.Proofs.YtefdfgmlmjnmlaaDoorW.PrintWords Go.Proofs.YtefdfgmlmjnmlaaDoor.Rf
open Go.Proofs.YtefdfgmlmjnmlaaDoorW.PrintLast Go.Proofs.YtefdfgmlmjnmlaaDoorW.PrintMore

theorem own_other {w : World} {g k cap : Nat} {l : List S27} (h : OwnG w g cap l) (hne : g ≠ k) (cs : Array Value) : OwnG (w.setRow k cs) g cap l := by
  obtain ⟨cur, hh, r⟩ := h.out
  exact ⟨cur, by rw [setRow_other _ _ _ _ hne]; exact hh, r⟩
theorem own_drew {w : World} {g cap : Nat} {l : List S27} (h : OwnG w g cap l) : OwnG w.drew g cap l := own_below h (below_drew (Below.refl _ _))
theorem ins_list1 (l : List S27) (i : Nat) (hi : i < l.length) (x : S27) : ((l.take i).take i ++ [x] ++ (l.take i).drop (i + [x].length)) = l.take i ++ [x] := by
  have h2 : (l.take i).drop (i + [x].length) = [] := List.drop_eq_nil_of_le (by rw [List.length_take]; simp; omega)
  rw [h2, List.take_take, Nat.min_self, List.append_nil]
theorem ins_list2 (l : List S27) (i : Nat) (hi : i < l.length) (x : S27) : ((l.take i ++ [x]).take (i + 1) ++ l.drop i ++ (l.take i ++ [x]).drop (i + 1 + (l.drop i).length)) = l.take i ++ x :: l.drop i := by
  have h1 : (l.take i ++ [x]).length = i + 1 := by rw [List.length_append, List.length_take]; simp; omega
  have h2 : (l.take i ++ [x]).drop (i + 1 + (l.drop i).length) = [] := List.drop_eq_nil_of_le (by omega)
  rw [h2, List.take_of_length_le (by omega), List.append_nil, List.append_assoc]
  rfl
theorem ins_list3 (l : List S27) (i : Nat) (hi : i < l.length) : (l.take (i + 1) ++ l.drop i ++ l.drop (i + 1 + (l.drop i).length)) = l.take (i + 1) ++ l.drop i := by
  have h2 : l.drop (i + 1 + (l.drop i).length) = [] := List.drop_eq_nil_of_le (by rw [List.length_drop]; omega)
  rw [h2, List.append_nil]
theorem ins_list4 (l : List S27) (i : Nat) (hi : i < l.length) (x : S27) : ((l.take (i + 1) ++ l.drop i).take i ++ [x] ++ (l.take (i + 1) ++ l.drop i).drop (i + [x].length)) = l.take i ++ x :: l.drop i := by
  have h1 : (l.take (i + 1)).length = i + 1 := by rw [List.length_take]; omega
  rw [List.take_append_of_le_length (by omega), List.take_take, Nat.min_eq_left (by omega)]
  rw [show i + [x].length = (l.take (i + 1)).length by rw [h1]; rfl, List.drop_left, List.append_assoc]
  rfl

set_option maxHeartbeats 4000000 in
set_option maxRecDepth 100000 in
theorem ins_grow (l : List S27) (x : S27) (q cap y b i : Nat) (w : World) (h : OwnG w q cap l) (hy : OwnG w y 1 [x]) (hb : b ≤ q) (hi : i < l.length) (hr : cap = l.length) (hl : l.length ≤ 64) :
    Calls Tryd.prog 63 #[.slice (some ⟨q, 0, none⟩) l.length cap, .int .i64 i, .slice (some ⟨y, 0, none⟩) 1 1] w (InsPost l i x b w) := by
  have hlt := h.lt
  have hylt := hy.lt
  obtain ⟨cap2, w2, hrun, hge, hown, hbel⟩ := app_zeros h i (by omega) (l.length + 1 - i) (by omega) (by omega) (by omega) 23
  rw [show i + (l.length + 1 - i) = l.length + 1 by omega] at hrun hge
  rw [show ((l.length + 1 - i : Nat) : Int) = (l.length : Int) + 1 - (i : Int) by omega] at hrun
  have hb2 := hbel w.heap.size (Nat.le_refl _)
  have hy2 := own_upto hy hylt hb2
  have hq2 := own_upto h hlt hb2
  have hltl : (l.take i).length = i := by rw [List.length_take]; omega
  obtain ⟨cs3, hrun3, hown3⟩ := copy_own hown i (by omega) ⟨y, 0, none⟩ [x] (own_C hy2) (by simp; omega) (l.length + 1 - i) (cap2 - i) 1 1 (by simp [Nat.min_def]; omega) 3
  rw [ins_list1 l i hi x] at hown3
  have hy3 : q ≠ w.heap.size := by omega
  have hq3 := own_other hq2 hy3 cs3
  have hb3 : Below b w (w2.setRow w.heap.size cs3) := below_setRow (hbel b (by omega)) (by omega) _
  have hlen3 : (l.take i ++ [x]).length = i + 1 := by rw [List.length_append, hltl]; rfl
  obtain ⟨cs4, hrun4, hown4⟩ := copy_own (own_drew hown3) (i + 1) (by omega) ⟨q, i * 3, none⟩ (l.drop i) (own_dropC (own_drew hq3) i hi) (by rw [List.length_drop]; omega) (l.length - i) (cap2 - (i + 1)) (l.length - i) (cap - i) (by rw [List.length_drop]; simp only [Nat.min_def]; split <;> omega) 3
  rw [ins_list2 l i hi x] at hown4
  have HRUN := Aside0.mk hrun
  have HRUN3 := Aside0.mk hrun3
  have HRUN4 := Aside0.mk hrun4
  have HOWN4 := Aside0.mk hown4
  have HB4 : Aside0 (Below b w ((w2.setRow w.heap.size cs3).drew.setRow w.heap.size cs4)) := ⟨below_setRow (below_drew hb3) (by omega) _⟩
  clear hrun hrun3 hrun4 hown hown3 hown4 hb2 hb3 hq2 hq3 hy2 hlen3 hltl h hy
  subst hr
  have hne : ((i : Int) == (l.length : Int)) = false := by simp; omega
  have hi0 : (0 : Int) ≤ (i : Int) := by omega
  have hi1 : (i : Int) ≤ (l.length : Int) := by omega
  have hi2 : i ≤ l.length := by omega
  have hi3 : ¬ l.length = i := by omega
  have hi4 : ¬ cap2 = i := by omega
  have hi5 : ¬ cap2 = i + 1 := by omega
  have mixed : Tryd.prog.follows Departure.mixedOrders = true := by kernel_rfl
  have hj1 : (i : Int) + 1 ≤ (l.length : Int) + 1 := by omega
  have hj2 : (0 : Int) ≤ (i : Int) + 1 := by omega
  have hj3 : ((i : Int) + 1).toNat = i + 1 := by omega
  have hj4 : i + 1 ≤ l.length + 1 := by omega
  have hj5 : (i : Int) ≤ (l.length : Int) + 1 := by omega
  have hw1 : IntKind.i64.wrap ((i : Int) + 1) = (i : Int) + 1 := by rw [IntKind.wrap_i64]; omega
  go_enter Tryd.func63, Tryd.ntmps63
  go_wp2_with (first
    | (refine appendL2_ rfl (.tmp 34) (.tmp 39) 23 3 rfl (.slice (some ⟨q, 0, none⟩) i l.length) (.int .i64 ((l.length : Int) + 1 - (i : Int))) ?_ ?_ HRUN.out ?_ <;> first | rfl | (simp; done) | skip)
    | (refine copyL_ rfl (.tmp 43) (.tmp 44) 23 rfl (.slice (some ⟨w.heap.size, i * 3, none⟩) (l.length + 1 - i) (cap2 - i)) (.slice (some ⟨y, 0, none⟩) 1 1) ?_ ?_ HRUN3.out ?_ <;> first | rfl | (simp; done) | skip))
  go_region_law_o (refine copys_ rfl (.tmp 50) (.tmp 53) 23 rfl (.slice (some ⟨w.heap.size, (i + 1) * 3, none⟩) (l.length - i) (cap2 - (i + 1))) (.slice (some ⟨q, i * 3, none⟩) (l.length - i) (l.length - i)) (by simp [Act.eval, Act.put]) (by simp [Act.eval, Act.put]) HRUN4.out ?_)
  go_wp2
  go_ret
  exact ⟨⟨w.heap.size, cap2, rfl, by omega, HOWN4.out⟩, HB4.out⟩

set_option maxHeartbeats 4000000 in
set_option maxRecDepth 100000 in
theorem ins_shift (l : List S27) (x : S27) (q cap y b i : Nat) (w : World) (h : OwnG w q cap l) (hy : OwnG w y 1 [x]) (hyq : y ≠ q) (hb : b ≤ q) (hi : i < l.length) (hr : l.length < cap) (hl : l.length ≤ 64) :
    Calls Tryd.prog 63 #[.slice (some ⟨q, 0, none⟩) l.length cap, .int .i64 i, .slice (some ⟨y, 0, none⟩) 1 1] w (InsPost l i x b w) := by
  have hmax := h.max
  obtain ⟨cs2, hrun2, hown2⟩ := copy_own (own_drew h) (i + 1) (by omega) ⟨q, i * 3, none⟩ (l.drop i) (own_dropC (own_drew h) i hi) (by rw [List.length_drop]; omega) (l.length - i) (cap - (i + 1)) (l.length + 1 - i) (cap - i) (by rw [List.length_drop]; simp only [Nat.min_def]; split <;> omega) 3
  rw [ins_list3 l i hi] at hown2
  have hy2 := own_other (own_drew hy) hyq cs2
  obtain ⟨cs3, hrun3, hown3⟩ := copy_own hown2 i (by rw [List.length_append, List.length_take]; omega) ⟨y, 0, none⟩ [x] (own_C hy2) (by simp; omega) (l.length + 1 - i) (cap - i) 1 1 (by simp [Nat.min_def]; omega) 3
  rw [ins_list4 l i hi x] at hown3
  have hov := fun lb cb => overlaps_no w y q 1 cap [x] l ((i + 1) * 3) lb cb hyq hy h (by omega) 1 1
  have HB3 : Aside0 (Below b w ((w.drew.setRow q cs2).setRow q cs3)) := ⟨below_setRow (below_setRow (below_drew (Below.refl _ _)) hb _) hb _⟩
  have HRUN2 := Aside0.mk hrun2
  have HRUN3 := Aside0.mk hrun3
  have HOWN3 := Aside0.mk hown3
  clear hrun2 hrun3 hown2 hown3 hy2 h hy
  have hne : ((i : Int) == (l.length : Int)) = false := by simp; omega
  have hi0 : (0 : Int) ≤ (i : Int) := by omega
  have hi1 : (i : Int) ≤ (l.length : Int) := by omega
  have hi2 : i ≤ l.length := by omega
  have hi3 : ¬ cap = i := by omega
  have hi5 : ¬ cap = i + 1 := by omega
  have hro : decide ((cap : Int) < (l.length : Int) + 1) = false := decide_eq_false (by omega)
  have mixed : Tryd.prog.follows Departure.mixedOrders = true := by kernel_rfl
  have hj1 : (i : Int) + 1 ≤ (l.length : Int) + 1 := by omega
  have hj2 : (0 : Int) ≤ (i : Int) + 1 := by omega
  have hj3 : ((i : Int) + 1).toNat = i + 1 := by omega
  have hj4 : i + 1 ≤ l.length + 1 := by omega
  have hj5 : (i : Int) ≤ (l.length : Int) + 1 := by omega
  have hw1 : IntKind.i64.wrap ((i : Int) + 1) = (i : Int) + 1 := by rw [IntKind.wrap_i64]; omega
  go_enter Tryd.func63, Tryd.ntmps63
  go_wp2_with (first
    | (simp only [hov])
    | (refine copyL_ rfl (.tmp 80) (.tmp 81) 23 rfl (.slice (some ⟨q, i * 3, none⟩) (l.length + 1 - i) (cap - i)) (.slice (some ⟨y, 0, none⟩) 1 1) ?_ ?_ HRUN3.out ?_ <;> first | rfl | (simp; done) | skip))
  go_region_law_o (refine copys_ rfl (.tmp 73) (.tmp 76) 23 rfl (.slice (some ⟨q, (i + 1) * 3, none⟩) (l.length - i) (cap - (i + 1))) (.slice (some ⟨q, i * 3, none⟩) (l.length + 1 - i) (cap - i)) (by simp [Act.eval, Act.put]) (by simp [Act.eval, Act.put]) HRUN2.out ?_)
  go_wp2_with (refine copyL_ rfl (.tmp 80) (.tmp 81) 23 rfl (.slice (some ⟨q, i * 3, none⟩) (l.length + 1 - i) (cap - i)) (.slice (some ⟨y, 0, none⟩) 1 1) ?_ ?_ HRUN3.out ?_ <;> first | rfl | (simp; done) | skip)
  go_ret
  exact ⟨⟨q, cap, rfl, hb, HOWN3.out⟩, HB3.out⟩

/-- A row of the own, or nil. -/
inductive RowG (w : World) (b : Nat) (v : Value) (l : List S27) : Prop
  | nil (hv : v = .slice none 0 0) (hl : l = [])
  | own (q cap : Nat) (hv : v = .slice (some ⟨q, 0, none⟩) l.length cap) (hb : b ≤ q) (h : OwnG w q cap l)
theorem row_of_R {w : World} {base : Nat} {ok : Nat → Prop} {v : Value} {l : List S27} (h : Kd.R k27 27 w base ok v l) : RowG w base v l := by
  obtain ⟨_, inner, ⟨hl, h2⟩, hr⟩ := h
  rcases h2 with ⟨hv, h0⟩ | ⟨g, cap, cur, rfl, hb, hh, hle, hm, hs, ht⟩
  · have h0 : l = [] := List.length_eq_zero_iff.1 (by omega)
    exact .nil (by simpa using hv) h0
  · refine .own g cap rfl hb ⟨cur, hh, hle, hm, hs, ?_⟩
    rw [← reps_enc hr]
    exact ht
theorem insert_calls (l : List S27) (v : Value) (x : S27) (y b i : Nat) (w : World) (h : RowG w b v l) (hy : OwnG w y 1 [x]) (hyb : ∀ q cap, OwnG w q cap l → v = .slice (some ⟨q, 0, none⟩) l.length cap → y ≠ q) (hb : b ≤ w.heap.size) (hi : i ≤ l.length) (hl : l.length ≤ 64) :
    Calls Tryd.prog 63 #[v, .int .i64 i, .slice (some ⟨y, 0, none⟩) 1 1] w (InsPost l i x b w) := by
  cases h with
  | nil hv hl0 =>
    subst hv hl0
    obtain rfl : i = 0 := by simpa using hi
    exact ins_end_nil x y b w hy hb
  | own q cap hv hbq h =>
    subst hv
    have hle := h.le
    by_cases hin : i < l.length
    · by_cases hr : l.length < cap
      · exact ins_shift l x q cap y b i w h hy (hyb q cap h rfl) hbq hin hr hl
      · exact ins_grow l x q cap y b i w h hy hbq hin (by omega) hl
    · obtain rfl : i = l.length := by omega
      by_cases hr : l.length < cap
      · exact ins_end_room l x q cap y b w h hy hbq hr
      · exact ins_end_grow l x q cap y b w h hy hbq (by omega) hl
end Go.Proofs.YtefdfgmlmjnmlaaDoor.My
end

section
set_option linter.unusedVariables false
set_option linter.unusedSimpArgs false
/- What the kit's print.py wrote of one Go function of this seat's translation (run by a program of this session, one function a text): the function as a plain Lean function, and that the call computes it. -/
namespace Go.Proofs.YtefdfgmlmjnmlaaDoor.Rf
open Go.RowKit Go.Proofs.YtefdfgmlmjnmlaaDoorW.PrintWords Go.Proofs.YtefdfgmlmjnmlaaDoorW.PrintLast Go.Proofs.YtefdfgmlmjnmlaaDoorW.PrintMore
attribute [local go_sem] max2_int min2_int max_two min_two max_three min_three max_four min_four   -- for this text's walks alone

/-! ### mortmainref09_Name: function 33 -/
def mortmainref09_Name.l0 : Nat → ByteArray → Int → Option (Bool)
  | 0, _, _ => none
  | k + 1, x0, x3 => if x3 < (x0.size : Int) then (if 0 ≤ x3 then (if (bt x0 x3) ≥ 97 then (if ((bt x0 x3) ≤ 122) then (mortmainref09_Name.l0 k x0 (wrap64 (x3 + 1))) else (if x3 = 0 then (some false) else (if (bt x0 x3) = 95 then (mortmainref09_Name.l0 k x0 (wrap64 (x3 + 1))) else (if (bt x0 x3) < 48 then (some false) else (if (bt x0 x3) > 57 then (some false) else (mortmainref09_Name.l0 k x0 (wrap64 (x3 + 1)))))))) else (if x3 = 0 then (some false) else (if (bt x0 x3) = 95 then (mortmainref09_Name.l0 k x0 (wrap64 (x3 + 1))) else (if (bt x0 x3) < 48 then (some false) else (if (bt x0 x3) > 57 then (some false) else (mortmainref09_Name.l0 k x0 (wrap64 (x3 + 1)))))))) else (none)) else (if (x0.size : Int) ≥ 1 then (some (decide ((x0.size : Int) ≤ 12))) else (some false))
def mortmainref09_Name.f (k : Nat) (a0 : ByteArray) : Option (Bool) := mortmainref09_Name.l0 k a0 0
theorem mortmainref09_Name.mono_l : ∀ k, (∀ y0 y1, LeO (mortmainref09_Name.l0 k y0 y1) (mortmainref09_Name.l0 (k + 1) y0 y1))
  | 0 => fun _ _ r h => by simp [mortmainref09_Name.l0] at h
  | k + 1 => by
    have ih0 := mortmainref09_Name.mono_l k
    · intro y0 y1
      unfold mortmainref09_Name.l0
      repeat' first
      | (with_reducible exact ih0 _ _)
      | (with_reducible exact LeO.refl _)
      | (with_reducible exact LeO.none _)
      | (with_reducible refine LeO.ite ?_ ?_)
      | (with_reducible refine LeO.bind ?_ (fun _ => ?_))
      | exact ih0 _ _
      | exact LeO.none _
      | refine LeO.ite ?_ ?_
      | refine LeO.bind ?_ (fun _ => ?_)
theorem mortmainref09_Name.mono : ∀ a0 k, LeO (mortmainref09_Name.f k a0) (mortmainref09_Name.f (k + 1) a0) := by
  intro a0 k
  have ih0 := mortmainref09_Name.mono_l k
  unfold mortmainref09_Name.f
  repeat' first
      | (with_reducible exact ih0 _ _)
      | (with_reducible exact LeO.refl _)
      | (with_reducible exact LeO.none _)
      | (with_reducible refine LeO.ite ?_ ?_)
      | (with_reducible refine LeO.bind ?_ (fun _ => ?_))
      | exact ih0 _ _
      | exact LeO.none _
      | refine LeO.ite ?_ ?_
      | refine LeO.bind ?_ (fun _ => ?_)
set_option maxHeartbeats 8000000 in
set_option maxRecDepth 100000 in
theorem mortmainref09_Name.calls (k : Nat) (a0 : ByteArray) (r : Bool) (w : World) (h : mortmainref09_Name.f k a0 = some r) :
    Calls Tryd.prog 33 #[.string a0] w fun e w' => e = .returned (.bool r) ∧ Drawn0 w w' := by
  have H : (mortmainref09_Name.l0 k a0 0) = some r := h
  clear h
  have H' := Aside0.mk H
  clear H
  go_enter Tryd.func33, Tryd.ntmps33
  go_wp2
  go_loopg [3] k (fun kq v3 w' => ∃ (x3_1 : Int), v3 = .int .i64 x3_1 ∧ Aside0 (mortmainref09_Name.l0 kq a0 x3_1 = some r) ∧ Aside0 (kq ≤ k) ∧ Drawn0 w w')
  case atStart => exact ⟨(0), (by first | rfl | (simp; done) | (simp [*]; done)), H', ⟨Nat.le_refl _⟩, by repeat (first | exact Drawn0.refl _ | apply Drawn0.step)⟩
  case round =>
    clear H'
    obtain ⟨x3_1, rfl, HA, HK1, ⟨m1, rfl⟩⟩ := hrel
    cases gk with
    | zero => exact absurd HA.out (by simp [mortmainref09_Name.l0])
    | succ k1 =>
      have H := HA.out
      clear HA
      simp only [mortmainref09_Name.l0] at H
      by_cases c2 : x3_1 < (a0.size : Int)
      · rw [if_pos c2] at H
        have c2b0 : decide (x3_1 < (a0.size : Int)) = true := decide_eq_true c2
        clear c2
        by_cases c3 : 0 ≤ x3_1
        · rw [if_pos c3] at H
          have c3b0 : decide (0 ≤ x3_1) = true := decide_eq_true c3
          clear c3
          by_cases c5 : (bt a0 x3_1) ≥ 97
          · rw [if_pos c5] at H
            have c5b0 : decide (97 ≤ (bt a0 x3_1)) = true := decide_eq_true c5
            clear c5
            by_cases c6 : ((bt a0 x3_1) ≤ 122)
            · rw [if_pos c6] at H
              have c6b0 : decide ((bt a0 x3_1) ≤ 122) = true := decide_eq_true c6
              clear c6
              have H' := Aside0.mk H
              clear H
              have p4 : 0 ≤ (x3_1 : Int) := of_decide_eq_true (by first | (with_reducible assumption) | assumption)
              have q4 : x3_1 < (a0.size : Int) := of_decide_eq_true (by first | (with_reducible assumption) | assumption)
              have hx4 := bt_at a0 x3_1
              replace p4 := eq_true p4
              replace q4 := eq_true q4
              go_wp2
              go_roundg k1
              case measure => have := HK1.out; omega
              case rel => exact ⟨(wrap64 (x3_1 + 1)), (by first | rfl | (simp; done) | (simp [*]; done)), H', ⟨by have := HK1.out; omega⟩, by repeat (first | exact Drawn0.refl _ | apply Drawn0.step)⟩
            · rw [if_neg c6] at H
              have c6b0 : decide ((bt a0 x3_1) ≤ 122) = false := decide_eq_false c6
              clear c6
              by_cases c7 : x3_1 = 0
              · rw [if_pos c7] at H
                have c7b0 : (x3_1 == 0) = true := beq_iff_eq.mpr c7
                have c7b1 : (x3_1 != 0) = false := bne_eq_false_iff_eq.mpr c7
                clear c7
                obtain rfl := Option.some.inj H
                have p4 : 0 ≤ (x3_1 : Int) := of_decide_eq_true (by first | (with_reducible assumption) | assumption)
                have q4 : x3_1 < (a0.size : Int) := of_decide_eq_true (by first | (with_reducible assumption) | assumption)
                have hx4 := bt_at a0 x3_1
                replace p4 := eq_true p4
                replace q4 := eq_true q4
                go_wp2
                go_ret
                exact ⟨by first | rfl | (simp; done) | (simp [*]; done), by repeat (first | exact Drawn0.refl _ | apply Drawn0.step)⟩
              · rw [if_neg c7] at H
                have c7b0 : (x3_1 == 0) = false := beq_eq_false_iff_ne.mpr c7
                have c7b1 : (x3_1 != 0) = true := bne_iff_ne.mpr c7
                by_cases c8 : (bt a0 x3_1) = 95
                · rw [if_pos c8] at H
                  have c8b0 : ((bt a0 x3_1) == 95) = true := beq_iff_eq.mpr c8
                  have c8b1 : ((bt a0 x3_1) != 95) = false := bne_eq_false_iff_eq.mpr c8
                  clear c8
                  have H' := Aside0.mk H
                  clear H
                  have p4 : 0 ≤ (x3_1 : Int) := of_decide_eq_true (by first | (with_reducible assumption) | assumption)
                  have q4 : x3_1 < (a0.size : Int) := of_decide_eq_true (by first | (with_reducible assumption) | assumption)
                  have hx4 := bt_at a0 x3_1
                  replace p4 := eq_true p4
                  replace q4 := eq_true q4
                  go_wp2
                  go_roundg k1
                  case measure => have := HK1.out; omega
                  case rel => exact ⟨(wrap64 (x3_1 + 1)), (by first | rfl | (simp; done) | (simp [*]; done)), H', ⟨by have := HK1.out; omega⟩, by repeat (first | exact Drawn0.refl _ | apply Drawn0.step)⟩
                · rw [if_neg c8] at H
                  have c8b0 : ((bt a0 x3_1) == 95) = false := beq_eq_false_iff_ne.mpr c8
                  have c8b1 : ((bt a0 x3_1) != 95) = true := bne_iff_ne.mpr c8
                  by_cases c9 : (bt a0 x3_1) < 48
                  · rw [if_pos c9] at H
                    have c9b0 : decide ((bt a0 x3_1) < 48) = true := decide_eq_true c9
                    clear c9
                    obtain rfl := Option.some.inj H
                    have p4 : 0 ≤ (x3_1 : Int) := of_decide_eq_true (by first | (with_reducible assumption) | assumption)
                    have q4 : x3_1 < (a0.size : Int) := of_decide_eq_true (by first | (with_reducible assumption) | assumption)
                    have hx4 := bt_at a0 x3_1
                    replace p4 := eq_true p4
                    replace q4 := eq_true q4
                    go_wp2
                    go_ret
                    exact ⟨by first | rfl | (simp; done) | (simp [*]; done), by repeat (first | exact Drawn0.refl _ | apply Drawn0.step)⟩
                  · rw [if_neg c9] at H
                    have c9b0 : decide ((bt a0 x3_1) < 48) = false := decide_eq_false c9
                    clear c9
                    by_cases c10 : (bt a0 x3_1) > 57
                    · rw [if_pos c10] at H
                      have c10b0 : decide (57 < (bt a0 x3_1)) = true := decide_eq_true c10
                      clear c10
                      obtain rfl := Option.some.inj H
                      have p4 : 0 ≤ (x3_1 : Int) := of_decide_eq_true (by first | (with_reducible assumption) | assumption)
                      have q4 : x3_1 < (a0.size : Int) := of_decide_eq_true (by first | (with_reducible assumption) | assumption)
                      have hx4 := bt_at a0 x3_1
                      replace p4 := eq_true p4
                      replace q4 := eq_true q4
                      go_wp2
                      go_ret
                      exact ⟨by first | rfl | (simp; done) | (simp [*]; done), by repeat (first | exact Drawn0.refl _ | apply Drawn0.step)⟩
                    · rw [if_neg c10] at H
                      have c10b0 : decide (57 < (bt a0 x3_1)) = false := decide_eq_false c10
                      clear c10
                      have H' := Aside0.mk H
                      clear H
                      have p4 : 0 ≤ (x3_1 : Int) := of_decide_eq_true (by first | (with_reducible assumption) | assumption)
                      have q4 : x3_1 < (a0.size : Int) := of_decide_eq_true (by first | (with_reducible assumption) | assumption)
                      have hx4 := bt_at a0 x3_1
                      replace p4 := eq_true p4
                      replace q4 := eq_true q4
                      go_wp2
                      go_roundg k1
                      case measure => have := HK1.out; omega
                      case rel => exact ⟨(wrap64 (x3_1 + 1)), (by first | rfl | (simp; done) | (simp [*]; done)), H', ⟨by have := HK1.out; omega⟩, by repeat (first | exact Drawn0.refl _ | apply Drawn0.step)⟩
          · rw [if_neg c5] at H
            have c5b0 : decide (97 ≤ (bt a0 x3_1)) = false := decide_eq_false c5
            clear c5
            by_cases c11 : x3_1 = 0
            · rw [if_pos c11] at H
              have c11b0 : (x3_1 == 0) = true := beq_iff_eq.mpr c11
              have c11b1 : (x3_1 != 0) = false := bne_eq_false_iff_eq.mpr c11
              clear c11
              obtain rfl := Option.some.inj H
              have p4 : 0 ≤ (x3_1 : Int) := of_decide_eq_true (by first | (with_reducible assumption) | assumption)
              have q4 : x3_1 < (a0.size : Int) := of_decide_eq_true (by first | (with_reducible assumption) | assumption)
              have hx4 := bt_at a0 x3_1
              replace p4 := eq_true p4
              replace q4 := eq_true q4
              go_wp2
              go_ret
              exact ⟨by first | rfl | (simp; done) | (simp [*]; done), by repeat (first | exact Drawn0.refl _ | apply Drawn0.step)⟩
            · rw [if_neg c11] at H
              have c11b0 : (x3_1 == 0) = false := beq_eq_false_iff_ne.mpr c11
              have c11b1 : (x3_1 != 0) = true := bne_iff_ne.mpr c11
              by_cases c12 : (bt a0 x3_1) = 95
              · rw [if_pos c12] at H
                have c12b0 : ((bt a0 x3_1) == 95) = true := beq_iff_eq.mpr c12
                have c12b1 : ((bt a0 x3_1) != 95) = false := bne_eq_false_iff_eq.mpr c12
                clear c12
                have H' := Aside0.mk H
                clear H
                have p4 : 0 ≤ (x3_1 : Int) := of_decide_eq_true (by first | (with_reducible assumption) | assumption)
                have q4 : x3_1 < (a0.size : Int) := of_decide_eq_true (by first | (with_reducible assumption) | assumption)
                have hx4 := bt_at a0 x3_1
                replace p4 := eq_true p4
                replace q4 := eq_true q4
                go_wp2
                go_roundg k1
                case measure => have := HK1.out; omega
                case rel => exact ⟨(wrap64 (x3_1 + 1)), (by first | rfl | (simp; done) | (simp [*]; done)), H', ⟨by have := HK1.out; omega⟩, by repeat (first | exact Drawn0.refl _ | apply Drawn0.step)⟩
              · rw [if_neg c12] at H
                have c12b0 : ((bt a0 x3_1) == 95) = false := beq_eq_false_iff_ne.mpr c12
                have c12b1 : ((bt a0 x3_1) != 95) = true := bne_iff_ne.mpr c12
                by_cases c13 : (bt a0 x3_1) < 48
                · rw [if_pos c13] at H
                  have c13b0 : decide ((bt a0 x3_1) < 48) = true := decide_eq_true c13
                  clear c13
                  obtain rfl := Option.some.inj H
                  have p4 : 0 ≤ (x3_1 : Int) := of_decide_eq_true (by first | (with_reducible assumption) | assumption)
                  have q4 : x3_1 < (a0.size : Int) := of_decide_eq_true (by first | (with_reducible assumption) | assumption)
                  have hx4 := bt_at a0 x3_1
                  replace p4 := eq_true p4
                  replace q4 := eq_true q4
                  go_wp2
                  go_ret
                  exact ⟨by first | rfl | (simp; done) | (simp [*]; done), by repeat (first | exact Drawn0.refl _ | apply Drawn0.step)⟩
                · rw [if_neg c13] at H
                  have c13b0 : decide ((bt a0 x3_1) < 48) = false := decide_eq_false c13
                  clear c13
                  by_cases c14 : (bt a0 x3_1) > 57
                  · rw [if_pos c14] at H
                    have c14b0 : decide (57 < (bt a0 x3_1)) = true := decide_eq_true c14
                    clear c14
                    obtain rfl := Option.some.inj H
                    have p4 : 0 ≤ (x3_1 : Int) := of_decide_eq_true (by first | (with_reducible assumption) | assumption)
                    have q4 : x3_1 < (a0.size : Int) := of_decide_eq_true (by first | (with_reducible assumption) | assumption)
                    have hx4 := bt_at a0 x3_1
                    replace p4 := eq_true p4
                    replace q4 := eq_true q4
                    go_wp2
                    go_ret
                    exact ⟨by first | rfl | (simp; done) | (simp [*]; done), by repeat (first | exact Drawn0.refl _ | apply Drawn0.step)⟩
                  · rw [if_neg c14] at H
                    have c14b0 : decide (57 < (bt a0 x3_1)) = false := decide_eq_false c14
                    clear c14
                    have H' := Aside0.mk H
                    clear H
                    have p4 : 0 ≤ (x3_1 : Int) := of_decide_eq_true (by first | (with_reducible assumption) | assumption)
                    have q4 : x3_1 < (a0.size : Int) := of_decide_eq_true (by first | (with_reducible assumption) | assumption)
                    have hx4 := bt_at a0 x3_1
                    replace p4 := eq_true p4
                    replace q4 := eq_true q4
                    go_wp2
                    go_roundg k1
                    case measure => have := HK1.out; omega
                    case rel => exact ⟨(wrap64 (x3_1 + 1)), (by first | rfl | (simp; done) | (simp [*]; done)), H', ⟨by have := HK1.out; omega⟩, by repeat (first | exact Drawn0.refl _ | apply Drawn0.step)⟩
        · rw [if_neg c3] at H
          exact absurd H (by simp)
      · rw [if_neg c2] at H
        have c2b0 : decide (x3_1 < (a0.size : Int)) = false := decide_eq_false c2
        clear c2
        by_cases c15 : (a0.size : Int) ≥ 1
        · rw [if_pos c15] at H
          have c15b0 : decide (1 ≤ (a0.size : Int)) = true := decide_eq_true c15
          have c15b1 : decide (1 ≤ a0.size) = true := decide_eq_true (by omega)
          clear c15
          obtain rfl := Option.some.inj H
          go_wp2
          go_ret
          exact ⟨by first | rfl | (simp; done) | (simp [*]; done), by repeat (first | exact Drawn0.refl _ | apply Drawn0.step)⟩
        · rw [if_neg c15] at H
          have c15b0 : decide (1 ≤ (a0.size : Int)) = false := decide_eq_false c15
          have c15b1 : decide (1 ≤ a0.size) = false := decide_eq_false (by omega)
          clear c15
          obtain rfl := Option.some.inj H
          go_wp2
          go_ret
          exact ⟨by first | rfl | (simp; done) | (simp [*]; done), by repeat (first | exact Drawn0.refl _ | apply Drawn0.step)⟩

end Go.Proofs.YtefdfgmlmjnmlaaDoor.Rf
end

section
set_option linter.unusedVariables false
set_option linter.unusedSimpArgs false
/- What the kit's print.py wrote of one Go function of this seat's translation (run by a program of this session, one function a text): the function as a plain Lean function, and that the call computes it. -/
namespace Go.Proofs.YtefdfgmlmjnmlaaDoor.Rf
open Go.RowKit Go.Proofs.YtefdfgmlmjnmlaaDoorW.PrintWords Go.Proofs.YtefdfgmlmjnmlaaDoorW.PrintLast Go.Proofs.YtefdfgmlmjnmlaaDoorW.PrintMore
attribute [local go_sem] max2_int min2_int max_two min_two max_three min_three max_four min_four   -- for this text's walks alone

/-! ### mortmainref10_Good: function 17 -/
def mortmainref10_Good.f (k : Nat) (a0_0 : Int) (a0_1 : ByteArray) (a0_2 : Int) : Option (Bool) := if a0_0 ≥ 1 then (if a0_0 ≤ 7 then ((mortmainref09_Name.f k a0_1).bind fun t146 => (if t146 = true then (if a0_2 ≥ 1 then (some (decide (a0_2 ≤ 31))) else (some false)) else (some false))) else (some false)) else (some false)
theorem mortmainref10_Good.mono : ∀ a0 a1 a2 k, LeO (mortmainref10_Good.f k a0 a1 a2) (mortmainref10_Good.f (k + 1) a0 a1 a2) := by
  intro a0 a1 a2 k
  unfold mortmainref10_Good.f
  repeat' first
      | (with_reducible exact mortmainref09_Name.mono _ _)
      | (with_reducible exact LeO.refl _)
      | (with_reducible exact LeO.none _)
      | (with_reducible refine LeO.ite ?_ ?_)
      | (with_reducible refine LeO.bind ?_ (fun _ => ?_))
      | exact mortmainref09_Name.mono _ _
      | exact LeO.none _
      | refine LeO.ite ?_ ?_
      | refine LeO.bind ?_ (fun _ => ?_)
set_option maxHeartbeats 8000000 in
set_option maxRecDepth 100000 in
theorem mortmainref10_Good.calls (k : Nat) (a0_0 : Int) (a0_1 : ByteArray) (a0_2 : Int) (r : Bool) (w : World) (h : mortmainref10_Good.f k a0_0 a0_1 a0_2 = some r) :
    Calls Tryd.prog 17 #[.agg #[.int .i64 a0_0, .string a0_1, .int .i64 a0_2]] w fun e w' => e = .returned (.bool r) ∧ Below w.heap.size w w' := by
  have hu27 := Tryd.underlying27
  have HB := Aside0.mk (Below.refl w.heap.size w)
  have H : (if a0_0 ≥ 1 then (if a0_0 ≤ 7 then ((mortmainref09_Name.f k a0_1).bind fun t146 => (if t146 = true then (if a0_2 ≥ 1 then (some (decide (a0_2 ≤ 31))) else (some false)) else (some false))) else (some false)) else (some false)) = some r := h
  clear h
  by_cases c2 : a0_0 ≥ 1
  · rw [if_pos c2] at H
    have c2b0 : decide (1 ≤ a0_0) = true := decide_eq_true c2
    clear c2
    by_cases c3 : a0_0 ≤ 7
    · rw [if_pos c3] at H
      have c3b0 : decide (a0_0 ≤ 7) = true := decide_eq_true c3
      clear c3
      replace H := Option.bind_eq_some_iff.mp H
      obtain ⟨t146, A40, H⟩ := H
      replace H : (if t146 = true then (if a0_2 ≥ 1 then (some (decide (a0_2 ≤ 31))) else (some false)) else (some false)) = some r := H
      have A4 := Aside0.mk A40
      clear A40
      by_cases c5 : t146 = true
      · subst c5
        have H1 : (if a0_2 ≥ 1 then (some (decide (a0_2 ≤ 31))) else (some false)) = some r := by rw [if_pos rfl] at H; exact H
        clear H
        have H := H1
        clear H1
        by_cases c6 : a0_2 ≥ 1
        · rw [if_pos c6] at H
          have c6b0 : decide (1 ≤ a0_2) = true := decide_eq_true c6
          clear c6
          obtain rfl := Option.some.inj H
          go_enter Tryd.func17, Tryd.ntmps17
          go_wp2_with (first | ((with_reducible refine gate_dst (N := 1) rfl ?_); refine box_event ?hg (N := 1) ?hd (cs := #[.int .i64 a0_0, .string a0_1, .int .i64 a0_2]) (t := 27) ?hr ?_; (case hd => rfl); (case hg => rfl); (case hr => first | (go_simp; done) | (go_simp; rfl)); intro gb145 hg w7 hbox hb; have n0_ := Aside0.mk (below_step (by repeat (first | (with_reducible first | exact HB.out | apply below_alloc | apply pw_below_drewN | apply below_drew1) | exact HB.out)) hb); have n1_ := Aside0.mk (hbox); have n2_ := Aside0.mk ((by rw [hg]; exact (below_size (by repeat (first | (with_reducible first | exact HB.out | apply below_alloc | apply pw_below_drewN | apply below_drew1) | exact HB.out))) : w.heap.size ≤ gb145)); have n3_ := Aside0.mk ((by rw [hg]; exact (below_size (by repeat (first | (with_reducible first | exact HB.out | apply below_alloc | apply pw_below_drewN | apply below_drew1) | exact HB.out))) : w.heap.size ≤ gb145)); clear HB; have HB := n0_; have BK145 := n1_; have GW145 := n2_; have GE145 := n3_; clear n0_ n1_ n2_ n3_; clear hb hbox hg; have hcz8_0 : w7.cell? ⟨gb145, 0, none⟩ = some (.int .i64 a0_0) := (blk_cell BK145.out 0).trans rfl; have hcz8_1 : w7.cell? ⟨gb145, 1, none⟩ = some (.string a0_1) := (blk_cell BK145.out 1).trans rfl; have hcz8_2 : w7.cell? ⟨gb145, 2, none⟩ = some (.int .i64 a0_2) := (blk_cell BK145.out 2).trans rfl; have hfz8_0 := blk_frozen BK145.out 0; have hfz8_1 := blk_frozen BK145.out 1; have hfz8_2 := blk_frozen BK145.out 2) | (go_at_call 33; (with_reducible refine (mortmainref09_Name.calls k a0_1 true _ A4.out).mono ?_); rintro e w' ⟨rfl, ⟨nd, rfl⟩⟩))
          go_ret
          exact ⟨by first | rfl | (simp [errW_none, errW_some] <;> rfl) | (simp [*, errW_none, errW_some] <;> rfl), by repeat (first | (with_reducible first | exact HB.out | apply below_alloc | apply pw_below_drewN | apply below_drew1 | refine below_set ?_ GE145.out) | exact HB.out)⟩
        · rw [if_neg c6] at H
          have c6b0 : decide (1 ≤ a0_2) = false := decide_eq_false c6
          clear c6
          obtain rfl := Option.some.inj H
          go_enter Tryd.func17, Tryd.ntmps17
          go_wp2_with (first | ((with_reducible refine gate_dst (N := 1) rfl ?_); refine box_event ?hg (N := 1) ?hd (cs := #[.int .i64 a0_0, .string a0_1, .int .i64 a0_2]) (t := 27) ?hr ?_; (case hd => rfl); (case hg => rfl); (case hr => first | (go_simp; done) | (go_simp; rfl)); intro gb145 hg w9 hbox hb; have n0_ := Aside0.mk (below_step (by repeat (first | (with_reducible first | exact HB.out | apply below_alloc | apply pw_below_drewN | apply below_drew1) | exact HB.out)) hb); have n1_ := Aside0.mk (hbox); have n2_ := Aside0.mk ((by rw [hg]; exact (below_size (by repeat (first | (with_reducible first | exact HB.out | apply below_alloc | apply pw_below_drewN | apply below_drew1) | exact HB.out))) : w.heap.size ≤ gb145)); have n3_ := Aside0.mk ((by rw [hg]; exact (below_size (by repeat (first | (with_reducible first | exact HB.out | apply below_alloc | apply pw_below_drewN | apply below_drew1) | exact HB.out))) : w.heap.size ≤ gb145)); clear HB; have HB := n0_; have BK145 := n1_; have GW145 := n2_; have GE145 := n3_; clear n0_ n1_ n2_ n3_; clear hb hbox hg; have hcz10_0 : w9.cell? ⟨gb145, 0, none⟩ = some (.int .i64 a0_0) := (blk_cell BK145.out 0).trans rfl; have hcz10_1 : w9.cell? ⟨gb145, 1, none⟩ = some (.string a0_1) := (blk_cell BK145.out 1).trans rfl; have hcz10_2 : w9.cell? ⟨gb145, 2, none⟩ = some (.int .i64 a0_2) := (blk_cell BK145.out 2).trans rfl; have hfz10_0 := blk_frozen BK145.out 0; have hfz10_1 := blk_frozen BK145.out 1; have hfz10_2 := blk_frozen BK145.out 2) | (go_at_call 33; (with_reducible refine (mortmainref09_Name.calls k a0_1 true _ A4.out).mono ?_); rintro e w' ⟨rfl, ⟨nd, rfl⟩⟩))
          go_ret
          exact ⟨by first | rfl | (simp [errW_none, errW_some] <;> rfl) | (simp [*, errW_none, errW_some] <;> rfl), by repeat (first | (with_reducible first | exact HB.out | apply below_alloc | apply pw_below_drewN | apply below_drew1 | refine below_set ?_ GE145.out) | exact HB.out)⟩
      · replace c5 := Bool.eq_false_iff.mpr c5
        subst c5
        have H1 : (some false) = some r := by rw [if_neg (show ¬ (false = true) by decide)] at H; exact H
        clear H
        have H := H1
        clear H1
        obtain rfl := Option.some.inj H
        go_enter Tryd.func17, Tryd.ntmps17
        go_wp2_with (first | ((with_reducible refine gate_dst (N := 1) rfl ?_); refine box_event ?hg (N := 1) ?hd (cs := #[.int .i64 a0_0, .string a0_1, .int .i64 a0_2]) (t := 27) ?hr ?_; (case hd => rfl); (case hg => rfl); (case hr => first | (go_simp; done) | (go_simp; rfl)); intro gb145 hg w11 hbox hb; have n0_ := Aside0.mk (below_step (by repeat (first | (with_reducible first | exact HB.out | apply below_alloc | apply pw_below_drewN | apply below_drew1) | exact HB.out)) hb); have n1_ := Aside0.mk (hbox); have n2_ := Aside0.mk ((by rw [hg]; exact (below_size (by repeat (first | (with_reducible first | exact HB.out | apply below_alloc | apply pw_below_drewN | apply below_drew1) | exact HB.out))) : w.heap.size ≤ gb145)); have n3_ := Aside0.mk ((by rw [hg]; exact (below_size (by repeat (first | (with_reducible first | exact HB.out | apply below_alloc | apply pw_below_drewN | apply below_drew1) | exact HB.out))) : w.heap.size ≤ gb145)); clear HB; have HB := n0_; have BK145 := n1_; have GW145 := n2_; have GE145 := n3_; clear n0_ n1_ n2_ n3_; clear hb hbox hg; have hcz12_0 : w11.cell? ⟨gb145, 0, none⟩ = some (.int .i64 a0_0) := (blk_cell BK145.out 0).trans rfl; have hcz12_1 : w11.cell? ⟨gb145, 1, none⟩ = some (.string a0_1) := (blk_cell BK145.out 1).trans rfl; have hcz12_2 : w11.cell? ⟨gb145, 2, none⟩ = some (.int .i64 a0_2) := (blk_cell BK145.out 2).trans rfl; have hfz12_0 := blk_frozen BK145.out 0; have hfz12_1 := blk_frozen BK145.out 1; have hfz12_2 := blk_frozen BK145.out 2) | (go_at_call 33; (with_reducible refine (mortmainref09_Name.calls k a0_1 false _ A4.out).mono ?_); rintro e w' ⟨rfl, ⟨nd, rfl⟩⟩))
        go_ret
        exact ⟨by first | rfl | (simp [errW_none, errW_some] <;> rfl) | (simp [*, errW_none, errW_some] <;> rfl), by repeat (first | (with_reducible first | exact HB.out | apply below_alloc | apply pw_below_drewN | apply below_drew1 | refine below_set ?_ GE145.out) | exact HB.out)⟩
    · rw [if_neg c3] at H
      have c3b0 : decide (a0_0 ≤ 7) = false := decide_eq_false c3
      clear c3
      obtain rfl := Option.some.inj H
      go_enter Tryd.func17, Tryd.ntmps17
      go_wp2_with (first | ((with_reducible refine gate_dst (N := 1) rfl ?_); refine box_event ?hg (N := 1) ?hd (cs := #[.int .i64 a0_0, .string a0_1, .int .i64 a0_2]) (t := 27) ?hr ?_; (case hd => rfl); (case hg => rfl); (case hr => first | (go_simp; done) | (go_simp; rfl)); intro gb145 hg w13 hbox hb; have n0_ := Aside0.mk (below_step (by repeat (first | (with_reducible first | exact HB.out | apply below_alloc | apply pw_below_drewN | apply below_drew1) | exact HB.out)) hb); have n1_ := Aside0.mk (hbox); have n2_ := Aside0.mk ((by rw [hg]; exact (below_size (by repeat (first | (with_reducible first | exact HB.out | apply below_alloc | apply pw_below_drewN | apply below_drew1) | exact HB.out))) : w.heap.size ≤ gb145)); have n3_ := Aside0.mk ((by rw [hg]; exact (below_size (by repeat (first | (with_reducible first | exact HB.out | apply below_alloc | apply pw_below_drewN | apply below_drew1) | exact HB.out))) : w.heap.size ≤ gb145)); clear HB; have HB := n0_; have BK145 := n1_; have GW145 := n2_; have GE145 := n3_; clear n0_ n1_ n2_ n3_; clear hb hbox hg; have hcz14_0 : w13.cell? ⟨gb145, 0, none⟩ = some (.int .i64 a0_0) := (blk_cell BK145.out 0).trans rfl; have hcz14_1 : w13.cell? ⟨gb145, 1, none⟩ = some (.string a0_1) := (blk_cell BK145.out 1).trans rfl; have hcz14_2 : w13.cell? ⟨gb145, 2, none⟩ = some (.int .i64 a0_2) := (blk_cell BK145.out 2).trans rfl; have hfz14_0 := blk_frozen BK145.out 0; have hfz14_1 := blk_frozen BK145.out 1; have hfz14_2 := blk_frozen BK145.out 2))
      go_ret
      exact ⟨by first | rfl | (simp [errW_none, errW_some] <;> rfl) | (simp [*, errW_none, errW_some] <;> rfl), by repeat (first | (with_reducible first | exact HB.out | apply below_alloc | apply pw_below_drewN | apply below_drew1 | refine below_set ?_ GE145.out) | exact HB.out)⟩
  · rw [if_neg c2] at H
    have c2b0 : decide (1 ≤ a0_0) = false := decide_eq_false c2
    clear c2
    obtain rfl := Option.some.inj H
    go_enter Tryd.func17, Tryd.ntmps17
    go_wp2_with (first | ((with_reducible refine gate_dst (N := 1) rfl ?_); refine box_event ?hg (N := 1) ?hd (cs := #[.int .i64 a0_0, .string a0_1, .int .i64 a0_2]) (t := 27) ?hr ?_; (case hd => rfl); (case hg => rfl); (case hr => first | (go_simp; done) | (go_simp; rfl)); intro gb145 hg w15 hbox hb; have n0_ := Aside0.mk (below_step (by repeat (first | (with_reducible first | exact HB.out | apply below_alloc | apply pw_below_drewN | apply below_drew1) | exact HB.out)) hb); have n1_ := Aside0.mk (hbox); have n2_ := Aside0.mk ((by rw [hg]; exact (below_size (by repeat (first | (with_reducible first | exact HB.out | apply below_alloc | apply pw_below_drewN | apply below_drew1) | exact HB.out))) : w.heap.size ≤ gb145)); have n3_ := Aside0.mk ((by rw [hg]; exact (below_size (by repeat (first | (with_reducible first | exact HB.out | apply below_alloc | apply pw_below_drewN | apply below_drew1) | exact HB.out))) : w.heap.size ≤ gb145)); clear HB; have HB := n0_; have BK145 := n1_; have GW145 := n2_; have GE145 := n3_; clear n0_ n1_ n2_ n3_; clear hb hbox hg; have hcz16_0 : w15.cell? ⟨gb145, 0, none⟩ = some (.int .i64 a0_0) := (blk_cell BK145.out 0).trans rfl; have hcz16_1 : w15.cell? ⟨gb145, 1, none⟩ = some (.string a0_1) := (blk_cell BK145.out 1).trans rfl; have hcz16_2 : w15.cell? ⟨gb145, 2, none⟩ = some (.int .i64 a0_2) := (blk_cell BK145.out 2).trans rfl; have hfz16_0 := blk_frozen BK145.out 0; have hfz16_1 := blk_frozen BK145.out 1; have hfz16_2 := blk_frozen BK145.out 2))
    go_ret
    exact ⟨by first | rfl | (simp [errW_none, errW_some] <;> rfl) | (simp [*, errW_none, errW_some] <;> rfl), by repeat (first | (with_reducible first | exact HB.out | apply below_alloc | apply pw_below_drewN | apply below_drew1 | refine below_set ?_ GE145.out) | exact HB.out)⟩

end Go.Proofs.YtefdfgmlmjnmlaaDoor.Rf
end

section
set_option linter.unusedVariables false
set_option linter.unusedSimpArgs false
/- What the kit's print.py wrote of one Go function of this seat's translation (run by a program of this session, one function a text): the function as a plain Lean function, and that the call computes it. -/
namespace Go.Proofs.YtefdfgmlmjnmlaaDoor.Rf
open Go.RowKit Go.Proofs.YtefdfgmlmjnmlaaDoorW.PrintWords Go.Proofs.YtefdfgmlmjnmlaaDoorW.PrintLast Go.Proofs.YtefdfgmlmjnmlaaDoorW.PrintMore
attribute [local go_sem] max2_int min2_int max_two min_two max_three min_three max_four min_four   -- for this text's walks alone

/-! ### mortmainref09_Find: function 30 -/
def mortmainref09_Find.l0 : Nat → ByteArray → List (S45) → Int → Int → Option (Int)
  | 0, _, _, _, _ => none
  | k + 1, x1, x8, x9, x10 => if x10 < x9 then (if 0 ≤ x10 then (if x10 < (x8.length : Int) then (if ((rd_T45 x8 x10).f0).toList = x1.toList then (some x10) else (mortmainref09_Find.l0 k x1 x8 x9 (wrap64 (x10 + 1)))) else (none)) else (none)) else (some (-1))
def mortmainref09_Find.f (k : Nat) (a0_0 : Int) (l0_1 : List (S45)) (l0_2 : List (S27)) (a1 : ByteArray) : Option (Int) := mortmainref09_Find.l0 k a1 l0_1 (l0_1.length : Int) 0
theorem mortmainref09_Find.mono_l : ∀ k, (∀ y0 y1 y2 y3, LeO (mortmainref09_Find.l0 k y0 y1 y2 y3) (mortmainref09_Find.l0 (k + 1) y0 y1 y2 y3))
  | 0 => fun _ _ _ _ r h => by simp [mortmainref09_Find.l0] at h
  | k + 1 => by
    have ih0 := mortmainref09_Find.mono_l k
    · intro y0 y1 y2 y3
      unfold mortmainref09_Find.l0
      repeat' first
      | (with_reducible exact ih0 _ _ _ _)
      | (with_reducible exact LeO.refl _)
      | (with_reducible exact LeO.none _)
      | (with_reducible refine LeO.ite ?_ ?_)
      | (with_reducible refine LeO.bind ?_ (fun _ => ?_))
      | exact ih0 _ _ _ _
      | exact LeO.none _
      | refine LeO.ite ?_ ?_
      | refine LeO.bind ?_ (fun _ => ?_)
theorem mortmainref09_Find.mono : ∀ a0 a1 a2 a3 k, LeO (mortmainref09_Find.f k a0 a1 a2 a3) (mortmainref09_Find.f (k + 1) a0 a1 a2 a3) := by
  intro a0 a1 a2 a3 k
  have ih0 := mortmainref09_Find.mono_l k
  unfold mortmainref09_Find.f
  repeat' first
      | (with_reducible exact ih0 _ _ _ _)
      | (with_reducible exact LeO.refl _)
      | (with_reducible exact LeO.none _)
      | (with_reducible refine LeO.ite ?_ ?_)
      | (with_reducible refine LeO.bind ?_ (fun _ => ?_))
      | exact ih0 _ _ _ _
      | exact LeO.none _
      | refine LeO.ite ?_ ?_
      | refine LeO.bind ?_ (fun _ => ?_)
set_option maxHeartbeats 8000000 in
set_option maxRecDepth 100000 in
theorem mortmainref09_Find.calls (k : Nat) (a0_0 : Int) (A0_1 : Option Addr) (c0_1 : Nat) (l0_1 : List (S45)) (A0_2 : Option Addr) (c0_2 : Nat) (l0_2 : List (S27)) (a1 : ByteArray) (r : Int) (w : World) (hr0_1 : Kd.C k45 w A0_1 l0_1.length l0_1) (hc0_1 : l0_1.length ≤ c0_1) (hr0_2 : Kd.C k27 w A0_2 l0_2.length l0_2) (hc0_2 : l0_2.length ≤ c0_2) (h : mortmainref09_Find.f k a0_0 l0_1 l0_2 a1 = some r) :
    Calls Tryd.prog 30 #[.agg #[.int .i64 a0_0, .slice A0_1 l0_1.length c0_1, .slice A0_2 l0_2.length c0_2], .string a1] w fun e w' => e = .returned (.int .i64 r) ∧ Below w.heap.size w w' := by
  have hu25 := Tryd.underlying25
  have hu45 := Tryd.underlying45
  have HR0_1 := Aside0.mk hr0_1
  have HC0_1 := Aside0.mk hc0_1
  clear hr0_1 hc0_1
  have HR0_2 := Aside0.mk hr0_2
  have HC0_2 := Aside0.mk hc0_2
  clear hr0_2 hc0_2
  have HB := Aside0.mk (Below.refl w.heap.size w)
  have H : (mortmainref09_Find.l0 k a1 l0_1 (l0_1.length : Int) 0) = some r := h
  clear h
  have H' := Aside0.mk H
  clear H
  go_enter Tryd.func30, Tryd.ntmps30
  go_wp2_with (first | ((with_reducible refine gate_dst (N := 2) rfl ?_); refine box_event ?hg (N := 2) ?hd (cs := #[.int .i64 a0_0, .slice A0_1 l0_1.length c0_1, .slice A0_2 l0_2.length c0_2]) (t := 25) ?hr ?_; (case hd => rfl); (case hg => rfl); (case hr => first | (go_simp; done) | (go_simp; rfl)); intro gb160 hg w3 hbox hb; have n0_ := Aside0.mk (below_step (by repeat (first | (with_reducible first | exact HB.out | apply below_alloc | apply pw_below_drewN | apply below_drew1) | exact HB.out)) hb); have n1_ := Aside0.mk (hbox); have n2_ := Aside0.mk ((by rw [hg]; exact (below_size (by repeat (first | (with_reducible first | exact HB.out | apply below_alloc | apply pw_below_drewN | apply below_drew1) | exact HB.out))) : w.heap.size ≤ gb160)); have n3_ := Aside0.mk ((by rw [hg]; exact (below_size (by repeat (first | (with_reducible first | exact HB.out | apply below_alloc | apply pw_below_drewN | apply below_drew1) | exact HB.out))) : w.heap.size ≤ gb160)); clear HB; have HB := n0_; have BK160 := n1_; have GW160 := n2_; have GE160 := n3_; clear n0_ n1_ n2_ n3_; clear hb hbox hg; have hcz4_0 : w3.cell? ⟨gb160, 0, none⟩ = some (.int .i64 a0_0) := (blk_cell BK160.out 0).trans rfl; have hcz4_1 : w3.cell? ⟨gb160, 1, none⟩ = some (.slice A0_1 l0_1.length c0_1) := (blk_cell BK160.out 1).trans rfl; have hcz4_2 : w3.cell? ⟨gb160, 2, none⟩ = some (.slice A0_2 l0_2.length c0_2) := (blk_cell BK160.out 2).trans rfl; have hfz4_0 := blk_frozen BK160.out 0; have hfz4_1 := blk_frozen BK160.out 1; have hfz4_2 := blk_frozen BK160.out 2))
  go_loopg [10] k (fun kq v10 w' => ∃ (x10_1 : Int), v10 = .int .i64 x10_1 ∧ Aside0 (mortmainref09_Find.l0 kq a1 l0_1 (l0_1.length : Int) x10_1 = some r) ∧ Aside0 (kq ≤ k) ∧ Aside0 (w'.heap[gb160]? = some (.cells #[.int .i64 a0_0, (.slice A0_1 l0_1.length c0_1), (.slice A0_2 l0_2.length c0_2)] 25 (0, 0))) ∧ Aside0 (Below w.heap.size w w'))
  case atStart => exact ⟨(0), (by first | rfl | (simp; done) | (simp [*]; done)), H', ⟨Nat.le_refl _⟩, ⟨by (with_reducible repeat (first | refine blk_drewN ?_ _ | refine blk_drew ?_ | refine blk_alloc ?_ _)); exact BK160.out⟩, ⟨by repeat (first | (with_reducible first | exact HB.out | apply below_alloc | apply pw_below_drewN | apply below_drew1 | refine below_set ?_ GE160.out) | exact HB.out)⟩⟩
  case round =>
    clear H'
    try clear p2
    try clear c3
    try clear hcz4_0
    try clear hcz4_1
    try clear hcz4_2
    try clear hfz4_0
    try clear hfz4_1
    try clear hfz4_2
    obtain ⟨x10_1, rfl, HA, HK1, BK160, HB⟩ := hrel
    cases gk with
    | zero => exact absurd HA.out (by simp [mortmainref09_Find.l0])
    | succ k1 =>
      have H := HA.out
      clear HA
      simp only [mortmainref09_Find.l0] at H
      by_cases c5 : x10_1 < (l0_1.length : Int)
      · rw [if_pos c5] at H
        have c5b0 : decide (x10_1 < (l0_1.length : Int)) = true := decide_eq_true c5
        clear c5
        by_cases c6 : 0 ≤ x10_1
        · rw [if_pos c6] at H
          have c6b0 : decide (0 ≤ x10_1) = true := decide_eq_true c6
          clear c6
          by_cases c7 : x10_1 < (l0_1.length : Int)
          · rw [if_pos c7] at H
            have c7b0 : decide (x10_1 < (l0_1.length : Int)) = true := decide_eq_true c7
            clear c7
            by_cases c8 : ((rd_T45 l0_1 x10_1).f0).toList = a1.toList
            · rw [if_pos c8] at H
              have c8b0 : (((rd_T45 l0_1 x10_1).f0).toList == a1.toList) = true := beq_iff_eq.mpr c8
              have c8b1 : (((rd_T45 l0_1 x10_1).f0).toList != a1.toList) = false := bne_eq_false_iff_eq.mpr c8
              clear c8
              obtain rfl := Option.some.inj H
              have p161 : 0 ≤ (x10_1 : Int) := of_decide_eq_true (by first | (with_reducible assumption) | assumption)
              have q161 : x10_1 < (l0_1.length : Int) := of_decide_eq_true (by first | (with_reducible assumption) | assumption)
              obtain ⟨ad161, A161_2, c161_2, A161_3, c161_3, e161, hx161_0, hx161_1, hx161_2, hx161_3, hl161_2, hi161_2, hl161_3, hi161_3⟩ := at_T45 HR0_1.out x10_1 p161 q161
              cases e161
              replace hx161_0 := (HB.out.cell (World.block_lt_of_cell? w _ hx161_0)).trans hx161_0
              replace hx161_1 := (HB.out.cell (World.block_lt_of_cell? w _ hx161_1)).trans hx161_1
              replace hx161_2 := (HB.out.cell (World.block_lt_of_cell? w _ hx161_2)).trans hx161_2
              replace hx161_3 := (HB.out.cell (World.block_lt_of_cell? w _ hx161_3)).trans hx161_3
              have HR161_2 := Aside0.mk hi161_2
              have HC161_2 := Aside0.mk hl161_2
              clear hi161_2 hl161_2
              have HR161_3 := Aside0.mk hi161_3
              have HC161_3 := Aside0.mk hl161_3
              clear hi161_3 hl161_3
              replace p161 := eq_true p161
              replace q161 := eq_true q161
              go_wp2_with (first | ((with_reducible refine gate_dst (N := 6) rfl ?_); refine box_event ?hg (N := 6) ?hd (cs := #[.string (⟨#[]⟩ : ByteArray), .int .i64 0, .slice none 0 0, .slice none 0 0]) (t := 45) ?hr ?_; (case hd => rfl); (case hg => rfl); (case hr => first | (go_simp; done) | (go_simp; rfl)); intro gb162 hg w9 hbox hb; have n0_ := Aside0.mk (blk_below (g := gb160) (o := .cells #[.int .i64 a0_0, .slice (some ad161) l0_1.length c0_1, .slice A0_2 l0_2.length c0_2] 25 (0, 0)) (by (with_reducible repeat (first | refine blk_drewN ?_ _ | refine blk_drew ?_ | refine blk_alloc ?_ _)); exact BK160.out) hb); have n1_ := Aside0.mk (below_step (by repeat (first | (with_reducible first | exact HB.out | apply below_alloc | apply pw_below_drewN | apply below_drew1 | refine below_set ?_ GE160.out) | exact HB.out)) hb); have n2_ := Aside0.mk (hbox); have n3_ := Aside0.mk ((by rw [hg]; exact (below_size (by repeat (first | (with_reducible first | exact HB.out | apply below_alloc | apply pw_below_drewN | apply below_drew1 | refine below_set ?_ GE160.out) | exact HB.out))) : w.heap.size ≤ gb162)); have n4_ := Aside0.mk ((by rw [hg]; exact (below_size (by repeat (first | (with_reducible first | exact HB.out | apply below_alloc | apply pw_below_drewN | apply below_drew1 | refine below_set ?_ GE160.out) | exact HB.out))) : w.heap.size ≤ gb162)); have n5_ := Aside0.mk ((by rw [hg]; exact Nat.ne_of_lt (blk_lt (g := gb160) (o := .cells #[.int .i64 a0_0, .slice (some ad161) l0_1.length c0_1, .slice A0_2 l0_2.length c0_2] 25 (0, 0)) (by (with_reducible repeat (first | refine blk_drewN ?_ _ | refine blk_drew ?_ | refine blk_alloc ?_ _)); exact BK160.out)) : gb160 ≠ gb162)); have n6_ := Aside0.mk ((by rw [hg]; exact Nat.ne_of_gt (blk_lt (g := gb160) (o := .cells #[.int .i64 a0_0, .slice (some ad161) l0_1.length c0_1, .slice A0_2 l0_2.length c0_2] 25 (0, 0)) (by (with_reducible repeat (first | refine blk_drewN ?_ _ | refine blk_drew ?_ | refine blk_alloc ?_ _)); exact BK160.out)) : gb162 ≠ gb160)); clear BK160; clear HB; have BK160 := n0_; have HB := n1_; have BK162 := n2_; have GW162 := n3_; have GE162 := n4_; have NB160_162 := n5_; have NB162_160 := n6_; clear n0_ n1_ n2_ n3_ n4_ n5_ n6_; clear hb hbox hg; have hnb10 := NB162_160.out; have hnc10 := NB160_162.out; have hcz11_0 : w9.cell? ⟨gb162, 0, none⟩ = some (.string (⟨#[]⟩ : ByteArray)) := (blk_cell BK162.out 0).trans rfl; have hcz11_1 : w9.cell? ⟨gb162, 1, none⟩ = some (.int .i64 0) := (blk_cell BK162.out 1).trans rfl; have hcz11_2 : w9.cell? ⟨gb162, 2, none⟩ = some (.slice none 0 0) := (blk_cell BK162.out 2).trans rfl; have hcz11_3 : w9.cell? ⟨gb162, 3, none⟩ = some (.slice none 0 0) := (blk_cell BK162.out 3).trans rfl; have hfz11_0 := blk_frozen BK162.out 0; have hfz11_1 := blk_frozen BK162.out 1; have hfz11_2 := blk_frozen BK162.out 2; have hfz11_3 := blk_frozen BK162.out 3))
              go_ret
              exact ⟨by first | rfl | (simp [errW_none, errW_some] <;> rfl) | (simp [*, errW_none, errW_some] <;> rfl), by repeat (first | (with_reducible first | exact HB.out | apply below_alloc | apply pw_below_drewN | apply below_drew1 | refine below_set ?_ GE160.out | refine below_set ?_ GE162.out) | exact HB.out)⟩
            · rw [if_neg c8] at H
              have c8b0 : (((rd_T45 l0_1 x10_1).f0).toList == a1.toList) = false := beq_eq_false_iff_ne.mpr c8
              have c8b1 : (((rd_T45 l0_1 x10_1).f0).toList != a1.toList) = true := bne_iff_ne.mpr c8
              have H' := Aside0.mk H
              clear H
              have p161 : 0 ≤ (x10_1 : Int) := of_decide_eq_true (by first | (with_reducible assumption) | assumption)
              have q161 : x10_1 < (l0_1.length : Int) := of_decide_eq_true (by first | (with_reducible assumption) | assumption)
              obtain ⟨ad161, A161_2, c161_2, A161_3, c161_3, e161, hx161_0, hx161_1, hx161_2, hx161_3, hl161_2, hi161_2, hl161_3, hi161_3⟩ := at_T45 HR0_1.out x10_1 p161 q161
              cases e161
              replace hx161_0 := (HB.out.cell (World.block_lt_of_cell? w _ hx161_0)).trans hx161_0
              replace hx161_1 := (HB.out.cell (World.block_lt_of_cell? w _ hx161_1)).trans hx161_1
              replace hx161_2 := (HB.out.cell (World.block_lt_of_cell? w _ hx161_2)).trans hx161_2
              replace hx161_3 := (HB.out.cell (World.block_lt_of_cell? w _ hx161_3)).trans hx161_3
              have HR161_2 := Aside0.mk hi161_2
              have HC161_2 := Aside0.mk hl161_2
              clear hi161_2 hl161_2
              have HR161_3 := Aside0.mk hi161_3
              have HC161_3 := Aside0.mk hl161_3
              clear hi161_3 hl161_3
              replace p161 := eq_true p161
              replace q161 := eq_true q161
              go_wp2_with (first | ((with_reducible refine gate_dst (N := 6) rfl ?_); refine box_event ?hg (N := 6) ?hd (cs := #[.string (⟨#[]⟩ : ByteArray), .int .i64 0, .slice none 0 0, .slice none 0 0]) (t := 45) ?hr ?_; (case hd => rfl); (case hg => rfl); (case hr => first | (go_simp; done) | (go_simp; rfl)); intro gb162 hg w12 hbox hb; have n0_ := Aside0.mk (blk_below (g := gb160) (o := .cells #[.int .i64 a0_0, .slice (some ad161) l0_1.length c0_1, .slice A0_2 l0_2.length c0_2] 25 (0, 0)) (by (with_reducible repeat (first | refine blk_drewN ?_ _ | refine blk_drew ?_ | refine blk_alloc ?_ _)); exact BK160.out) hb); have n1_ := Aside0.mk (below_step (by repeat (first | (with_reducible first | exact HB.out | apply below_alloc | apply pw_below_drewN | apply below_drew1 | refine below_set ?_ GE160.out) | exact HB.out)) hb); have n2_ := Aside0.mk (hbox); have n3_ := Aside0.mk ((by rw [hg]; exact (below_size (by repeat (first | (with_reducible first | exact HB.out | apply below_alloc | apply pw_below_drewN | apply below_drew1 | refine below_set ?_ GE160.out) | exact HB.out))) : w.heap.size ≤ gb162)); have n4_ := Aside0.mk ((by rw [hg]; exact (below_size (by repeat (first | (with_reducible first | exact HB.out | apply below_alloc | apply pw_below_drewN | apply below_drew1 | refine below_set ?_ GE160.out) | exact HB.out))) : w.heap.size ≤ gb162)); have n5_ := Aside0.mk ((by rw [hg]; exact Nat.ne_of_lt (blk_lt (g := gb160) (o := .cells #[.int .i64 a0_0, .slice (some ad161) l0_1.length c0_1, .slice A0_2 l0_2.length c0_2] 25 (0, 0)) (by (with_reducible repeat (first | refine blk_drewN ?_ _ | refine blk_drew ?_ | refine blk_alloc ?_ _)); exact BK160.out)) : gb160 ≠ gb162)); have n6_ := Aside0.mk ((by rw [hg]; exact Nat.ne_of_gt (blk_lt (g := gb160) (o := .cells #[.int .i64 a0_0, .slice (some ad161) l0_1.length c0_1, .slice A0_2 l0_2.length c0_2] 25 (0, 0)) (by (with_reducible repeat (first | refine blk_drewN ?_ _ | refine blk_drew ?_ | refine blk_alloc ?_ _)); exact BK160.out)) : gb162 ≠ gb160)); clear BK160; clear HB; have BK160 := n0_; have HB := n1_; have BK162 := n2_; have GW162 := n3_; have GE162 := n4_; have NB160_162 := n5_; have NB162_160 := n6_; clear n0_ n1_ n2_ n3_ n4_ n5_ n6_; clear hb hbox hg; have hnb13 := NB162_160.out; have hnc13 := NB160_162.out; have hcz14_0 : w12.cell? ⟨gb162, 0, none⟩ = some (.string (⟨#[]⟩ : ByteArray)) := (blk_cell BK162.out 0).trans rfl; have hcz14_1 : w12.cell? ⟨gb162, 1, none⟩ = some (.int .i64 0) := (blk_cell BK162.out 1).trans rfl; have hcz14_2 : w12.cell? ⟨gb162, 2, none⟩ = some (.slice none 0 0) := (blk_cell BK162.out 2).trans rfl; have hcz14_3 : w12.cell? ⟨gb162, 3, none⟩ = some (.slice none 0 0) := (blk_cell BK162.out 3).trans rfl; have hfz14_0 := blk_frozen BK162.out 0; have hfz14_1 := blk_frozen BK162.out 1; have hfz14_2 := blk_frozen BK162.out 2; have hfz14_3 := blk_frozen BK162.out 3))
              go_roundg k1
              case measure => have := HK1.out; omega
              case rel => exact ⟨(wrap64 (x10_1 + 1)), (by first | rfl | (simp; done) | (simp [*]; done)), H', ⟨by have := HK1.out; omega⟩, ⟨by (with_reducible repeat (first | refine blk_drewN ?_ _ | refine blk_drew ?_ | refine blk_alloc ?_ _)); refine blk_far ?_ NB160_162.out _; (with_reducible repeat (first | refine blk_drewN ?_ _ | refine blk_drew ?_ | refine blk_alloc ?_ _)); refine blk_far ?_ NB160_162.out _; (with_reducible repeat (first | refine blk_drewN ?_ _ | refine blk_drew ?_ | refine blk_alloc ?_ _)); refine blk_far ?_ NB160_162.out _; (with_reducible repeat (first | refine blk_drewN ?_ _ | refine blk_drew ?_ | refine blk_alloc ?_ _)); refine blk_far ?_ NB160_162.out _; (with_reducible repeat (first | refine blk_drewN ?_ _ | refine blk_drew ?_ | refine blk_alloc ?_ _)); exact BK160.out⟩, ⟨by repeat (first | (with_reducible first | exact HB.out | apply below_alloc | apply pw_below_drewN | apply below_drew1 | refine below_set ?_ GE160.out | refine below_set ?_ GE162.out) | exact HB.out)⟩⟩
          · rw [if_neg c7] at H
            exact absurd H (by simp)
        · rw [if_neg c6] at H
          exact absurd H (by simp)
      · rw [if_neg c5] at H
        have c5b0 : decide (x10_1 < (l0_1.length : Int)) = false := decide_eq_false c5
        clear c5
        obtain rfl := Option.some.inj H
        go_wp2
        go_ret
        exact ⟨by first | rfl | (simp [errW_none, errW_some] <;> rfl) | (simp [*, errW_none, errW_some] <;> rfl), by repeat (first | (with_reducible first | exact HB.out | apply below_alloc | apply pw_below_drewN | apply below_drew1 | refine below_set ?_ GE160.out) | exact HB.out)⟩

end Go.Proofs.YtefdfgmlmjnmlaaDoor.Rf
end
