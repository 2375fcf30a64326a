/- PROVED: the tied card of the law SchemaTables: whatever the input, the law returns true and leaves its arguments as they read. Its conditions: the arguments are together of bulk at most 1048576, and those of the given row (the two tables of unicode/utf8 read as the program's text lays them). Joined out of this session's smaller texts (part 7 of 7). -/
import Derived.Test.YtefdfgmlmjnmlaaDoorZSchemaTables2
import Derived.Test.YtefdfgmlmjnmlaaDoorZSchemaTables6
import Derived.Test.YtefdfgmlmjnmlaaDoorZSchemaTables3
import Derived.Deep.DeepHandedRow
import Derived.Lib.LaidTab
section
set_option linter.unusedVariables false
set_option linter.unusedSimpArgs false
namespace Go.Proofs.YtefdfgmlmjnmlaaDoor.Rf
open Go.RowKit Go.Proofs.YtefdfgmlmjnmlaaDoorW.PrintWords Go.Proofs.YtefdfgmlmjnmlaaDoorW.PrintLast Go.Proofs.YtefdfgmlmjnmlaaDoorW.PrintMore
attribute [local go_sem] max2_int max_two
attribute [local go_sem high] eqA59
mutual
def mortmainref09_SameTable.j0 : Nat → Bool → ByteArray → Int → List (S59) → List (S72) → ByteArray → Int → List (S59) → List (S72) → Option (Bool)
  | 0, _, _, _, _, _, _, _, _, _ => none
  | k + 1, x36, x210000, x210001, x210002, x210003, x211000, x211001, x211002, x211003 => if x36 = true then (some false) else (mortmainref09_SameTable.l0 k (x210002.length : Int) 0 x210000 x210001 x210002 x210003 x211000 x211001 x211002 x211003)
def mortmainref09_SameTable.l0 : Nat → Int → Int → ByteArray → Int → List (S59) → List (S72) → ByteArray → Int → List (S59) → List (S72) → Option (Bool)
  | 0, _, _, _, _, _, _, _, _, _, _ => none
  | k + 1, x39, x40, x210000, x210001, x210002, x210003, x211000, x211001, x211002, x211003 => if x40 < x39 then (if 0 ≤ x40 then (if x40 < (x210002.length : Int) then (if x40 < (x211002.length : Int) then (if (!((((rd_T59 x210002 x40).f0).toList) == (((rd_T59 x211002 x40).f0).toList)) || (!(((rd_T59 x210002 x40).f1) == ((rd_T59 x211002 x40).f1)) || (!(((rd_T59 x210002 x40).f2) == ((rd_T59 x211002 x40).f2)) || (!(((rd_T59 x210002 x40).f3) == ((rd_T59 x211002 x40).f3)) || (!((((rd_T59 x210002 x40).f4).toList) == (((rd_T59 x211002 x40).f4).toList)) || (!(((rd_T59 x210002 x40).f5) == ((rd_T59 x211002 x40).f5)))))))) = true then (some false) else (mortmainref09_SameTable.l0 k x39 (wrap64 (x40 + 1)) x210000 x210001 x210002 x210003 x211000 x211001 x211002 x211003)) else (none)) else (none)) else (none)) else (mortmainref09_SameTable.l1 k (x210003.length : Int) 0 x210000 x210001 x210002 x210003 x211000 x211001 x211002 x211003)
def mortmainref09_SameTable.l1 : Nat → Int → Int → ByteArray → Int → List (S59) → List (S72) → ByteArray → Int → List (S59) → List (S72) → Option (Bool)
  | 0, _, _, _, _, _, _, _, _, _, _ => none
  | k + 1, x57, x58, x210000, x210001, x210002, x210003, x211000, x211001, x211002, x211003 => if x58 < x57 then (if 0 ≤ x58 then (if x58 < (x210003.length : Int) then (if x58 < (x211003.length : Int) then ((mortmainref09_sameExpr.f k ((rd_T72 x210003 x58).f0) ((rd_T72 x210003 x58).f1) ((rd_T72 x210003 x58).f2.f0) ((rd_T72 x210003 x58).f2.f1) ((rd_T72 x210003 x58).f2.f2) ((rd_T72 x210003 x58).f3) ((rd_T72 x211003 x58).f0) ((rd_T72 x211003 x58).f1) ((rd_T72 x211003 x58).f2.f0) ((rd_T72 x211003 x58).f2.f1) ((rd_T72 x211003 x58).f2.f2) ((rd_T72 x211003 x58).f3)).bind fun t215 => (if t215 = true then (mortmainref09_SameTable.l1 k x57 (wrap64 (x58 + 1)) x210000 x210001 x210002 x210003 x211000 x211001 x211002 x211003) else (some false))) else (none)) else (none)) else (none)) else (some true)
end
def mortmainref09_SameTable.f (k : Nat) (a0_0 : ByteArray) (a0_1 : Int) (l0_2 : List (S59)) (l0_3 : List (S72)) (a1_0 : ByteArray) (a1_1 : Int) (l1_2 : List (S59)) (l1_3 : List (S72)) : Option (Bool) := if a0_0.toList = a1_0.toList then (if a0_1 = a1_1 then (if (l0_2.length : Int) = (l1_2.length : Int) then (mortmainref09_SameTable.j0 k ((l0_3.length : Int) != (l1_3.length : Int)) a0_0 a0_1 l0_2 l0_3 a1_0 a1_1 l1_2 l1_3) else (mortmainref09_SameTable.j0 k true a0_0 a0_1 l0_2 l0_3 a1_0 a1_1 l1_2 l1_3)) else (mortmainref09_SameTable.j0 k true a0_0 a0_1 l0_2 l0_3 a1_0 a1_1 l1_2 l1_3)) else (mortmainref09_SameTable.j0 k true a0_0 a0_1 l0_2 l0_3 a1_0 a1_1 l1_2 l1_3)
def mortmainref09_SameTable.T6 : Bool × List (List Nat × List Nat) := (true, [([], []), ([0], [0]), ([], []), ([1, 2], [1, 2]), ([3], [3]), ([], []), ([5], [5]), ([], []), ([6, 7], [6, 7]), ([8], [8]), ([4, 9], [4, 9])])
def mortmainref09_SameTable.B6 : List Nat := [0, 1, 0, 7, 15, 0, 32, 0, 224, 480, 1023]
theorem mortmainref09_SameTable.tab6 : rtab .any (opsOf Tryd.f31 6) = mortmainref09_SameTable.T6 := by kernel_rfl
theorem mortmainref09_SameTable.bits6 : waitsOk mortmainref09_SameTable.T6.2 mortmainref09_SameTable.B6 = true := by kernel_rfl
def mortmainref09_SameTable.T12 : Bool × List (List Nat × List Nat) := (true, [([], []), ([0], [0]), ([], []), ([1, 2], [1, 2]), ([3], [3]), ([], []), ([5], [5]), ([], []), ([6, 7], [6, 7]), ([8], [8]), ([4, 9], [4, 9]), ([10], [10])])
def mortmainref09_SameTable.B12 : List Nat := [0, 1, 0, 7, 15, 0, 32, 0, 224, 480, 1023, 2047]
theorem mortmainref09_SameTable.tab12 : rtab .any (opsOf Tryd.f31 12) = mortmainref09_SameTable.T12 := by kernel_rfl
theorem mortmainref09_SameTable.bits12 : waitsOk mortmainref09_SameTable.T12.2 mortmainref09_SameTable.B12 = true := by kernel_rfl
set_option maxHeartbeats 8000000 in
set_option maxRecDepth 100000 in
theorem mortmainref09_SameTable.calls (k : Nat) (a0_0 : ByteArray) (a0_1 : Int) (A0_2 : Option Addr) (c0_2 : Nat) (l0_2 : List (S59)) (A0_3 : Option Addr) (c0_3 : Nat) (l0_3 : List (S72)) (a1_0 : ByteArray) (a1_1 : Int) (A1_2 : Option Addr) (c1_2 : Nat) (l1_2 : List (S59)) (A1_3 : Option Addr) (c1_3 : Nat) (l1_3 : List (S72)) (r : Bool) (w : World) (hr0_2 : Kd.C k59 w A0_2 l0_2.length l0_2) (hc0_2 : l0_2.length ≤ c0_2) (hr0_3 : Kd.C k72 w A0_3 l0_3.length l0_3) (hc0_3 : l0_3.length ≤ c0_3) (hr1_2 : Kd.C k59 w A1_2 l1_2.length l1_2) (hc1_2 : l1_2.length ≤ c1_2) (hr1_3 : Kd.C k72 w A1_3 l1_3.length l1_3) (hc1_3 : l1_3.length ≤ c1_3) (h : mortmainref09_SameTable.f k a0_0 a0_1 l0_2 l0_3 a1_0 a1_1 l1_2 l1_3 = some r) :
    Calls Tryd.prog 31 #[.agg #[.string a0_0, .int .i64 a0_1, .slice A0_2 l0_2.length c0_2, .slice A0_3 l0_3.length c0_3], .agg #[.string a1_0, .int .i64 a1_1, .slice A1_2 l1_2.length c1_2, .slice A1_3 l1_3.length c1_3]] w fun e w' => e = .returned (.bool r) ∧ Below w.heap.size w w' := by
  have hu45 := Tryd.underlying45
  have hu59 := Tryd.underlying59
  have hu72 := Tryd.underlying72
  have HR0_2 := Aside0.mk hr0_2
  have HC0_2 := Aside0.mk hc0_2
  clear hr0_2 hc0_2
  have HR0_3 := Aside0.mk hr0_3
  have HC0_3 := Aside0.mk hc0_3
  clear hr0_3 hc0_3
  have HR1_2 := Aside0.mk hr1_2
  have HC1_2 := Aside0.mk hc1_2
  clear hr1_2 hc1_2
  have HR1_3 := Aside0.mk hr1_3
  have HC1_3 := Aside0.mk hc1_3
  clear hr1_3 hc1_3
  have HB := Aside0.mk (Below.refl w.heap.size w)
  have H : (if a0_0.toList = a1_0.toList then (if a0_1 = a1_1 then (if (l0_2.length : Int) = (l1_2.length : Int) then (mortmainref09_SameTable.j0 k ((l0_3.length : Int) != (l1_3.length : Int)) a0_0 a0_1 l0_2 l0_3 a1_0 a1_1 l1_2 l1_3) else (mortmainref09_SameTable.j0 k true a0_0 a0_1 l0_2 l0_3 a1_0 a1_1 l1_2 l1_3)) else (mortmainref09_SameTable.j0 k true a0_0 a0_1 l0_2 l0_3 a1_0 a1_1 l1_2 l1_3)) else (mortmainref09_SameTable.j0 k true a0_0 a0_1 l0_2 l0_3 a1_0 a1_1 l1_2 l1_3)) = some r := h
  clear h
  have HC3 := Aside0.mk H
  clear H
  go_enter Tryd.func31, Tryd.ntmps31
  go_upto_region 1 with (first | ((with_reducible refine gate_dst (N := 2) rfl ?_); (try (refine gate_guard (by rfl) ?_; dsimp only)); refine box_event ?hg (N := 2) ?hd (cs := #[.string a0_0, .int .i64 a0_1, .slice A0_2 l0_2.length c0_2, .slice A0_3 l0_3.length c0_3]) (t := 45) ?hr ?_; (case hd => rfl); (case hg => rfl); (case hr => first | (go_simp; done) | (go_simp; rfl)); intro gb209 hg w4 hbox hb; have n0_ := Aside0.mk (below_step (by repeat (first | (with_reducible first | exact HB.out | apply below_alloc | apply pw_below_drewN | apply below_drew1) | exact HB.out)) hb); have n1_ := Aside0.mk (hbox); have n2_ := Aside0.mk ((by rw [hg]; exact (below_size (by repeat (first | (with_reducible first | exact HB.out | apply below_alloc | apply pw_below_drewN | apply below_drew1) | exact HB.out))) : w.heap.size ≤ gb209)); have n3_ := Aside0.mk ((by rw [hg]; exact (below_size (by repeat (first | (with_reducible first | exact HB.out | apply below_alloc | apply pw_below_drewN | apply below_drew1) | exact HB.out))) : w.heap.size ≤ gb209)); clear HB; have HB := n0_; have BK209 := n1_; have GW209 := n2_; have GE209 := n3_; clear n0_ n1_ n2_ n3_; clear hb hbox hg) | ((with_reducible refine gate_dst (N := 3) rfl ?_); (try (refine gate_guard (by rfl) ?_; dsimp only)); refine box_event ?hg (N := 3) ?hd (cs := #[.string a1_0, .int .i64 a1_1, .slice A1_2 l1_2.length c1_2, .slice A1_3 l1_3.length c1_3]) (t := 45) ?hr ?_; (case hd => rfl); (case hg => rfl); (case hr => first | (go_simp; done) | (go_simp; rfl)); intro gb210 hg w5 hbox hb; have n0_ := Aside0.mk (blk_below (g := gb209) (o := .cells #[.string a0_0, .int .i64 a0_1, .slice A0_2 l0_2.length c0_2, .slice A0_3 l0_3.length c0_3] 45 (0, 0)) (by (with_reducible repeat (first | refine blk_drewN ?_ _ | refine blk_drew ?_ | refine blk_alloc ?_ _)); exact BK209.out) hb); have n1_ := Aside0.mk (below_step (by repeat (first | (with_reducible first | exact HB.out | apply below_alloc | apply pw_below_drewN | apply below_drew1 | refine below_set ?_ GE209.out) | exact HB.out)) hb); have n2_ := Aside0.mk (hbox); have n3_ := Aside0.mk ((by rw [hg]; exact (below_size (by repeat (first | (with_reducible first | exact HB.out | apply below_alloc | apply pw_below_drewN | apply below_drew1 | refine below_set ?_ GE209.out) | exact HB.out))) : w.heap.size ≤ gb210)); have n4_ := Aside0.mk ((by rw [hg]; exact (below_size (by repeat (first | (with_reducible first | exact HB.out | apply below_alloc | apply pw_below_drewN | apply below_drew1 | refine below_set ?_ GE209.out) | exact HB.out))) : w.heap.size ≤ gb210)); have n5_ := Aside0.mk ((by rw [hg]; exact Nat.ne_of_lt (blk_lt (g := gb209) (o := .cells #[.string a0_0, .int .i64 a0_1, .slice A0_2 l0_2.length c0_2, .slice A0_3 l0_3.length c0_3] 45 (0, 0)) (by (with_reducible repeat (first | refine blk_drewN ?_ _ | refine blk_drew ?_ | refine blk_alloc ?_ _)); exact BK209.out)) : gb209 ≠ gb210)); have n6_ := Aside0.mk ((by rw [hg]; exact Nat.ne_of_gt (blk_lt (g := gb209) (o := .cells #[.string a0_0, .int .i64 a0_1, .slice A0_2 l0_2.length c0_2, .slice A0_3 l0_3.length c0_3] 45 (0, 0)) (by (with_reducible repeat (first | refine blk_drewN ?_ _ | refine blk_drew ?_ | refine blk_alloc ?_ _)); exact BK209.out)) : gb210 ≠ gb209)); clear BK209; clear HB; have BK209 := n0_; have HB := n1_; have BK210 := n2_; have GW210 := n3_; have GE210 := n4_; have NB209_210 := n5_; have NB210_209 := n6_; clear n0_ n1_ n2_ n3_ n4_ n5_ n6_; clear hb hbox hg))
  (try simp only [Act.put, List.setIfInBounds_toArray, List.set_cons_zero, List.set_cons_succ])
  go_cut [36] (fun v36 wc => ∃ (kq : Nat) (x36_2 : Bool), v36 = .bool x36_2 ∧ Aside0 (mortmainref09_SameTable.j0 kq x36_2 a0_0 a0_1 l0_2 l0_3 a1_0 a1_1 l1_2 l1_3 = some r) ∧ Aside0 (kq ≤ k) ∧ Aside0 (wc.heap[gb209]? = some (.cells #[.string a0_0, .int .i64 a0_1, (.slice A0_2 l0_2.length c0_2), (.slice A0_3 l0_3.length c0_3)] 45 (0, 0))) ∧ Aside0 (wc.heap[gb210]? = some (.cells #[.string a1_0, .int .i64 a1_1, (.slice A1_2 l1_2.length c1_2), (.slice A1_3 l1_3.length c1_3)] 45 (0, 0))) ∧ Aside0 (Below w.heap.size w wc))
  case first =>
    have H := HC3.out
    clear HC3
    by_cases c6 : a0_0.toList = a1_0.toList
    · rw [if_pos c6] at H
      have c6b0 : (a0_0.toList == a1_0.toList) = true := beq_iff_eq.mpr c6
      have c6b1 : (a0_0.toList != a1_0.toList) = false := bne_eq_false_iff_eq.mpr c6
      clear c6
      (first | rw [c6b0] | (simp only [i64_w, i32_w]; rw [c6b0]) | skip)
      by_cases c7 : a0_1 = a1_1
      · rw [if_pos c7] at H
        have c7b0 : (a0_1 == a1_1) = true := beq_iff_eq.mpr c7
        have c7b1 : (a0_1 != a1_1) = false := bne_eq_false_iff_eq.mpr c7
        clear c7
        by_cases c8 : (l0_2.length : Int) = (l1_2.length : Int)
        · rw [if_pos c8] at H
          have c8b0 : ((l0_2.length : Int) == (l1_2.length : Int)) = true := beq_iff_eq.mpr c8
          have c8b1 : ((l0_2.length : Int) != (l1_2.length : Int)) = false := bne_eq_false_iff_eq.mpr c8
          have c8b2 : (l0_2.length == l1_2.length) = true := by first | simpa using c8 | (simp at c8 ⊢; omega)
          clear c8
          have H' := Aside0.mk H
          clear H
          have hnb9 := NB209_210.out
          have hnc9 := NB210_209.out
          have hcz10_0 : w5.cell? ⟨gb209, 0, none⟩ = some (.string a0_0) := (blk_cell BK209.out 0).trans rfl
          have hcz10_1 : w5.cell? ⟨gb209, 1, none⟩ = some (.int .i64 a0_1) := (blk_cell BK209.out 1).trans rfl
          have hcz10_2 : w5.cell? ⟨gb209, 2, none⟩ = some (.slice A0_2 l0_2.length c0_2) := (blk_cell BK209.out 2).trans rfl
          have hcz10_3 : w5.cell? ⟨gb209, 3, none⟩ = some (.slice A0_3 l0_3.length c0_3) := (blk_cell BK209.out 3).trans rfl
          have hfz10_0 := blk_frozen BK209.out 0
          have hfz10_1 := blk_frozen BK209.out 1
          have hfz10_2 := blk_frozen BK209.out 2
          have hfz10_3 := blk_frozen BK209.out 3
          have hcz11_0 : w5.cell? ⟨gb210, 0, none⟩ = some (.string a1_0) := (blk_cell BK210.out 0).trans rfl
          have hcz11_1 : w5.cell? ⟨gb210, 1, none⟩ = some (.int .i64 a1_1) := (blk_cell BK210.out 1).trans rfl
          have hcz11_2 : w5.cell? ⟨gb210, 2, none⟩ = some (.slice A1_2 l1_2.length c1_2) := (blk_cell BK210.out 2).trans rfl
          have hcz11_3 : w5.cell? ⟨gb210, 3, none⟩ = some (.slice A1_3 l1_3.length c1_3) := (blk_cell BK210.out 3).trans rfl
          have hfz11_0 := blk_frozen BK210.out 0
          have hfz11_1 := blk_frozen BK210.out 1
          have hfz11_2 := blk_frozen BK210.out 2
          have hfz11_3 := blk_frozen BK210.out 3
          go_wp2
          go_meet
          case rel => exact ⟨_, (((l0_3.length : Int) != (l1_3.length : Int))), (by first | rfl | (simp; done) | (simp [*]; done)), H', ⟨by first | omega | exact Nat.le_refl _⟩, ⟨by (with_reducible repeat (first | refine blk_drewN ?_ _ | refine blk_drew ?_ | refine blk_alloc ?_ _)); exact BK209.out⟩, ⟨by (with_reducible repeat (first | refine blk_drewN ?_ _ | refine blk_drew ?_ | refine blk_alloc ?_ _)); exact BK210.out⟩, ⟨by repeat (first | (with_reducible first | exact HB.out | apply below_alloc | apply pw_below_drewN | apply below_drew1 | refine below_set ?_ GE209.out | refine below_set ?_ GE210.out) | exact HB.out)⟩⟩
        · rw [if_neg c8] at H
          have c8b0 : ((l0_2.length : Int) == (l1_2.length : Int)) = false := beq_eq_false_iff_ne.mpr c8
          have c8b1 : ((l0_2.length : Int) != (l1_2.length : Int)) = true := bne_iff_ne.mpr c8
          have c8b2 : (l0_2.length == l1_2.length) = false := by first | simpa using c8 | (simp at c8 ⊢; omega)
          have H' := Aside0.mk H
          clear H
          have hnb12 := NB209_210.out
          have hnc12 := NB210_209.out
          have hcz13_0 : w5.cell? ⟨gb209, 0, none⟩ = some (.string a0_0) := (blk_cell BK209.out 0).trans rfl
          have hcz13_1 : w5.cell? ⟨gb209, 1, none⟩ = some (.int .i64 a0_1) := (blk_cell BK209.out 1).trans rfl
          have hcz13_2 : w5.cell? ⟨gb209, 2, none⟩ = some (.slice A0_2 l0_2.length c0_2) := (blk_cell BK209.out 2).trans rfl
          have hcz13_3 : w5.cell? ⟨gb209, 3, none⟩ = some (.slice A0_3 l0_3.length c0_3) := (blk_cell BK209.out 3).trans rfl
          have hfz13_0 := blk_frozen BK209.out 0
          have hfz13_1 := blk_frozen BK209.out 1
          have hfz13_2 := blk_frozen BK209.out 2
          have hfz13_3 := blk_frozen BK209.out 3
          have hcz14_0 : w5.cell? ⟨gb210, 0, none⟩ = some (.string a1_0) := (blk_cell BK210.out 0).trans rfl
          have hcz14_1 : w5.cell? ⟨gb210, 1, none⟩ = some (.int .i64 a1_1) := (blk_cell BK210.out 1).trans rfl
          have hcz14_2 : w5.cell? ⟨gb210, 2, none⟩ = some (.slice A1_2 l1_2.length c1_2) := (blk_cell BK210.out 2).trans rfl
          have hcz14_3 : w5.cell? ⟨gb210, 3, none⟩ = some (.slice A1_3 l1_3.length c1_3) := (blk_cell BK210.out 3).trans rfl
          have hfz14_0 := blk_frozen BK210.out 0
          have hfz14_1 := blk_frozen BK210.out 1
          have hfz14_2 := blk_frozen BK210.out 2
          have hfz14_3 := blk_frozen BK210.out 3
          go_wp2
          go_meet
          case rel => exact ⟨_, (true), (by first | rfl | (simp; done) | (simp [*]; done)), H', ⟨by first | omega | exact Nat.le_refl _⟩, ⟨by (with_reducible repeat (first | refine blk_drewN ?_ _ | refine blk_drew ?_ | refine blk_alloc ?_ _)); exact BK209.out⟩, ⟨by (with_reducible repeat (first | refine blk_drewN ?_ _ | refine blk_drew ?_ | refine blk_alloc ?_ _)); exact BK210.out⟩, ⟨by repeat (first | (with_reducible first | exact HB.out | apply below_alloc | apply pw_below_drewN | apply below_drew1 | refine below_set ?_ GE209.out | refine below_set ?_ GE210.out) | exact HB.out)⟩⟩
      · rw [if_neg c7] at H
        have c7b0 : (a0_1 == a1_1) = false := beq_eq_false_iff_ne.mpr c7
        have c7b1 : (a0_1 != a1_1) = true := bne_iff_ne.mpr c7
        have H' := Aside0.mk H
        clear H
        have hnb15 := NB209_210.out
        have hnc15 := NB210_209.out
        have hcz16_0 : w5.cell? ⟨gb209, 0, none⟩ = some (.string a0_0) := (blk_cell BK209.out 0).trans rfl
        have hcz16_1 : w5.cell? ⟨gb209, 1, none⟩ = some (.int .i64 a0_1) := (blk_cell BK209.out 1).trans rfl
        have hcz16_2 : w5.cell? ⟨gb209, 2, none⟩ = some (.slice A0_2 l0_2.length c0_2) := (blk_cell BK209.out 2).trans rfl
        have hcz16_3 : w5.cell? ⟨gb209, 3, none⟩ = some (.slice A0_3 l0_3.length c0_3) := (blk_cell BK209.out 3).trans rfl
        have hfz16_0 := blk_frozen BK209.out 0
        have hfz16_1 := blk_frozen BK209.out 1
        have hfz16_2 := blk_frozen BK209.out 2
        have hfz16_3 := blk_frozen BK209.out 3
        have hcz17_0 : w5.cell? ⟨gb210, 0, none⟩ = some (.string a1_0) := (blk_cell BK210.out 0).trans rfl
        have hcz17_1 : w5.cell? ⟨gb210, 1, none⟩ = some (.int .i64 a1_1) := (blk_cell BK210.out 1).trans rfl
        have hcz17_2 : w5.cell? ⟨gb210, 2, none⟩ = some (.slice A1_2 l1_2.length c1_2) := (blk_cell BK210.out 2).trans rfl
        have hcz17_3 : w5.cell? ⟨gb210, 3, none⟩ = some (.slice A1_3 l1_3.length c1_3) := (blk_cell BK210.out 3).trans rfl
        have hfz17_0 := blk_frozen BK210.out 0
        have hfz17_1 := blk_frozen BK210.out 1
        have hfz17_2 := blk_frozen BK210.out 2
        have hfz17_3 := blk_frozen BK210.out 3
        go_wp2
        go_meet
        case rel => exact ⟨_, (true), (by first | rfl | (simp; done) | (simp [*]; done)), H', ⟨by first | omega | exact Nat.le_refl _⟩, ⟨by (with_reducible repeat (first | refine blk_drewN ?_ _ | refine blk_drew ?_ | refine blk_alloc ?_ _)); exact BK209.out⟩, ⟨by (with_reducible repeat (first | refine blk_drewN ?_ _ | refine blk_drew ?_ | refine blk_alloc ?_ _)); exact BK210.out⟩, ⟨by repeat (first | (with_reducible first | exact HB.out | apply below_alloc | apply pw_below_drewN | apply below_drew1 | refine below_set ?_ GE209.out | refine below_set ?_ GE210.out) | exact HB.out)⟩⟩
    · rw [if_neg c6] at H
      have c6b0 : (a0_0.toList == a1_0.toList) = false := beq_eq_false_iff_ne.mpr c6
      have c6b1 : (a0_0.toList != a1_0.toList) = true := bne_iff_ne.mpr c6
      (first | rw [c6b0] | (simp only [i64_w, i32_w]; rw [c6b0]) | skip)
      have H' := Aside0.mk H
      clear H
      have hnb18 := NB209_210.out
      have hnc18 := NB210_209.out
      have hcz19_0 : w5.cell? ⟨gb209, 0, none⟩ = some (.string a0_0) := (blk_cell BK209.out 0).trans rfl
      have hcz19_1 : w5.cell? ⟨gb209, 1, none⟩ = some (.int .i64 a0_1) := (blk_cell BK209.out 1).trans rfl
      have hcz19_2 : w5.cell? ⟨gb209, 2, none⟩ = some (.slice A0_2 l0_2.length c0_2) := (blk_cell BK209.out 2).trans rfl
      have hcz19_3 : w5.cell? ⟨gb209, 3, none⟩ = some (.slice A0_3 l0_3.length c0_3) := (blk_cell BK209.out 3).trans rfl
      have hfz19_0 := blk_frozen BK209.out 0
      have hfz19_1 := blk_frozen BK209.out 1
      have hfz19_2 := blk_frozen BK209.out 2
      have hfz19_3 := blk_frozen BK209.out 3
      have hcz20_0 : w5.cell? ⟨gb210, 0, none⟩ = some (.string a1_0) := (blk_cell BK210.out 0).trans rfl
      have hcz20_1 : w5.cell? ⟨gb210, 1, none⟩ = some (.int .i64 a1_1) := (blk_cell BK210.out 1).trans rfl
      have hcz20_2 : w5.cell? ⟨gb210, 2, none⟩ = some (.slice A1_2 l1_2.length c1_2) := (blk_cell BK210.out 2).trans rfl
      have hcz20_3 : w5.cell? ⟨gb210, 3, none⟩ = some (.slice A1_3 l1_3.length c1_3) := (blk_cell BK210.out 3).trans rfl
      have hfz20_0 := blk_frozen BK210.out 0
      have hfz20_1 := blk_frozen BK210.out 1
      have hfz20_2 := blk_frozen BK210.out 2
      have hfz20_3 := blk_frozen BK210.out 3
      go_wp2
      go_meet
      case rel => exact ⟨_, (true), (by first | rfl | (simp; done) | (simp [*]; done)), H', ⟨by first | omega | exact Nat.le_refl _⟩, ⟨by (with_reducible repeat (first | refine blk_drewN ?_ _ | refine blk_drew ?_ | refine blk_alloc ?_ _)); exact BK209.out⟩, ⟨by (with_reducible repeat (first | refine blk_drewN ?_ _ | refine blk_drew ?_ | refine blk_alloc ?_ _)); exact BK210.out⟩, ⟨by repeat (first | (with_reducible first | exact HB.out | apply below_alloc | apply pw_below_drewN | apply below_drew1 | refine below_set ?_ GE209.out | refine below_set ?_ GE210.out) | exact HB.out)⟩⟩
  case rest =>
    clear HC3
    try clear c1
    try clear p2
    try clear c3
    try clear c6
    try clear c6b0
    try clear c6b1
    try clear c7
    try clear c7b0
    try clear c7b1
    try clear c8
    try clear c8b0
    try clear c8b1
    try clear c8b2
    try clear c9
    try clear c12
    try clear c15
    try clear c18
    try clear hcz10_0
    try clear hcz10_1
    try clear hcz10_2
    try clear hcz10_3
    try clear hcz11_0
    try clear hcz11_1
    try clear hcz11_2
    try clear hcz11_3
    try clear hcz13_0
    try clear hcz13_1
    try clear hcz13_2
    try clear hcz13_3
    try clear hcz14_0
    try clear hcz14_1
    try clear hcz14_2
    try clear hcz14_3
    try clear hcz16_0
    try clear hcz16_1
    try clear hcz16_2
    try clear hcz16_3
    try clear hcz17_0
    try clear hcz17_1
    try clear hcz17_2
    try clear hcz17_3
    try clear hcz19_0
    try clear hcz19_1
    try clear hcz19_2
    try clear hcz19_3
    try clear hcz20_0
    try clear hcz20_1
    try clear hcz20_2
    try clear hcz20_3
    try clear hfz10_0
    try clear hfz10_1
    try clear hfz10_2
    try clear hfz10_3
    try clear hfz11_0
    try clear hfz11_1
    try clear hfz11_2
    try clear hfz11_3
    try clear hfz13_0
    try clear hfz13_1
    try clear hfz13_2
    try clear hfz13_3
    try clear hfz14_0
    try clear hfz14_1
    try clear hfz14_2
    try clear hfz14_3
    try clear hfz16_0
    try clear hfz16_1
    try clear hfz16_2
    try clear hfz16_3
    try clear hfz17_0
    try clear hfz17_1
    try clear hfz17_2
    try clear hfz17_3
    try clear hfz19_0
    try clear hfz19_1
    try clear hfz19_2
    try clear hfz19_3
    try clear hfz20_0
    try clear hfz20_1
    try clear hfz20_2
    try clear hfz20_3
    obtain ⟨kq, x36_2, rfl, HA, HJ2, BK209, BK210, HB⟩ := hcut
    cases kq with
    | zero => exact absurd HA.out (by simp [mortmainref09_SameTable.j0])
    | succ kj2 =>
      have H := HA.out
      clear HA
      simp only [mortmainref09_SameTable.j0] at H
      by_cases c21 : x36_2 = true
      · subst c21
        have H1 : (some false) = some r := by rw [if_pos rfl] at H; exact H
        clear H
        have H := H1
        clear H1
        obtain rfl := Option.some.inj H
        go_wp2
        go_ret
        exact ⟨by first | rfl | (simp [errW_none, errW_some] <;> rfl) | (simp [*, errW_none, errW_some] <;> rfl), by repeat (first | (with_reducible first | exact HB.out | apply below_alloc | apply pw_below_drewN | apply below_drew1 | refine below_set ?_ GE209.out | refine below_set ?_ GE210.out) | exact HB.out)⟩
      · replace c21 := Bool.eq_false_iff.mpr c21
        subst c21
        have H1 : (mortmainref09_SameTable.l0 kj2 (l0_2.length : Int) 0 a0_0 a0_1 l0_2 l0_3 a1_0 a1_1 l1_2 l1_3) = some r := by rw [if_neg (show ¬ (false = true) by decide)] at H; exact H
        clear H
        have H := H1
        clear H1
        have H' := Aside0.mk H
        clear H
        have hnb22 := NB209_210.out
        have hnc22 := NB210_209.out
        have hcz23_0 : wc.cell? ⟨gb209, 0, none⟩ = some (.string a0_0) := (blk_cell BK209.out 0).trans rfl
        have hcz23_1 : wc.cell? ⟨gb209, 1, none⟩ = some (.int .i64 a0_1) := (blk_cell BK209.out 1).trans rfl
        have hcz23_2 : wc.cell? ⟨gb209, 2, none⟩ = some (.slice A0_2 l0_2.length c0_2) := (blk_cell BK209.out 2).trans rfl
        have hcz23_3 : wc.cell? ⟨gb209, 3, none⟩ = some (.slice A0_3 l0_3.length c0_3) := (blk_cell BK209.out 3).trans rfl
        have hfz23_0 := blk_frozen BK209.out 0
        have hfz23_1 := blk_frozen BK209.out 1
        have hfz23_2 := blk_frozen BK209.out 2
        have hfz23_3 := blk_frozen BK209.out 3
        go_wp2
        go_loopg [40] kj2 (fun kq v40 w' => ∃ (x40_2 : Int), v40 = .int .i64 x40_2 ∧ Aside0 (mortmainref09_SameTable.l0 kq (l0_2.length : Int) x40_2 a0_0 a0_1 l0_2 l0_3 a1_0 a1_1 l1_2 l1_3 = some r) ∧ Aside0 (kq ≤ kj2) ∧ Aside0 (w'.heap[gb209]? = some (.cells #[.string a0_0, .int .i64 a0_1, (.slice A0_2 l0_2.length c0_2), (.slice A0_3 l0_3.length c0_3)] 45 (0, 0))) ∧ Aside0 (w'.heap[gb210]? = some (.cells #[.string a1_0, .int .i64 a1_1, (.slice A1_2 l1_2.length c1_2), (.slice A1_3 l1_3.length c1_3)] 45 (0, 0))) ∧ Aside0 (Below w.heap.size w w'))
        case atStart => exact ⟨(0), (by first | rfl | (simp; done) | (simp [*]; done)), H', ⟨Nat.le_refl _⟩, ⟨by (with_reducible repeat (first | refine blk_drewN ?_ _ | refine blk_drew ?_ | refine blk_alloc ?_ _)); exact BK209.out⟩, ⟨by (with_reducible repeat (first | refine blk_drewN ?_ _ | refine blk_drew ?_ | refine blk_alloc ?_ _)); exact BK210.out⟩, ⟨by repeat (first | (with_reducible first | exact HB.out | apply below_alloc | apply pw_below_drewN | apply below_drew1 | refine below_set ?_ GE209.out | refine below_set ?_ GE210.out) | exact HB.out)⟩⟩
        case round =>
          clear H'
          try clear c1
          try clear c2
          try clear p2
          try clear c3
          try clear c6
          try clear c6b0
          try clear c6b1
          try clear c7
          try clear c7b0
          try clear c7b1
          try clear c8
          try clear c8b0
          try clear c8b1
          try clear c8b2
          try clear c9
          try clear c12
          try clear c15
          try clear c18
          try clear c21
          try clear c22
          try clear hcz10_0
          try clear hcz10_1
          try clear hcz10_2
          try clear hcz10_3
          try clear hcz11_0
          try clear hcz11_1
          try clear hcz11_2
          try clear hcz11_3
          try clear hcz13_0
          try clear hcz13_1
          try clear hcz13_2
          try clear hcz13_3
          try clear hcz14_0
          try clear hcz14_1
          try clear hcz14_2
          try clear hcz14_3
          try clear hcz16_0
          try clear hcz16_1
          try clear hcz16_2
          try clear hcz16_3
          try clear hcz17_0
          try clear hcz17_1
          try clear hcz17_2
          try clear hcz17_3
          try clear hcz19_0
          try clear hcz19_1
          try clear hcz19_2
          try clear hcz19_3
          try clear hcz20_0
          try clear hcz20_1
          try clear hcz20_2
          try clear hcz20_3
          try clear hcz23_0
          try clear hcz23_1
          try clear hcz23_2
          try clear hcz23_3
          try clear hfz10_0
          try clear hfz10_1
          try clear hfz10_2
          try clear hfz10_3
          try clear hfz11_0
          try clear hfz11_1
          try clear hfz11_2
          try clear hfz11_3
          try clear hfz13_0
          try clear hfz13_1
          try clear hfz13_2
          try clear hfz13_3
          try clear hfz14_0
          try clear hfz14_1
          try clear hfz14_2
          try clear hfz14_3
          try clear hfz16_0
          try clear hfz16_1
          try clear hfz16_2
          try clear hfz16_3
          try clear hfz17_0
          try clear hfz17_1
          try clear hfz17_2
          try clear hfz17_3
          try clear hfz19_0
          try clear hfz19_1
          try clear hfz19_2
          try clear hfz19_3
          try clear hfz20_0
          try clear hfz20_1
          try clear hfz20_2
          try clear hfz20_3
          try clear hfz23_0
          try clear hfz23_1
          try clear hfz23_2
          try clear hfz23_3
          try clear p2
          obtain ⟨x40_2, rfl, HA, HK2, BK209, BK210, HB⟩ := hrel
          cases gk with
          | zero => exact absurd HA.out (by simp [mortmainref09_SameTable.l0])
          | succ k2 =>
            have H := HA.out
            clear HA
            simp only [mortmainref09_SameTable.l0] at H
            by_cases c24 : x40_2 < (l0_2.length : Int)
            · rw [if_pos c24] at H
              have c24b0 : decide (x40_2 < (l0_2.length : Int)) = true := decide_eq_true c24
              clear c24
              by_cases c25 : 0 ≤ x40_2
              · rw [if_pos c25] at H
                have c25b0 : decide (0 ≤ x40_2) = true := decide_eq_true c25
                clear c25
                by_cases c26 : x40_2 < (l0_2.length : Int)
                · rw [if_pos c26] at H
                  have c26b0 : decide (x40_2 < (l0_2.length : Int)) = true := decide_eq_true c26
                  clear c26
                  by_cases c27 : x40_2 < (l1_2.length : Int)
                  · rw [if_pos c27] at H
                    have c27b0 : decide (x40_2 < (l1_2.length : Int)) = true := decide_eq_true c27
                    clear c27
                    by_cases c28 : (!((((rd_T59 l0_2 x40_2).f0).toList) == (((rd_T59 l1_2 x40_2).f0).toList)) || (!(((rd_T59 l0_2 x40_2).f1) == ((rd_T59 l1_2 x40_2).f1)) || (!(((rd_T59 l0_2 x40_2).f2) == ((rd_T59 l1_2 x40_2).f2)) || (!(((rd_T59 l0_2 x40_2).f3) == ((rd_T59 l1_2 x40_2).f3)) || (!((((rd_T59 l0_2 x40_2).f4).toList) == (((rd_T59 l1_2 x40_2).f4).toList)) || (!(((rd_T59 l0_2 x40_2).f5) == ((rd_T59 l1_2 x40_2).f5)))))))) = true
                    · rw [if_pos c28] at H
                      have c28b0 : (!((((rd_T59 l0_2 x40_2).f0).toList) == (((rd_T59 l1_2 x40_2).f0).toList)) || (!(((rd_T59 l0_2 x40_2).f1) == ((rd_T59 l1_2 x40_2).f1)) || (!(((rd_T59 l0_2 x40_2).f2) == ((rd_T59 l1_2 x40_2).f2)) || (!(((rd_T59 l0_2 x40_2).f3) == ((rd_T59 l1_2 x40_2).f3)) || (!((((rd_T59 l0_2 x40_2).f4).toList) == (((rd_T59 l1_2 x40_2).f4).toList)) || (!(((rd_T59 l0_2 x40_2).f5) == ((rd_T59 l1_2 x40_2).f5)))))))) = true := c28
                      clear c28
                      obtain rfl := Option.some.inj H
                      try go_wp2
                      have n0_ := Aside0.mk (blk_drew BK209.out)
                      have n1_ := Aside0.mk (blk_drew BK210.out)
                      have n2_ := Aside0.mk (below_drew1 HB.out)
                      clear BK209
                      clear BK210
                      clear HB
                      have BK209 := n0_
                      have BK210 := n1_
                      have HB := n2_
                      clear n0_ n1_ n2_
                      have p211 : 0 ≤ (x40_2 : Int) := of_decide_eq_true (by first | (with_reducible assumption) | assumption)
                      have q211 : x40_2 < (l0_2.length : Int) := of_decide_eq_true (by first | (with_reducible assumption) | assumption)
                      obtain ⟨ad211, e211, hx211_0, hx211_1, hx211_2, hx211_3, hx211_4, hx211_5⟩ := at_T59 HR0_2.out x40_2 p211 q211
                      have hw211_5 := hx211_5
                      have hw211_4 := hx211_4
                      have hw211_3 := hx211_3
                      have hw211_2 := hx211_2
                      have hw211_1 := hx211_1
                      have hw211_0 := hx211_0
                      cases e211
                      replace hx211_0 := (HB.out.cell (World.block_lt_of_cell? w _ hx211_0)).trans hx211_0
                      replace hx211_1 := (HB.out.cell (World.block_lt_of_cell? w _ hx211_1)).trans hx211_1
                      replace hx211_2 := (HB.out.cell (World.block_lt_of_cell? w _ hx211_2)).trans hx211_2
                      replace hx211_3 := (HB.out.cell (World.block_lt_of_cell? w _ hx211_3)).trans hx211_3
                      replace hx211_4 := (HB.out.cell (World.block_lt_of_cell? w _ hx211_4)).trans hx211_4
                      replace hx211_5 := (HB.out.cell (World.block_lt_of_cell? w _ hx211_5)).trans hx211_5
                      replace p211 := eq_true p211
                      replace q211 := eq_true q211
                      have p212 : 0 ≤ (x40_2 : Int) := of_decide_eq_true (by first | (with_reducible assumption) | assumption)
                      have q212 : x40_2 < (l1_2.length : Int) := of_decide_eq_true (by first | (with_reducible assumption) | assumption)
                      obtain ⟨ad212, e212, hx212_0, hx212_1, hx212_2, hx212_3, hx212_4, hx212_5⟩ := at_T59 HR1_2.out x40_2 p212 q212
                      have hw212_5 := hx212_5
                      have hw212_4 := hx212_4
                      have hw212_3 := hx212_3
                      have hw212_2 := hx212_2
                      have hw212_1 := hx212_1
                      have hw212_0 := hx212_0
                      cases e212
                      replace hx212_0 := (HB.out.cell (World.block_lt_of_cell? w _ hx212_0)).trans hx212_0
                      replace hx212_1 := (HB.out.cell (World.block_lt_of_cell? w _ hx212_1)).trans hx212_1
                      replace hx212_2 := (HB.out.cell (World.block_lt_of_cell? w _ hx212_2)).trans hx212_2
                      replace hx212_3 := (HB.out.cell (World.block_lt_of_cell? w _ hx212_3)).trans hx212_3
                      replace hx212_4 := (HB.out.cell (World.block_lt_of_cell? w _ hx212_4)).trans hx212_4
                      replace hx212_5 := (HB.out.cell (World.block_lt_of_cell? w _ hx212_5)).trans hx212_5
                      replace p212 := eq_true p212
                      replace q212 := eq_true q212
                      refine start_ (n := 11) (S := fun w' => w'.cell? ⟨gb209, 0, none⟩ = some (.string a0_0) ∧ w'.cell? ⟨gb209, 1, none⟩ = some (.int .i64 a0_1) ∧ w'.cell? ⟨gb209, 2, none⟩ = some (.slice (some ad211) l0_2.length c0_2) ∧ w'.cell? ⟨gb209, 3, none⟩ = some (.slice A0_3 l0_3.length c0_3) ∧ w'.cell? ⟨gb210, 0, none⟩ = some (.string a1_0) ∧ w'.cell? ⟨gb210, 1, none⟩ = some (.int .i64 a1_1) ∧ w'.cell? ⟨gb210, 2, none⟩ = some (.slice (some ad212) l1_2.length c1_2) ∧ w'.cell? ⟨gb210, 3, none⟩ = some (.slice A1_3 l1_3.length c1_3) ∧ w'.cell? (ad211.add ((x40_2).toNat * 6)) = some (.string ((rd_T59 l0_2 x40_2).f0)) ∧ w'.cell? ⟨(ad211.add ((x40_2).toNat * 6)).block, (ad211.add ((x40_2).toNat * 6)).off + 1, none⟩ = some (.int .i64 ((rd_T59 l0_2 x40_2).f1)) ∧ w'.cell? ⟨(ad211.add ((x40_2).toNat * 6)).block, (ad211.add ((x40_2).toNat * 6)).off + 2, none⟩ = some (.bool ((rd_T59 l0_2 x40_2).f2)) ∧ w'.cell? ⟨(ad211.add ((x40_2).toNat * 6)).block, (ad211.add ((x40_2).toNat * 6)).off + 3, none⟩ = some (.bool ((rd_T59 l0_2 x40_2).f3)) ∧ w'.cell? ⟨(ad211.add ((x40_2).toNat * 6)).block, (ad211.add ((x40_2).toNat * 6)).off + 4, none⟩ = some (.string ((rd_T59 l0_2 x40_2).f4)) ∧ w'.cell? ⟨(ad211.add ((x40_2).toNat * 6)).block, (ad211.add ((x40_2).toNat * 6)).off + 5, none⟩ = some (.int .i64 ((rd_T59 l0_2 x40_2).f5)) ∧ w'.cell? (ad212.add ((x40_2).toNat * 6)) = some (.string ((rd_T59 l1_2 x40_2).f0)) ∧ w'.cell? ⟨(ad212.add ((x40_2).toNat * 6)).block, (ad212.add ((x40_2).toNat * 6)).off + 1, none⟩ = some (.int .i64 ((rd_T59 l1_2 x40_2).f1)) ∧ w'.cell? ⟨(ad212.add ((x40_2).toNat * 6)).block, (ad212.add ((x40_2).toNat * 6)).off + 2, none⟩ = some (.bool ((rd_T59 l1_2 x40_2).f2)) ∧ w'.cell? ⟨(ad212.add ((x40_2).toNat * 6)).block, (ad212.add ((x40_2).toNat * 6)).off + 3, none⟩ = some (.bool ((rd_T59 l1_2 x40_2).f3)) ∧ w'.cell? ⟨(ad212.add ((x40_2).toNat * 6)).block, (ad212.add ((x40_2).toNat * 6)).off + 4, none⟩ = some (.string ((rd_T59 l1_2 x40_2).f4)) ∧ w'.cell? ⟨(ad212.add ((x40_2).toNat * 6)).block, (ad212.add ((x40_2).toNat * 6)).off + 5, none⟩ = some (.int .i64 ((rd_T59 l1_2 x40_2).f5))) (ds := []) #[false, false, false, false, false, false, false, false, false, false, false] (by kernel_rfl) rfl rfl ⟨(blk_cell BK209.out 0).trans rfl, (blk_cell BK209.out 1).trans rfl, (blk_cell BK209.out 2).trans rfl, (blk_cell BK209.out 3).trans rfl, (blk_cell BK210.out 0).trans rfl, (blk_cell BK210.out 1).trans rfl, (blk_cell BK210.out 2).trans rfl, (blk_cell BK210.out 3).trans rfl, ((HB.out.cell (World.block_lt_of_cell? w _ hw211_0)).trans hw211_0), ((HB.out.cell (World.block_lt_of_cell? w _ hw211_1)).trans hw211_1), ((HB.out.cell (World.block_lt_of_cell? w _ hw211_2)).trans hw211_2), ((HB.out.cell (World.block_lt_of_cell? w _ hw211_3)).trans hw211_3), ((HB.out.cell (World.block_lt_of_cell? w _ hw211_4)).trans hw211_4), ((HB.out.cell (World.block_lt_of_cell? w _ hw211_5)).trans hw211_5), ((HB.out.cell (World.block_lt_of_cell? w _ hw212_0)).trans hw212_0), ((HB.out.cell (World.block_lt_of_cell? w _ hw212_1)).trans hw212_1), ((HB.out.cell (World.block_lt_of_cell? w _ hw212_2)).trans hw212_2), ((HB.out.cell (World.block_lt_of_cell? w _ hw212_3)).trans hw212_3), ((HB.out.cell (World.block_lt_of_cell? w _ hw212_4)).trans hw212_4), ((HB.out.cell (World.block_lt_of_cell? w _ hw212_5)).trans hw212_5)⟩ (fun hHeld => ?_); refine with_tabW mortmainref09_SameTable.tab6 mortmainref09_SameTable.bits6 (fun HT_ HW_ => ?_)
                      generalize wr.drew = w29 at BK209 BK210 HB hx211_0 hx211_1 hx211_2 hx211_3 hx211_4 hx211_5 hx212_0 hx212_1 hx212_2 hx212_3 hx212_4 hx212_5 hHeld ⊢
                      refine pure_ (i := 0) (N := some 43) (v := ?_) (a' := ?_) #[true, false, false, false, false, false, false, false, false, false, false] rfl rfl (any_of HT_.out (by kernel_rfl)) (fun _ _ _ h => h) (Or.inl ⟨by rfl, ?_⟩) ?_ ?_
                      rotate_left
                      · intro w'
                        go_simp
                        with_reducible rfl
                      rotate_left
                      · simp only [Act.put, List.setIfInBounds_toArray, List.set_cons_zero, List.set_cons_succ, i64_w, i32_w]
                        rfl
                      refine pure_ (i := 2) (N := some 45) (v := ?_) (a' := ?_) #[true, false, true, false, false, false, false, false, false, false, false] rfl rfl (any_of HT_.out (by kernel_rfl)) (fun _ _ _ h => h) (Or.inl ⟨by rfl, ?_⟩) ?_ ?_
                      rotate_left
                      · intro w'
                        go_simp
                        with_reducible rfl
                      rotate_left
                      · simp only [Act.put, List.setIfInBounds_toArray, List.set_cons_zero, List.set_cons_succ, i64_w, i32_w]
                        rfl
                      refine pure_ (i := 5) (N := some 48) (v := ?_) (a' := ?_) #[true, false, true, false, false, true, false, false, false, false, false] rfl rfl (any_of HT_.out (by kernel_rfl)) (fun _ _ _ h => h) (Or.inl ⟨by rfl, ?_⟩) ?_ ?_
                      rotate_left
                      · intro w'
                        go_simp
                        with_reducible rfl
                      rotate_left
                      · simp only [Act.put, List.setIfInBounds_toArray, List.set_cons_zero, List.set_cons_succ, i64_w, i32_w]
                        rfl
                      refine pure_ (i := 7) (N := some 50) (v := ?_) (a' := ?_) #[true, false, true, false, false, true, false, true, false, false, false] rfl rfl (any_of HT_.out (by kernel_rfl)) (fun _ _ _ h => h) (Or.inl ⟨by rfl, ?_⟩) ?_ ?_
                      rotate_left
                      · intro w'
                        go_simp
                        with_reducible rfl
                      rotate_left
                      · simp only [Act.put, List.setIfInBounds_toArray, List.set_cons_zero, List.set_cons_succ, i64_w, i32_w]
                        rfl
                      refine take_ (i := 1) (N := some 44) (v := ?_) (a' := ?_) #[true, true, true, false, false, true, false, true, false, false, false] rfl rfl (take_ofW HT_.out HW_.out (by kernel_rfl)) (fun _ _ _ h => h) (Or.inl ⟨by rfl, ?_⟩) hHeld ?_ ?_
                      rotate_left
                      · rintro w' ⟨s0, s1, s2, s3, s4, s5, s6, s7, s8, s9, s10, s11, s12, s13, s14, s15, s16, s17, s18, s19⟩
                        go_simp
                        with_reducible rfl
                      rotate_left
                      · simp only [Act.put, List.setIfInBounds_toArray, List.set_cons_zero, List.set_cons_succ, i64_w, i32_w]
                        rfl
                      refine pure_ (i := 3) (N := some 46) (v := ?_) (a' := ?_) #[true, true, true, true, false, true, false, true, false, false, false] rfl rfl (any_of HT_.out (by kernel_rfl)) (fun _ _ _ h => h) (Or.inl ⟨by rfl, ?_⟩) ?_ ?_
                      rotate_left
                      · intro w'
                        go_simp
                        with_reducible rfl
                      rotate_left
                      · simp only [Act.put, List.setIfInBounds_toArray, List.set_cons_zero, List.set_cons_succ, i64_w, i32_w]
                        rfl
                      refine take_ (i := 4) (N := some 47) (v := ?_) (a' := ?_) #[true, true, true, true, true, true, false, true, false, false, false] rfl rfl (take_ofW HT_.out HW_.out (by kernel_rfl)) (fun _ _ _ h => h) (Or.inl ⟨by rfl, ?_⟩) hHeld ?_ ?_
                      rotate_left
                      · rintro w' ⟨s0, s1, s2, s3, s4, s5, s6, s7, s8, s9, s10, s11, s12, s13, s14, s15, s16, s17, s18, s19⟩
                        go_simp
                        with_reducible rfl
                      rotate_left
                      · simp only [Act.put, List.setIfInBounds_toArray, List.set_cons_zero, List.set_cons_succ, i64_w, i32_w]
                        rfl
                      refine take_ (i := 6) (N := some 49) (v := ?_) (a' := ?_) #[true, true, true, true, true, true, true, true, false, false, false] rfl rfl (take_ofW HT_.out HW_.out (by kernel_rfl)) (fun _ _ _ h => h) (Or.inl ⟨by rfl, ?_⟩) hHeld ?_ ?_
                      rotate_left
                      · rintro w' ⟨s0, s1, s2, s3, s4, s5, s6, s7, s8, s9, s10, s11, s12, s13, s14, s15, s16, s17, s18, s19⟩
                        go_simp
                        with_reducible rfl
                      rotate_left
                      · simp only [Act.put, List.setIfInBounds_toArray, List.set_cons_zero, List.set_cons_succ, i64_w, i32_w]
                        rfl
                      refine pure_ (i := 8) (N := some 51) (v := ?_) (a' := ?_) #[true, true, true, true, true, true, true, true, true, false, false] rfl rfl (any_of HT_.out (by kernel_rfl)) (fun _ _ _ h => h) (Or.inl ⟨by rfl, ?_⟩) ?_ ?_
                      rotate_left
                      · intro w'
                        go_simp
                        with_reducible rfl
                      rotate_left
                      · simp only [Act.put, List.setIfInBounds_toArray, List.set_cons_zero, List.set_cons_succ, i64_w, i32_w]
                        rfl
                      refine take_ (i := 9) (N := some 52) (v := ?_) (a' := ?_) #[true, true, true, true, true, true, true, true, true, true, false] rfl rfl (take_ofW HT_.out HW_.out (by kernel_rfl)) (fun _ _ _ h => h) (Or.inl ⟨by rfl, ?_⟩) hHeld ?_ ?_
                      rotate_left
                      · rintro w' ⟨s0, s1, s2, s3, s4, s5, s6, s7, s8, s9, s10, s11, s12, s13, s14, s15, s16, s17, s18, s19⟩
                        go_simp
                        with_reducible rfl
                      rotate_left
                      · simp only [Act.put, List.setIfInBounds_toArray, List.set_cons_zero, List.set_cons_succ, i64_w, i32_w]
                        rfl
                      refine pure_ (i := 10) (N := some 53) (v := ?_) (a' := ?_) #[true, true, true, true, true, true, true, true, true, true, true] rfl rfl (any_of HT_.out (by kernel_rfl)) (fun _ _ _ h => h) (Or.inl ⟨by rfl, ?_⟩) ?_ ?_
                      rotate_left
                      · intro w'
                        go_simp
                        with_reducible rfl
                      rotate_left
                      · simp only [Act.put, List.setIfInBounds_toArray, List.set_cons_zero, List.set_cons_succ, i64_w, i32_w]
                        rfl
                      refine done_ (done_of HT_.out (by kernel_rfl)) ?_
                      try go_wp2
                      go_ret
                      exact ⟨by first | rfl | (simp [errW_none, errW_some] <;> rfl) | (simp [*, errW_none, errW_some] <;> rfl), by repeat (first | (with_reducible first | exact HB.out | apply below_alloc | apply pw_below_drewN | apply below_drew1 | refine below_set ?_ GE209.out | refine below_set ?_ GE210.out) | exact HB.out)⟩
                    · rw [if_neg c28] at H
                      have c28b0 : (!((((rd_T59 l0_2 x40_2).f0).toList) == (((rd_T59 l1_2 x40_2).f0).toList)) || (!(((rd_T59 l0_2 x40_2).f1) == ((rd_T59 l1_2 x40_2).f1)) || (!(((rd_T59 l0_2 x40_2).f2) == ((rd_T59 l1_2 x40_2).f2)) || (!(((rd_T59 l0_2 x40_2).f3) == ((rd_T59 l1_2 x40_2).f3)) || (!((((rd_T59 l0_2 x40_2).f4).toList) == (((rd_T59 l1_2 x40_2).f4).toList)) || (!(((rd_T59 l0_2 x40_2).f5) == ((rd_T59 l1_2 x40_2).f5)))))))) = false := by simpa using c28
                      clear c28
                      have H' := Aside0.mk H
                      clear H
                      try go_wp2
                      have n0_ := Aside0.mk (blk_drew BK209.out)
                      have n1_ := Aside0.mk (blk_drew BK210.out)
                      have n2_ := Aside0.mk (below_drew1 HB.out)
                      clear BK209
                      clear BK210
                      clear HB
                      have BK209 := n0_
                      have BK210 := n1_
                      have HB := n2_
                      clear n0_ n1_ n2_
                      have p211 : 0 ≤ (x40_2 : Int) := of_decide_eq_true (by first | (with_reducible assumption) | assumption)
                      have q211 : x40_2 < (l0_2.length : Int) := of_decide_eq_true (by first | (with_reducible assumption) | assumption)
                      obtain ⟨ad211, e211, hx211_0, hx211_1, hx211_2, hx211_3, hx211_4, hx211_5⟩ := at_T59 HR0_2.out x40_2 p211 q211
                      have hw211_5 := hx211_5
                      have hw211_4 := hx211_4
                      have hw211_3 := hx211_3
                      have hw211_2 := hx211_2
                      have hw211_1 := hx211_1
                      have hw211_0 := hx211_0
                      cases e211
                      replace hx211_0 := (HB.out.cell (World.block_lt_of_cell? w _ hx211_0)).trans hx211_0
                      replace hx211_1 := (HB.out.cell (World.block_lt_of_cell? w _ hx211_1)).trans hx211_1
                      replace hx211_2 := (HB.out.cell (World.block_lt_of_cell? w _ hx211_2)).trans hx211_2
                      replace hx211_3 := (HB.out.cell (World.block_lt_of_cell? w _ hx211_3)).trans hx211_3
                      replace hx211_4 := (HB.out.cell (World.block_lt_of_cell? w _ hx211_4)).trans hx211_4
                      replace hx211_5 := (HB.out.cell (World.block_lt_of_cell? w _ hx211_5)).trans hx211_5
                      replace p211 := eq_true p211
                      replace q211 := eq_true q211
                      have p212 : 0 ≤ (x40_2 : Int) := of_decide_eq_true (by first | (with_reducible assumption) | assumption)
                      have q212 : x40_2 < (l1_2.length : Int) := of_decide_eq_true (by first | (with_reducible assumption) | assumption)
                      obtain ⟨ad212, e212, hx212_0, hx212_1, hx212_2, hx212_3, hx212_4, hx212_5⟩ := at_T59 HR1_2.out x40_2 p212 q212
                      have hw212_5 := hx212_5
                      have hw212_4 := hx212_4
                      have hw212_3 := hx212_3
                      have hw212_2 := hx212_2
                      have hw212_1 := hx212_1
                      have hw212_0 := hx212_0
                      cases e212
                      replace hx212_0 := (HB.out.cell (World.block_lt_of_cell? w _ hx212_0)).trans hx212_0
                      replace hx212_1 := (HB.out.cell (World.block_lt_of_cell? w _ hx212_1)).trans hx212_1
                      replace hx212_2 := (HB.out.cell (World.block_lt_of_cell? w _ hx212_2)).trans hx212_2
                      replace hx212_3 := (HB.out.cell (World.block_lt_of_cell? w _ hx212_3)).trans hx212_3
                      replace hx212_4 := (HB.out.cell (World.block_lt_of_cell? w _ hx212_4)).trans hx212_4
                      replace hx212_5 := (HB.out.cell (World.block_lt_of_cell? w _ hx212_5)).trans hx212_5
                      replace p212 := eq_true p212
                      replace q212 := eq_true q212
                      refine start_ (n := 11) (S := fun w' => w'.cell? ⟨gb209, 0, none⟩ = some (.string a0_0) ∧ w'.cell? ⟨gb209, 1, none⟩ = some (.int .i64 a0_1) ∧ w'.cell? ⟨gb209, 2, none⟩ = some (.slice (some ad211) l0_2.length c0_2) ∧ w'.cell? ⟨gb209, 3, none⟩ = some (.slice A0_3 l0_3.length c0_3) ∧ w'.cell? ⟨gb210, 0, none⟩ = some (.string a1_0) ∧ w'.cell? ⟨gb210, 1, none⟩ = some (.int .i64 a1_1) ∧ w'.cell? ⟨gb210, 2, none⟩ = some (.slice (some ad212) l1_2.length c1_2) ∧ w'.cell? ⟨gb210, 3, none⟩ = some (.slice A1_3 l1_3.length c1_3) ∧ w'.cell? (ad211.add ((x40_2).toNat * 6)) = some (.string ((rd_T59 l0_2 x40_2).f0)) ∧ w'.cell? ⟨(ad211.add ((x40_2).toNat * 6)).block, (ad211.add ((x40_2).toNat * 6)).off + 1, none⟩ = some (.int .i64 ((rd_T59 l0_2 x40_2).f1)) ∧ w'.cell? ⟨(ad211.add ((x40_2).toNat * 6)).block, (ad211.add ((x40_2).toNat * 6)).off + 2, none⟩ = some (.bool ((rd_T59 l0_2 x40_2).f2)) ∧ w'.cell? ⟨(ad211.add ((x40_2).toNat * 6)).block, (ad211.add ((x40_2).toNat * 6)).off + 3, none⟩ = some (.bool ((rd_T59 l0_2 x40_2).f3)) ∧ w'.cell? ⟨(ad211.add ((x40_2).toNat * 6)).block, (ad211.add ((x40_2).toNat * 6)).off + 4, none⟩ = some (.string ((rd_T59 l0_2 x40_2).f4)) ∧ w'.cell? ⟨(ad211.add ((x40_2).toNat * 6)).block, (ad211.add ((x40_2).toNat * 6)).off + 5, none⟩ = some (.int .i64 ((rd_T59 l0_2 x40_2).f5)) ∧ w'.cell? (ad212.add ((x40_2).toNat * 6)) = some (.string ((rd_T59 l1_2 x40_2).f0)) ∧ w'.cell? ⟨(ad212.add ((x40_2).toNat * 6)).block, (ad212.add ((x40_2).toNat * 6)).off + 1, none⟩ = some (.int .i64 ((rd_T59 l1_2 x40_2).f1)) ∧ w'.cell? ⟨(ad212.add ((x40_2).toNat * 6)).block, (ad212.add ((x40_2).toNat * 6)).off + 2, none⟩ = some (.bool ((rd_T59 l1_2 x40_2).f2)) ∧ w'.cell? ⟨(ad212.add ((x40_2).toNat * 6)).block, (ad212.add ((x40_2).toNat * 6)).off + 3, none⟩ = some (.bool ((rd_T59 l1_2 x40_2).f3)) ∧ w'.cell? ⟨(ad212.add ((x40_2).toNat * 6)).block, (ad212.add ((x40_2).toNat * 6)).off + 4, none⟩ = some (.string ((rd_T59 l1_2 x40_2).f4)) ∧ w'.cell? ⟨(ad212.add ((x40_2).toNat * 6)).block, (ad212.add ((x40_2).toNat * 6)).off + 5, none⟩ = some (.int .i64 ((rd_T59 l1_2 x40_2).f5))) (ds := []) #[false, false, false, false, false, false, false, false, false, false, false] (by kernel_rfl) rfl rfl ⟨(blk_cell BK209.out 0).trans rfl, (blk_cell BK209.out 1).trans rfl, (blk_cell BK209.out 2).trans rfl, (blk_cell BK209.out 3).trans rfl, (blk_cell BK210.out 0).trans rfl, (blk_cell BK210.out 1).trans rfl, (blk_cell BK210.out 2).trans rfl, (blk_cell BK210.out 3).trans rfl, ((HB.out.cell (World.block_lt_of_cell? w _ hw211_0)).trans hw211_0), ((HB.out.cell (World.block_lt_of_cell? w _ hw211_1)).trans hw211_1), ((HB.out.cell (World.block_lt_of_cell? w _ hw211_2)).trans hw211_2), ((HB.out.cell (World.block_lt_of_cell? w _ hw211_3)).trans hw211_3), ((HB.out.cell (World.block_lt_of_cell? w _ hw211_4)).trans hw211_4), ((HB.out.cell (World.block_lt_of_cell? w _ hw211_5)).trans hw211_5), ((HB.out.cell (World.block_lt_of_cell? w _ hw212_0)).trans hw212_0), ((HB.out.cell (World.block_lt_of_cell? w _ hw212_1)).trans hw212_1), ((HB.out.cell (World.block_lt_of_cell? w _ hw212_2)).trans hw212_2), ((HB.out.cell (World.block_lt_of_cell? w _ hw212_3)).trans hw212_3), ((HB.out.cell (World.block_lt_of_cell? w _ hw212_4)).trans hw212_4), ((HB.out.cell (World.block_lt_of_cell? w _ hw212_5)).trans hw212_5)⟩ (fun hHeld => ?_); refine with_tabW mortmainref09_SameTable.tab6 mortmainref09_SameTable.bits6 (fun HT_ HW_ => ?_)
                      generalize wr.drew = w30 at BK209 BK210 HB hx211_0 hx211_1 hx211_2 hx211_3 hx211_4 hx211_5 hx212_0 hx212_1 hx212_2 hx212_3 hx212_4 hx212_5 hHeld ⊢
                      refine pure_ (i := 0) (N := some 43) (v := ?_) (a' := ?_) #[true, false, false, false, false, false, false, false, false, false, false] rfl rfl (any_of HT_.out (by kernel_rfl)) (fun _ _ _ h => h) (Or.inl ⟨by rfl, ?_⟩) ?_ ?_
                      rotate_left
                      · intro w'
                        go_simp
                        with_reducible rfl
                      rotate_left
                      · simp only [Act.put, List.setIfInBounds_toArray, List.set_cons_zero, List.set_cons_succ, i64_w, i32_w]
                        rfl
                      refine pure_ (i := 2) (N := some 45) (v := ?_) (a' := ?_) #[true, false, true, false, false, false, false, false, false, false, false] rfl rfl (any_of HT_.out (by kernel_rfl)) (fun _ _ _ h => h) (Or.inl ⟨by rfl, ?_⟩) ?_ ?_
                      rotate_left
                      · intro w'
                        go_simp
                        with_reducible rfl
                      rotate_left
                      · simp only [Act.put, List.setIfInBounds_toArray, List.set_cons_zero, List.set_cons_succ, i64_w, i32_w]
                        rfl
                      refine pure_ (i := 5) (N := some 48) (v := ?_) (a' := ?_) #[true, false, true, false, false, true, false, false, false, false, false] rfl rfl (any_of HT_.out (by kernel_rfl)) (fun _ _ _ h => h) (Or.inl ⟨by rfl, ?_⟩) ?_ ?_
                      rotate_left
                      · intro w'
                        go_simp
                        with_reducible rfl
                      rotate_left
                      · simp only [Act.put, List.setIfInBounds_toArray, List.set_cons_zero, List.set_cons_succ, i64_w, i32_w]
                        rfl
                      refine pure_ (i := 7) (N := some 50) (v := ?_) (a' := ?_) #[true, false, true, false, false, true, false, true, false, false, false] rfl rfl (any_of HT_.out (by kernel_rfl)) (fun _ _ _ h => h) (Or.inl ⟨by rfl, ?_⟩) ?_ ?_
                      rotate_left
                      · intro w'
                        go_simp
                        with_reducible rfl
                      rotate_left
                      · simp only [Act.put, List.setIfInBounds_toArray, List.set_cons_zero, List.set_cons_succ, i64_w, i32_w]
                        rfl
                      refine take_ (i := 1) (N := some 44) (v := ?_) (a' := ?_) #[true, true, true, false, false, true, false, true, false, false, false] rfl rfl (take_ofW HT_.out HW_.out (by kernel_rfl)) (fun _ _ _ h => h) (Or.inl ⟨by rfl, ?_⟩) hHeld ?_ ?_
                      rotate_left
                      · rintro w' ⟨s0, s1, s2, s3, s4, s5, s6, s7, s8, s9, s10, s11, s12, s13, s14, s15, s16, s17, s18, s19⟩
                        go_simp
                        with_reducible rfl
                      rotate_left
                      · simp only [Act.put, List.setIfInBounds_toArray, List.set_cons_zero, List.set_cons_succ, i64_w, i32_w]
                        rfl
                      refine pure_ (i := 3) (N := some 46) (v := ?_) (a' := ?_) #[true, true, true, true, false, true, false, true, false, false, false] rfl rfl (any_of HT_.out (by kernel_rfl)) (fun _ _ _ h => h) (Or.inl ⟨by rfl, ?_⟩) ?_ ?_
                      rotate_left
                      · intro w'
                        go_simp
                        with_reducible rfl
                      rotate_left
                      · simp only [Act.put, List.setIfInBounds_toArray, List.set_cons_zero, List.set_cons_succ, i64_w, i32_w]
                        rfl
                      refine take_ (i := 4) (N := some 47) (v := ?_) (a' := ?_) #[true, true, true, true, true, true, false, true, false, false, false] rfl rfl (take_ofW HT_.out HW_.out (by kernel_rfl)) (fun _ _ _ h => h) (Or.inl ⟨by rfl, ?_⟩) hHeld ?_ ?_
                      rotate_left
                      · rintro w' ⟨s0, s1, s2, s3, s4, s5, s6, s7, s8, s9, s10, s11, s12, s13, s14, s15, s16, s17, s18, s19⟩
                        go_simp
                        with_reducible rfl
                      rotate_left
                      · simp only [Act.put, List.setIfInBounds_toArray, List.set_cons_zero, List.set_cons_succ, i64_w, i32_w]
                        rfl
                      refine take_ (i := 6) (N := some 49) (v := ?_) (a' := ?_) #[true, true, true, true, true, true, true, true, false, false, false] rfl rfl (take_ofW HT_.out HW_.out (by kernel_rfl)) (fun _ _ _ h => h) (Or.inl ⟨by rfl, ?_⟩) hHeld ?_ ?_
                      rotate_left
                      · rintro w' ⟨s0, s1, s2, s3, s4, s5, s6, s7, s8, s9, s10, s11, s12, s13, s14, s15, s16, s17, s18, s19⟩
                        go_simp
                        with_reducible rfl
                      rotate_left
                      · simp only [Act.put, List.setIfInBounds_toArray, List.set_cons_zero, List.set_cons_succ, i64_w, i32_w]
                        rfl
                      refine pure_ (i := 8) (N := some 51) (v := ?_) (a' := ?_) #[true, true, true, true, true, true, true, true, true, false, false] rfl rfl (any_of HT_.out (by kernel_rfl)) (fun _ _ _ h => h) (Or.inl ⟨by rfl, ?_⟩) ?_ ?_
                      rotate_left
                      · intro w'
                        go_simp
                        with_reducible rfl
                      rotate_left
                      · simp only [Act.put, List.setIfInBounds_toArray, List.set_cons_zero, List.set_cons_succ, i64_w, i32_w]
                        rfl
                      refine take_ (i := 9) (N := some 52) (v := ?_) (a' := ?_) #[true, true, true, true, true, true, true, true, true, true, false] rfl rfl (take_ofW HT_.out HW_.out (by kernel_rfl)) (fun _ _ _ h => h) (Or.inl ⟨by rfl, ?_⟩) hHeld ?_ ?_
                      rotate_left
                      · rintro w' ⟨s0, s1, s2, s3, s4, s5, s6, s7, s8, s9, s10, s11, s12, s13, s14, s15, s16, s17, s18, s19⟩
                        go_simp
                        with_reducible rfl
                      rotate_left
                      · simp only [Act.put, List.setIfInBounds_toArray, List.set_cons_zero, List.set_cons_succ, i64_w, i32_w]
                        rfl
                      refine pure_ (i := 10) (N := some 53) (v := ?_) (a' := ?_) #[true, true, true, true, true, true, true, true, true, true, true] rfl rfl (any_of HT_.out (by kernel_rfl)) (fun _ _ _ h => h) (Or.inl ⟨by rfl, ?_⟩) ?_ ?_
                      rotate_left
                      · intro w'
                        go_simp
                        with_reducible rfl
                      rotate_left
                      · simp only [Act.put, List.setIfInBounds_toArray, List.set_cons_zero, List.set_cons_succ, i64_w, i32_w]
                        rfl
                      refine done_ (done_of HT_.out (by kernel_rfl)) ?_
                      try go_wp2
                      go_roundg k2
                      case measure => have := HJ2.out; have := HK2.out; omega
                      case rel => exact ⟨(wrap64 (x40_2 + 1)), (by first | rfl | (simp; done) | (simp [*]; done)), H', ⟨by have := HJ2.out; have := HK2.out; omega⟩, ⟨by (with_reducible repeat (first | refine blk_drewN ?_ _ | refine blk_drew ?_ | refine blk_alloc ?_ _)); exact BK209.out⟩, ⟨by (with_reducible repeat (first | refine blk_drewN ?_ _ | refine blk_drew ?_ | refine blk_alloc ?_ _)); exact BK210.out⟩, ⟨by repeat (first | (with_reducible first | exact HB.out | apply below_alloc | apply pw_below_drewN | apply below_drew1 | refine below_set ?_ GE209.out | refine below_set ?_ GE210.out) | exact HB.out)⟩⟩
                  · rw [if_neg c27] at H
                    exact absurd H (by simp)
                · rw [if_neg c26] at H
                  exact absurd H (by simp)
              · rw [if_neg c25] at H
                exact absurd H (by simp)
            · rw [if_neg c24] at H
              have c24b0 : decide (x40_2 < (l0_2.length : Int)) = false := decide_eq_false c24
              clear c24
              have H' := Aside0.mk H
              clear H
              have hnb31 := NB209_210.out
              have hnc31 := NB210_209.out
              have hcz32_0 : wr.cell? ⟨gb209, 0, none⟩ = some (.string a0_0) := (blk_cell BK209.out 0).trans rfl
              have hcz32_1 : wr.cell? ⟨gb209, 1, none⟩ = some (.int .i64 a0_1) := (blk_cell BK209.out 1).trans rfl
              have hcz32_2 : wr.cell? ⟨gb209, 2, none⟩ = some (.slice A0_2 l0_2.length c0_2) := (blk_cell BK209.out 2).trans rfl
              have hcz32_3 : wr.cell? ⟨gb209, 3, none⟩ = some (.slice A0_3 l0_3.length c0_3) := (blk_cell BK209.out 3).trans rfl
              have hfz32_0 := blk_frozen BK209.out 0
              have hfz32_1 := blk_frozen BK209.out 1
              have hfz32_2 := blk_frozen BK209.out 2
              have hfz32_3 := blk_frozen BK209.out 3
              go_wp2
              go_loopg [58] k2 (fun kq v58 w' => ∃ (x58_3 : Int), v58 = .int .i64 x58_3 ∧ Aside0 (mortmainref09_SameTable.l1 kq (l0_3.length : Int) x58_3 a0_0 a0_1 l0_2 l0_3 a1_0 a1_1 l1_2 l1_3 = some r) ∧ Aside0 (kq ≤ k2) ∧ Aside0 (w'.heap[gb209]? = some (.cells #[.string a0_0, .int .i64 a0_1, (.slice A0_2 l0_2.length c0_2), (.slice A0_3 l0_3.length c0_3)] 45 (0, 0))) ∧ Aside0 (w'.heap[gb210]? = some (.cells #[.string a1_0, .int .i64 a1_1, (.slice A1_2 l1_2.length c1_2), (.slice A1_3 l1_3.length c1_3)] 45 (0, 0))) ∧ Aside0 (Below w.heap.size w w'))
              case atStart => exact ⟨(0), (by first | rfl | (simp; done) | (simp [*]; done)), H', ⟨Nat.le_refl _⟩, ⟨by (with_reducible repeat (first | refine blk_drewN ?_ _ | refine blk_drew ?_ | refine blk_alloc ?_ _)); exact BK209.out⟩, ⟨by (with_reducible repeat (first | refine blk_drewN ?_ _ | refine blk_drew ?_ | refine blk_alloc ?_ _)); exact BK210.out⟩, ⟨by repeat (first | (with_reducible first | exact HB.out | apply below_alloc | apply pw_below_drewN | apply below_drew1 | refine below_set ?_ GE209.out | refine below_set ?_ GE210.out) | exact HB.out)⟩⟩
              case round =>
                clear H'
                try clear c1
                try clear c2
                try clear p2
                try clear q2
                try clear hx2
                try clear c3
                try clear c6
                try clear c6b0
                try clear c6b1
                try clear p6
                try clear c7
                try clear c7b0
                try clear c7b1
                try clear c8
                try clear c8b0
                try clear c8b1
                try clear c8b2
                try clear c9
                try clear c12
                try clear c15
                try clear c18
                try clear c21
                try clear p21
                try clear q21
                try clear hx21
                try clear c22
                try clear c24
                try clear c24b0
                try clear c25
                try clear c25b0
                try clear c26
                try clear c26b0
                try clear c27
                try clear c27b0
                try clear c28
                try clear c28b0
                try clear c31
                try clear hcz10_0
                try clear hcz10_1
                try clear hcz10_2
                try clear hcz10_3
                try clear hcz11_0
                try clear hcz11_1
                try clear hcz11_2
                try clear hcz11_3
                try clear hcz13_0
                try clear hcz13_1
                try clear hcz13_2
                try clear hcz13_3
                try clear hcz14_0
                try clear hcz14_1
                try clear hcz14_2
                try clear hcz14_3
                try clear hcz16_0
                try clear hcz16_1
                try clear hcz16_2
                try clear hcz16_3
                try clear hcz17_0
                try clear hcz17_1
                try clear hcz17_2
                try clear hcz17_3
                try clear hcz19_0
                try clear hcz19_1
                try clear hcz19_2
                try clear hcz19_3
                try clear hcz20_0
                try clear hcz20_1
                try clear hcz20_2
                try clear hcz20_3
                try clear hcz23_0
                try clear hcz23_1
                try clear hcz23_2
                try clear hcz23_3
                try clear hcz32_0
                try clear hcz32_1
                try clear hcz32_2
                try clear hcz32_3
                try clear hfz10_0
                try clear hfz10_1
                try clear hfz10_2
                try clear hfz10_3
                try clear hfz11_0
                try clear hfz11_1
                try clear hfz11_2
                try clear hfz11_3
                try clear hfz13_0
                try clear hfz13_1
                try clear hfz13_2
                try clear hfz13_3
                try clear hfz14_0
                try clear hfz14_1
                try clear hfz14_2
                try clear hfz14_3
                try clear hfz16_0
                try clear hfz16_1
                try clear hfz16_2
                try clear hfz16_3
                try clear hfz17_0
                try clear hfz17_1
                try clear hfz17_2
                try clear hfz17_3
                try clear hfz19_0
                try clear hfz19_1
                try clear hfz19_2
                try clear hfz19_3
                try clear hfz20_0
                try clear hfz20_1
                try clear hfz20_2
                try clear hfz20_3
                try clear hfz23_0
                try clear hfz23_1
                try clear hfz23_2
                try clear hfz23_3
                try clear hfz32_0
                try clear hfz32_1
                try clear hfz32_2
                try clear hfz32_3
                try clear hx211_0
                try clear hx211_1
                try clear hx211_2
                try clear hx211_3
                try clear hx211_4
                try clear hx211_5
                try clear hx212_0
                try clear hx212_1
                try clear hx212_2
                try clear hx212_3
                try clear hx212_4
                try clear hx212_5
                try clear p2
                try clear p211
                try clear p212
                try clear q211
                try clear q212
                obtain ⟨x58_3, rfl, HA, HK3, BK209, BK210, HB⟩ := hrel
                cases gk with
                | zero => exact absurd HA.out (by simp [mortmainref09_SameTable.l1])
                | succ k3 =>
                  have H := HA.out
                  clear HA
                  simp only [mortmainref09_SameTable.l1] at H
                  by_cases c33 : x58_3 < (l0_3.length : Int)
                  · rw [if_pos c33] at H
                    have c33b0 : decide (x58_3 < (l0_3.length : Int)) = true := decide_eq_true c33
                    clear c33
                    by_cases c34 : 0 ≤ x58_3
                    · rw [if_pos c34] at H
                      have c34b0 : decide (0 ≤ x58_3) = true := decide_eq_true c34
                      clear c34
                      by_cases c35 : x58_3 < (l0_3.length : Int)
                      · rw [if_pos c35] at H
                        have c35b0 : decide (x58_3 < (l0_3.length : Int)) = true := decide_eq_true c35
                        clear c35
                        by_cases c36 : x58_3 < (l1_3.length : Int)
                        · rw [if_pos c36] at H
                          have c36b0 : decide (x58_3 < (l1_3.length : Int)) = true := decide_eq_true c36
                          clear c36
                          replace H := Option.bind_eq_some_iff.mp H
                          obtain ⟨t215, A370, H⟩ := H
                          replace H : (if t215 = true then (mortmainref09_SameTable.l1 k3 (l0_3.length : Int) (wrap64 (x58_3 + 1)) a0_0 a0_1 l0_2 l0_3 a1_0 a1_1 l1_2 l1_3) else (some false)) = some r := H
                          have A37 := Aside0.mk A370
                          clear A370
                          by_cases c38 : t215 = true
                          · subst c38
                            have H1 : (mortmainref09_SameTable.l1 k3 (l0_3.length : Int) (wrap64 (x58_3 + 1)) a0_0 a0_1 l0_2 l0_3 a1_0 a1_1 l1_2 l1_3) = some r := by rw [if_pos rfl] at H; exact H
                            clear H
                            have H := H1
                            clear H1
                            have H' := Aside0.mk H
                            clear H
                            try go_wp2
                            have n0_ := Aside0.mk (blk_drew BK209.out)
                            have n1_ := Aside0.mk (blk_drew BK210.out)
                            have n2_ := Aside0.mk (below_drew1 HB.out)
                            clear BK209
                            clear BK210
                            clear HB
                            have BK209 := n0_
                            have BK210 := n1_
                            have HB := n2_
                            clear n0_ n1_ n2_
                            have p213 : 0 ≤ (x58_3 : Int) := of_decide_eq_true (by first | (with_reducible assumption) | assumption)
                            have q213 : x58_3 < (l0_3.length : Int) := of_decide_eq_true (by first | (with_reducible assumption) | assumption)
                            obtain ⟨ad213, A213_5, c213_5, e213, hx213_0, hx213_1, hx213_2, hx213_3, hx213_4, hx213_5, hl213_5, hi213_5⟩ := at_T72 HR0_3.out x58_3 p213 q213
                            have hw213_5 := hx213_5
                            have hw213_4 := hx213_4
                            have hw213_3 := hx213_3
                            have hw213_2 := hx213_2
                            have hw213_1 := hx213_1
                            have hw213_0 := hx213_0
                            cases e213
                            replace hx213_0 := (HB.out.cell (World.block_lt_of_cell? w _ hx213_0)).trans hx213_0
                            replace hx213_1 := (HB.out.cell (World.block_lt_of_cell? w _ hx213_1)).trans hx213_1
                            replace hx213_2 := (HB.out.cell (World.block_lt_of_cell? w _ hx213_2)).trans hx213_2
                            replace hx213_3 := (HB.out.cell (World.block_lt_of_cell? w _ hx213_3)).trans hx213_3
                            replace hx213_4 := (HB.out.cell (World.block_lt_of_cell? w _ hx213_4)).trans hx213_4
                            replace hx213_5 := (HB.out.cell (World.block_lt_of_cell? w _ hx213_5)).trans hx213_5
                            have HR213_5 := Aside0.mk hi213_5
                            have HC213_5 := Aside0.mk hl213_5
                            clear hi213_5 hl213_5
                            replace p213 := eq_true p213
                            replace q213 := eq_true q213
                            have p214 : 0 ≤ (x58_3 : Int) := of_decide_eq_true (by first | (with_reducible assumption) | assumption)
                            have q214 : x58_3 < (l1_3.length : Int) := of_decide_eq_true (by first | (with_reducible assumption) | assumption)
                            obtain ⟨ad214, A214_5, c214_5, e214, hx214_0, hx214_1, hx214_2, hx214_3, hx214_4, hx214_5, hl214_5, hi214_5⟩ := at_T72 HR1_3.out x58_3 p214 q214
                            have hw214_5 := hx214_5
                            have hw214_4 := hx214_4
                            have hw214_3 := hx214_3
                            have hw214_2 := hx214_2
                            have hw214_1 := hx214_1
                            have hw214_0 := hx214_0
                            cases e214
                            replace hx214_0 := (HB.out.cell (World.block_lt_of_cell? w _ hx214_0)).trans hx214_0
                            replace hx214_1 := (HB.out.cell (World.block_lt_of_cell? w _ hx214_1)).trans hx214_1
                            replace hx214_2 := (HB.out.cell (World.block_lt_of_cell? w _ hx214_2)).trans hx214_2
                            replace hx214_3 := (HB.out.cell (World.block_lt_of_cell? w _ hx214_3)).trans hx214_3
                            replace hx214_4 := (HB.out.cell (World.block_lt_of_cell? w _ hx214_4)).trans hx214_4
                            replace hx214_5 := (HB.out.cell (World.block_lt_of_cell? w _ hx214_5)).trans hx214_5
                            have HR214_5 := Aside0.mk hi214_5
                            have HC214_5 := Aside0.mk hl214_5
                            clear hi214_5 hl214_5
                            replace p214 := eq_true p214
                            replace q214 := eq_true q214
                            refine start_ (n := 12) (S := fun w' => w'.cell? ⟨gb209, 0, none⟩ = some (.string a0_0) ∧ w'.cell? ⟨gb209, 1, none⟩ = some (.int .i64 a0_1) ∧ w'.cell? ⟨gb209, 2, none⟩ = some (.slice A0_2 l0_2.length c0_2) ∧ w'.cell? ⟨gb209, 3, none⟩ = some (.slice (some ad213) l0_3.length c0_3) ∧ w'.cell? ⟨gb210, 0, none⟩ = some (.string a1_0) ∧ w'.cell? ⟨gb210, 1, none⟩ = some (.int .i64 a1_1) ∧ w'.cell? ⟨gb210, 2, none⟩ = some (.slice A1_2 l1_2.length c1_2) ∧ w'.cell? ⟨gb210, 3, none⟩ = some (.slice (some ad214) l1_3.length c1_3) ∧ w'.cell? (ad213.add ((x58_3).toNat * 6)) = some (.int .i64 ((rd_T72 l0_3 x58_3).f0)) ∧ w'.cell? ⟨(ad213.add ((x58_3).toNat * 6)).block, (ad213.add ((x58_3).toNat * 6)).off + 1, none⟩ = some (.int .i64 ((rd_T72 l0_3 x58_3).f1)) ∧ w'.cell? ⟨(ad213.add ((x58_3).toNat * 6)).block, (ad213.add ((x58_3).toNat * 6)).off + 2, none⟩ = some (.int .i64 ((rd_T72 l0_3 x58_3).f2.f0)) ∧ w'.cell? ⟨(ad213.add ((x58_3).toNat * 6)).block, (ad213.add ((x58_3).toNat * 6)).off + 3, none⟩ = some (.int .i64 ((rd_T72 l0_3 x58_3).f2.f1)) ∧ w'.cell? ⟨(ad213.add ((x58_3).toNat * 6)).block, (ad213.add ((x58_3).toNat * 6)).off + 4, none⟩ = some (.string ((rd_T72 l0_3 x58_3).f2.f2)) ∧ w'.cell? ⟨(ad213.add ((x58_3).toNat * 6)).block, (ad213.add ((x58_3).toNat * 6)).off + 5, none⟩ = some (.slice A213_5 ((rd_T72 l0_3 x58_3).f3).length c213_5) ∧ w'.cell? (ad214.add ((x58_3).toNat * 6)) = some (.int .i64 ((rd_T72 l1_3 x58_3).f0)) ∧ w'.cell? ⟨(ad214.add ((x58_3).toNat * 6)).block, (ad214.add ((x58_3).toNat * 6)).off + 1, none⟩ = some (.int .i64 ((rd_T72 l1_3 x58_3).f1)) ∧ w'.cell? ⟨(ad214.add ((x58_3).toNat * 6)).block, (ad214.add ((x58_3).toNat * 6)).off + 2, none⟩ = some (.int .i64 ((rd_T72 l1_3 x58_3).f2.f0)) ∧ w'.cell? ⟨(ad214.add ((x58_3).toNat * 6)).block, (ad214.add ((x58_3).toNat * 6)).off + 3, none⟩ = some (.int .i64 ((rd_T72 l1_3 x58_3).f2.f1)) ∧ w'.cell? ⟨(ad214.add ((x58_3).toNat * 6)).block, (ad214.add ((x58_3).toNat * 6)).off + 4, none⟩ = some (.string ((rd_T72 l1_3 x58_3).f2.f2)) ∧ w'.cell? ⟨(ad214.add ((x58_3).toNat * 6)).block, (ad214.add ((x58_3).toNat * 6)).off + 5, none⟩ = some (.slice A214_5 ((rd_T72 l1_3 x58_3).f3).length c214_5)) (ds := []) #[false, false, false, false, false, false, false, false, false, false, false, false] (by kernel_rfl) rfl rfl ⟨(blk_cell BK209.out 0).trans rfl, (blk_cell BK209.out 1).trans rfl, (blk_cell BK209.out 2).trans rfl, (blk_cell BK209.out 3).trans rfl, (blk_cell BK210.out 0).trans rfl, (blk_cell BK210.out 1).trans rfl, (blk_cell BK210.out 2).trans rfl, (blk_cell BK210.out 3).trans rfl, ((HB.out.cell (World.block_lt_of_cell? w _ hw213_0)).trans hw213_0), ((HB.out.cell (World.block_lt_of_cell? w _ hw213_1)).trans hw213_1), ((HB.out.cell (World.block_lt_of_cell? w _ hw213_2)).trans hw213_2), ((HB.out.cell (World.block_lt_of_cell? w _ hw213_3)).trans hw213_3), ((HB.out.cell (World.block_lt_of_cell? w _ hw213_4)).trans hw213_4), ((HB.out.cell (World.block_lt_of_cell? w _ hw213_5)).trans hw213_5), ((HB.out.cell (World.block_lt_of_cell? w _ hw214_0)).trans hw214_0), ((HB.out.cell (World.block_lt_of_cell? w _ hw214_1)).trans hw214_1), ((HB.out.cell (World.block_lt_of_cell? w _ hw214_2)).trans hw214_2), ((HB.out.cell (World.block_lt_of_cell? w _ hw214_3)).trans hw214_3), ((HB.out.cell (World.block_lt_of_cell? w _ hw214_4)).trans hw214_4), ((HB.out.cell (World.block_lt_of_cell? w _ hw214_5)).trans hw214_5)⟩ (fun hHeld => ?_); refine with_tabW mortmainref09_SameTable.tab12 mortmainref09_SameTable.bits12 (fun HT_ HW_ => ?_)
                            generalize wr.drew = w39 at BK209 BK210 HB HR213_5 HR214_5 hx213_0 hx213_1 hx213_2 hx213_3 hx213_4 hx213_5 hx214_0 hx214_1 hx214_2 hx214_3 hx214_4 hx214_5 hHeld ⊢
                            refine pure_ (i := 0) (N := some 61) (v := ?_) (a' := ?_) #[true, false, false, false, false, false, false, false, false, false, false, false] rfl rfl (any_of HT_.out (by kernel_rfl)) (fun _ _ _ h => h) (Or.inl ⟨by rfl, ?_⟩) ?_ ?_
                            rotate_left
                            · intro w'
                              go_simp
                              with_reducible rfl
                            rotate_left
                            · simp only [Act.put, List.setIfInBounds_toArray, List.set_cons_zero, List.set_cons_succ, i64_w, i32_w]
                              rfl
                            refine pure_ (i := 2) (N := some 63) (v := ?_) (a' := ?_) #[true, false, true, false, false, false, false, false, false, false, false, false] rfl rfl (any_of HT_.out (by kernel_rfl)) (fun _ _ _ h => h) (Or.inl ⟨by rfl, ?_⟩) ?_ ?_
                            rotate_left
                            · intro w'
                              go_simp
                              with_reducible rfl
                            rotate_left
                            · simp only [Act.put, List.setIfInBounds_toArray, List.set_cons_zero, List.set_cons_succ, i64_w, i32_w]
                              rfl
                            refine pure_ (i := 5) (N := some 66) (v := ?_) (a' := ?_) #[true, false, true, false, false, true, false, false, false, false, false, false] rfl rfl (any_of HT_.out (by kernel_rfl)) (fun _ _ _ h => h) (Or.inl ⟨by rfl, ?_⟩) ?_ ?_
                            rotate_left
                            · intro w'
                              go_simp
                              with_reducible rfl
                            rotate_left
                            · simp only [Act.put, List.setIfInBounds_toArray, List.set_cons_zero, List.set_cons_succ, i64_w, i32_w]
                              rfl
                            refine pure_ (i := 7) (N := some 68) (v := ?_) (a' := ?_) #[true, false, true, false, false, true, false, true, false, false, false, false] rfl rfl (any_of HT_.out (by kernel_rfl)) (fun _ _ _ h => h) (Or.inl ⟨by rfl, ?_⟩) ?_ ?_
                            rotate_left
                            · intro w'
                              go_simp
                              with_reducible rfl
                            rotate_left
                            · simp only [Act.put, List.setIfInBounds_toArray, List.set_cons_zero, List.set_cons_succ, i64_w, i32_w]
                              rfl
                            refine take_ (i := 1) (N := some 62) (v := ?_) (a' := ?_) #[true, true, true, false, false, true, false, true, false, false, false, false] rfl rfl (take_ofW HT_.out HW_.out (by kernel_rfl)) (fun _ _ _ h => h) (Or.inl ⟨by rfl, ?_⟩) hHeld ?_ ?_
                            rotate_left
                            · rintro w' ⟨s0, s1, s2, s3, s4, s5, s6, s7, s8, s9, s10, s11, s12, s13, s14, s15, s16, s17, s18, s19⟩
                              go_simp
                              with_reducible rfl
                            rotate_left
                            · simp only [Act.put, List.setIfInBounds_toArray, List.set_cons_zero, List.set_cons_succ, i64_w, i32_w]
                              rfl
                            refine pure_ (i := 3) (N := some 64) (v := ?_) (a' := ?_) #[true, true, true, true, false, true, false, true, false, false, false, false] rfl rfl (any_of HT_.out (by kernel_rfl)) (fun _ _ _ h => h) (Or.inl ⟨by rfl, ?_⟩) ?_ ?_
                            rotate_left
                            · intro w'
                              go_simp
                              with_reducible rfl
                            rotate_left
                            · simp only [Act.put, List.setIfInBounds_toArray, List.set_cons_zero, List.set_cons_succ, i64_w, i32_w]
                              rfl
                            refine take_ (i := 4) (N := some 65) (v := ?_) (a' := ?_) #[true, true, true, true, true, true, false, true, false, false, false, false] rfl rfl (take_ofW HT_.out HW_.out (by kernel_rfl)) (fun _ _ _ h => h) (Or.inl ⟨by rfl, ?_⟩) hHeld ?_ ?_
                            rotate_left
                            · rintro w' ⟨s0, s1, s2, s3, s4, s5, s6, s7, s8, s9, s10, s11, s12, s13, s14, s15, s16, s17, s18, s19⟩
                              go_simp
                              with_reducible rfl
                            rotate_left
                            · simp only [Act.put, List.setIfInBounds_toArray, List.set_cons_zero, List.set_cons_succ, i64_w, i32_w]
                              rfl
                            refine take_ (i := 6) (N := some 67) (v := ?_) (a' := ?_) #[true, true, true, true, true, true, true, true, false, false, false, false] rfl rfl (take_ofW HT_.out HW_.out (by kernel_rfl)) (fun _ _ _ h => h) (Or.inl ⟨by rfl, ?_⟩) hHeld ?_ ?_
                            rotate_left
                            · rintro w' ⟨s0, s1, s2, s3, s4, s5, s6, s7, s8, s9, s10, s11, s12, s13, s14, s15, s16, s17, s18, s19⟩
                              go_simp
                              with_reducible rfl
                            rotate_left
                            · simp only [Act.put, List.setIfInBounds_toArray, List.set_cons_zero, List.set_cons_succ, i64_w, i32_w]
                              rfl
                            refine pure_ (i := 8) (N := some 69) (v := ?_) (a' := ?_) #[true, true, true, true, true, true, true, true, true, false, false, false] rfl rfl (any_of HT_.out (by kernel_rfl)) (fun _ _ _ h => h) (Or.inl ⟨by rfl, ?_⟩) ?_ ?_
                            rotate_left
                            · intro w'
                              go_simp
                              with_reducible rfl
                            rotate_left
                            · simp only [Act.put, List.setIfInBounds_toArray, List.set_cons_zero, List.set_cons_succ, i64_w, i32_w]
                              rfl
                            refine take_ (i := 9) (N := some 70) (v := ?_) (a' := ?_) #[true, true, true, true, true, true, true, true, true, true, false, false] rfl rfl (take_ofW HT_.out HW_.out (by kernel_rfl)) (fun _ _ _ h => h) (Or.inl ⟨by rfl, ?_⟩) hHeld ?_ ?_
                            rotate_left
                            · rintro w' ⟨s0, s1, s2, s3, s4, s5, s6, s7, s8, s9, s10, s11, s12, s13, s14, s15, s16, s17, s18, s19⟩
                              go_simp
                              with_reducible rfl
                            rotate_left
                            · simp only [Act.put, List.setIfInBounds_toArray, List.set_cons_zero, List.set_cons_succ, i64_w, i32_w]
                              rfl
                            refine one_ (i := 10) (N := some 71) #[true, true, true, true, true, true, true, true, true, true, true, false] rfl rfl (one_of HT_.out (by kernel_rfl)) (by decide) (fun K hK => ?_)
                            refine goes_ Tryd.func54 (by kernel_rfl) rfl #[.agg #[.int .i64 ((rd_T72 l0_3 x58_3).f0), .int .i64 ((rd_T72 l0_3 x58_3).f1), .int .i64 ((rd_T72 l0_3 x58_3).f2.f0), .int .i64 ((rd_T72 l0_3 x58_3).f2.f1), .string ((rd_T72 l0_3 x58_3).f2.f2), .slice A213_5 ((rd_T72 l0_3 x58_3).f3).length c213_5], .agg #[.int .i64 ((rd_T72 l1_3 x58_3).f0), .int .i64 ((rd_T72 l1_3 x58_3).f1), .int .i64 ((rd_T72 l1_3 x58_3).f2.f0), .int .i64 ((rd_T72 l1_3 x58_3).f2.f1), .string ((rd_T72 l1_3 x58_3).f2.f2), .slice A214_5 ((rd_T72 l1_3 x58_3).f3).length c214_5]] (by rfl) rfl rfl (by (try simp only [List.map_toArray, List.map_cons, List.map_nil]); first | done | rfl | (simp only [List.length_drop, List.length_take]; rfl)) ?_
                            with_reducible refine (mortmainref09_sameExpr.calls k3 ((rd_T72 l0_3 x58_3).f0) ((rd_T72 l0_3 x58_3).f1) ((rd_T72 l0_3 x58_3).f2.f0) ((rd_T72 l0_3 x58_3).f2.f1) ((rd_T72 l0_3 x58_3).f2.f2) _ _ ((rd_T72 l0_3 x58_3).f3) ((rd_T72 l1_3 x58_3).f0) ((rd_T72 l1_3 x58_3).f1) ((rd_T72 l1_3 x58_3).f2.f0) ((rd_T72 l1_3 x58_3).f2.f1) ((rd_T72 l1_3 x58_3).f2.f2) _ _ ((rd_T72 l1_3 x58_3).f3) true _ ?side1 ?side2 ?side3 ?side4 A37.out).mono ?_
                            (case side1 => repeat (first | exact (Kd.C_below HR213_5.out HB.out) | (with_reducible refine Kd.C_alloc ?_ _) | (with_reducible refine Kd.C_drewN ?_ _) | (with_reducible refine Kd.C_drew ?_)))
                            (case side2 => exact HC213_5.out)
                            (case side3 => repeat (first | exact (Kd.C_below HR214_5.out HB.out) | (with_reducible refine Kd.C_alloc ?_ _) | (with_reducible refine Kd.C_drewN ?_ _) | (with_reducible refine Kd.C_drew ?_)))
                            (case side4 => exact HC214_5.out)
                            rintro e w40 ⟨rfl, hb⟩
                            refine ⟨_, rfl, ?_⟩
                            have n0_ := Aside0.mk (blk_below (g := gb209) (o := .cells #[.string a0_0, .int .i64 a0_1, .slice A0_2 l0_2.length c0_2, .slice (some ad213) l0_3.length c0_3] 45 (0, 0)) (by (with_reducible repeat (first | refine blk_drewN ?_ _ | refine blk_drew ?_ | refine blk_alloc ?_ _)); exact BK209.out) hb)
                            have n1_ := Aside0.mk (blk_below (g := gb210) (o := .cells #[.string a1_0, .int .i64 a1_1, .slice A1_2 l1_2.length c1_2, .slice (some ad214) l1_3.length c1_3] 45 (0, 0)) (by (with_reducible repeat (first | refine blk_drewN ?_ _ | refine blk_drew ?_ | refine blk_alloc ?_ _)); exact BK210.out) hb)
                            have n2_ := Aside0.mk (below_step (by repeat (first | (with_reducible first | exact HB.out | apply below_alloc | apply pw_below_drewN | apply below_drew1 | refine below_set ?_ GE209.out | refine below_set ?_ GE210.out) | exact HB.out)) hb)
                            clear BK209
                            clear BK210
                            clear HB
                            have BK209 := n0_
                            have BK210 := n1_
                            have HB := n2_
                            clear n0_ n1_ n2_
                            (try clear hb)
                            (try clear hb2)
                            (try clear hk)
                            (try clear hi)
                            refine hK.out _ _ ⟨(blk_cell BK209.out 0).trans rfl, (blk_cell BK209.out 1).trans rfl, (blk_cell BK209.out 2).trans rfl, (blk_cell BK209.out 3).trans rfl, (blk_cell BK210.out 0).trans rfl, (blk_cell BK210.out 1).trans rfl, (blk_cell BK210.out 2).trans rfl, (blk_cell BK210.out 3).trans rfl, ((HB.out.cell (World.block_lt_of_cell? w _ hw213_0)).trans hw213_0), ((HB.out.cell (World.block_lt_of_cell? w _ hw213_1)).trans hw213_1), ((HB.out.cell (World.block_lt_of_cell? w _ hw213_2)).trans hw213_2), ((HB.out.cell (World.block_lt_of_cell? w _ hw213_3)).trans hw213_3), ((HB.out.cell (World.block_lt_of_cell? w _ hw213_4)).trans hw213_4), ((HB.out.cell (World.block_lt_of_cell? w _ hw213_5)).trans hw213_5), ((HB.out.cell (World.block_lt_of_cell? w _ hw214_0)).trans hw214_0), ((HB.out.cell (World.block_lt_of_cell? w _ hw214_1)).trans hw214_1), ((HB.out.cell (World.block_lt_of_cell? w _ hw214_2)).trans hw214_2), ((HB.out.cell (World.block_lt_of_cell? w _ hw214_3)).trans hw214_3), ((HB.out.cell (World.block_lt_of_cell? w _ hw214_4)).trans hw214_4), ((HB.out.cell (World.block_lt_of_cell? w _ hw214_5)).trans hw214_5)⟩ (fun hHeld => ?_)
                            clear hK K
                            refine norm_ (a' := ?_) ?_ ?_
                            rotate_left
                            · show Act.put _ (some 71) _ = _
                              simp only [Act.put, List.setIfInBounds_toArray, List.set_cons_zero, List.set_cons_succ, i64_w, i32_w]
                              rfl
                            refine pure_ (i := 11) (N := some 72) (v := ?_) (a' := ?_) #[true, true, true, true, true, true, true, true, true, true, true, true] rfl rfl (any_of HT_.out (by kernel_rfl)) (fun _ _ _ h => h) (Or.inl ⟨by rfl, ?_⟩) ?_ ?_
                            rotate_left
                            · intro w'
                              go_simp
                              with_reducible rfl
                            rotate_left
                            · simp only [Act.put, List.setIfInBounds_toArray, List.set_cons_zero, List.set_cons_succ, i64_w, i32_w]
                              rfl
                            refine done_ (done_of HT_.out (by kernel_rfl)) ?_
                            try go_wp2
                            go_roundg k3
                            case measure => have := HJ2.out; have := HK2.out; have := HK3.out; omega
                            case rel => exact ⟨(wrap64 (x58_3 + 1)), (by first | rfl | (simp; done) | (simp [*]; done)), H', ⟨by have := HJ2.out; have := HK2.out; have := HK3.out; omega⟩, ⟨by (with_reducible repeat (first | refine blk_drewN ?_ _ | refine blk_drew ?_ | refine blk_alloc ?_ _)); exact BK209.out⟩, ⟨by (with_reducible repeat (first | refine blk_drewN ?_ _ | refine blk_drew ?_ | refine blk_alloc ?_ _)); exact BK210.out⟩, ⟨by repeat (first | (with_reducible first | exact HB.out | apply below_alloc | apply pw_below_drewN | apply below_drew1 | refine below_set ?_ GE209.out | refine below_set ?_ GE210.out) | exact HB.out)⟩⟩
                          · replace c38 := Bool.eq_false_iff.mpr c38
                            subst c38
                            have H1 : (some false) = some r := by rw [if_neg (show ¬ (false = true) by decide)] at H; exact H
                            clear H
                            have H := H1
                            clear H1
                            obtain rfl := Option.some.inj H
                            try go_wp2
                            have n0_ := Aside0.mk (blk_drew BK209.out)
                            have n1_ := Aside0.mk (blk_drew BK210.out)
                            have n2_ := Aside0.mk (below_drew1 HB.out)
                            clear BK209
                            clear BK210
                            clear HB
                            have BK209 := n0_
                            have BK210 := n1_
                            have HB := n2_
                            clear n0_ n1_ n2_
                            have p213 : 0 ≤ (x58_3 : Int) := of_decide_eq_true (by first | (with_reducible assumption) | assumption)
                            have q213 : x58_3 < (l0_3.length : Int) := of_decide_eq_true (by first | (with_reducible assumption) | assumption)
                            obtain ⟨ad213, A213_5, c213_5, e213, hx213_0, hx213_1, hx213_2, hx213_3, hx213_4, hx213_5, hl213_5, hi213_5⟩ := at_T72 HR0_3.out x58_3 p213 q213
                            have hw213_5 := hx213_5
                            have hw213_4 := hx213_4
                            have hw213_3 := hx213_3
                            have hw213_2 := hx213_2
                            have hw213_1 := hx213_1
                            have hw213_0 := hx213_0
                            cases e213
                            replace hx213_0 := (HB.out.cell (World.block_lt_of_cell? w _ hx213_0)).trans hx213_0
                            replace hx213_1 := (HB.out.cell (World.block_lt_of_cell? w _ hx213_1)).trans hx213_1
                            replace hx213_2 := (HB.out.cell (World.block_lt_of_cell? w _ hx213_2)).trans hx213_2
                            replace hx213_3 := (HB.out.cell (World.block_lt_of_cell? w _ hx213_3)).trans hx213_3
                            replace hx213_4 := (HB.out.cell (World.block_lt_of_cell? w _ hx213_4)).trans hx213_4
                            replace hx213_5 := (HB.out.cell (World.block_lt_of_cell? w _ hx213_5)).trans hx213_5
                            have HR213_5 := Aside0.mk hi213_5
                            have HC213_5 := Aside0.mk hl213_5
                            clear hi213_5 hl213_5
                            replace p213 := eq_true p213
                            replace q213 := eq_true q213
                            have p214 : 0 ≤ (x58_3 : Int) := of_decide_eq_true (by first | (with_reducible assumption) | assumption)
                            have q214 : x58_3 < (l1_3.length : Int) := of_decide_eq_true (by first | (with_reducible assumption) | assumption)
                            obtain ⟨ad214, A214_5, c214_5, e214, hx214_0, hx214_1, hx214_2, hx214_3, hx214_4, hx214_5, hl214_5, hi214_5⟩ := at_T72 HR1_3.out x58_3 p214 q214
                            have hw214_5 := hx214_5
                            have hw214_4 := hx214_4
                            have hw214_3 := hx214_3
                            have hw214_2 := hx214_2
                            have hw214_1 := hx214_1
                            have hw214_0 := hx214_0
                            cases e214
                            replace hx214_0 := (HB.out.cell (World.block_lt_of_cell? w _ hx214_0)).trans hx214_0
                            replace hx214_1 := (HB.out.cell (World.block_lt_of_cell? w _ hx214_1)).trans hx214_1
                            replace hx214_2 := (HB.out.cell (World.block_lt_of_cell? w _ hx214_2)).trans hx214_2
                            replace hx214_3 := (HB.out.cell (World.block_lt_of_cell? w _ hx214_3)).trans hx214_3
                            replace hx214_4 := (HB.out.cell (World.block_lt_of_cell? w _ hx214_4)).trans hx214_4
                            replace hx214_5 := (HB.out.cell (World.block_lt_of_cell? w _ hx214_5)).trans hx214_5
                            have HR214_5 := Aside0.mk hi214_5
                            have HC214_5 := Aside0.mk hl214_5
                            clear hi214_5 hl214_5
                            replace p214 := eq_true p214
                            replace q214 := eq_true q214
                            refine start_ (n := 12) (S := fun w' => w'.cell? ⟨gb209, 0, none⟩ = some (.string a0_0) ∧ w'.cell? ⟨gb209, 1, none⟩ = some (.int .i64 a0_1) ∧ w'.cell? ⟨gb209, 2, none⟩ = some (.slice A0_2 l0_2.length c0_2) ∧ w'.cell? ⟨gb209, 3, none⟩ = some (.slice (some ad213) l0_3.length c0_3) ∧ w'.cell? ⟨gb210, 0, none⟩ = some (.string a1_0) ∧ w'.cell? ⟨gb210, 1, none⟩ = some (.int .i64 a1_1) ∧ w'.cell? ⟨gb210, 2, none⟩ = some (.slice A1_2 l1_2.length c1_2) ∧ w'.cell? ⟨gb210, 3, none⟩ = some (.slice (some ad214) l1_3.length c1_3) ∧ w'.cell? (ad213.add ((x58_3).toNat * 6)) = some (.int .i64 ((rd_T72 l0_3 x58_3).f0)) ∧ w'.cell? ⟨(ad213.add ((x58_3).toNat * 6)).block, (ad213.add ((x58_3).toNat * 6)).off + 1, none⟩ = some (.int .i64 ((rd_T72 l0_3 x58_3).f1)) ∧ w'.cell? ⟨(ad213.add ((x58_3).toNat * 6)).block, (ad213.add ((x58_3).toNat * 6)).off + 2, none⟩ = some (.int .i64 ((rd_T72 l0_3 x58_3).f2.f0)) ∧ w'.cell? ⟨(ad213.add ((x58_3).toNat * 6)).block, (ad213.add ((x58_3).toNat * 6)).off + 3, none⟩ = some (.int .i64 ((rd_T72 l0_3 x58_3).f2.f1)) ∧ w'.cell? ⟨(ad213.add ((x58_3).toNat * 6)).block, (ad213.add ((x58_3).toNat * 6)).off + 4, none⟩ = some (.string ((rd_T72 l0_3 x58_3).f2.f2)) ∧ w'.cell? ⟨(ad213.add ((x58_3).toNat * 6)).block, (ad213.add ((x58_3).toNat * 6)).off + 5, none⟩ = some (.slice A213_5 ((rd_T72 l0_3 x58_3).f3).length c213_5) ∧ w'.cell? (ad214.add ((x58_3).toNat * 6)) = some (.int .i64 ((rd_T72 l1_3 x58_3).f0)) ∧ w'.cell? ⟨(ad214.add ((x58_3).toNat * 6)).block, (ad214.add ((x58_3).toNat * 6)).off + 1, none⟩ = some (.int .i64 ((rd_T72 l1_3 x58_3).f1)) ∧ w'.cell? ⟨(ad214.add ((x58_3).toNat * 6)).block, (ad214.add ((x58_3).toNat * 6)).off + 2, none⟩ = some (.int .i64 ((rd_T72 l1_3 x58_3).f2.f0)) ∧ w'.cell? ⟨(ad214.add ((x58_3).toNat * 6)).block, (ad214.add ((x58_3).toNat * 6)).off + 3, none⟩ = some (.int .i64 ((rd_T72 l1_3 x58_3).f2.f1)) ∧ w'.cell? ⟨(ad214.add ((x58_3).toNat * 6)).block, (ad214.add ((x58_3).toNat * 6)).off + 4, none⟩ = some (.string ((rd_T72 l1_3 x58_3).f2.f2)) ∧ w'.cell? ⟨(ad214.add ((x58_3).toNat * 6)).block, (ad214.add ((x58_3).toNat * 6)).off + 5, none⟩ = some (.slice A214_5 ((rd_T72 l1_3 x58_3).f3).length c214_5)) (ds := []) #[false, false, false, false, false, false, false, false, false, false, false, false] (by kernel_rfl) rfl rfl ⟨(blk_cell BK209.out 0).trans rfl, (blk_cell BK209.out 1).trans rfl, (blk_cell BK209.out 2).trans rfl, (blk_cell BK209.out 3).trans rfl, (blk_cell BK210.out 0).trans rfl, (blk_cell BK210.out 1).trans rfl, (blk_cell BK210.out 2).trans rfl, (blk_cell BK210.out 3).trans rfl, ((HB.out.cell (World.block_lt_of_cell? w _ hw213_0)).trans hw213_0), ((HB.out.cell (World.block_lt_of_cell? w _ hw213_1)).trans hw213_1), ((HB.out.cell (World.block_lt_of_cell? w _ hw213_2)).trans hw213_2), ((HB.out.cell (World.block_lt_of_cell? w _ hw213_3)).trans hw213_3), ((HB.out.cell (World.block_lt_of_cell? w _ hw213_4)).trans hw213_4), ((HB.out.cell (World.block_lt_of_cell? w _ hw213_5)).trans hw213_5), ((HB.out.cell (World.block_lt_of_cell? w _ hw214_0)).trans hw214_0), ((HB.out.cell (World.block_lt_of_cell? w _ hw214_1)).trans hw214_1), ((HB.out.cell (World.block_lt_of_cell? w _ hw214_2)).trans hw214_2), ((HB.out.cell (World.block_lt_of_cell? w _ hw214_3)).trans hw214_3), ((HB.out.cell (World.block_lt_of_cell? w _ hw214_4)).trans hw214_4), ((HB.out.cell (World.block_lt_of_cell? w _ hw214_5)).trans hw214_5)⟩ (fun hHeld => ?_); refine with_tabW mortmainref09_SameTable.tab12 mortmainref09_SameTable.bits12 (fun HT_ HW_ => ?_)
                            generalize wr.drew = w41 at BK209 BK210 HB HR213_5 HR214_5 hx213_0 hx213_1 hx213_2 hx213_3 hx213_4 hx213_5 hx214_0 hx214_1 hx214_2 hx214_3 hx214_4 hx214_5 hHeld ⊢
                            refine pure_ (i := 0) (N := some 61) (v := ?_) (a' := ?_) #[true, false, false, false, false, false, false, false, false, false, false, false] rfl rfl (any_of HT_.out (by kernel_rfl)) (fun _ _ _ h => h) (Or.inl ⟨by rfl, ?_⟩) ?_ ?_
                            rotate_left
                            · intro w'
                              go_simp
                              with_reducible rfl
                            rotate_left
                            · simp only [Act.put, List.setIfInBounds_toArray, List.set_cons_zero, List.set_cons_succ, i64_w, i32_w]
                              rfl
                            refine pure_ (i := 2) (N := some 63) (v := ?_) (a' := ?_) #[true, false, true, false, false, false, false, false, false, false, false, false] rfl rfl (any_of HT_.out (by kernel_rfl)) (fun _ _ _ h => h) (Or.inl ⟨by rfl, ?_⟩) ?_ ?_
                            rotate_left
                            · intro w'
                              go_simp
                              with_reducible rfl
                            rotate_left
                            · simp only [Act.put, List.setIfInBounds_toArray, List.set_cons_zero, List.set_cons_succ, i64_w, i32_w]
                              rfl
                            refine pure_ (i := 5) (N := some 66) (v := ?_) (a' := ?_) #[true, false, true, false, false, true, false, false, false, false, false, false] rfl rfl (any_of HT_.out (by kernel_rfl)) (fun _ _ _ h => h) (Or.inl ⟨by rfl, ?_⟩) ?_ ?_
                            rotate_left
                            · intro w'
                              go_simp
                              with_reducible rfl
                            rotate_left
                            · simp only [Act.put, List.setIfInBounds_toArray, List.set_cons_zero, List.set_cons_succ, i64_w, i32_w]
                              rfl
                            refine pure_ (i := 7) (N := some 68) (v := ?_) (a' := ?_) #[true, false, true, false, false, true, false, true, false, false, false, false] rfl rfl (any_of HT_.out (by kernel_rfl)) (fun _ _ _ h => h) (Or.inl ⟨by rfl, ?_⟩) ?_ ?_
                            rotate_left
                            · intro w'
                              go_simp
                              with_reducible rfl
                            rotate_left
                            · simp only [Act.put, List.setIfInBounds_toArray, List.set_cons_zero, List.set_cons_succ, i64_w, i32_w]
                              rfl
                            refine take_ (i := 1) (N := some 62) (v := ?_) (a' := ?_) #[true, true, true, false, false, true, false, true, false, false, false, false] rfl rfl (take_ofW HT_.out HW_.out (by kernel_rfl)) (fun _ _ _ h => h) (Or.inl ⟨by rfl, ?_⟩) hHeld ?_ ?_
                            rotate_left
                            · rintro w' ⟨s0, s1, s2, s3, s4, s5, s6, s7, s8, s9, s10, s11, s12, s13, s14, s15, s16, s17, s18, s19⟩
                              go_simp
                              with_reducible rfl
                            rotate_left
                            · simp only [Act.put, List.setIfInBounds_toArray, List.set_cons_zero, List.set_cons_succ, i64_w, i32_w]
                              rfl
                            refine pure_ (i := 3) (N := some 64) (v := ?_) (a' := ?_) #[true, true, true, true, false, true, false, true, false, false, false, false] rfl rfl (any_of HT_.out (by kernel_rfl)) (fun _ _ _ h => h) (Or.inl ⟨by rfl, ?_⟩) ?_ ?_
                            rotate_left
                            · intro w'
                              go_simp
                              with_reducible rfl
                            rotate_left
                            · simp only [Act.put, List.setIfInBounds_toArray, List.set_cons_zero, List.set_cons_succ, i64_w, i32_w]
                              rfl
                            refine take_ (i := 4) (N := some 65) (v := ?_) (a' := ?_) #[true, true, true, true, true, true, false, true, false, false, false, false] rfl rfl (take_ofW HT_.out HW_.out (by kernel_rfl)) (fun _ _ _ h => h) (Or.inl ⟨by rfl, ?_⟩) hHeld ?_ ?_
                            rotate_left
                            · rintro w' ⟨s0, s1, s2, s3, s4, s5, s6, s7, s8, s9, s10, s11, s12, s13, s14, s15, s16, s17, s18, s19⟩
                              go_simp
                              with_reducible rfl
                            rotate_left
                            · simp only [Act.put, List.setIfInBounds_toArray, List.set_cons_zero, List.set_cons_succ, i64_w, i32_w]
                              rfl
                            refine take_ (i := 6) (N := some 67) (v := ?_) (a' := ?_) #[true, true, true, true, true, true, true, true, false, false, false, false] rfl rfl (take_ofW HT_.out HW_.out (by kernel_rfl)) (fun _ _ _ h => h) (Or.inl ⟨by rfl, ?_⟩) hHeld ?_ ?_
                            rotate_left
                            · rintro w' ⟨s0, s1, s2, s3, s4, s5, s6, s7, s8, s9, s10, s11, s12, s13, s14, s15, s16, s17, s18, s19⟩
                              go_simp
                              with_reducible rfl
                            rotate_left
                            · simp only [Act.put, List.setIfInBounds_toArray, List.set_cons_zero, List.set_cons_succ, i64_w, i32_w]
                              rfl
                            refine pure_ (i := 8) (N := some 69) (v := ?_) (a' := ?_) #[true, true, true, true, true, true, true, true, true, false, false, false] rfl rfl (any_of HT_.out (by kernel_rfl)) (fun _ _ _ h => h) (Or.inl ⟨by rfl, ?_⟩) ?_ ?_
                            rotate_left
                            · intro w'
                              go_simp
                              with_reducible rfl
                            rotate_left
                            · simp only [Act.put, List.setIfInBounds_toArray, List.set_cons_zero, List.set_cons_succ, i64_w, i32_w]
                              rfl
                            refine take_ (i := 9) (N := some 70) (v := ?_) (a' := ?_) #[true, true, true, true, true, true, true, true, true, true, false, false] rfl rfl (take_ofW HT_.out HW_.out (by kernel_rfl)) (fun _ _ _ h => h) (Or.inl ⟨by rfl, ?_⟩) hHeld ?_ ?_
                            rotate_left
                            · rintro w' ⟨s0, s1, s2, s3, s4, s5, s6, s7, s8, s9, s10, s11, s12, s13, s14, s15, s16, s17, s18, s19⟩
                              go_simp
                              with_reducible rfl
                            rotate_left
                            · simp only [Act.put, List.setIfInBounds_toArray, List.set_cons_zero, List.set_cons_succ, i64_w, i32_w]
                              rfl
                            refine one_ (i := 10) (N := some 71) #[true, true, true, true, true, true, true, true, true, true, true, false] rfl rfl (one_of HT_.out (by kernel_rfl)) (by decide) (fun K hK => ?_)
                            refine goes_ Tryd.func54 (by kernel_rfl) rfl #[.agg #[.int .i64 ((rd_T72 l0_3 x58_3).f0), .int .i64 ((rd_T72 l0_3 x58_3).f1), .int .i64 ((rd_T72 l0_3 x58_3).f2.f0), .int .i64 ((rd_T72 l0_3 x58_3).f2.f1), .string ((rd_T72 l0_3 x58_3).f2.f2), .slice A213_5 ((rd_T72 l0_3 x58_3).f3).length c213_5], .agg #[.int .i64 ((rd_T72 l1_3 x58_3).f0), .int .i64 ((rd_T72 l1_3 x58_3).f1), .int .i64 ((rd_T72 l1_3 x58_3).f2.f0), .int .i64 ((rd_T72 l1_3 x58_3).f2.f1), .string ((rd_T72 l1_3 x58_3).f2.f2), .slice A214_5 ((rd_T72 l1_3 x58_3).f3).length c214_5]] (by rfl) rfl rfl (by (try simp only [List.map_toArray, List.map_cons, List.map_nil]); first | done | rfl | (simp only [List.length_drop, List.length_take]; rfl)) ?_
                            with_reducible refine (mortmainref09_sameExpr.calls k3 ((rd_T72 l0_3 x58_3).f0) ((rd_T72 l0_3 x58_3).f1) ((rd_T72 l0_3 x58_3).f2.f0) ((rd_T72 l0_3 x58_3).f2.f1) ((rd_T72 l0_3 x58_3).f2.f2) _ _ ((rd_T72 l0_3 x58_3).f3) ((rd_T72 l1_3 x58_3).f0) ((rd_T72 l1_3 x58_3).f1) ((rd_T72 l1_3 x58_3).f2.f0) ((rd_T72 l1_3 x58_3).f2.f1) ((rd_T72 l1_3 x58_3).f2.f2) _ _ ((rd_T72 l1_3 x58_3).f3) false _ ?side1 ?side2 ?side3 ?side4 A37.out).mono ?_
                            (case side1 => repeat (first | exact (Kd.C_below HR213_5.out HB.out) | (with_reducible refine Kd.C_alloc ?_ _) | (with_reducible refine Kd.C_drewN ?_ _) | (with_reducible refine Kd.C_drew ?_)))
                            (case side2 => exact HC213_5.out)
                            (case side3 => repeat (first | exact (Kd.C_below HR214_5.out HB.out) | (with_reducible refine Kd.C_alloc ?_ _) | (with_reducible refine Kd.C_drewN ?_ _) | (with_reducible refine Kd.C_drew ?_)))
                            (case side4 => exact HC214_5.out)
                            rintro e w42 ⟨rfl, hb⟩
                            refine ⟨_, rfl, ?_⟩
                            have n0_ := Aside0.mk (blk_below (g := gb209) (o := .cells #[.string a0_0, .int .i64 a0_1, .slice A0_2 l0_2.length c0_2, .slice (some ad213) l0_3.length c0_3] 45 (0, 0)) (by (with_reducible repeat (first | refine blk_drewN ?_ _ | refine blk_drew ?_ | refine blk_alloc ?_ _)); exact BK209.out) hb)
                            have n1_ := Aside0.mk (blk_below (g := gb210) (o := .cells #[.string a1_0, .int .i64 a1_1, .slice A1_2 l1_2.length c1_2, .slice (some ad214) l1_3.length c1_3] 45 (0, 0)) (by (with_reducible repeat (first | refine blk_drewN ?_ _ | refine blk_drew ?_ | refine blk_alloc ?_ _)); exact BK210.out) hb)
                            have n2_ := Aside0.mk (below_step (by repeat (first | (with_reducible first | exact HB.out | apply below_alloc | apply pw_below_drewN | apply below_drew1 | refine below_set ?_ GE209.out | refine below_set ?_ GE210.out) | exact HB.out)) hb)
                            clear BK209
                            clear BK210
                            clear HB
                            have BK209 := n0_
                            have BK210 := n1_
                            have HB := n2_
                            clear n0_ n1_ n2_
                            (try clear hb)
                            (try clear hb2)
                            (try clear hk)
                            (try clear hi)
                            refine hK.out _ _ ⟨(blk_cell BK209.out 0).trans rfl, (blk_cell BK209.out 1).trans rfl, (blk_cell BK209.out 2).trans rfl, (blk_cell BK209.out 3).trans rfl, (blk_cell BK210.out 0).trans rfl, (blk_cell BK210.out 1).trans rfl, (blk_cell BK210.out 2).trans rfl, (blk_cell BK210.out 3).trans rfl, ((HB.out.cell (World.block_lt_of_cell? w _ hw213_0)).trans hw213_0), ((HB.out.cell (World.block_lt_of_cell? w _ hw213_1)).trans hw213_1), ((HB.out.cell (World.block_lt_of_cell? w _ hw213_2)).trans hw213_2), ((HB.out.cell (World.block_lt_of_cell? w _ hw213_3)).trans hw213_3), ((HB.out.cell (World.block_lt_of_cell? w _ hw213_4)).trans hw213_4), ((HB.out.cell (World.block_lt_of_cell? w _ hw213_5)).trans hw213_5), ((HB.out.cell (World.block_lt_of_cell? w _ hw214_0)).trans hw214_0), ((HB.out.cell (World.block_lt_of_cell? w _ hw214_1)).trans hw214_1), ((HB.out.cell (World.block_lt_of_cell? w _ hw214_2)).trans hw214_2), ((HB.out.cell (World.block_lt_of_cell? w _ hw214_3)).trans hw214_3), ((HB.out.cell (World.block_lt_of_cell? w _ hw214_4)).trans hw214_4), ((HB.out.cell (World.block_lt_of_cell? w _ hw214_5)).trans hw214_5)⟩ (fun hHeld => ?_)
                            clear hK K
                            refine norm_ (a' := ?_) ?_ ?_
                            rotate_left
                            · show Act.put _ (some 71) _ = _
                              simp only [Act.put, List.setIfInBounds_toArray, List.set_cons_zero, List.set_cons_succ, i64_w, i32_w]
                              rfl
                            refine pure_ (i := 11) (N := some 72) (v := ?_) (a' := ?_) #[true, true, true, true, true, true, true, true, true, true, true, true] rfl rfl (any_of HT_.out (by kernel_rfl)) (fun _ _ _ h => h) (Or.inl ⟨by rfl, ?_⟩) ?_ ?_
                            rotate_left
                            · intro w'
                              go_simp
                              with_reducible rfl
                            rotate_left
                            · simp only [Act.put, List.setIfInBounds_toArray, List.set_cons_zero, List.set_cons_succ, i64_w, i32_w]
                              rfl
                            refine done_ (done_of HT_.out (by kernel_rfl)) ?_
                            try go_wp2
                            go_ret
                            exact ⟨by first | rfl | (simp [errW_none, errW_some] <;> rfl) | (simp [*, errW_none, errW_some] <;> rfl), by repeat (first | (with_reducible first | exact HB.out | apply below_alloc | apply pw_below_drewN | apply below_drew1 | refine below_set ?_ GE209.out | refine below_set ?_ GE210.out) | exact HB.out)⟩
                        · rw [if_neg c36] at H
                          exact absurd H (by simp)
                      · rw [if_neg c35] at H
                        exact absurd H (by simp)
                    · rw [if_neg c34] at H
                      exact absurd H (by simp)
                  · rw [if_neg c33] at H
                    have c33b0 : decide (x58_3 < (l0_3.length : Int)) = false := decide_eq_false c33
                    clear c33
                    obtain rfl := Option.some.inj H
                    go_wp2
                    go_ret
                    exact ⟨by first | rfl | (simp [errW_none, errW_some] <;> rfl) | (simp [*, errW_none, errW_some] <;> rfl), by repeat (first | (with_reducible first | exact HB.out | apply below_alloc | apply pw_below_drewN | apply below_drew1 | refine below_set ?_ GE209.out | refine below_set ?_ GE210.out) | exact HB.out)⟩
end Go.Proofs.YtefdfgmlmjnmlaaDoor.Rf
end

section
namespace Go.Proofs.YtefdfgmlmjnmlaaDoor.My
open Go.RowKit Go.Proofs.YtefdfgmlmjnmlaaDoorW.PrintWords Go.Proofs.YtefdfgmlmjnmlaaDoor.Rf
theorem sameE_l0 (a b c d' : Int) (s : ByteArray) (l : List S72) (hl : l.length ≤ 9223372036854775807) (h : ∀ x, x ∈ l → Ev (fun k => mortmainref09_sameExpr.f k x.f0 x.f1 x.f2.f0 x.f2.f1 x.f2.f2 x.f3 x.f0 x.f1 x.f2.f0 x.f2.f1 x.f2.f2 x.f3) true) : ∀ d i, i + d = l.length →
    Ev (fun k => mortmainref09_sameExpr.l0 k (l.length : Int) (i : Int) a b c d' s l a b c d' s l) true := by
  intro d
  induction d with
  | zero =>
    intro i hi
    exact Ev.step (f := fun _ => some true) (fun k => by simp only [mortmainref09_sameExpr.l0]; rw [if_neg (by omega)]) (Ev.now _)
  | succ d ih =>
    intro i hi
    have hlt : i < l.length := by omega
    have hr := h _ (mem_getD (z := z72) hlt)
    have hr' := ih (i + 1) (by omega)
    refine Ev.step (fun k => ?_) (Ev.bind (f := fun k t => if t = true then mortmainref09_sameExpr.l0 k (l.length : Int) ((i + 1 : Nat) : Int) a b c d' s l a b c d' s l else some false) hr (by simpa using hr'))
    simp only [mortmainref09_sameExpr.l0]
    rw [if_pos (by omega), if_pos (by omega), if_pos (by omega), if_pos (by omega), rd72_nat, wrap_next hlt hl]
theorem sameE_ev {e : S72} (h : OkE e) : Ev (fun k => mortmainref09_sameExpr.f k e.f0 e.f1 e.f2.f0 e.f2.f1 e.f2.f2 e.f3 e.f0 e.f1 e.f2.f0 e.f2.f1 e.f2.f2 e.f3) true := by
  induction h with
  | mk e hl _ ih =>
    refine Ev.step (f := fun k => mortmainref09_sameExpr.j0 k false e.f0 e.f1 e.f2.f0 e.f2.f1 e.f2.f2 e.f3 e.f0 e.f1 e.f2.f0 e.f2.f1 e.f2.f2 e.f3) (fun k => by simp [mortmainref09_sameExpr.f]) ?_
    exact Ev.step (fun k => by simp only [mortmainref09_sameExpr.j0]; rw [if_neg (by decide)]; rfl) (sameE_l0 e.f0 e.f1 e.f2.f0 e.f2.f1 e.f2.f2 e.f3 hl ih e.f3.length 0 (by omega))
theorem sameT_l1 (t : S45) (h : OkT t) : ∀ d i, i + d = t.f3.length →
    Ev (fun k => mortmainref09_SameTable.l1 k (t.f3.length : Int) (i : Int) t.f0 t.f1 t.f2 t.f3 t.f0 t.f1 t.f2 t.f3) true := by
  intro d
  induction d with
  | zero =>
    intro i hi
    exact Ev.step (f := fun _ => some true) (fun k => by simp only [mortmainref09_SameTable.l1]; rw [if_neg (by omega)]) (Ev.now _)
  | succ d ih =>
    intro i hi
    have hlt : i < t.f3.length := by omega
    have hr := sameE_ev (h.each _ (mem_getD (z := z72) hlt))
    have hr' := ih (i + 1) (by omega)
    refine Ev.step (fun k => ?_) (Ev.bind (f := fun k b => if b = true then mortmainref09_SameTable.l1 k (t.f3.length : Int) ((i + 1 : Nat) : Int) t.f0 t.f1 t.f2 t.f3 t.f0 t.f1 t.f2 t.f3 else some false) hr (by simpa using hr'))
    simp only [mortmainref09_SameTable.l1]
    rw [if_pos (by omega), if_pos (by omega), if_pos (by omega), if_pos (by omega), rd72_nat, wrap_next hlt h.checks]
theorem sameT_l0 (t : S45) (h : OkT t) : ∀ d i, i + d = t.f2.length →
    Ev (fun k => mortmainref09_SameTable.l0 k (t.f2.length : Int) (i : Int) t.f0 t.f1 t.f2 t.f3 t.f0 t.f1 t.f2 t.f3) true := by
  intro d
  induction d with
  | zero =>
    intro i hi
    exact Ev.step (fun k => by simp only [mortmainref09_SameTable.l0]; rw [if_neg (by omega)]; rfl) (sameT_l1 t h t.f3.length 0 (by omega))
  | succ d ih =>
    intro i hi
    have hlt : i < t.f2.length := by omega
    refine Ev.step (fun k => ?_) (ih (i + 1) (by omega))
    simp only [mortmainref09_SameTable.l0]
    rw [if_pos (by omega), if_pos (by omega), if_pos (by omega), if_pos (by omega), wrap_next hlt h.cols, if_neg (by simp)]
theorem sameT_ev (t : S45) (h : OkT t) : Ev (fun k => mortmainref09_SameTable.f k t.f0 t.f1 t.f2 t.f3 t.f0 t.f1 t.f2 t.f3) true := by
  refine Ev.congr (f := fun k => mortmainref09_SameTable.j0 k false t.f0 t.f1 t.f2 t.f3 t.f0 t.f1 t.f2 t.f3) (fun k => by simp [mortmainref09_SameTable.f]) ?_
  exact Ev.step (fun k => by simp only [mortmainref09_SameTable.j0]; rw [if_neg (by decide)]; rfl) (sameT_l0 t h t.f2.length 0 (by omega))
end Go.Proofs.YtefdfgmlmjnmlaaDoor.My
end

section
namespace Go.Proofs.YtefdfgmlmjnmlaaDoor.My
open Go.RowKit Go.Proofs.YtefdfgmlmjnmlaaDoorW.PrintWords Go.Proofs.YtefdfgmlmjnmlaaDoor.Rf
theorem row1 {α : Type} (d : Kd α) {w : World} {t : TypeId} {x : α} {cs : List Value} (hK : d.K w x cs) (hl : cs.length = d.sz) {g : Nat} (hb : w.heap[g]? = some (.cells cs.toArray t (0, 0))) : Kd.C d w (some ⟨g, 0, none⟩) [x].length [x] := by
  refine ⟨rfl, by simp, fun _ => ⟨⟨g, 0, none⟩, rfl, fun j p hp => ?_⟩⟩
  cases j with
  | succ j => simp at hp
  | zero =>
    simp only [List.getElem?_cons_zero, Option.some.injEq] at hp
    subst hp
    refine ⟨cs, hl, hK, fun i u hu => ?_⟩
    have := blk_cell hb i
    have hu' := this.trans (show cs.toArray[i]? = some u by simpa using hu)
    cases i <;> simpa [Addr.add] using hu'
end Go.Proofs.YtefdfgmlmjnmlaaDoor.My
end

section
namespace Go.Proofs.YtefdfgmlmjnmlaaDoor.My
open Go.RowKit Go.Proofs.YtefdfgmlmjnmlaaDoorW.PrintWords Go.Proofs.YtefdfgmlmjnmlaaDoor.Rf
def cId : S59 := ⟨⟨#[105, 100]⟩, 1, true, false, ⟨#[]⟩, 0⟩
def tId : S45 := ⟨⟨#[97]⟩, 0, [cId], []⟩
def tNo : S45 := ⟨⟨#[97]⟩, 0, [], []⟩
theorem rowId {g : Nat} (w : World) (hb : w.heap[g]? = some (.cells #[.string ⟨#[105, 100]⟩, .int .i64 1, .bool true, .bool false, .string ⟨#[]⟩, .int .i64 0] 59 (0, 0))) : Kd.C k59 w (some ⟨g, 0, none⟩) [cId].length [cId] :=
  row1 k59 (k59_mk w cId) rfl hb
theorem good_no (w : World) (hT : Tabs w) : Calls Tryd.prog 36 #[.agg #[.string ⟨#[97]⟩, .int .i64 0, .slice none 0 0, .slice none 0 0], .agg #[.int .i64 0, .slice none 0 0, .slice none 0 0]] w (IntPost 4 w) := by
  have h := good0_calls tNo none 0 none 0 0 [] none 0 none 0 0 w (Kd.C_nil _ _) rfl (Kd.C_nil _ _) hT (by decide) (fun x hx => by cases hx)
  rw [show goodE0 tNo [] = 4 by kernel_rfl] at h
  exact h
theorem good_id {g : Nat} (w : World) (hT : Tabs w) (hb : w.heap[g]? = some (.cells #[.string ⟨#[105, 100]⟩, .int .i64 1, .bool true, .bool false, .string ⟨#[]⟩, .int .i64 0] 59 (0, 0))) : Calls Tryd.prog 36 #[.agg #[.string ⟨#[97]⟩, .int .i64 0, .slice (some ⟨g, 0, none⟩) 1 1, .slice none 0 0], .agg #[.int .i64 0, .slice none 0 0, .slice none 0 0]] w (IntPost 0 w) := by
  have h := good0_calls tId (some ⟨g, 0, none⟩) 1 none 0 0 [] none 0 none 0 0 w (rowId w hb) rfl (Kd.C_nil _ _) hT (by decide) (fun x hx => by have hx : x ∈ [cId] := hx; simp at hx; subst hx; decide)
  rw [show goodE0 tId [] = 0 by kernel_rfl] at h
  exact h
theorem name_a1 (w : World) (hT : Tabs w) : Calls Tryd.prog 32 #[.string ⟨#[97, 95, 49]⟩] w (BoolPost true w) := by
  refine (name_calls ⟨#[97, 95, 49]⟩ w (by decide) hT).mono ?_
  rintro e w' ⟨rfl, hb⟩
  exact ⟨by rw [show isName ⟨#[97, 95, 49]⟩ = true by kernel_rfl], hb⟩
theorem place_id {g : Nat} (w : World) (hb : w.heap[g]? = some (.cells #[.string ⟨#[105, 100]⟩, .int .i64 1, .bool true, .bool false, .string ⟨#[]⟩, .int .i64 0] 59 (0, 0))) : Calls Tryd.prog 34 #[.agg #[.string ⟨#[97]⟩, .int .i64 0, .slice (some ⟨g, 0, none⟩) 1 1, .slice none 0 0], .string ⟨#[120]⟩] w (IntPost (-1) w) := by
  have h := place_calls tId (some ⟨g, 0, none⟩) 1 none 0 ⟨#[120]⟩ w (rowId w hb)
  rw [show placeC tId.f2 ⟨#[120]⟩ = -1 by kernel_rfl] at h
  exact h
set_option maxRecDepth 100000 in
theorem alive9_calls (w : World) (hT : Tabs w) : Calls Tryd.prog 27 #[] w (BoolPost true w) := by
  have hb := below2 w (.cells #[.string ⟨#[105, 100]⟩, .int .i64 1, .bool true, .bool false, .string ⟨#[]⟩, .int .i64 0] 59) (.cells #[.string ⟨#[97]⟩, .int .i64 0, .slice (some ⟨w.heap.size, 0, none⟩) 1 1, .slice none 0 0] 45)
  have HK := Aside0.mk (blk_alloc (blk_new w (.cells #[.string ⟨#[105, 100]⟩, .int .i64 1, .bool true, .bool false, .string ⟨#[]⟩, .int .i64 0] 59)) (.cells #[.string ⟨#[97]⟩, .int .i64 0, .slice (some ⟨w.heap.size, 0, none⟩) 1 1, .slice none 0 0] 45))
  have HK1 := Aside0.mk (blk_new1 w (.cells #[.string ⟨#[105, 100]⟩, .int .i64 1, .bool true, .bool false, .string ⟨#[]⟩, .int .i64 0] 59) (.cells #[.string ⟨#[97]⟩, .int .i64 0, .slice (some ⟨w.heap.size, 0, none⟩) 1 1, .slice none 0 0] 45))
  have HT := Aside0.mk (hT.below hb)
  have HB := Aside0.mk hb
  clear hb hT
  go_enter Tryd.func27, Tryd.ntmps27
  go_wp2_with (first
    | (go_at_call 34; refine (place_id _ HK4.out).mono ?_; rintro e w5 ⟨rfl, hb5⟩)
    | (go_at_call 32; refine (name_a1 _ HT3.out).mono ?_; rintro e w4 ⟨rfl, hb4⟩; have HK4 := Aside0.mk (blk_below HK3.out hb4); have HL4 := Aside0.mk (blk_below HL3.out hb4); have c0 := blk_cell HL4.out 0; have c1 := blk_cell HL4.out 1; have c2 := blk_cell HL4.out 2; have c3 := blk_cell HL4.out 3)
    | (go_at_call 36; refine (good_id _ HT2.out HK2.out).mono ?_; rintro e w3 ⟨rfl, hb3⟩; have HK3 := Aside0.mk (blk_below HK2.out hb3); have HL3 := Aside0.mk (blk_below HL2.out hb3); have HT3 := Aside0.mk (HT2.out.below hb3))
    | (go_at_call 36; refine (good_no _ HT.out).mono ?_; rintro e w2 ⟨rfl, hb2⟩; have HK2 := Aside0.mk (blk_below HK.out hb2); have HL2 := Aside0.mk (blk_below HK1.out hb2); have HT2 := Aside0.mk (HT.out.below hb2); have a0 := blk_cell HL2.out 0; have a1 := blk_cell HL2.out 1; have a2 := blk_cell HL2.out 2; have a3 := blk_cell HL2.out 3))
  go_ret
  exact ⟨rfl, below_step (below_step (below_step (below_step HB.out hb2) hb3) hb4) hb5⟩
end Go.Proofs.YtefdfgmlmjnmlaaDoor.My
end

section
set_option linter.unusedSimpArgs false
set_option linter.unusedVariables false
namespace Go.Proofs.YtefdfgmlmjnmlaaDoor.My
open Go.RowKit Go.Proofs.YtefdfgmlmjnmlaaDoorW.PrintWords Go.Proofs.YtefdfgmlmjnmlaaDoor.Rf
open Go.Proofs.YtefdfgmlmjnmlaaDoorW.PrintLast Go.Proofs.YtefdfgmlmjnmlaaDoorW.PrintMore
set_option maxHeartbeats 4000000 in
set_option maxRecDepth 100000 in
theorem tables_law (t : S45) (A : Option Addr) (c : Nat) (A' : Option Addr) (c' : Nat) (v : Int) (ts : List S45) (B : Option Addr) (d : Nat) (gs : List S27) (B' : Option Addr) (d' : Nat) (nm : ByteArray) (w : World)
    (hr : Kd.C k59 w A t.f2.length t.f2) (hc : t.f2.length ≤ c) (hC3 : Kd.C k72 w A' t.f3.length t.f3) (hc3 : t.f3.length ≤ c') (hcn : ∀ x, x ∈ t.f3 → cntE x < 4611686018427387904) (hts : Kd.C k45 w B ts.length ts) (hd : ts.length ≤ d) (hg : Kd.C k27 w B' gs.length gs) (hd' : gs.length ≤ d') (hT : Tabs w) (hs0 : t.f0.size ≤ 9223372036854775807) (hok : ∀ x, x ∈ t.f2 → x.f0.size ≤ 9223372036854775807) (hnm : nm.size ≤ 9223372036854775807) (hokt : OkT t) (hoks : ∀ x, x ∈ ts → OkT x) :
    Calls Tryd.prog 5 #[.agg #[.string t.f0, .int .i64 t.f1, .slice A t.f2.length c, .slice A' t.f3.length c'], .agg #[.int .i64 v, .slice B ts.length d, .slice B' gs.length d'], .string nm] w (BoolPost true w) := by
  have hnl : t.f2.length ≤ 9223372036854775807 := hr.2.1
  have hnt : ts.length ≤ 9223372036854775807 := hts.2.1
  have hng : gs.length ≤ 9223372036854775807 := hg.2.1
  obtain ⟨rG, kG, hG⟩ := great_ev v ts gs hnt hng hoks
  obtain ⟨rW, kW, hGW⟩ := great_ev 0 [t] [] (by simp) (by simp) (fun x hx => by simp at hx; subst hx; exact hokt)
  obtain ⟨kN, hN⟩ := name_ev nm hnm
  obtain ⟨kP, hP⟩ := place_ev t.f0 t.f1 t.f2 t.f3 nm hnl
  obtain ⟨kF, hF⟩ := find_ev v ts gs nm hnt
  have hG := Aside0.mk (hG kG (Nat.le_refl _))
  have hGW := Aside0.mk (hGW kW (Nat.le_refl _))
  have hN := Aside0.mk (hN kN (Nat.le_refl _))
  have hP := Aside0.mk (hP kP (Nat.le_refl _))
  have hF := Aside0.mk (hF kF (Nat.le_refl _))
  have HC := Aside0.mk hc
  have HC' := Aside0.mk hc3
  have HD := Aside0.mk hd
  have HD' := Aside0.mk hd'
  have HCN := Aside0.mk hcn
  have HOK := Aside0.mk hok
  have HOKS := Aside0.mk hoks
  have b2 := below2 w (.cells #[.string t.f0, .int .i64 t.f1, .slice A t.f2.length c, .slice A' t.f3.length c'] 45) (.cells #[.int .i64 v, .slice B ts.length d, .slice B' gs.length d'] 25)
  have HB0 := Aside0.mk b2
  have HT0 := Aside0.mk (hT.below b2)
  have HR0 := Aside0.mk (Kd.C_below hr b2)
  have HX0 := Aside0.mk (Kd.C_below hC3 b2)
  have HS0 := Aside0.mk (Kd.C_below hts b2)
  have HG0 := Aside0.mk (Kd.C_below hg b2)
  have HK0 := Aside0.mk (blk_alloc (blk_new w (.cells #[.string t.f0, .int .i64 t.f1, .slice A t.f2.length c, .slice A' t.f3.length c'] 45)) (.cells #[.int .i64 v, .slice B ts.length d, .slice B' gs.length d'] 25))
  have HL0 := Aside0.mk (blk_new1 w (.cells #[.string t.f0, .int .i64 t.f1, .slice A t.f2.length c, .slice A' t.f3.length c'] 45) (.cells #[.int .i64 v, .slice B ts.length d, .slice B' gs.length d'] 25))
  clear hr hc hC3 hc3 hcn hts hd hg hd' hT hok hokt hoks b2 hng
  cases rG with
  | true =>
    go_enter Tryd.func5, Tryd.ntmps5
    go_wp2_with (first
      | (go_at_call 27; refine (alive9_calls _ HT0.out).mono ?_; rintro e w1 ⟨rfl, hb1⟩; have HK1 := Aside0.mk (blk_below HK0.out hb1); have HL1 := Aside0.mk (blk_below HL0.out hb1); have HR1 := Aside0.mk (Kd.C_below HR0.out hb1); have HX1 := Aside0.mk (Kd.C_below HX0.out hb1); have HS1 := Aside0.mk (Kd.C_below HS0.out hb1); have HG1 := Aside0.mk (Kd.C_below HG0.out hb1); have HT1 := Aside0.mk (HT0.out.below hb1); have HB1 := Aside0.mk (below_step HB0.out hb1); have k0_1 := blk_cell HK1.out 0; have k1_1 := blk_cell HK1.out 1; have k2_1 := blk_cell HK1.out 2; have k3_1 := blk_cell HK1.out 3; have l0_1 := blk_cell HL1.out 0; have l1_1 := blk_cell HL1.out 1; have l2_1 := blk_cell HL1.out 2)
      | (go_at_call 13; refine (mortmainref09_Great.calls kG v B d ts B' d' gs true _ HS1.out HD.out HG1.out HD'.out hG.out).mono ?_; rintro e w2 ⟨rfl, hb2⟩; have HK2 := Aside0.mk (blk_below HK1.out hb2); have HL2 := Aside0.mk (blk_below HL1.out hb2); have HR2 := Aside0.mk (Kd.C_below HR1.out hb2); have HX2 := Aside0.mk (Kd.C_below HX1.out hb2); have HS2 := Aside0.mk (Kd.C_below HS1.out hb2); have HG2 := Aside0.mk (Kd.C_below HG1.out hb2); have HT2 := Aside0.mk (HT1.out.below hb2); have HB2 := Aside0.mk (below_step HB1.out hb2); clear k0_1 k1_1 k2_1 k3_1 l0_1 l1_1 l2_1; have k0_2 := blk_cell HK2.out 0; have k1_2 := blk_cell HK2.out 1; have k2_2 := blk_cell HK2.out 2; have k3_2 := blk_cell HK2.out 3; have l0_2 := blk_cell HL2.out 0; have l1_2 := blk_cell HL2.out 1; have l2_2 := blk_cell HL2.out 2))
    go_ret
    exact ⟨rfl, HB2.out⟩
  | false =>
    cases rW with
    | true =>
      go_enter Tryd.func5, Tryd.ntmps5
      go_wp2_with (first
        | (go_at_call 27; refine (alive9_calls _ HT0.out).mono ?_; rintro e w1 ⟨rfl, hb1⟩; have HK1 := Aside0.mk (blk_below HK0.out hb1); have HL1 := Aside0.mk (blk_below HL0.out hb1); have HR1 := Aside0.mk (Kd.C_below HR0.out hb1); have HX1 := Aside0.mk (Kd.C_below HX0.out hb1); have HS1 := Aside0.mk (Kd.C_below HS0.out hb1); have HG1 := Aside0.mk (Kd.C_below HG0.out hb1); have HT1 := Aside0.mk (HT0.out.below hb1); have HB1 := Aside0.mk (below_step HB0.out hb1); have k0_1 := blk_cell HK1.out 0; have k1_1 := blk_cell HK1.out 1; have k2_1 := blk_cell HK1.out 2; have k3_1 := blk_cell HK1.out 3; have l0_1 := blk_cell HL1.out 0; have l1_1 := blk_cell HL1.out 1; have l2_1 := blk_cell HL1.out 2)
        | (go_at_call 13; refine (mortmainref09_Great.calls kW 0 AW 1 [t] none 0 [] true _ HW.out (Nat.le_refl _) (Kd.C_nil _ _) (Nat.le_refl _) hGW.out).mono ?_; rintro e w4 ⟨rfl, hb4⟩; have HK4 := Aside0.mk (blk_below HK3.out hb4); have HL4 := Aside0.mk (blk_below HL3.out hb4); have HR4 := Aside0.mk (Kd.C_below HR3.out hb4); have HX4 := Aside0.mk (Kd.C_below HX3.out hb4); have HS4 := Aside0.mk (Kd.C_below HS3.out hb4); have HG4 := Aside0.mk (Kd.C_below HG3.out hb4); have HT4 := Aside0.mk (HT3.out.below hb4); have HB4 := Aside0.mk (below_step HB3.out hb4); clear k0_3 k1_3 k2_3 k3_3 l0_3 l1_3 l2_3; have k0_4 := blk_cell HK4.out 0; have k1_4 := blk_cell HK4.out 1; have k2_4 := blk_cell HK4.out 2; have k3_4 := blk_cell HK4.out 3; have l0_4 := blk_cell HL4.out 0; have l1_4 := blk_cell HL4.out 1; have l2_4 := blk_cell HL4.out 2)
        | (go_at_call 13; refine (mortmainref09_Great.calls kG v B d ts B' d' gs false _ HS1.out HD.out HG1.out HD'.out hG.out).mono ?_; rintro e w2 ⟨rfl, hb2⟩; have HK2 := Aside0.mk (blk_below HK1.out hb2); have HL2 := Aside0.mk (blk_below HL1.out hb2); have HR2 := Aside0.mk (Kd.C_below HR1.out hb2); have HX2 := Aside0.mk (Kd.C_below HX1.out hb2); have HS2 := Aside0.mk (Kd.C_below HS1.out hb2); have HG2 := Aside0.mk (Kd.C_below HG1.out hb2); have HT2 := Aside0.mk (HT1.out.below hb2); have HB2 := Aside0.mk (below_step HB1.out hb2); clear k0_1 k1_1 k2_1 k3_1 l0_1 l1_1 l2_1; have k0_2 := blk_cell HK2.out 0; have k1_2 := blk_cell HK2.out 1; have k2_2 := blk_cell HK2.out 2; have k3_2 := blk_cell HK2.out 3; have l0_2 := blk_cell HL2.out 0; have l1_2 := blk_cell HL2.out 1; have l2_2 := blk_cell HL2.out 2)
        | (go_at_call 28; refine (with_calls t A c A' c' _ HR2.out HC.out HX2.out HC'.out).mono ?_; rintro e w3 ⟨AW, rfl, hW, hb3⟩; have HW := Aside0.mk hW; clear hW; have HK3 := Aside0.mk (blk_below HK2.out hb3); have HL3 := Aside0.mk (blk_below HL2.out hb3); have HR3 := Aside0.mk (Kd.C_below HR2.out hb3); have HX3 := Aside0.mk (Kd.C_below HX2.out hb3); have HS3 := Aside0.mk (Kd.C_below HS2.out hb3); have HG3 := Aside0.mk (Kd.C_below HG2.out hb3); have HT3 := Aside0.mk (HT2.out.below hb3); have HB3 := Aside0.mk (below_step HB2.out hb3); clear k0_2 k1_2 k2_2 k3_2 l0_2 l1_2 l2_2; have k0_3 := blk_cell HK3.out 0; have k1_3 := blk_cell HK3.out 1; have k2_3 := blk_cell HK3.out 2; have k3_3 := blk_cell HK3.out 3; have l0_3 := blk_cell HL3.out 0; have l1_3 := blk_cell HL3.out 1; have l2_3 := blk_cell HL3.out 2))
      go_ret
      exact ⟨rfl, HB4.out⟩
    | false =>
      by_cases hlen : 200 < (nm.size : Int)
      · have hlen1 := decide_eq_true hlen
        go_enter Tryd.func5, Tryd.ntmps5
        go_wp2_with (first
          | (go_at_call 27; refine (alive9_calls _ HT0.out).mono ?_; rintro e w1 ⟨rfl, hb1⟩; have HK1 := Aside0.mk (blk_below HK0.out hb1); have HL1 := Aside0.mk (blk_below HL0.out hb1); have HR1 := Aside0.mk (Kd.C_below HR0.out hb1); have HX1 := Aside0.mk (Kd.C_below HX0.out hb1); have HS1 := Aside0.mk (Kd.C_below HS0.out hb1); have HG1 := Aside0.mk (Kd.C_below HG0.out hb1); have HT1 := Aside0.mk (HT0.out.below hb1); have HB1 := Aside0.mk (below_step HB0.out hb1); have k0_1 := blk_cell HK1.out 0; have k1_1 := blk_cell HK1.out 1; have k2_1 := blk_cell HK1.out 2; have k3_1 := blk_cell HK1.out 3; have l0_1 := blk_cell HL1.out 0; have l1_1 := blk_cell HL1.out 1; have l2_1 := blk_cell HL1.out 2)
          | (go_at_call 13; refine (mortmainref09_Great.calls kW 0 AW 1 [t] none 0 [] false _ HW.out (Nat.le_refl _) (Kd.C_nil _ _) (Nat.le_refl _) hGW.out).mono ?_; rintro e w4 ⟨rfl, hb4⟩; have HK4 := Aside0.mk (blk_below HK3.out hb4); have HL4 := Aside0.mk (blk_below HL3.out hb4); have HR4 := Aside0.mk (Kd.C_below HR3.out hb4); have HX4 := Aside0.mk (Kd.C_below HX3.out hb4); have HS4 := Aside0.mk (Kd.C_below HS3.out hb4); have HG4 := Aside0.mk (Kd.C_below HG3.out hb4); have HT4 := Aside0.mk (HT3.out.below hb4); have HB4 := Aside0.mk (below_step HB3.out hb4); clear k0_3 k1_3 k2_3 k3_3 l0_3 l1_3 l2_3; have k0_4 := blk_cell HK4.out 0; have k1_4 := blk_cell HK4.out 1; have k2_4 := blk_cell HK4.out 2; have k3_4 := blk_cell HK4.out 3; have l0_4 := blk_cell HL4.out 0; have l1_4 := blk_cell HL4.out 1; have l2_4 := blk_cell HL4.out 2)
          | (go_at_call 13; refine (mortmainref09_Great.calls kG v B d ts B' d' gs false _ HS1.out HD.out HG1.out HD'.out hG.out).mono ?_; rintro e w2 ⟨rfl, hb2⟩; have HK2 := Aside0.mk (blk_below HK1.out hb2); have HL2 := Aside0.mk (blk_below HL1.out hb2); have HR2 := Aside0.mk (Kd.C_below HR1.out hb2); have HX2 := Aside0.mk (Kd.C_below HX1.out hb2); have HS2 := Aside0.mk (Kd.C_below HS1.out hb2); have HG2 := Aside0.mk (Kd.C_below HG1.out hb2); have HT2 := Aside0.mk (HT1.out.below hb2); have HB2 := Aside0.mk (below_step HB1.out hb2); clear k0_1 k1_1 k2_1 k3_1 l0_1 l1_1 l2_1; have k0_2 := blk_cell HK2.out 0; have k1_2 := blk_cell HK2.out 1; have k2_2 := blk_cell HK2.out 2; have k3_2 := blk_cell HK2.out 3; have l0_2 := blk_cell HL2.out 0; have l1_2 := blk_cell HL2.out 1; have l2_2 := blk_cell HL2.out 2)
          | (go_at_call 28; refine (with_calls t A c A' c' _ HR2.out HC.out HX2.out HC'.out).mono ?_; rintro e w3 ⟨AW, rfl, hW, hb3⟩; have HW := Aside0.mk hW; clear hW; have HK3 := Aside0.mk (blk_below HK2.out hb3); have HL3 := Aside0.mk (blk_below HL2.out hb3); have HR3 := Aside0.mk (Kd.C_below HR2.out hb3); have HX3 := Aside0.mk (Kd.C_below HX2.out hb3); have HS3 := Aside0.mk (Kd.C_below HS2.out hb3); have HG3 := Aside0.mk (Kd.C_below HG2.out hb3); have HT3 := Aside0.mk (HT2.out.below hb3); have HB3 := Aside0.mk (below_step HB2.out hb3); clear k0_2 k1_2 k2_2 k3_2 l0_2 l1_2 l2_2; have k0_3 := blk_cell HK3.out 0; have k1_3 := blk_cell HK3.out 1; have k2_3 := blk_cell HK3.out 2; have k3_3 := blk_cell HK3.out 3; have l0_3 := blk_cell HL3.out 0; have l1_3 := blk_cell HL3.out 1; have l2_3 := blk_cell HL3.out 2))
        go_ret
        exact ⟨rfl, HB4.out⟩
      · have hlen1 := decide_eq_false hlen
        by_cases hneg : findT ts nm < 0
        · have HFD : Aside0 (decide (0 ≤ findT ts nm) = false) := ⟨decide_eq_false (by omega)⟩
          have hfd := HFD.out
          clear hneg
          go_enter Tryd.func5, Tryd.ntmps5
          go_wp2_with (first
            | (go_at_call 27; refine (alive9_calls _ HT0.out).mono ?_; rintro e w1 ⟨rfl, hb1⟩; have HK1 := Aside0.mk (blk_below HK0.out hb1); have HL1 := Aside0.mk (blk_below HL0.out hb1); have HR1 := Aside0.mk (Kd.C_below HR0.out hb1); have HX1 := Aside0.mk (Kd.C_below HX0.out hb1); have HS1 := Aside0.mk (Kd.C_below HS0.out hb1); have HG1 := Aside0.mk (Kd.C_below HG0.out hb1); have HT1 := Aside0.mk (HT0.out.below hb1); have HB1 := Aside0.mk (below_step HB0.out hb1); have k0_1 := blk_cell HK1.out 0; have k1_1 := blk_cell HK1.out 1; have k2_1 := blk_cell HK1.out 2; have k3_1 := blk_cell HK1.out 3; have l0_1 := blk_cell HL1.out 0; have l1_1 := blk_cell HL1.out 1; have l2_1 := blk_cell HL1.out 2)
            | (go_at_call 13; refine (mortmainref09_Great.calls kW 0 AW 1 [t] none 0 [] false _ HW.out (Nat.le_refl _) (Kd.C_nil _ _) (Nat.le_refl _) hGW.out).mono ?_; rintro e w4 ⟨rfl, hb4⟩; have HK4 := Aside0.mk (blk_below HK3.out hb4); have HL4 := Aside0.mk (blk_below HL3.out hb4); have HR4 := Aside0.mk (Kd.C_below HR3.out hb4); have HX4 := Aside0.mk (Kd.C_below HX3.out hb4); have HS4 := Aside0.mk (Kd.C_below HS3.out hb4); have HG4 := Aside0.mk (Kd.C_below HG3.out hb4); have HT4 := Aside0.mk (HT3.out.below hb4); have HB4 := Aside0.mk (below_step HB3.out hb4); clear k0_3 k1_3 k2_3 k3_3 l0_3 l1_3 l2_3; have k0_4 := blk_cell HK4.out 0; have k1_4 := blk_cell HK4.out 1; have k2_4 := blk_cell HK4.out 2; have k3_4 := blk_cell HK4.out 3; have l0_4 := blk_cell HL4.out 0; have l1_4 := blk_cell HL4.out 1; have l2_4 := blk_cell HL4.out 2)
            | (go_at_call 13; refine (mortmainref09_Great.calls kG v B d ts B' d' gs false _ HS1.out HD.out HG1.out HD'.out hG.out).mono ?_; rintro e w2 ⟨rfl, hb2⟩; have HK2 := Aside0.mk (blk_below HK1.out hb2); have HL2 := Aside0.mk (blk_below HL1.out hb2); have HR2 := Aside0.mk (Kd.C_below HR1.out hb2); have HX2 := Aside0.mk (Kd.C_below HX1.out hb2); have HS2 := Aside0.mk (Kd.C_below HS1.out hb2); have HG2 := Aside0.mk (Kd.C_below HG1.out hb2); have HT2 := Aside0.mk (HT1.out.below hb2); have HB2 := Aside0.mk (below_step HB1.out hb2); clear k0_1 k1_1 k2_1 k3_1 l0_1 l1_1 l2_1; have k0_2 := blk_cell HK2.out 0; have k1_2 := blk_cell HK2.out 1; have k2_2 := blk_cell HK2.out 2; have k3_2 := blk_cell HK2.out 3; have l0_2 := blk_cell HL2.out 0; have l1_2 := blk_cell HL2.out 1; have l2_2 := blk_cell HL2.out 2)
            | (go_at_call 28; refine (with_calls t A c A' c' _ HR2.out HC.out HX2.out HC'.out).mono ?_; rintro e w3 ⟨AW, rfl, hW, hb3⟩; have HW := Aside0.mk hW; clear hW; have HK3 := Aside0.mk (blk_below HK2.out hb3); have HL3 := Aside0.mk (blk_below HL2.out hb3); have HR3 := Aside0.mk (Kd.C_below HR2.out hb3); have HX3 := Aside0.mk (Kd.C_below HX2.out hb3); have HS3 := Aside0.mk (Kd.C_below HS2.out hb3); have HG3 := Aside0.mk (Kd.C_below HG2.out hb3); have HT3 := Aside0.mk (HT2.out.below hb3); have HB3 := Aside0.mk (below_step HB2.out hb3); clear k0_2 k1_2 k2_2 k3_2 l0_2 l1_2 l2_2; have k0_3 := blk_cell HK3.out 0; have k1_3 := blk_cell HK3.out 1; have k2_3 := blk_cell HK3.out 2; have k3_3 := blk_cell HK3.out 3; have l0_3 := blk_cell HL3.out 0; have l1_3 := blk_cell HL3.out 1; have l2_3 := blk_cell HL3.out 2)
            | (go_at_call 29; refine (find_calls v ts B d B' gs.length d' nm _ HS4.out).mono ?_; rintro e w5 ⟨A2, A3, c2, c3, rfl, hl2, hC2, hl3, hC3, hb5⟩; rw [HFD.out]; have HJ2 := Aside0.mk hl2; have HJ3 := Aside0.mk hl3; have HC2_5 := Aside0.mk (Kd.C_below hC2 hb5); have HC3_5 := Aside0.mk (Kd.C_below hC3 hb5); have HK5 := Aside0.mk (blk_below HK4.out hb5); have HL5 := Aside0.mk (blk_below HL4.out hb5); have HR5 := Aside0.mk (Kd.C_below HR4.out hb5); have HX5 := Aside0.mk (Kd.C_below HX4.out hb5); have HS5 := Aside0.mk (Kd.C_below HS4.out hb5); have HG5 := Aside0.mk (Kd.C_below HG4.out hb5); have HT5 := Aside0.mk (HT4.out.below hb5); have HB5 := Aside0.mk (below_step HB4.out hb5); clear k0_4 k1_4 k2_4 k3_4 l0_4 l1_4 l2_4; clear hl2 hC2 hl3 hC3; have k0_5 := blk_cell HK5.out 0; have k1_5 := blk_cell HK5.out 1; have k2_5 := blk_cell HK5.out 2; have k3_5 := blk_cell HK5.out 3; have l0_5 := blk_cell HL5.out 0; have l1_5 := blk_cell HL5.out 1; have l2_5 := blk_cell HL5.out 2; have gk := blk_lt HK5.out; have gl := blk_lt HL5.out; have hbo := below1 w5 (.cells #[.string (theT ts nm).f0, .int .i64 (theT ts nm).f1, .slice A2 (theT ts nm).f2.length c2, .slice A3 (theT ts nm).f3.length c3] 45); have HO6 := Aside0.mk (blk_new w5 (.cells #[.string (theT ts nm).f0, .int .i64 (theT ts nm).f1, .slice A2 (theT ts nm).f2.length c2, .slice A3 (theT ts nm).f3.length c3] 45)); have HK6 := Aside0.mk (blk_below HK5.out hbo); have HL6 := Aside0.mk (blk_below HL5.out hbo); have HR6 := Aside0.mk (Kd.C_below HR5.out hbo); have HX6 := Aside0.mk (Kd.C_below HX5.out hbo); have HS6 := Aside0.mk (Kd.C_below HS5.out hbo); have HG6 := Aside0.mk (Kd.C_below HG5.out hbo); have HC2_6 := Aside0.mk (Kd.C_below HC2_5.out hbo); have HC3_6 := Aside0.mk (Kd.C_below HC3_5.out hbo); have HT6 := Aside0.mk (HT5.out.below hbo); have HB6 := Aside0.mk (below_step HB5.out hbo); clear hbo)
            | (go_at_call 30; refine (mortmainref09_Find.calls kF v B d ts B' d' gs nm _ _ HS6.out HD.out HG6.out HD'.out hF.out).mono ?_; rintro e w7 ⟨rfl, hb7⟩; have HK7 := Aside0.mk (blk_below HK6.out hb7); have HL7 := Aside0.mk (blk_below HL6.out hb7); have HO7 := Aside0.mk (blk_below HO6.out hb7); have HR7 := Aside0.mk (Kd.C_below HR6.out hb7); have HX7 := Aside0.mk (Kd.C_below HX6.out hb7); have HS7 := Aside0.mk (Kd.C_below HS6.out hb7); have HG7 := Aside0.mk (Kd.C_below HG6.out hb7); have HC2_7 := Aside0.mk (Kd.C_below HC2_6.out hb7); have HC3_7 := Aside0.mk (Kd.C_below HC3_6.out hb7); have HT7 := Aside0.mk (HT6.out.below hb7); have HB7 := Aside0.mk (below_step HB6.out hb7); clear k0_5 k1_5 k2_5 k3_5 l0_5 l1_5 l2_5; have k0_7 := blk_cell HK7.out 0; have k1_7 := blk_cell HK7.out 1; have k2_7 := blk_cell HK7.out 2; have k3_7 := blk_cell HK7.out 3; have l0_7 := blk_cell HL7.out 0; have l1_7 := blk_cell HL7.out 1; have l2_7 := blk_cell HL7.out 2; have o0_7 := blk_cell HO7.out 0; have o1_7 := blk_cell HO7.out 1; have o2_7 := blk_cell HO7.out 2; have o3_7 := blk_cell HO7.out 3))
          go_quiet (fail)
          go_wp2
          have hbq : Below w7.heap.size w7 (w7.drewN nq) := pw_below_drewN (Below.refl _ _) nq
          have HK8 := Aside0.mk (blk_below HK7.out hbq)
          have HL8 := Aside0.mk (blk_below HL7.out hbq)
          have HR8 := Aside0.mk (Kd.C_below HR7.out hbq)
          have HX8 := Aside0.mk (Kd.C_below HX7.out hbq)
          have HS8 := Aside0.mk (Kd.C_below HS7.out hbq)
          have HG8 := Aside0.mk (Kd.C_below HG7.out hbq)
          have HT8 := Aside0.mk (HT7.out.below hbq)
          have HB8 := Aside0.mk (below_step HB7.out hbq)
          refine start_ (n := 24) (S := (fun w' => w'.cell? ⟨w.heap.size, 0, none⟩ = some (.string t.f0) ∧ w'.cell? ⟨w.heap.size, 1, none⟩ = some (.int .i64 t.f1) ∧ w'.cell? ⟨w.heap.size, 2, none⟩ = some (.slice A t.f2.length c) ∧ w'.cell? ⟨w.heap.size, 3, none⟩ = some (.slice A' t.f3.length c') ∧ w'.cell? ⟨w.heap.size + 1, 0, none⟩ = some (.int .i64 v) ∧ w'.cell? ⟨w.heap.size + 1, 1, none⟩ = some (.slice B ts.length d) ∧ w'.cell? ⟨w.heap.size + 1, 2, none⟩ = some (.slice B' gs.length d'))) (ds := []) #[false, false, false, false, false, false, false, false, false, false, false, false, false, false, false, false, false, false, false, false, false, false, false, false] (by kernel_rfl) rfl rfl ⟨blk_cell HK8.out 0, blk_cell HK8.out 1, blk_cell HK8.out 2, blk_cell HK8.out 3, blk_cell HL8.out 0, blk_cell HL8.out 1, blk_cell HL8.out 2⟩ (fun hHeld => ?_)
          refine pure_ (i := 0) (N := some 50) (v := ?_) (a' := ?_) #[true, false, false, false, false, false, false, false, false, false, false, false, false, false, false, false, false, false, false, false, false, false, false, false] rfl rfl (by kernel_rfl) (fun _ _ _ h => h) (Or.inl ⟨by rfl, ?_⟩) ?_ ?_
          rotate_left
          · intro w'
            go_simp
            with_reducible rfl
          rotate_left
          · simp only [Act.put, List.setIfInBounds_toArray, List.set_cons_zero, List.set_cons_succ, i64_w, i32_w]
            rfl
          refine pure_ (i := 2) (N := some 52) (v := ?_) (a' := ?_) #[true, false, true, false, false, false, false, false, false, false, false, false, false, false, false, false, false, false, false, false, false, false, false, false] rfl rfl (by kernel_rfl) (fun _ _ _ h => h) (Or.inl ⟨by rfl, ?_⟩) ?_ ?_
          rotate_left
          · intro w'
            go_simp
            with_reducible rfl
          rotate_left
          · simp only [Act.put, List.setIfInBounds_toArray, List.set_cons_zero, List.set_cons_succ, i64_w, i32_w]
            rfl
          refine one_ (i := 1) (N := some 51) #[true, true, true, false, false, false, false, false, false, false, false, false, false, false, false, false, false, false, false, false, false, false, false, false] rfl rfl (by kernel_rfl) (by decide) (fun K hK => ?_)
          refine goes_ Tryd.func32 (by kernel_rfl) rfl #[.string nm] (by rfl) rfl rfl (by first | rfl | (simp only [List.map_toArray, List.map_cons, List.map_nil]; rfl)) ?_
          refine (name_calls nm _ hnm (HT8.out.below (below_drew1 (Below.refl _ _)))).mono ?_
          rintro e w9 ⟨rfl, hb9⟩
          have hb9 := undrew hb9
          have HK9 := Aside0.mk (blk_below HK8.out hb9)
          have HL9 := Aside0.mk (blk_below HL8.out hb9)
          have HR9 := Aside0.mk (Kd.C_below HR8.out hb9)
          have HX9 := Aside0.mk (Kd.C_below HX8.out hb9)
          have HS9 := Aside0.mk (Kd.C_below HS8.out hb9)
          have HG9 := Aside0.mk (Kd.C_below HG8.out hb9)
          have HT9 := Aside0.mk (HT8.out.below hb9)
          have HB9 := Aside0.mk (below_step HB8.out hb9)
          refine ⟨_, rfl, ?_⟩
          refine hK.out _ _ ⟨blk_cell HK9.out 0, blk_cell HK9.out 1, blk_cell HK9.out 2, blk_cell HK9.out 3, blk_cell HL9.out 0, blk_cell HL9.out 1, blk_cell HL9.out 2⟩ (fun hHeld => ?_)
          clear hK K
          refine norm_ (a' := ?_) ?_ ?_
          rotate_left
          · show Act.put _ (some 51) _ = _
            simp only [Act.put, List.setIfInBounds_toArray, List.set_cons_zero, List.set_cons_succ, i64_w, i32_w]
            rfl
          refine one_ (i := 3) (N := some 53) #[true, true, true, true, false, false, false, false, false, false, false, false, false, false, false, false, false, false, false, false, false, false, false, false] rfl rfl (by kernel_rfl) (by decide) (fun K hK => ?_)
          refine goes_ Tryd.func33 (by kernel_rfl) rfl #[.string nm] (by rfl) rfl rfl (by first | rfl | (simp only [List.map_toArray, List.map_cons, List.map_nil]; rfl)) ?_
          refine (mortmainref09_Name.calls kN nm _ _ hN.out).mono ?_
          rintro e w10 ⟨rfl, hd10⟩
          have hb10 := drawn_below hd10
          have HK10 := Aside0.mk (blk_below HK9.out hb10)
          have HL10 := Aside0.mk (blk_below HL9.out hb10)
          have HR10 := Aside0.mk (Kd.C_below HR9.out hb10)
          have HX10 := Aside0.mk (Kd.C_below HX9.out hb10)
          have HS10 := Aside0.mk (Kd.C_below HS9.out hb10)
          have HG10 := Aside0.mk (Kd.C_below HG9.out hb10)
          have HT10 := Aside0.mk (HT9.out.below hb10)
          have HB10 := Aside0.mk (below_step HB9.out hb10)
          refine ⟨_, rfl, ?_⟩
          refine hK.out _ _ ⟨blk_cell HK10.out 0, blk_cell HK10.out 1, blk_cell HK10.out 2, blk_cell HK10.out 3, blk_cell HL10.out 0, blk_cell HL10.out 1, blk_cell HL10.out 2⟩ (fun hHeld => ?_)
          clear hK K
          refine norm_ (a' := ?_) ?_ ?_
          rotate_left
          · show Act.put _ (some 53) _ = _
            simp only [Act.put, List.setIfInBounds_toArray, List.set_cons_zero, List.set_cons_succ, i64_w, i32_w]
            rfl
          refine pure_ (i := 4) (N := some 54) (v := ?_) (a' := ?_) #[true, true, true, true, true, false, false, false, false, false, false, false, false, false, false, false, false, false, false, false, false, false, false, false] rfl rfl (by kernel_rfl) (fun _ _ _ h => h) (Or.inl ⟨by rfl, ?_⟩) ?_ ?_
          rotate_left
          · intro w'
            go_simp
            with_reducible rfl
          rotate_left
          · simp only [Act.put, List.setIfInBounds_toArray, List.set_cons_zero, List.set_cons_succ, i64_w, i32_w]
            rfl
          refine pure_ (i := 5) (N := some 55) (v := ?_) (a' := ?_) #[true, true, true, true, true, true, false, false, false, false, false, false, false, false, false, false, false, false, false, false, false, false, false, false] rfl rfl (by kernel_rfl) (fun _ _ _ h => h) (Or.inl ⟨by rfl, ?_⟩) ?_ ?_
          rotate_left
          · intro w'
            go_simp
            with_reducible rfl
          rotate_left
          · simp only [Act.put, List.setIfInBounds_toArray, List.set_cons_zero, List.set_cons_succ, i64_w, i32_w]
            rfl
          refine pure_ (i := 7) (N := some 57) (v := ?_) (a' := ?_) #[true, true, true, true, true, true, false, true, false, false, false, false, false, false, false, false, false, false, false, false, false, false, false, false] rfl rfl (by kernel_rfl) (fun _ _ _ h => h) (Or.inl ⟨by rfl, ?_⟩) ?_ ?_
          rotate_left
          · intro w'
            go_simp
            with_reducible rfl
          rotate_left
          · simp only [Act.put, List.setIfInBounds_toArray, List.set_cons_zero, List.set_cons_succ, i64_w, i32_w]
            rfl
          refine pure_ (i := 10) (N := some 60) (v := ?_) (a' := ?_) #[true, true, true, true, true, true, false, true, false, false, true, false, false, false, false, false, false, false, false, false, false, false, false, false] rfl rfl (by kernel_rfl) (fun _ _ _ h => h) (Or.inl ⟨by rfl, ?_⟩) ?_ ?_
          rotate_left
          · intro w'
            go_simp
            with_reducible rfl
          rotate_left
          · simp only [Act.put, List.setIfInBounds_toArray, List.set_cons_zero, List.set_cons_succ, i64_w, i32_w]
            rfl
          refine take_ (i := 6) (N := some 56) (v := ?_) (a' := ?_) #[true, true, true, true, true, true, true, true, false, false, true, false, false, false, false, false, false, false, false, false, false, false, false, false] rfl rfl (by kernel_rfl) (fun _ _ _ h => h) (Or.inl ⟨by rfl, ?_⟩) hHeld ?_ ?_
          rotate_left
          · rintro w' ⟨s0, s1, s2, s3, s4, s5, s6⟩
            go_simp
            with_reducible rfl
          rotate_left
          · simp only [Act.put, List.setIfInBounds_toArray, List.set_cons_zero, List.set_cons_succ, i64_w, i32_w]
            rfl
          refine take_ (i := 9) (N := some 59) (v := ?_) (a' := ?_) #[true, true, true, true, true, true, true, true, false, true, true, false, false, false, false, false, false, false, false, false, false, false, false, false] rfl rfl (by kernel_rfl) (fun _ _ _ h => h) (Or.inl ⟨by rfl, ?_⟩) hHeld ?_ ?_
          rotate_left
          · rintro w' ⟨s0, s1, s2, s3, s4, s5, s6⟩
            go_simp
            with_reducible rfl
          rotate_left
          · simp only [Act.put, List.setIfInBounds_toArray, List.set_cons_zero, List.set_cons_succ, i64_w, i32_w]
            rfl
          refine one_ (i := 8) (N := some 58) #[true, true, true, true, true, true, true, true, true, true, true, false, false, false, false, false, false, false, false, false, false, false, false, false] rfl rfl (by kernel_rfl) (by decide) (fun K hK => ?_)
          refine goes_ Tryd.func34 (by kernel_rfl) rfl #[.agg #[.string t.f0, .int .i64 t.f1, .slice A t.f2.length c, .slice A' t.f3.length c'], .string nm] (by rfl) rfl rfl (by first | rfl | (simp only [List.map_toArray, List.map_cons, List.map_nil]; rfl)) ?_
          refine (place_calls t A c A' c' nm _ HR10.out).mono ?_
          rintro e w11 ⟨rfl, hb11⟩
          have HK11 := Aside0.mk (blk_below HK10.out hb11)
          have HL11 := Aside0.mk (blk_below HL10.out hb11)
          have HR11 := Aside0.mk (Kd.C_below HR10.out hb11)
          have HX11 := Aside0.mk (Kd.C_below HX10.out hb11)
          have HS11 := Aside0.mk (Kd.C_below HS10.out hb11)
          have HG11 := Aside0.mk (Kd.C_below HG10.out hb11)
          have HT11 := Aside0.mk (HT10.out.below hb11)
          have HB11 := Aside0.mk (below_step HB10.out hb11)
          refine ⟨_, rfl, ?_⟩
          refine hK.out _ _ ⟨blk_cell HK11.out 0, blk_cell HK11.out 1, blk_cell HK11.out 2, blk_cell HK11.out 3, blk_cell HL11.out 0, blk_cell HL11.out 1, blk_cell HL11.out 2⟩ (fun hHeld => ?_)
          clear hK K
          refine norm_ (a' := ?_) ?_ ?_
          rotate_left
          · show Act.put _ (some 58) _ = _
            simp only [Act.put, List.setIfInBounds_toArray, List.set_cons_zero, List.set_cons_succ, i64_w, i32_w]
            rfl
          refine one_ (i := 11) (N := some 61) #[true, true, true, true, true, true, true, true, true, true, true, true, false, false, false, false, false, false, false, false, false, false, false, false] rfl rfl (by kernel_rfl) (by decide) (fun K hK => ?_)
          refine goes_ Tryd.func35 (by kernel_rfl) rfl #[.agg #[.string t.f0, .int .i64 t.f1, .slice A t.f2.length c, .slice A' t.f3.length c'], .string nm] (by rfl) rfl rfl (by first | rfl | (simp only [List.map_toArray, List.map_cons, List.map_nil]; rfl)) ?_
          refine (mortmainref09_Place.calls kP t.f0 t.f1 A c t.f2 A' c' t.f3 nm _ _ HR11.out HC.out HX11.out HC'.out hP.out).mono ?_
          rintro e w12 ⟨rfl, hb12⟩
          have HK12 := Aside0.mk (blk_below HK11.out hb12)
          have HL12 := Aside0.mk (blk_below HL11.out hb12)
          have HR12 := Aside0.mk (Kd.C_below HR11.out hb12)
          have HX12 := Aside0.mk (Kd.C_below HX11.out hb12)
          have HS12 := Aside0.mk (Kd.C_below HS11.out hb12)
          have HG12 := Aside0.mk (Kd.C_below HG11.out hb12)
          have HT12 := Aside0.mk (HT11.out.below hb12)
          have HB12 := Aside0.mk (below_step HB11.out hb12)
          refine ⟨_, rfl, ?_⟩
          refine hK.out _ _ ⟨blk_cell HK12.out 0, blk_cell HK12.out 1, blk_cell HK12.out 2, blk_cell HK12.out 3, blk_cell HL12.out 0, blk_cell HL12.out 1, blk_cell HL12.out 2⟩ (fun hHeld => ?_)
          clear hK K
          refine norm_ (a' := ?_) ?_ ?_
          rotate_left
          · show Act.put _ (some 61) _ = _
            simp only [Act.put, List.setIfInBounds_toArray, List.set_cons_zero, List.set_cons_succ, i64_w, i32_w]
            rfl
          refine pure_ (i := 12) (N := some 62) (v := ?_) (a' := ?_) #[true, true, true, true, true, true, true, true, true, true, true, true, true, false, false, false, false, false, false, false, false, false, false, false] rfl rfl (by kernel_rfl) (fun _ _ _ h => h) (Or.inl ⟨by rfl, ?_⟩) ?_ ?_
          rotate_left
          · intro w'
            go_simp
            with_reducible rfl
          rotate_left
          · simp only [Act.put, List.setIfInBounds_toArray, List.set_cons_zero, List.set_cons_succ, i64_w, i32_w]
            rfl
          refine pure_ (i := 13) (N := some 63) (v := ?_) (a' := ?_) #[true, true, true, true, true, true, true, true, true, true, true, true, true, true, false, false, false, false, false, false, false, false, false, false] rfl rfl (by kernel_rfl) (fun _ _ _ h => h) (Or.inl ⟨by rfl, ?_⟩) ?_ ?_
          rotate_left
          · intro w'
            go_simp
            with_reducible rfl
          rotate_left
          · simp only [Act.put, List.setIfInBounds_toArray, List.set_cons_zero, List.set_cons_succ, i64_w, i32_w]
            rfl
          refine pure_ (i := 14) (N := some 64) (v := ?_) (a' := ?_) #[true, true, true, true, true, true, true, true, true, true, true, true, true, true, true, false, false, false, false, false, false, false, false, false] rfl rfl (by kernel_rfl) (fun _ _ _ h => h) (Or.inl ⟨by rfl, ?_⟩) ?_ ?_
          rotate_left
          · intro w'
            go_simp
            with_reducible rfl
          rotate_left
          · simp only [Act.put, List.setIfInBounds_toArray, List.set_cons_zero, List.set_cons_succ, i64_w, i32_w]
            rfl
          refine take_ (i := 15) (N := some 65) (v := ?_) (a' := ?_) #[true, true, true, true, true, true, true, true, true, true, true, true, true, true, true, true, false, false, false, false, false, false, false, false] rfl rfl (by kernel_rfl) (fun _ _ _ h => h) (Or.inl ⟨by rfl, ?_⟩) hHeld ?_ ?_
          rotate_left
          · rintro w' ⟨s0, s1, s2, s3, s4, s5, s6⟩
            go_simp
            with_reducible rfl
          rotate_left
          · simp only [Act.put, List.setIfInBounds_toArray, List.set_cons_zero, List.set_cons_succ, i64_w, i32_w]
            rfl
          refine take_ (i := 16) (N := some 66) (v := ?_) (a' := ?_) #[true, true, true, true, true, true, true, true, true, true, true, true, true, true, true, true, true, false, false, false, false, false, false, false] rfl rfl (by kernel_rfl) (fun _ _ _ h => h) (Or.inl ⟨by rfl, ?_⟩) hHeld ?_ ?_
          rotate_left
          · rintro w' ⟨s0, s1, s2, s3, s4, s5, s6⟩
            go_simp
            with_reducible rfl
          rotate_left
          · simp only [Act.put, List.setIfInBounds_toArray, List.set_cons_zero, List.set_cons_succ, i64_w, i32_w]
            rfl
          refine take_ (i := 18) (N := some 68) (v := ?_) (a' := ?_) #[true, true, true, true, true, true, true, true, true, true, true, true, true, true, true, true, true, false, true, false, false, false, false, false] rfl rfl (by kernel_rfl) (fun _ _ _ h => h) (Or.inl ⟨by rfl, ?_⟩) hHeld ?_ ?_
          rotate_left
          · rintro w' ⟨s0, s1, s2, s3, s4, s5, s6⟩
            go_simp
            with_reducible rfl
          rotate_left
          · simp only [Act.put, List.setIfInBounds_toArray, List.set_cons_zero, List.set_cons_succ, i64_w, i32_w]
            rfl
          refine take_ (i := 19) (N := some 69) (v := ?_) (a' := ?_) #[true, true, true, true, true, true, true, true, true, true, true, true, true, true, true, true, true, false, true, true, false, false, false, false] rfl rfl (by kernel_rfl) (fun _ _ _ h => h) (Or.inl ⟨by rfl, ?_⟩) hHeld ?_ ?_
          rotate_left
          · rintro w' ⟨s0, s1, s2, s3, s4, s5, s6⟩
            go_simp
            with_reducible rfl
          rotate_left
          · simp only [Act.put, List.setIfInBounds_toArray, List.set_cons_zero, List.set_cons_succ, i64_w, i32_w]
            rfl
          refine one_ (i := 17) (N := some 67) #[true, true, true, true, true, true, true, true, true, true, true, true, true, true, true, true, true, true, true, true, false, false, false, false] rfl rfl (by kernel_rfl) (by decide) (fun K hK => ?_)
          refine goes_ Tryd.func36 (by kernel_rfl) rfl #[.agg #[.string t.f0, .int .i64 t.f1, .slice A t.f2.length c, .slice A' t.f3.length c'], .agg #[.int .i64 v, .slice B ts.length d, .slice B' gs.length d']] (by rfl) rfl rfl (by first | rfl | (simp only [List.map_toArray, List.map_cons, List.map_nil]; rfl)) ?_
          refine (good36_calls t A c A' c' v ts B d B' gs.length d' _ HR12.out HX12.out HCN.out HS12.out HT12.out hs0 HOK.out).mono ?_
          rintro e w13 ⟨rfl, hb13⟩
          have HK13 := Aside0.mk (blk_below HK12.out hb13)
          have HL13 := Aside0.mk (blk_below HL12.out hb13)
          have HR13 := Aside0.mk (Kd.C_below HR12.out hb13)
          have HX13 := Aside0.mk (Kd.C_below HX12.out hb13)
          have HS13 := Aside0.mk (Kd.C_below HS12.out hb13)
          have HG13 := Aside0.mk (Kd.C_below HG12.out hb13)
          have HT13 := Aside0.mk (HT12.out.below hb13)
          have HB13 := Aside0.mk (below_step HB12.out hb13)
          refine ⟨_, rfl, ?_⟩
          refine hK.out _ _ ⟨blk_cell HK13.out 0, blk_cell HK13.out 1, blk_cell HK13.out 2, blk_cell HK13.out 3, blk_cell HL13.out 0, blk_cell HL13.out 1, blk_cell HL13.out 2⟩ (fun hHeld => ?_)
          clear hK K
          refine norm_ (a' := ?_) ?_ ?_
          rotate_left
          · show Act.put _ (some 67) _ = _
            simp only [Act.put, List.setIfInBounds_toArray, List.set_cons_zero, List.set_cons_succ, i64_w, i32_w]
            rfl
          refine one_ (i := 20) (N := some 70) #[true, true, true, true, true, true, true, true, true, true, true, true, true, true, true, true, true, true, true, true, true, false, false, false] rfl rfl (by kernel_rfl) (by decide) (fun K hK => ?_)
          refine goes_ Tryd.func37 (by kernel_rfl) rfl #[.agg #[.string t.f0, .int .i64 t.f1, .slice A t.f2.length c, .slice A' t.f3.length c'], .agg #[.int .i64 v, .slice B ts.length d, .slice B' gs.length d']] (by rfl) rfl rfl (by first | rfl | (simp only [List.map_toArray, List.map_cons, List.map_nil]; rfl)) ?_
          refine (goodR_calls t A c A' c' v ts B d gs B' d' _ HR13.out HC.out HX13.out HC'.out HCN.out HS13.out HD.out HG13.out HD'.out hs0 HOK.out).mono ?_
          rintro e w14 ⟨rfl, hb14⟩
          have HK14 := Aside0.mk (blk_below HK13.out hb14)
          have HL14 := Aside0.mk (blk_below HL13.out hb14)
          have HR14 := Aside0.mk (Kd.C_below HR13.out hb14)
          have HX14 := Aside0.mk (Kd.C_below HX13.out hb14)
          have HS14 := Aside0.mk (Kd.C_below HS13.out hb14)
          have HG14 := Aside0.mk (Kd.C_below HG13.out hb14)
          have HT14 := Aside0.mk (HT13.out.below hb14)
          have HB14 := Aside0.mk (below_step HB13.out hb14)
          refine ⟨_, rfl, ?_⟩
          refine hK.out _ _ ⟨blk_cell HK14.out 0, blk_cell HK14.out 1, blk_cell HK14.out 2, blk_cell HK14.out 3, blk_cell HL14.out 0, blk_cell HL14.out 1, blk_cell HL14.out 2⟩ (fun hHeld => ?_)
          clear hK K
          refine norm_ (a' := ?_) ?_ ?_
          rotate_left
          · show Act.put _ (some 70) _ = _
            simp only [Act.put, List.setIfInBounds_toArray, List.set_cons_zero, List.set_cons_succ, i64_w, i32_w]
            rfl
          refine pure_ (i := 21) (N := some 71) (v := ?_) (a' := ?_) #[true, true, true, true, true, true, true, true, true, true, true, true, true, true, true, true, true, true, true, true, true, true, false, false] rfl rfl (by kernel_rfl) (fun _ _ _ h => h) (Or.inl ⟨by rfl, ?_⟩) ?_ ?_
          rotate_left
          · intro w'
            go_simp
            with_reducible rfl
          rotate_left
          · simp only [Act.put, List.setIfInBounds_toArray, List.set_cons_zero, List.set_cons_succ, i64_w, i32_w]
            rfl
          refine pure_ (i := 22) (N := some 72) (v := ?_) (a' := ?_) #[true, true, true, true, true, true, true, true, true, true, true, true, true, true, true, true, true, true, true, true, true, true, true, false] rfl rfl (by kernel_rfl) (fun _ _ _ h => h) (Or.inl ⟨by rfl, ?_⟩) ?_ ?_
          rotate_left
          · intro w'
            go_simp
            with_reducible rfl
          rotate_left
          · simp only [Act.put, List.setIfInBounds_toArray, List.set_cons_zero, List.set_cons_succ, i64_w, i32_w]
            rfl
          refine pure_ (i := 23) (N := some 6) (v := ?_) (a' := ?_) #[true, true, true, true, true, true, true, true, true, true, true, true, true, true, true, true, true, true, true, true, true, true, true, true] rfl rfl (by kernel_rfl) (fun _ _ _ h => h) (Or.inl ⟨by rfl, ?_⟩) ?_ ?_
          rotate_left
          · intro w'
            go_simp
            with_reducible rfl
          rotate_left
          · simp only [Act.put, List.setIfInBounds_toArray, List.set_cons_zero, List.set_cons_succ, i64_w, i32_w]
            rfl
          refine done_ (by kernel_rfl) ?_
          go_wp2
          go_ret
          exact ⟨by simp, HB14.out⟩
        · have HFD : Aside0 (decide (0 ≤ findT ts nm) = true) := ⟨decide_eq_true (by omega)⟩
          have hrg := idx_range (isT nm) ts
          have hj : findT ts nm = ((findT ts nm).toNat : Int) := by omega
          have hjl : (findT ts nm).toNat < ts.length := by have := hrg.2; unfold findT at hneg ⊢; omega
          have hTT : theT ts nm = ts.getD (findT ts nm).toNat z45 := by unfold theT; rw [if_neg hneg]
          have hokT : OkT (theT ts nm) := by rw [hTT]; exact HOKS.out _ (mem_getD (z := z45) hjl)
          obtain ⟨kE, hE⟩ := sameT_ev (theT ts nm) hokT
          have HE := Aside0.mk (hE kE (Nat.le_refl _))
          obtain ⟨adT, A4, c4, A5, c5, eT, ht0, ht1, ht2, ht3, hl4, hC4, hl5, hC5⟩ := at_T45 HS0.out (((findT ts nm).toNat : Nat) : Int) (by omega) (by omega)
          subst eT
          simp only [Int.toNat_natCast, rd_T45] at ht0 ht1 ht2 ht3 hl4 hC4 hl5 hC5
          rw [← hTT] at ht0 ht1 ht2 ht3 hl4 hC4 hl5 hC5
          have HFF := Aside0.mk hj
          generalize hjj : (findT ts nm).toNat = j at hj hjl ht0 ht1 ht2 ht3 HFF
          have HJ4 := Aside0.mk hl4
          have HJ5 := Aside0.mk hl5
          have HC4_0 := Aside0.mk hC4
          have HC5_0 := Aside0.mk hC5
          have hj0 : (0 : Int) ≤ (j : Int) := by omega
          have hj1 : (j : Int) < (ts.length : Int) := by omega
          have hjd : decide ((0 : Int) ≤ (j : Int)) = true := decide_eq_true hj0
          clear hl4 hC4 hl5 hC5 hTT hneg hj hjj hrg hokT hE
          go_enter Tryd.func5, Tryd.ntmps5
          go_wp2_with (first
            | (go_at_call 27; refine (alive9_calls _ HT0.out).mono ?_; rintro e w1 ⟨rfl, hb1⟩; have HK1 := Aside0.mk (blk_below HK0.out hb1); have HL1 := Aside0.mk (blk_below HL0.out hb1); have HR1 := Aside0.mk (Kd.C_below HR0.out hb1); have HX1 := Aside0.mk (Kd.C_below HX0.out hb1); have HS1 := Aside0.mk (Kd.C_below HS0.out hb1); have HG1 := Aside0.mk (Kd.C_below HG0.out hb1); have HT1 := Aside0.mk (HT0.out.below hb1); have HB1 := Aside0.mk (below_step HB0.out hb1); have k0_1 := blk_cell HK1.out 0; have k1_1 := blk_cell HK1.out 1; have k2_1 := blk_cell HK1.out 2; have k3_1 := blk_cell HK1.out 3; have l0_1 := blk_cell HL1.out 0; have l1_1 := blk_cell HL1.out 1; have l2_1 := blk_cell HL1.out 2)
            | (go_at_call 13; refine (mortmainref09_Great.calls kW 0 AW 1 [t] none 0 [] false _ HW.out (Nat.le_refl _) (Kd.C_nil _ _) (Nat.le_refl _) hGW.out).mono ?_; rintro e w4 ⟨rfl, hb4⟩; have HK4 := Aside0.mk (blk_below HK3.out hb4); have HL4 := Aside0.mk (blk_below HL3.out hb4); have HR4 := Aside0.mk (Kd.C_below HR3.out hb4); have HX4 := Aside0.mk (Kd.C_below HX3.out hb4); have HS4 := Aside0.mk (Kd.C_below HS3.out hb4); have HG4 := Aside0.mk (Kd.C_below HG3.out hb4); have HT4 := Aside0.mk (HT3.out.below hb4); have HB4 := Aside0.mk (below_step HB3.out hb4); clear k0_3 k1_3 k2_3 k3_3 l0_3 l1_3 l2_3; have k0_4 := blk_cell HK4.out 0; have k1_4 := blk_cell HK4.out 1; have k2_4 := blk_cell HK4.out 2; have k3_4 := blk_cell HK4.out 3; have l0_4 := blk_cell HL4.out 0; have l1_4 := blk_cell HL4.out 1; have l2_4 := blk_cell HL4.out 2)
            | (go_at_call 13; refine (mortmainref09_Great.calls kG v (some adT) d ts B' d' gs false _ HS1.out HD.out HG1.out HD'.out hG.out).mono ?_; rintro e w2 ⟨rfl, hb2⟩; have HK2 := Aside0.mk (blk_below HK1.out hb2); have HL2 := Aside0.mk (blk_below HL1.out hb2); have HR2 := Aside0.mk (Kd.C_below HR1.out hb2); have HX2 := Aside0.mk (Kd.C_below HX1.out hb2); have HS2 := Aside0.mk (Kd.C_below HS1.out hb2); have HG2 := Aside0.mk (Kd.C_below HG1.out hb2); have HT2 := Aside0.mk (HT1.out.below hb2); have HB2 := Aside0.mk (below_step HB1.out hb2); clear k0_1 k1_1 k2_1 k3_1 l0_1 l1_1 l2_1; have k0_2 := blk_cell HK2.out 0; have k1_2 := blk_cell HK2.out 1; have k2_2 := blk_cell HK2.out 2; have k3_2 := blk_cell HK2.out 3; have l0_2 := blk_cell HL2.out 0; have l1_2 := blk_cell HL2.out 1; have l2_2 := blk_cell HL2.out 2)
            | (go_at_call 28; refine (with_calls t A c A' c' _ HR2.out HC.out HX2.out HC'.out).mono ?_; rintro e w3 ⟨AW, rfl, hW, hb3⟩; have HW := Aside0.mk hW; clear hW; have HK3 := Aside0.mk (blk_below HK2.out hb3); have HL3 := Aside0.mk (blk_below HL2.out hb3); have HR3 := Aside0.mk (Kd.C_below HR2.out hb3); have HX3 := Aside0.mk (Kd.C_below HX2.out hb3); have HS3 := Aside0.mk (Kd.C_below HS2.out hb3); have HG3 := Aside0.mk (Kd.C_below HG2.out hb3); have HT3 := Aside0.mk (HT2.out.below hb3); have HB3 := Aside0.mk (below_step HB2.out hb3); clear k0_2 k1_2 k2_2 k3_2 l0_2 l1_2 l2_2; have k0_3 := blk_cell HK3.out 0; have k1_3 := blk_cell HK3.out 1; have k2_3 := blk_cell HK3.out 2; have k3_3 := blk_cell HK3.out 3; have l0_3 := blk_cell HL3.out 0; have l1_3 := blk_cell HL3.out 1; have l2_3 := blk_cell HL3.out 2)
            | (go_at_call 29; refine (find_calls v ts (some adT) d B' gs.length d' nm _ HS4.out).mono ?_; rintro e w5 ⟨A2, A3, c2, c3, rfl, hl2, hC2, hl3, hC3, hb5⟩; rw [HFD.out]; have HJ2 := Aside0.mk hl2; have HJ3 := Aside0.mk hl3; have HC2_5 := Aside0.mk (Kd.C_below hC2 hb5); have HC3_5 := Aside0.mk (Kd.C_below hC3 hb5); have HK5 := Aside0.mk (blk_below HK4.out hb5); have HL5 := Aside0.mk (blk_below HL4.out hb5); have HR5 := Aside0.mk (Kd.C_below HR4.out hb5); have HX5 := Aside0.mk (Kd.C_below HX4.out hb5); have HS5 := Aside0.mk (Kd.C_below HS4.out hb5); have HG5 := Aside0.mk (Kd.C_below HG4.out hb5); have HT5 := Aside0.mk (HT4.out.below hb5); have HB5 := Aside0.mk (below_step HB4.out hb5); clear k0_4 k1_4 k2_4 k3_4 l0_4 l1_4 l2_4; clear hl2 hC2 hl3 hC3; have k0_5 := blk_cell HK5.out 0; have k1_5 := blk_cell HK5.out 1; have k2_5 := blk_cell HK5.out 2; have k3_5 := blk_cell HK5.out 3; have l0_5 := blk_cell HL5.out 0; have l1_5 := blk_cell HL5.out 1; have l2_5 := blk_cell HL5.out 2; have gk := blk_lt HK5.out; have gl := blk_lt HL5.out; have hbo := below1 w5 (.cells #[.string (theT ts nm).f0, .int .i64 (theT ts nm).f1, .slice A2 (theT ts nm).f2.length c2, .slice A3 (theT ts nm).f3.length c3] 45); have HO6 := Aside0.mk (blk_new w5 (.cells #[.string (theT ts nm).f0, .int .i64 (theT ts nm).f1, .slice A2 (theT ts nm).f2.length c2, .slice A3 (theT ts nm).f3.length c3] 45)); have HK6 := Aside0.mk (blk_below HK5.out hbo); have HL6 := Aside0.mk (blk_below HL5.out hbo); have HR6 := Aside0.mk (Kd.C_below HR5.out hbo); have HX6 := Aside0.mk (Kd.C_below HX5.out hbo); have HS6 := Aside0.mk (Kd.C_below HS5.out hbo); have HG6 := Aside0.mk (Kd.C_below HG5.out hbo); have HC2_6 := Aside0.mk (Kd.C_below HC2_5.out hbo); have HC3_6 := Aside0.mk (Kd.C_below HC3_5.out hbo); have HT6 := Aside0.mk (HT5.out.below hbo); have HB6 := Aside0.mk (below_step HB5.out hbo); clear hbo)
            | (go_at_call 30; refine (mortmainref09_Find.calls kF v (some adT) d ts B' d' gs nm _ _ HS6.out HD.out HG6.out HD'.out hF.out).mono ?_; rintro e w7 ⟨rfl, hb7⟩; rw [HFF.out]; have HK7 := Aside0.mk (blk_below HK6.out hb7); have HL7 := Aside0.mk (blk_below HL6.out hb7); have HO7 := Aside0.mk (blk_below HO6.out hb7); have HR7 := Aside0.mk (Kd.C_below HR6.out hb7); have HX7 := Aside0.mk (Kd.C_below HX6.out hb7); have HS7 := Aside0.mk (Kd.C_below HS6.out hb7); have HG7 := Aside0.mk (Kd.C_below HG6.out hb7); have HC2_7 := Aside0.mk (Kd.C_below HC2_6.out hb7); have HC3_7 := Aside0.mk (Kd.C_below HC3_6.out hb7); have HT7 := Aside0.mk (HT6.out.below hb7); have HB7 := Aside0.mk (below_step HB6.out hb7); clear k0_5 k1_5 k2_5 k3_5 l0_5 l1_5 l2_5; have k0_7 := blk_cell HK7.out 0; have k1_7 := blk_cell HK7.out 1; have k2_7 := blk_cell HK7.out 2; have k3_7 := blk_cell HK7.out 3; have l0_7 := blk_cell HL7.out 0; have l1_7 := blk_cell HL7.out 1; have l2_7 := blk_cell HL7.out 2; have o0_7 := blk_cell HO7.out 0; have o1_7 := blk_cell HO7.out 1; have o2_7 := blk_cell HO7.out 2; have o3_7 := blk_cell HO7.out 3; have r0 := cell_now hb7 (cell_now (below1 w5 (.cells #[.string (theT ts nm).f0, .int .i64 (theT ts nm).f1, .slice A2 (theT ts nm).f2.length c2, .slice A3 (theT ts nm).f3.length c3] 45)) (cell_now hb5 (cell_now hb4 (cell_now hb3 (cell_now hb2 (cell_now hb1 ht0)))))); have r1 := cell_now hb7 (cell_now (below1 w5 (.cells #[.string (theT ts nm).f0, .int .i64 (theT ts nm).f1, .slice A2 (theT ts nm).f2.length c2, .slice A3 (theT ts nm).f3.length c3] 45)) (cell_now hb5 (cell_now hb4 (cell_now hb3 (cell_now hb2 (cell_now hb1 ht1)))))); have r2 := cell_now hb7 (cell_now (below1 w5 (.cells #[.string (theT ts nm).f0, .int .i64 (theT ts nm).f1, .slice A2 (theT ts nm).f2.length c2, .slice A3 (theT ts nm).f3.length c3] 45)) (cell_now hb5 (cell_now hb4 (cell_now hb3 (cell_now hb2 (cell_now hb1 ht2)))))); have r3 := cell_now hb7 (cell_now (below1 w5 (.cells #[.string (theT ts nm).f0, .int .i64 (theT ts nm).f1, .slice A2 (theT ts nm).f2.length c2, .slice A3 (theT ts nm).f3.length c3] 45)) (cell_now hb5 (cell_now hb4 (cell_now hb3 (cell_now hb2 (cell_now hb1 ht3)))))); have HC4_7 := Aside0.mk (Kd.C_below (Kd.C_below (Kd.C_below (Kd.C_below (Kd.C_below (Kd.C_below (Kd.C_below HC4_0.out hb1) hb2) hb3) hb4) hb5) (below1 w5 (.cells #[.string (theT ts nm).f0, .int .i64 (theT ts nm).f1, .slice A2 (theT ts nm).f2.length c2, .slice A3 (theT ts nm).f3.length c3] 45))) hb7); have HC5_7 := Aside0.mk (Kd.C_below (Kd.C_below (Kd.C_below (Kd.C_below (Kd.C_below (Kd.C_below (Kd.C_below HC5_0.out hb1) hb2) hb3) hb4) hb5) (below1 w5 (.cells #[.string (theT ts nm).f0, .int .i64 (theT ts nm).f1, .slice A2 (theT ts nm).f2.length c2, .slice A3 (theT ts nm).f3.length c3] 45))) hb7); clear ht0 ht1 ht2 ht3))
          refine start_ (n := 17) (S := (fun w' => w'.cell? ⟨w.heap.size + 1, 0, none⟩ = some (.int .i64 v) ∧ w'.cell? ⟨w.heap.size + 1, 1, none⟩ = some (.slice (some adT) ts.length d) ∧ w'.cell? ⟨w.heap.size + 1, 2, none⟩ = some (.slice B' gs.length d') ∧ w'.cell? ⟨w5.heap.size, 0, none⟩ = some (.string (theT ts nm).f0) ∧ w'.cell? ⟨w5.heap.size, 1, none⟩ = some (.int .i64 (theT ts nm).f1) ∧ w'.cell? ⟨w5.heap.size, 2, none⟩ = some (.slice A2 (theT ts nm).f2.length c2) ∧ w'.cell? ⟨w5.heap.size, 3, none⟩ = some (.slice A3 (theT ts nm).f3.length c3) ∧ w'.cell? (adT.add (j * 4)) = some (.string (theT ts nm).f0) ∧ w'.cell? ⟨(adT.add (j * 4)).block, (adT.add (j * 4)).off + 1, none⟩ = some (.int .i64 (theT ts nm).f1) ∧ w'.cell? ⟨(adT.add (j * 4)).block, (adT.add (j * 4)).off + 2, none⟩ = some (.slice A4 (theT ts nm).f2.length c4) ∧ w'.cell? ⟨(adT.add (j * 4)).block, (adT.add (j * 4)).off + 3, none⟩ = some (.slice A5 (theT ts nm).f3.length c5))) (ds := []) #[false, false, false, false, false, false, false, false, false, false, false, false, false, false, false, false, false] (by kernel_rfl) rfl rfl ⟨blk_cell HL7.out 0, blk_cell HL7.out 1, blk_cell HL7.out 2, blk_cell HO7.out 0, blk_cell HO7.out 1, blk_cell HO7.out 2, blk_cell HO7.out 3, r0, r1, r2, r3⟩ (fun hHeld => ?_)
          refine pure_ (i := 0) (N := some 33) (v := ?_) (a' := ?_) #[true, false, false, false, false, false, false, false, false, false, false, false, false, false, false, false, false] rfl rfl (by kernel_rfl) (fun _ _ _ h => h) (Or.inl ⟨by rfl, ?_⟩) ?_ ?_
          rotate_left
          · intro w'
            go_simp
            with_reducible rfl
          rotate_left
          · simp only [Act.put, List.setIfInBounds_toArray, List.set_cons_zero, List.set_cons_succ, i64_w, i32_w]
            rfl
          refine pure_ (i := 1) (N := some 34) (v := ?_) (a' := ?_) #[true, true, false, false, false, false, false, false, false, false, false, false, false, false, false, false, false] rfl rfl (by kernel_rfl) (fun _ _ _ h => h) (Or.inl ⟨by rfl, ?_⟩) ?_ ?_
          rotate_left
          · intro w'
            go_simp
            with_reducible rfl
          rotate_left
          · simp only [Act.put, List.setIfInBounds_toArray, List.set_cons_zero, List.set_cons_succ, i64_w, i32_w]
            rfl
          refine pure_ (i := 2) (N := some 35) (v := ?_) (a' := ?_) #[true, true, true, false, false, false, false, false, false, false, false, false, false, false, false, false, false] rfl rfl (by kernel_rfl) (fun _ _ _ h => h) (Or.inl ⟨by rfl, ?_⟩) ?_ ?_
          rotate_left
          · intro w'
            go_simp
            with_reducible rfl
          rotate_left
          · simp only [Act.put, List.setIfInBounds_toArray, List.set_cons_zero, List.set_cons_succ, i64_w, i32_w]
            rfl
          refine pure_ (i := 3) (N := some 36) (v := ?_) (a' := ?_) #[true, true, true, true, false, false, false, false, false, false, false, false, false, false, false, false, false] rfl rfl (by kernel_rfl) (fun _ _ _ h => h) (Or.inl ⟨by rfl, ?_⟩) ?_ ?_
          rotate_left
          · intro w'
            go_simp
            with_reducible rfl
          rotate_left
          · simp only [Act.put, List.setIfInBounds_toArray, List.set_cons_zero, List.set_cons_succ, i64_w, i32_w]
            rfl
          refine pure_ (i := 4) (N := some 37) (v := ?_) (a' := ?_) #[true, true, true, true, true, false, false, false, false, false, false, false, false, false, false, false, false] rfl rfl (by kernel_rfl) (fun _ _ _ h => h) (Or.inl ⟨by rfl, ?_⟩) ?_ ?_
          rotate_left
          · intro w'
            go_simp
            with_reducible rfl
          rotate_left
          · simp only [Act.put, List.setIfInBounds_toArray, List.set_cons_zero, List.set_cons_succ, i64_w, i32_w]
            rfl
          refine pure_ (i := 5) (N := some 38) (v := ?_) (a' := ?_) #[true, true, true, true, true, true, false, false, false, false, false, false, false, false, false, false, false] rfl rfl (by kernel_rfl) (fun _ _ _ h => h) (Or.inl ⟨by rfl, ?_⟩) ?_ ?_
          rotate_left
          · intro w'
            go_simp
            with_reducible rfl
          rotate_left
          · simp only [Act.put, List.setIfInBounds_toArray, List.set_cons_zero, List.set_cons_succ, i64_w, i32_w]
            rfl
          refine pure_ (i := 6) (N := some 39) (v := ?_) (a' := ?_) #[true, true, true, true, true, true, true, false, false, false, false, false, false, false, false, false, false] rfl rfl (by kernel_rfl) (fun _ _ _ h => h) (Or.inl ⟨by rfl, ?_⟩) ?_ ?_
          rotate_left
          · intro w'
            go_simp
            with_reducible rfl
          rotate_left
          · simp only [Act.put, List.setIfInBounds_toArray, List.set_cons_zero, List.set_cons_succ, i64_w, i32_w]
            rfl
          refine pure_ (i := 8) (N := some 41) (v := ?_) (a' := ?_) #[true, true, true, true, true, true, true, false, true, false, false, false, false, false, false, false, false] rfl rfl (by kernel_rfl) (fun _ _ _ h => h) (Or.inl ⟨by rfl, ?_⟩) ?_ ?_
          rotate_left
          · intro w'
            go_simp
            with_reducible rfl
          rotate_left
          · simp only [Act.put, List.setIfInBounds_toArray, List.set_cons_zero, List.set_cons_succ, i64_w, i32_w]
            rfl
          refine pure_ (i := 10) (N := some 43) (v := ?_) (a' := ?_) #[true, true, true, true, true, true, true, false, true, false, true, false, false, false, false, false, false] rfl rfl (by kernel_rfl) (fun _ _ _ h => h) (Or.inl ⟨by rfl, ?_⟩) ?_ ?_
          rotate_left
          · intro w'
            go_simp
            with_reducible rfl
          rotate_left
          · simp only [Act.put, List.setIfInBounds_toArray, List.set_cons_zero, List.set_cons_succ, i64_w, i32_w]
            rfl
          refine take_ (i := 7) (N := some 40) (v := ?_) (a' := ?_) #[true, true, true, true, true, true, true, true, true, false, true, false, false, false, false, false, false] rfl rfl (by kernel_rfl) (fun _ _ _ h => h) (Or.inl ⟨by rfl, ?_⟩) hHeld ?_ ?_
          rotate_left
          · rintro w' ⟨s0, s1, s2, s3, s4, s5, s6, s7, s8, s9, sa⟩
            go_simp
            with_reducible rfl
          rotate_left
          · simp only [Act.put, List.setIfInBounds_toArray, List.set_cons_zero, List.set_cons_succ, i64_w, i32_w]
            rfl
          refine take_ (i := 9) (N := some 42) (v := ?_) (a' := ?_) #[true, true, true, true, true, true, true, true, true, true, true, false, false, false, false, false, false] rfl rfl (by kernel_rfl) (fun _ _ _ h => h) (Or.inl ⟨by rfl, ?_⟩) hHeld ?_ ?_
          rotate_left
          · rintro w' ⟨s0, s1, s2, s3, s4, s5, s6, s7, s8, s9, sa⟩
            go_simp
            with_reducible rfl
          rotate_left
          · simp only [Act.put, List.setIfInBounds_toArray, List.set_cons_zero, List.set_cons_succ, i64_w, i32_w]
            rfl
          refine pure_ (i := 11) (N := some 44) (v := ?_) (a' := ?_) #[true, true, true, true, true, true, true, true, true, true, true, true, false, false, false, false, false] rfl rfl (by kernel_rfl) (fun _ _ _ h => h) (Or.inl ⟨by rfl, ?_⟩) ?_ ?_
          rotate_left
          · intro w'
            go_simp
            with_reducible rfl
          rotate_left
          · simp only [Act.put, List.setIfInBounds_toArray, List.set_cons_zero, List.set_cons_succ, i64_w, i32_w]
            rfl
          refine take_ (i := 12) (N := some 45) (v := ?_) (a' := ?_) #[true, true, true, true, true, true, true, true, true, true, true, true, true, false, false, false, false] rfl rfl (by kernel_rfl) (fun _ _ _ h => h) (Or.inl ⟨by rfl, ?_⟩) hHeld ?_ ?_
          rotate_left
          · rintro w' ⟨s0, s1, s2, s3, s4, s5, s6, s7, s8, s9, sa⟩
            go_simp
            with_reducible rfl
          rotate_left
          · simp only [Act.put, List.setIfInBounds_toArray, List.set_cons_zero, List.set_cons_succ, i64_w, i32_w]
            rfl
          refine one_ (i := 13) (N := some 46) #[true, true, true, true, true, true, true, true, true, true, true, true, true, true, false, false, false] rfl rfl (by kernel_rfl) (by decide) (fun K hK => ?_)
          refine goes_ Tryd.func31 (by kernel_rfl) rfl #[.agg #[.string (theT ts nm).f0, .int .i64 (theT ts nm).f1, .slice A2 (theT ts nm).f2.length c2, .slice A3 (theT ts nm).f3.length c3], .agg #[.string (theT ts nm).f0, .int .i64 (theT ts nm).f1, .slice A4 (theT ts nm).f2.length c4, .slice A5 (theT ts nm).f3.length c5]] (by rfl) rfl rfl (by first | rfl | (simp only [List.map_toArray, List.map_cons, List.map_nil]; rfl)) ?_
          refine (mortmainref09_SameTable.calls kE (theT ts nm).f0 (theT ts nm).f1 A2 c2 (theT ts nm).f2 A3 c3 (theT ts nm).f3 (theT ts nm).f0 (theT ts nm).f1 A4 c4 (theT ts nm).f2 A5 c5 (theT ts nm).f3 true _ (Kd.C_drew HC2_7.out) HJ2.out (Kd.C_drew HC3_7.out) HJ3.out (Kd.C_drew HC4_7.out) HJ4.out (Kd.C_drew HC5_7.out) HJ5.out HE.out).mono ?_
          rintro e w8 ⟨rfl, hb8⟩
          have hb8 := undrew hb8
          have HK8 := Aside0.mk (blk_below HK7.out hb8)
          have HL8 := Aside0.mk (blk_below HL7.out hb8)
          have HO8 := Aside0.mk (blk_below HO7.out hb8)
          have HR8 := Aside0.mk (Kd.C_below HR7.out hb8)
          have HX8 := Aside0.mk (Kd.C_below HX7.out hb8)
          have HS8 := Aside0.mk (Kd.C_below HS7.out hb8)
          have HG8 := Aside0.mk (Kd.C_below HG7.out hb8)
          have HT8 := Aside0.mk (HT7.out.below hb8)
          have HB8 := Aside0.mk (below_step HB7.out hb8)
          refine ⟨_, rfl, ?_⟩
          refine hK.out _ _ ⟨blk_cell HL8.out 0, blk_cell HL8.out 1, blk_cell HL8.out 2, blk_cell HO8.out 0, blk_cell HO8.out 1, blk_cell HO8.out 2, blk_cell HO8.out 3, cell_now hb8 r0, cell_now hb8 r1, cell_now hb8 r2, cell_now hb8 r3⟩ (fun hHeld => ?_)
          clear hK K
          refine norm_ (a' := ?_) ?_ ?_
          rotate_left
          · show Act.put _ (some 46) _ = _
            simp only [Act.put, List.setIfInBounds_toArray, List.set_cons_zero, List.set_cons_succ, i64_w, i32_w]
            rfl
          refine pure_ (i := 14) (N := some 47) (v := ?_) (a' := ?_) #[true, true, true, true, true, true, true, true, true, true, true, true, true, true, true, false, false] rfl rfl (by kernel_rfl) (fun _ _ _ h => h) (Or.inl ⟨by rfl, ?_⟩) ?_ ?_
          rotate_left
          · intro w'
            go_simp
            with_reducible rfl
          rotate_left
          · simp only [Act.put, List.setIfInBounds_toArray, List.set_cons_zero, List.set_cons_succ, i64_w, i32_w]
            rfl
          refine pure_ (i := 15) (N := some 48) (v := ?_) (a' := ?_) #[true, true, true, true, true, true, true, true, true, true, true, true, true, true, true, true, false] rfl rfl (by kernel_rfl) (fun _ _ _ h => h) (Or.inl ⟨by rfl, ?_⟩) ?_ ?_
          rotate_left
          · intro w'
            go_simp
            with_reducible rfl
          rotate_left
          · simp only [Act.put, List.setIfInBounds_toArray, List.set_cons_zero, List.set_cons_succ, i64_w, i32_w]
            rfl
          refine pure_ (i := 16) (N := some 49) (v := ?_) (a' := ?_) #[true, true, true, true, true, true, true, true, true, true, true, true, true, true, true, true, true] rfl rfl (by kernel_rfl) (fun _ _ _ h => h) (Or.inl ⟨by rfl, ?_⟩) ?_ ?_
          rotate_left
          · intro w'
            go_simp
            with_reducible rfl
          rotate_left
          · simp only [Act.put, List.setIfInBounds_toArray, List.set_cons_zero, List.set_cons_succ, i64_w, i32_w]
            rfl
          refine done_ (by kernel_rfl) ?_
          go_wp2
          refine start_ (n := 24) (S := (fun w' => w'.cell? ⟨w.heap.size, 0, none⟩ = some (.string t.f0) ∧ w'.cell? ⟨w.heap.size, 1, none⟩ = some (.int .i64 t.f1) ∧ w'.cell? ⟨w.heap.size, 2, none⟩ = some (.slice A t.f2.length c) ∧ w'.cell? ⟨w.heap.size, 3, none⟩ = some (.slice A' t.f3.length c') ∧ w'.cell? ⟨w.heap.size + 1, 0, none⟩ = some (.int .i64 v) ∧ w'.cell? ⟨w.heap.size + 1, 1, none⟩ = some (.slice (some adT) ts.length d) ∧ w'.cell? ⟨w.heap.size + 1, 2, none⟩ = some (.slice B' gs.length d'))) (ds := []) #[false, false, false, false, false, false, false, false, false, false, false, false, false, false, false, false, false, false, false, false, false, false, false, false] (by kernel_rfl) rfl rfl ⟨blk_cell HK8.out 0, blk_cell HK8.out 1, blk_cell HK8.out 2, blk_cell HK8.out 3, blk_cell HL8.out 0, blk_cell HL8.out 1, blk_cell HL8.out 2⟩ (fun hHeld => ?_)
          refine pure_ (i := 0) (N := some 50) (v := ?_) (a' := ?_) #[true, false, false, false, false, false, false, false, false, false, false, false, false, false, false, false, false, false, false, false, false, false, false, false] rfl rfl (by kernel_rfl) (fun _ _ _ h => h) (Or.inl ⟨by rfl, ?_⟩) ?_ ?_
          rotate_left
          · intro w'
            go_simp
            with_reducible rfl
          rotate_left
          · simp only [Act.put, List.setIfInBounds_toArray, List.set_cons_zero, List.set_cons_succ, i64_w, i32_w]
            rfl
          refine pure_ (i := 2) (N := some 52) (v := ?_) (a' := ?_) #[true, false, true, false, false, false, false, false, false, false, false, false, false, false, false, false, false, false, false, false, false, false, false, false] rfl rfl (by kernel_rfl) (fun _ _ _ h => h) (Or.inl ⟨by rfl, ?_⟩) ?_ ?_
          rotate_left
          · intro w'
            go_simp
            with_reducible rfl
          rotate_left
          · simp only [Act.put, List.setIfInBounds_toArray, List.set_cons_zero, List.set_cons_succ, i64_w, i32_w]
            rfl
          refine one_ (i := 1) (N := some 51) #[true, true, true, false, false, false, false, false, false, false, false, false, false, false, false, false, false, false, false, false, false, false, false, false] rfl rfl (by kernel_rfl) (by decide) (fun K hK => ?_)
          refine goes_ Tryd.func32 (by kernel_rfl) rfl #[.string nm] (by rfl) rfl rfl (by first | rfl | (simp only [List.map_toArray, List.map_cons, List.map_nil]; rfl)) ?_
          refine (name_calls nm _ hnm (HT8.out.below (below_drew1 (Below.refl _ _)))).mono ?_
          rintro e w9 ⟨rfl, hb9⟩
          have hb9 := undrew hb9
          have HK9 := Aside0.mk (blk_below HK8.out hb9)
          have HL9 := Aside0.mk (blk_below HL8.out hb9)
          have HR9 := Aside0.mk (Kd.C_below HR8.out hb9)
          have HX9 := Aside0.mk (Kd.C_below HX8.out hb9)
          have HS9 := Aside0.mk (Kd.C_below HS8.out hb9)
          have HG9 := Aside0.mk (Kd.C_below HG8.out hb9)
          have HT9 := Aside0.mk (HT8.out.below hb9)
          have HB9 := Aside0.mk (below_step HB8.out hb9)
          refine ⟨_, rfl, ?_⟩
          refine hK.out _ _ ⟨blk_cell HK9.out 0, blk_cell HK9.out 1, blk_cell HK9.out 2, blk_cell HK9.out 3, blk_cell HL9.out 0, blk_cell HL9.out 1, blk_cell HL9.out 2⟩ (fun hHeld => ?_)
          clear hK K
          refine norm_ (a' := ?_) ?_ ?_
          rotate_left
          · show Act.put _ (some 51) _ = _
            simp only [Act.put, List.setIfInBounds_toArray, List.set_cons_zero, List.set_cons_succ, i64_w, i32_w]
            rfl
          refine one_ (i := 3) (N := some 53) #[true, true, true, true, false, false, false, false, false, false, false, false, false, false, false, false, false, false, false, false, false, false, false, false] rfl rfl (by kernel_rfl) (by decide) (fun K hK => ?_)
          refine goes_ Tryd.func33 (by kernel_rfl) rfl #[.string nm] (by rfl) rfl rfl (by first | rfl | (simp only [List.map_toArray, List.map_cons, List.map_nil]; rfl)) ?_
          refine (mortmainref09_Name.calls kN nm _ _ hN.out).mono ?_
          rintro e w10 ⟨rfl, hd10⟩
          have hb10 := drawn_below hd10
          have HK10 := Aside0.mk (blk_below HK9.out hb10)
          have HL10 := Aside0.mk (blk_below HL9.out hb10)
          have HR10 := Aside0.mk (Kd.C_below HR9.out hb10)
          have HX10 := Aside0.mk (Kd.C_below HX9.out hb10)
          have HS10 := Aside0.mk (Kd.C_below HS9.out hb10)
          have HG10 := Aside0.mk (Kd.C_below HG9.out hb10)
          have HT10 := Aside0.mk (HT9.out.below hb10)
          have HB10 := Aside0.mk (below_step HB9.out hb10)
          refine ⟨_, rfl, ?_⟩
          refine hK.out _ _ ⟨blk_cell HK10.out 0, blk_cell HK10.out 1, blk_cell HK10.out 2, blk_cell HK10.out 3, blk_cell HL10.out 0, blk_cell HL10.out 1, blk_cell HL10.out 2⟩ (fun hHeld => ?_)
          clear hK K
          refine norm_ (a' := ?_) ?_ ?_
          rotate_left
          · show Act.put _ (some 53) _ = _
            simp only [Act.put, List.setIfInBounds_toArray, List.set_cons_zero, List.set_cons_succ, i64_w, i32_w]
            rfl
          refine pure_ (i := 4) (N := some 54) (v := ?_) (a' := ?_) #[true, true, true, true, true, false, false, false, false, false, false, false, false, false, false, false, false, false, false, false, false, false, false, false] rfl rfl (by kernel_rfl) (fun _ _ _ h => h) (Or.inl ⟨by rfl, ?_⟩) ?_ ?_
          rotate_left
          · intro w'
            go_simp
            with_reducible rfl
          rotate_left
          · simp only [Act.put, List.setIfInBounds_toArray, List.set_cons_zero, List.set_cons_succ, i64_w, i32_w]
            rfl
          refine pure_ (i := 5) (N := some 55) (v := ?_) (a' := ?_) #[true, true, true, true, true, true, false, false, false, false, false, false, false, false, false, false, false, false, false, false, false, false, false, false] rfl rfl (by kernel_rfl) (fun _ _ _ h => h) (Or.inl ⟨by rfl, ?_⟩) ?_ ?_
          rotate_left
          · intro w'
            go_simp
            with_reducible rfl
          rotate_left
          · simp only [Act.put, List.setIfInBounds_toArray, List.set_cons_zero, List.set_cons_succ, i64_w, i32_w]
            rfl
          refine pure_ (i := 7) (N := some 57) (v := ?_) (a' := ?_) #[true, true, true, true, true, true, false, true, false, false, false, false, false, false, false, false, false, false, false, false, false, false, false, false] rfl rfl (by kernel_rfl) (fun _ _ _ h => h) (Or.inl ⟨by rfl, ?_⟩) ?_ ?_
          rotate_left
          · intro w'
            go_simp
            with_reducible rfl
          rotate_left
          · simp only [Act.put, List.setIfInBounds_toArray, List.set_cons_zero, List.set_cons_succ, i64_w, i32_w]
            rfl
          refine pure_ (i := 10) (N := some 60) (v := ?_) (a' := ?_) #[true, true, true, true, true, true, false, true, false, false, true, false, false, false, false, false, false, false, false, false, false, false, false, false] rfl rfl (by kernel_rfl) (fun _ _ _ h => h) (Or.inl ⟨by rfl, ?_⟩) ?_ ?_
          rotate_left
          · intro w'
            go_simp
            with_reducible rfl
          rotate_left
          · simp only [Act.put, List.setIfInBounds_toArray, List.set_cons_zero, List.set_cons_succ, i64_w, i32_w]
            rfl
          refine take_ (i := 6) (N := some 56) (v := ?_) (a' := ?_) #[true, true, true, true, true, true, true, true, false, false, true, false, false, false, false, false, false, false, false, false, false, false, false, false] rfl rfl (by kernel_rfl) (fun _ _ _ h => h) (Or.inl ⟨by rfl, ?_⟩) hHeld ?_ ?_
          rotate_left
          · rintro w' ⟨s0, s1, s2, s3, s4, s5, s6⟩
            go_simp
            with_reducible rfl
          rotate_left
          · simp only [Act.put, List.setIfInBounds_toArray, List.set_cons_zero, List.set_cons_succ, i64_w, i32_w]
            rfl
          refine take_ (i := 9) (N := some 59) (v := ?_) (a' := ?_) #[true, true, true, true, true, true, true, true, false, true, true, false, false, false, false, false, false, false, false, false, false, false, false, false] rfl rfl (by kernel_rfl) (fun _ _ _ h => h) (Or.inl ⟨by rfl, ?_⟩) hHeld ?_ ?_
          rotate_left
          · rintro w' ⟨s0, s1, s2, s3, s4, s5, s6⟩
            go_simp
            with_reducible rfl
          rotate_left
          · simp only [Act.put, List.setIfInBounds_toArray, List.set_cons_zero, List.set_cons_succ, i64_w, i32_w]
            rfl
          refine one_ (i := 8) (N := some 58) #[true, true, true, true, true, true, true, true, true, true, true, false, false, false, false, false, false, false, false, false, false, false, false, false] rfl rfl (by kernel_rfl) (by decide) (fun K hK => ?_)
          refine goes_ Tryd.func34 (by kernel_rfl) rfl #[.agg #[.string t.f0, .int .i64 t.f1, .slice A t.f2.length c, .slice A' t.f3.length c'], .string nm] (by rfl) rfl rfl (by first | rfl | (simp only [List.map_toArray, List.map_cons, List.map_nil]; rfl)) ?_
          refine (place_calls t A c A' c' nm _ HR10.out).mono ?_
          rintro e w11 ⟨rfl, hb11⟩
          have HK11 := Aside0.mk (blk_below HK10.out hb11)
          have HL11 := Aside0.mk (blk_below HL10.out hb11)
          have HR11 := Aside0.mk (Kd.C_below HR10.out hb11)
          have HX11 := Aside0.mk (Kd.C_below HX10.out hb11)
          have HS11 := Aside0.mk (Kd.C_below HS10.out hb11)
          have HG11 := Aside0.mk (Kd.C_below HG10.out hb11)
          have HT11 := Aside0.mk (HT10.out.below hb11)
          have HB11 := Aside0.mk (below_step HB10.out hb11)
          refine ⟨_, rfl, ?_⟩
          refine hK.out _ _ ⟨blk_cell HK11.out 0, blk_cell HK11.out 1, blk_cell HK11.out 2, blk_cell HK11.out 3, blk_cell HL11.out 0, blk_cell HL11.out 1, blk_cell HL11.out 2⟩ (fun hHeld => ?_)
          clear hK K
          refine norm_ (a' := ?_) ?_ ?_
          rotate_left
          · show Act.put _ (some 58) _ = _
            simp only [Act.put, List.setIfInBounds_toArray, List.set_cons_zero, List.set_cons_succ, i64_w, i32_w]
            rfl
          refine one_ (i := 11) (N := some 61) #[true, true, true, true, true, true, true, true, true, true, true, true, false, false, false, false, false, false, false, false, false, false, false, false] rfl rfl (by kernel_rfl) (by decide) (fun K hK => ?_)
          refine goes_ Tryd.func35 (by kernel_rfl) rfl #[.agg #[.string t.f0, .int .i64 t.f1, .slice A t.f2.length c, .slice A' t.f3.length c'], .string nm] (by rfl) rfl rfl (by first | rfl | (simp only [List.map_toArray, List.map_cons, List.map_nil]; rfl)) ?_
          refine (mortmainref09_Place.calls kP t.f0 t.f1 A c t.f2 A' c' t.f3 nm _ _ HR11.out HC.out HX11.out HC'.out hP.out).mono ?_
          rintro e w12 ⟨rfl, hb12⟩
          have HK12 := Aside0.mk (blk_below HK11.out hb12)
          have HL12 := Aside0.mk (blk_below HL11.out hb12)
          have HR12 := Aside0.mk (Kd.C_below HR11.out hb12)
          have HX12 := Aside0.mk (Kd.C_below HX11.out hb12)
          have HS12 := Aside0.mk (Kd.C_below HS11.out hb12)
          have HG12 := Aside0.mk (Kd.C_below HG11.out hb12)
          have HT12 := Aside0.mk (HT11.out.below hb12)
          have HB12 := Aside0.mk (below_step HB11.out hb12)
          refine ⟨_, rfl, ?_⟩
          refine hK.out _ _ ⟨blk_cell HK12.out 0, blk_cell HK12.out 1, blk_cell HK12.out 2, blk_cell HK12.out 3, blk_cell HL12.out 0, blk_cell HL12.out 1, blk_cell HL12.out 2⟩ (fun hHeld => ?_)
          clear hK K
          refine norm_ (a' := ?_) ?_ ?_
          rotate_left
          · show Act.put _ (some 61) _ = _
            simp only [Act.put, List.setIfInBounds_toArray, List.set_cons_zero, List.set_cons_succ, i64_w, i32_w]
            rfl
          refine pure_ (i := 12) (N := some 62) (v := ?_) (a' := ?_) #[true, true, true, true, true, true, true, true, true, true, true, true, true, false, false, false, false, false, false, false, false, false, false, false] rfl rfl (by kernel_rfl) (fun _ _ _ h => h) (Or.inl ⟨by rfl, ?_⟩) ?_ ?_
          rotate_left
          · intro w'
            go_simp
            with_reducible rfl
          rotate_left
          · simp only [Act.put, List.setIfInBounds_toArray, List.set_cons_zero, List.set_cons_succ, i64_w, i32_w]
            rfl
          refine pure_ (i := 13) (N := some 63) (v := ?_) (a' := ?_) #[true, true, true, true, true, true, true, true, true, true, true, true, true, true, false, false, false, false, false, false, false, false, false, false] rfl rfl (by kernel_rfl) (fun _ _ _ h => h) (Or.inl ⟨by rfl, ?_⟩) ?_ ?_
          rotate_left
          · intro w'
            go_simp
            with_reducible rfl
          rotate_left
          · simp only [Act.put, List.setIfInBounds_toArray, List.set_cons_zero, List.set_cons_succ, i64_w, i32_w]
            rfl
          refine pure_ (i := 14) (N := some 64) (v := ?_) (a' := ?_) #[true, true, true, true, true, true, true, true, true, true, true, true, true, true, true, false, false, false, false, false, false, false, false, false] rfl rfl (by kernel_rfl) (fun _ _ _ h => h) (Or.inl ⟨by rfl, ?_⟩) ?_ ?_
          rotate_left
          · intro w'
            go_simp
            with_reducible rfl
          rotate_left
          · simp only [Act.put, List.setIfInBounds_toArray, List.set_cons_zero, List.set_cons_succ, i64_w, i32_w]
            rfl
          refine take_ (i := 15) (N := some 65) (v := ?_) (a' := ?_) #[true, true, true, true, true, true, true, true, true, true, true, true, true, true, true, true, false, false, false, false, false, false, false, false] rfl rfl (by kernel_rfl) (fun _ _ _ h => h) (Or.inl ⟨by rfl, ?_⟩) hHeld ?_ ?_
          rotate_left
          · rintro w' ⟨s0, s1, s2, s3, s4, s5, s6⟩
            go_simp
            with_reducible rfl
          rotate_left
          · simp only [Act.put, List.setIfInBounds_toArray, List.set_cons_zero, List.set_cons_succ, i64_w, i32_w]
            rfl
          refine take_ (i := 16) (N := some 66) (v := ?_) (a' := ?_) #[true, true, true, true, true, true, true, true, true, true, true, true, true, true, true, true, true, false, false, false, false, false, false, false] rfl rfl (by kernel_rfl) (fun _ _ _ h => h) (Or.inl ⟨by rfl, ?_⟩) hHeld ?_ ?_
          rotate_left
          · rintro w' ⟨s0, s1, s2, s3, s4, s5, s6⟩
            go_simp
            with_reducible rfl
          rotate_left
          · simp only [Act.put, List.setIfInBounds_toArray, List.set_cons_zero, List.set_cons_succ, i64_w, i32_w]
            rfl
          refine take_ (i := 18) (N := some 68) (v := ?_) (a' := ?_) #[true, true, true, true, true, true, true, true, true, true, true, true, true, true, true, true, true, false, true, false, false, false, false, false] rfl rfl (by kernel_rfl) (fun _ _ _ h => h) (Or.inl ⟨by rfl, ?_⟩) hHeld ?_ ?_
          rotate_left
          · rintro w' ⟨s0, s1, s2, s3, s4, s5, s6⟩
            go_simp
            with_reducible rfl
          rotate_left
          · simp only [Act.put, List.setIfInBounds_toArray, List.set_cons_zero, List.set_cons_succ, i64_w, i32_w]
            rfl
          refine take_ (i := 19) (N := some 69) (v := ?_) (a' := ?_) #[true, true, true, true, true, true, true, true, true, true, true, true, true, true, true, true, true, false, true, true, false, false, false, false] rfl rfl (by kernel_rfl) (fun _ _ _ h => h) (Or.inl ⟨by rfl, ?_⟩) hHeld ?_ ?_
          rotate_left
          · rintro w' ⟨s0, s1, s2, s3, s4, s5, s6⟩
            go_simp
            with_reducible rfl
          rotate_left
          · simp only [Act.put, List.setIfInBounds_toArray, List.set_cons_zero, List.set_cons_succ, i64_w, i32_w]
            rfl
          refine one_ (i := 17) (N := some 67) #[true, true, true, true, true, true, true, true, true, true, true, true, true, true, true, true, true, true, true, true, false, false, false, false] rfl rfl (by kernel_rfl) (by decide) (fun K hK => ?_)
          refine goes_ Tryd.func36 (by kernel_rfl) rfl #[.agg #[.string t.f0, .int .i64 t.f1, .slice A t.f2.length c, .slice A' t.f3.length c'], .agg #[.int .i64 v, .slice (some adT) ts.length d, .slice B' gs.length d']] (by rfl) rfl rfl (by first | rfl | (simp only [List.map_toArray, List.map_cons, List.map_nil]; rfl)) ?_
          refine (good36_calls t A c A' c' v ts (some adT) d B' gs.length d' _ HR12.out HX12.out HCN.out HS12.out HT12.out hs0 HOK.out).mono ?_
          rintro e w13 ⟨rfl, hb13⟩
          have HK13 := Aside0.mk (blk_below HK12.out hb13)
          have HL13 := Aside0.mk (blk_below HL12.out hb13)
          have HR13 := Aside0.mk (Kd.C_below HR12.out hb13)
          have HX13 := Aside0.mk (Kd.C_below HX12.out hb13)
          have HS13 := Aside0.mk (Kd.C_below HS12.out hb13)
          have HG13 := Aside0.mk (Kd.C_below HG12.out hb13)
          have HT13 := Aside0.mk (HT12.out.below hb13)
          have HB13 := Aside0.mk (below_step HB12.out hb13)
          refine ⟨_, rfl, ?_⟩
          refine hK.out _ _ ⟨blk_cell HK13.out 0, blk_cell HK13.out 1, blk_cell HK13.out 2, blk_cell HK13.out 3, blk_cell HL13.out 0, blk_cell HL13.out 1, blk_cell HL13.out 2⟩ (fun hHeld => ?_)
          clear hK K
          refine norm_ (a' := ?_) ?_ ?_
          rotate_left
          · show Act.put _ (some 67) _ = _
            simp only [Act.put, List.setIfInBounds_toArray, List.set_cons_zero, List.set_cons_succ, i64_w, i32_w]
            rfl
          refine one_ (i := 20) (N := some 70) #[true, true, true, true, true, true, true, true, true, true, true, true, true, true, true, true, true, true, true, true, true, false, false, false] rfl rfl (by kernel_rfl) (by decide) (fun K hK => ?_)
          refine goes_ Tryd.func37 (by kernel_rfl) rfl #[.agg #[.string t.f0, .int .i64 t.f1, .slice A t.f2.length c, .slice A' t.f3.length c'], .agg #[.int .i64 v, .slice (some adT) ts.length d, .slice B' gs.length d']] (by rfl) rfl rfl (by first | rfl | (simp only [List.map_toArray, List.map_cons, List.map_nil]; rfl)) ?_
          refine (goodR_calls t A c A' c' v ts (some adT) d gs B' d' _ HR13.out HC.out HX13.out HC'.out HCN.out HS13.out HD.out HG13.out HD'.out hs0 HOK.out).mono ?_
          rintro e w14 ⟨rfl, hb14⟩
          have HK14 := Aside0.mk (blk_below HK13.out hb14)
          have HL14 := Aside0.mk (blk_below HL13.out hb14)
          have HR14 := Aside0.mk (Kd.C_below HR13.out hb14)
          have HX14 := Aside0.mk (Kd.C_below HX13.out hb14)
          have HS14 := Aside0.mk (Kd.C_below HS13.out hb14)
          have HG14 := Aside0.mk (Kd.C_below HG13.out hb14)
          have HT14 := Aside0.mk (HT13.out.below hb14)
          have HB14 := Aside0.mk (below_step HB13.out hb14)
          refine ⟨_, rfl, ?_⟩
          refine hK.out _ _ ⟨blk_cell HK14.out 0, blk_cell HK14.out 1, blk_cell HK14.out 2, blk_cell HK14.out 3, blk_cell HL14.out 0, blk_cell HL14.out 1, blk_cell HL14.out 2⟩ (fun hHeld => ?_)
          clear hK K
          refine norm_ (a' := ?_) ?_ ?_
          rotate_left
          · show Act.put _ (some 70) _ = _
            simp only [Act.put, List.setIfInBounds_toArray, List.set_cons_zero, List.set_cons_succ, i64_w, i32_w]
            rfl
          refine pure_ (i := 21) (N := some 71) (v := ?_) (a' := ?_) #[true, true, true, true, true, true, true, true, true, true, true, true, true, true, true, true, true, true, true, true, true, true, false, false] rfl rfl (by kernel_rfl) (fun _ _ _ h => h) (Or.inl ⟨by rfl, ?_⟩) ?_ ?_
          rotate_left
          · intro w'
            go_simp
            with_reducible rfl
          rotate_left
          · simp only [Act.put, List.setIfInBounds_toArray, List.set_cons_zero, List.set_cons_succ, i64_w, i32_w]
            rfl
          refine pure_ (i := 22) (N := some 72) (v := ?_) (a' := ?_) #[true, true, true, true, true, true, true, true, true, true, true, true, true, true, true, true, true, true, true, true, true, true, true, false] rfl rfl (by kernel_rfl) (fun _ _ _ h => h) (Or.inl ⟨by rfl, ?_⟩) ?_ ?_
          rotate_left
          · intro w'
            go_simp
            with_reducible rfl
          rotate_left
          · simp only [Act.put, List.setIfInBounds_toArray, List.set_cons_zero, List.set_cons_succ, i64_w, i32_w]
            rfl
          refine pure_ (i := 23) (N := some 6) (v := ?_) (a' := ?_) #[true, true, true, true, true, true, true, true, true, true, true, true, true, true, true, true, true, true, true, true, true, true, true, true] rfl rfl (by kernel_rfl) (fun _ _ _ h => h) (Or.inl ⟨by rfl, ?_⟩) ?_ ?_
          rotate_left
          · intro w'
            go_simp
            with_reducible rfl
          rotate_left
          · simp only [Act.put, List.setIfInBounds_toArray, List.set_cons_zero, List.set_cons_succ, i64_w, i32_w]
            rfl
          refine done_ (by kernel_rfl) ?_
          go_wp2
          go_ret
          exact ⟨by simp, HB14.out⟩
end Go.Proofs.YtefdfgmlmjnmlaaDoor.My
end

section
set_option linter.unusedVariables false
namespace Go.Proofs.YtefdfgmlmjnmlaaDoor.My
open Go.ChangeShapes Go.WideShapes Go.ChangeAt Go.RowKit
open Go.ChangeMaps (open_string shut_string)
open Go.Proofs.YtefdfgmlmjnmlaaDoorW.PrintWords Go.Proofs.YtefdfgmlmjnmlaaDoor.Rf
open Go.Proofs.YtefdfgmlmjnmlaaDoor
set_option maxRecDepth 100000 in
theorem schemaTables_contract (H : Type) (enc : TypeId × Value → H) (W : World) (base : Nat) (args : Array Value) (ds gs : List (DataW H)) (before : List MemPlace)
    (hval0 : ∀ (j : Nat) t v, Tryd.f5.params[j]? = some t → args[j]? = some v → Value.okWide Tryd.prog W .any base t v)
    (hW : DataW.Whole enc Tryd.prog Tryd.f5.params.toList Rows.schemaTablesSpec.vars false W args.toList ds gs before) (hk : Rows.uptoSmall H (ds ++ gs) = true) (hL : laidMetH Tryd.prog tabs W) :
    Calls Tryd.prog 5 args W fun e W' => ∃ v, e = .returned v ∧ Rows.schemaTablesSpec.post enc Tryd.prog Tryd.f5 false true false false W args v W' := by
  have hval : ∀ (j : Nat) t v, Tryd.f5.params[j]? = some t → args[j]? = some v → Value.okWide Tryd.prog W .any base t v := hval0
  have hW' := hW
  obtain ⟨p, q, hA0, hV, rfl, _, _⟩ := hW
  have hA : DataW.TrodAll enc Tryd.prog W 0 (fun _ => true) true Tryd.f5.params.toList args.toList ds p := hA0
  rw [Tryd.params5] at hA hval
  obtain ⟨v0, vs0, d0, ds0, p0, q0, hargs, rfl, rfl, h0, r0⟩ := trodAll_cons hA
  obtain ⟨v1, vs1, d1, ds1, p1, q1, rfl, rfl, rfl, h1, r1⟩ := trodAll_cons r0
  obtain ⟨v2, vs2, d2, ds2, p2, q2, rfl, rfl, rfl, h2, r2⟩ := trodAll_cons r1
  obtain ⟨rfl, rfl, rfl⟩ := trodAll_nil r2
  obtain rfl : args = #[v0, v1, v2] := by cases args; simp_all
  obtain ⟨rfl, rfl⟩ := trodVars_none hV
  have k0 := h0
  have lt0 : ∀ x ∈ p0, x.block < W.heap.size := by obtain ⟨m, hm⟩ := k0; exact DataW.trod_lt m _ _ _ hm
  obtain ⟨cs0, rfl, _⟩ := okWide_struct Tryd.underlying45 (hval 0 45 v0 rfl rfl)
  obtain ⟨fu0, hf0⟩ := h0
  obtain ⟨t0, A0, c0, B0, d0, e0, lc0, hC0, ld0, hD0, nE0, z0, y0, ok0⟩ := open45V hf0
  have e0 : cs0 = #[.string t0.f0, .int .i64 t0.f1, .slice A0 t0.f2.length c0, .slice B0 t0.f3.length d0] := Array.toList_inj.1 e0
  subst e0
  have k1 := h1
  have lt1 : ∀ x ∈ p1, x.block < W.heap.size := by obtain ⟨m, hm⟩ := k1; exact DataW.trod_lt m _ _ _ hm
  obtain ⟨cs1, rfl, _⟩ := okWide_struct Tryd.underlying25 (hval 1 25 v1 rfl rfl)
  obtain ⟨fu1, hf1⟩ := h1
  obtain ⟨s1, A1, c1, l1, B1, d1, m1, e1, lc1, hC1, nC1, ld1, hD1⟩ := open25U hf1
  have e1 : cs1 = #[.int .i64 s1, .slice A1 l1.length c1, .slice B1 m1.length d1] := Array.toList_inj.1 e1
  subst e1
  obtain ⟨a2, rfl, rfl, rfl, w2⟩ := open_string Tryd.underlying9 (hval 2 9 v2 rfl rfl) h2
  have hT := tabs_of hL
  have hk := of_decide_eq_true hk
  clear hA0 hval0
  have hOk : ∀ t, t ∈ l1 → OkT t := fun t ht => by
    obtain ⟨c, hc⟩ := C_each hC1 ht
    exact okT_of hc
  have hcn : ∀ x, x ∈ t0.f3 → cntE x < 4611686018427387904 := fun x hx => by
    have h := nE0 x hx
    dsimp only at h
    simp only [Rows.uptoBulkAll, List.cons_append, List.nil_append] at hk
    omega
  refine (tables_law t0 A0 c0 B0 d0 s1 l1 A1 c1 m1 B1 d1 a2 W hC0 lc0 hD0 ld0 hcn hC1 lc1 hD1 ld1 hT z0 y0 w2 ok0 hOk).mono fun e W' ⟨he, bel⟩ => ?_
  subst he
  exact ⟨_, rfl, _, _, _, [], _, [], hW', trodAll_mk1 (shut_bool Tryd.underlying4 _), (trodAll_cons_mk (Below.trod laidOut (by kernel_rfl) (of_decide_eq_true (by kernel_rfl)) k0 bel lt0) (trodAll_cons_mk (Below.trod laidOut (by kernel_rfl) (of_decide_eq_true (by kernel_rfl)) k1 bel lt1) (trodAll_cons_mk (shut_string Tryd.underlying9 w2) trodAll_mk0))), rfl, bel.frame _, fun h => by cases h⟩
theorem schemaTables_reads (os : Os) {H : Type} (enc : TypeId × Value → H) : ∃ places, DataW.whole enc Tryd.prog ((World.laidAll Tryd.prog os tabs).forCall (fun _ _ => 0) ⟨#[], #[.agg #[.string ByteArray.empty, .int .i64 0, .slice none 0 0, .slice none 0 0], .agg #[.int .i64 0, .slice none 0 0, .slice none 0 0], .string ByteArray.empty], []⟩).memory Tryd.f5.params.toList Rows.schemaTablesSpec.vars false (#[.agg #[.string ByteArray.empty, .int .i64 0, .slice none 0 0, .slice none 0 0], .agg #[.int .i64 0, .slice none 0 0, .slice none 0 0], .string ByteArray.empty] : Array Value).toList 8 = some ([.agg [.lit (.string []), .lit (.int .i64 0), .nil, .nil], .agg [.lit (.int .i64 0), .nil, .nil], .lit (.string [])], [], places) :=
  ⟨[], by kernel_rfl⟩
theorem schemaTables_met (os : Os) : laidMetH Tryd.prog tabs ((World.laidAll Tryd.prog os tabs).forCall (fun _ _ => 0) ⟨#[], #[.agg #[.string ByteArray.empty, .int .i64 0, .slice none 0 0, .slice none 0 0], .agg #[.int .i64 0, .slice none 0 0, .slice none 0 0], .string ByteArray.empty], []⟩).memory := by
  rw [MakeChecks.laidMetH_plain _ _ _ (by kernel_rfl)]
  exact laidMet_laidAll _ (by kernel_rfl) (by kernel_rfl)
set_option maxRecDepth 100000 in
theorem schemaTables_lifted (os : Os) (started : os.Started) (H : Type) (enc : TypeId × Value → H) (F : Stop.Interp) :
    ReturnsInHanded {} Tryd.checked os 5 .any ((Rows.OpenSpec.upto Rows.schemaTablesSpec).preRow enc Tryd.prog Tryd.f5 Rows.schemaTablesUptoRow.domain false Rows.schemaTablesUptoRow.laid) (((Rows.OpenSpec.upto Rows.schemaTablesSpec).at F).post enc Tryd.prog Tryd.f5 false true false false) := by
  obtain ⟨places, hx⟩ := schemaTables_reads os enc
  refine returnsInHanded_of_row (C := Tryd.checked) (s := Rows.OpenSpec.upto Rows.schemaTablesSpec) own started (by kernel_rfl) Tryd.func5
    (witness_row_at (enc := enc) (C := Tryd.checked) false (World.laidAll Tryd.prog os tabs) #[.agg #[.string ByteArray.empty, .int .i64 0, .slice none 0 0, .slice none 0 0], .agg #[.int .i64 0, .slice none 0 0, .slice none 0 0], .string ByteArray.empty] (World.laidAll_os _ _ _) (by kernel_rfl) (by kernel_rfl) (by kernel_rfl)
      (OpenSpec.preRow_of_cond 8 hx (by kernel_rfl) (fun k hk => by cases hk; kernel_rfl) (by kernel_rfl) (schemaTables_met os))) ?_
  intro W base args ds gs before hval hW _ hcond _ hL _ _
  exact schemaTables_contract H enc W base args ds gs before hval hW (hcond _ rfl) hL
theorem schemaTables_holds : Rows.SchemaTablesUptoSaid :=
  OpenClaim.holds_of_cond 5 Tryd.f5 rfl rfl rfl rfl rfl rfl rfl ⟨rfl, rfl, rfl, rfl, rfl⟩ rfl rfl rfl rfl rfl (by kernel_rfl) Tryd.func5 (by kernel_rfl)
    (of_decide_eq_true (by kernel_rfl)) (by unfold Func.isWrapper; first | (rw [if_pos (by decide +kernel)]; kernel_rfl) | (rw [if_neg (by decide +kernel)]; exact ⟨rfl, rfl⟩))
    (fun os started H enc _ F => by rw [OpenClaim.pre_eq_preRow]; exact schemaTables_lifted os started H enc F)
theorem schemaTables_card : Rows.SchemaTablesUptoCardSaid :=
  Claim7.holds_tied_plain_at .later [] [.data, .pinned] true (true, "ad361f8c9010d8bc8c83665426ff667c1a83a32d80b366ff0bd14d2eb2135fde") true schemaTables_holds (fun _ h => by cases h) (by kernel_rfl) (fun _ h => by cases h) schemaTablesUpto_row_tie rfl ⟨rfl, rfl⟩ (by kernel_rfl) rfl
    (fun f fn hf hfn => by
      obtain rfl : f = 5 := Option.some.inj ((show Tryd.prog.funcNamed "mortmain/mortmainlaw09.SchemaTables" = some 5 by kernel_rfl).symm.trans hf) |>.symm
      obtain rfl : fn = Tryd.f5 := (Option.some.inj (Tryd.func5.symm.trans hfn)).symm
      exact ⟨by kernel_rfl, fun j t ht => by
        rw [Tryd.params5] at ht
        have hm : t ∈ [45, 25, 9] := by simpa using Array.mem_of_getElem? ht
        have hall : ([45, 25, 9].all fun u => !Tryd.prog.wantsStandIn u) = true := by kernel_rfl
        exact (show Tryd.prog.wantsStandIn t = false by simpa using List.all_eq_true.1 hall t hm)⟩)
    (by kernel_rfl)
#print axioms schemaTables_card
end Go.Proofs.YtefdfgmlmjnmlaaDoor.My
end
