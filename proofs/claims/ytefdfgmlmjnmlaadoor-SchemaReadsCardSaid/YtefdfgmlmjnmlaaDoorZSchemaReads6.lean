/- Lemmas for the law SchemaReads: what the functions that it reaches compute, with those words of the kit's print that they use. No condition. Joined out of this session's smaller texts (part 6 of 7). -/
import Derived.Test.YtefdfgmlmjnmlaaDoorZSchemaReads2
import Derived.Test.YtefdfgmlmjnmlaaDoorZSchemaReads5
import Derived.Test.YtefdfgmlmjnmlaaDoorZSchemaReads4
section
set_option linter.unusedVariables false
set_option linter.unusedSimpArgs false
namespace Go.Proofs.YtefdfgmlmjnmlaaDoor.Rf
open Go.RowKit Go.Proofs.YtefdfgmlmjnmlaaDoorW.PrintWords Go.Proofs.YtefdfgmlmjnmlaaDoorW.PrintLast Go.Proofs.YtefdfgmlmjnmlaaDoorW.PrintMore
attribute [local go_sem high] eqA59
mutual
def mortmainref09_SameTable.j0 : Nat → Bool → ByteArray → Int → List (S59) → List (S72) → ByteArray → Int → List (S59) → List (S72) → Option (Bool)
 | 0, _, _, _, _, _, _, _, _, _ => none
 | k + 1, x36, x210000, x210001, x210002, x210003, x211000, x211001, x211002, x211003 => if x36 = true then (some false) else (mortmainref09_SameTable.l0 k (x210002.length : Int) 0 x210000 x210001 x210002 x210003 x211000 x211001 x211002 x211003)
def mortmainref09_SameTable.l0 : Nat → Int → Int → ByteArray → Int → List (S59) → List (S72) → ByteArray → Int → List (S59) → List (S72) → Option (Bool)
 | 0, _, _, _, _, _, _, _, _, _, _ => none
 | k + 1, x39, x40, x210000, x210001, x210002, x210003, x211000, x211001, x211002, x211003 => if x40 < x39 then (if 0 ≤ x40 then (if x40 < (x210002.length : Int) then (if x40 < (x211002.length : Int) then (if (!((((rd_T59 x210002 x40).f0).toList) == (((rd_T59 x211002 x40).f0).toList)) || (!(((rd_T59 x210002 x40).f1) == ((rd_T59 x211002 x40).f1)) || (!(((rd_T59 x210002 x40).f2) == ((rd_T59 x211002 x40).f2)) || (!(((rd_T59 x210002 x40).f3) == ((rd_T59 x211002 x40).f3)) || (!((((rd_T59 x210002 x40).f4).toList) == (((rd_T59 x211002 x40).f4).toList)) || (!(((rd_T59 x210002 x40).f5) == ((rd_T59 x211002 x40).f5)))))))) = true then (some false) else (mortmainref09_SameTable.l0 k x39 (wrap64 (x40 + 1)) x210000 x210001 x210002 x210003 x211000 x211001 x211002 x211003)) else (none)) else (none)) else (none)) else (mortmainref09_SameTable.l1 k (x210003.length : Int) 0 x210000 x210001 x210002 x210003 x211000 x211001 x211002 x211003)
def mortmainref09_SameTable.l1 : Nat → Int → Int → ByteArray → Int → List (S59) → List (S72) → ByteArray → Int → List (S59) → List (S72) → Option (Bool)
 | 0, _, _, _, _, _, _, _, _, _, _ => none
 | k + 1, x57, x58, x210000, x210001, x210002, x210003, x211000, x211001, x211002, x211003 => if x58 < x57 then (if 0 ≤ x58 then (if x58 < (x210003.length : Int) then (if x58 < (x211003.length : Int) then ((mortmainref09_sameExpr.f k ((rd_T72 x210003 x58).f0) ((rd_T72 x210003 x58).f1) ((rd_T72 x210003 x58).f2.f0) ((rd_T72 x210003 x58).f2.f1) ((rd_T72 x210003 x58).f2.f2) ((rd_T72 x210003 x58).f3) ((rd_T72 x211003 x58).f0) ((rd_T72 x211003 x58).f1) ((rd_T72 x211003 x58).f2.f0) ((rd_T72 x211003 x58).f2.f1) ((rd_T72 x211003 x58).f2.f2) ((rd_T72 x211003 x58).f3)).bind fun t215 => (if t215 = true then (mortmainref09_SameTable.l1 k x57 (wrap64 (x58 + 1)) x210000 x210001 x210002 x210003 x211000 x211001 x211002 x211003) else (some false))) else (none)) else (none)) else (none)) else (some true)
end
def mortmainref09_SameTable.f (k : Nat) (a0_0 : ByteArray) (a0_1 : Int) (l0_2 : List (S59)) (l0_3 : List (S72)) (a1_0 : ByteArray) (a1_1 : Int) (l1_2 : List (S59)) (l1_3 : List (S72)) : Option (Bool) := if a0_0.toList = a1_0.toList then (if a0_1 = a1_1 then (if (l0_2.length : Int) = (l1_2.length : Int) then (mortmainref09_SameTable.j0 k ((l0_3.length : Int) != (l1_3.length : Int)) a0_0 a0_1 l0_2 l0_3 a1_0 a1_1 l1_2 l1_3) else (mortmainref09_SameTable.j0 k true a0_0 a0_1 l0_2 l0_3 a1_0 a1_1 l1_2 l1_3)) else (mortmainref09_SameTable.j0 k true a0_0 a0_1 l0_2 l0_3 a1_0 a1_1 l1_2 l1_3)) else (mortmainref09_SameTable.j0 k true a0_0 a0_1 l0_2 l0_3 a1_0 a1_1 l1_2 l1_3)
def mortmainref09_SameTable.T6 : Bool × List (List Nat × List Nat) := (true, [([], []), ([0], [0]), ([], []), ([1, 2], [1, 2]), ([3], [3]), ([], []), ([5], [5]), ([], []), ([6, 7], [6, 7]), ([8], [8]), ([4, 9], [4, 9])])
def mortmainref09_SameTable.B6 : List Nat := [0, 1, 0, 7, 15, 0, 32, 0, 224, 480, 1023]
theorem mortmainref09_SameTable.tab6 : rtab .any (opsOf Tryd.f31 6) = mortmainref09_SameTable.T6 := by kernel_rfl
theorem mortmainref09_SameTable.bits6 : waitsOk mortmainref09_SameTable.T6.2 mortmainref09_SameTable.B6 = true := by kernel_rfl
def mortmainref09_SameTable.T12 : Bool × List (List Nat × List Nat) := (true, [([], []), ([0], [0]), ([], []), ([1, 2], [1, 2]), ([3], [3]), ([], []), ([5], [5]), ([], []), ([6, 7], [6, 7]), ([8], [8]), ([4, 9], [4, 9]), ([10], [10])])
def mortmainref09_SameTable.B12 : List Nat := [0, 1, 0, 7, 15, 0, 32, 0, 224, 480, 1023, 2047]
theorem mortmainref09_SameTable.tab12 : rtab .any (opsOf Tryd.f31 12) = mortmainref09_SameTable.T12 := by kernel_rfl
theorem mortmainref09_SameTable.bits12 : waitsOk mortmainref09_SameTable.T12.2 mortmainref09_SameTable.B12 = true := by kernel_rfl
set_option maxHeartbeats 8000000 in
set_option maxRecDepth 100000 in
theorem mortmainref09_SameTable.calls (k : Nat) (a0_0 : ByteArray) (a0_1 : Int) (A0_2 : Option Addr) (c0_2 : Nat) (l0_2 : List (S59)) (A0_3 : Option Addr) (c0_3 : Nat) (l0_3 : List (S72)) (a1_0 : ByteArray) (a1_1 : Int) (A1_2 : Option Addr) (c1_2 : Nat) (l1_2 : List (S59)) (A1_3 : Option Addr) (c1_3 : Nat) (l1_3 : List (S72)) (r : Bool) (w : World) (hr0_2 : Kd.C k59 w A0_2 l0_2.length l0_2) (hc0_2 : l0_2.length ≤ c0_2) (hr0_3 : Kd.C k72 w A0_3 l0_3.length l0_3) (hc0_3 : l0_3.length ≤ c0_3) (hr1_2 : Kd.C k59 w A1_2 l1_2.length l1_2) (hc1_2 : l1_2.length ≤ c1_2) (hr1_3 : Kd.C k72 w A1_3 l1_3.length l1_3) (hc1_3 : l1_3.length ≤ c1_3) (h : mortmainref09_SameTable.f k a0_0 a0_1 l0_2 l0_3 a1_0 a1_1 l1_2 l1_3 = some r) :
  Calls Tryd.prog 31 #[.agg #[.string a0_0, .int .i64 a0_1, .slice A0_2 l0_2.length c0_2, .slice A0_3 l0_3.length c0_3], .agg #[.string a1_0, .int .i64 a1_1, .slice A1_2 l1_2.length c1_2, .slice A1_3 l1_3.length c1_3]] w fun e w' => e = .returned (.bool r) ∧ Below w.heap.size w w' := by
 have hu45 := Tryd.underlying45
 have hu59 := Tryd.underlying59
 have hu72 := Tryd.underlying72
 have HR0_2 := Aside0.mk hr0_2
 have HC0_2 := Aside0.mk hc0_2
 clear hr0_2 hc0_2
 have HR0_3 := Aside0.mk hr0_3
 have HC0_3 := Aside0.mk hc0_3
 clear hr0_3 hc0_3
 have HR1_2 := Aside0.mk hr1_2
 have HC1_2 := Aside0.mk hc1_2
 clear hr1_2 hc1_2
 have HR1_3 := Aside0.mk hr1_3
 have HC1_3 := Aside0.mk hc1_3
 clear hr1_3 hc1_3
 have HB := Aside0.mk (Below.refl w.heap.size w)
 have H : (if a0_0.toList = a1_0.toList then (if a0_1 = a1_1 then (if (l0_2.length : Int) = (l1_2.length : Int) then (mortmainref09_SameTable.j0 k ((l0_3.length : Int) != (l1_3.length : Int)) a0_0 a0_1 l0_2 l0_3 a1_0 a1_1 l1_2 l1_3) else (mortmainref09_SameTable.j0 k true a0_0 a0_1 l0_2 l0_3 a1_0 a1_1 l1_2 l1_3)) else (mortmainref09_SameTable.j0 k true a0_0 a0_1 l0_2 l0_3 a1_0 a1_1 l1_2 l1_3)) else (mortmainref09_SameTable.j0 k true a0_0 a0_1 l0_2 l0_3 a1_0 a1_1 l1_2 l1_3)) = some r := h
 clear h
 have HC3 := Aside0.mk H
 clear H
 go_enter Tryd.func31, Tryd.ntmps31
 go_upto_region 1 with (first | ((with_reducible refine gate_dst (N := 2) rfl ?_); (try (refine gate_guard (by rfl) ?_; dsimp only)); refine box_event ?hg (N := 2) ?hd (cs := #[.string a0_0, .int .i64 a0_1, .slice A0_2 l0_2.length c0_2, .slice A0_3 l0_3.length c0_3]) (t := 45) ?hr ?_; (case hd => rfl); (case hg => rfl); (case hr => first | (go_simp; done) | (go_simp; rfl)); intro gb209 hg w4 hbox hb; have n0_ := Aside0.mk (below_step (by repeat (first | (with_reducible first | exact HB.out | apply below_alloc | apply pw_below_drewN | apply below_drew1) | exact HB.out)) hb); have n1_ := Aside0.mk (hbox); have n2_ := Aside0.mk ((by rw [hg]; exact (below_size (by repeat (first | (with_reducible first | exact HB.out | apply below_alloc | apply pw_below_drewN | apply below_drew1) | exact HB.out))) : w.heap.size ≤ gb209)); have n3_ := Aside0.mk ((by rw [hg]; exact (below_size (by repeat (first | (with_reducible first | exact HB.out | apply below_alloc | apply pw_below_drewN | apply below_drew1) | exact HB.out))) : w.heap.size ≤ gb209)); clear HB; have HB := n0_; have BK209 := n1_; have GW209 := n2_; have GE209 := n3_; clear n0_ n1_ n2_ n3_; clear hb hbox hg) | ((with_reducible refine gate_dst (N := 3) rfl ?_); (try (refine gate_guard (by rfl) ?_; dsimp only)); refine box_event ?hg (N := 3) ?hd (cs := #[.string a1_0, .int .i64 a1_1, .slice A1_2 l1_2.length c1_2, .slice A1_3 l1_3.length c1_3]) (t := 45) ?hr ?_; (case hd => rfl); (case hg => rfl); (case hr => first | (go_simp; done) | (go_simp; rfl)); intro gb210 hg w5 hbox hb; have n0_ := Aside0.mk (blk_below (g := gb209) (o := .cells #[.string a0_0, .int .i64 a0_1, .slice A0_2 l0_2.length c0_2, .slice A0_3 l0_3.length c0_3] 45 (0, 0)) (by (with_reducible repeat (first | refine blk_drewN ?_ _ | refine blk_drew ?_ | refine blk_alloc ?_ _)); exact BK209.out) hb); have n1_ := Aside0.mk (below_step (by repeat (first | (with_reducible first | exact HB.out | apply below_alloc | apply pw_below_drewN | apply below_drew1 | refine below_set ?_ GE209.out) | exact HB.out)) hb); have n2_ := Aside0.mk (hbox); have n3_ := Aside0.mk ((by rw [hg]; exact (below_size (by repeat (first | (with_reducible first | exact HB.out | apply below_alloc | apply pw_below_drewN | apply below_drew1 | refine below_set ?_ GE209.out) | exact HB.out))) : w.heap.size ≤ gb210)); have n4_ := Aside0.mk ((by rw [hg]; exact (below_size (by repeat (first | (with_reducible first | exact HB.out | apply below_alloc | apply pw_below_drewN | apply below_drew1 | refine below_set ?_ GE209.out) | exact HB.out))) : w.heap.size ≤ gb210)); have n5_ := Aside0.mk ((by rw [hg]; exact Nat.ne_of_lt (blk_lt (g := gb209) (o := .cells #[.string a0_0, .int .i64 a0_1, .slice A0_2 l0_2.length c0_2, .slice A0_3 l0_3.length c0_3] 45 (0, 0)) (by (with_reducible repeat (first | refine blk_drewN ?_ _ | refine blk_drew ?_ | refine blk_alloc ?_ _)); exact BK209.out)) : gb209 ≠ gb210)); have n6_ := Aside0.mk ((by rw [hg]; exact Nat.ne_of_gt (blk_lt (g := gb209) (o := .cells #[.string a0_0, .int .i64 a0_1, .slice A0_2 l0_2.length c0_2, .slice A0_3 l0_3.length c0_3] 45 (0, 0)) (by (with_reducible repeat (first | refine blk_drewN ?_ _ | refine blk_drew ?_ | refine blk_alloc ?_ _)); exact BK209.out)) : gb210 ≠ gb209)); clear BK209; clear HB; have BK209 := n0_; have HB := n1_; have BK210 := n2_; have GW210 := n3_; have GE210 := n4_; have NB209_210 := n5_; have NB210_209 := n6_; clear n0_ n1_ n2_ n3_ n4_ n5_ n6_; clear hb hbox hg))
 (try simp only [Act.put, List.setIfInBounds_toArray, List.set_cons_zero, List.set_cons_succ])
 go_cut [36] (fun v36 wc => ∃ (kq : Nat) (x36_2 : Bool), v36 = .bool x36_2 ∧ Aside0 (mortmainref09_SameTable.j0 kq x36_2 a0_0 a0_1 l0_2 l0_3 a1_0 a1_1 l1_2 l1_3 = some r) ∧ Aside0 (kq ≤ k) ∧ Aside0 (wc.heap[gb209]? = some (.cells #[.string a0_0, .int .i64 a0_1, (.slice A0_2 l0_2.length c0_2), (.slice A0_3 l0_3.length c0_3)] 45 (0, 0))) ∧ Aside0 (wc.heap[gb210]? = some (.cells #[.string a1_0, .int .i64 a1_1, (.slice A1_2 l1_2.length c1_2), (.slice A1_3 l1_3.length c1_3)] 45 (0, 0))) ∧ Aside0 (Below w.heap.size w wc))
 case first =>
  have H := HC3.out
  clear HC3
  by_cases c6 : a0_0.toList = a1_0.toList
  ·rw [if_pos c6] at H
   have c6b0 : (a0_0.toList == a1_0.toList) = true := beq_iff_eq.mpr c6
   have c6b1 : (a0_0.toList != a1_0.toList) = false := bne_eq_false_iff_eq.mpr c6
   clear c6
   (first | rw [c6b0] | (simp only [i64_w, i32_w]; rw [c6b0]) | skip)
   by_cases c7 : a0_1 = a1_1
   ·rw [if_pos c7] at H
    have c7b0 : (a0_1 == a1_1) = true := beq_iff_eq.mpr c7
    have c7b1 : (a0_1 != a1_1) = false := bne_eq_false_iff_eq.mpr c7
    clear c7
    by_cases c8 : (l0_2.length : Int) = (l1_2.length : Int)
    ·rw [if_pos c8] at H
     have c8b0 : ((l0_2.length : Int) == (l1_2.length : Int)) = true := beq_iff_eq.mpr c8
     have c8b1 : ((l0_2.length : Int) != (l1_2.length : Int)) = false := bne_eq_false_iff_eq.mpr c8
     have c8b2 : (l0_2.length == l1_2.length) = true := by first | simpa using c8 | (simp at c8 ⊢; omega)
     clear c8
     have H' := Aside0.mk H
     clear H
     have hnb9 := NB209_210.out
     have hnc9 := NB210_209.out
     have hcz10_0 : w5.cell? ⟨gb209, 0, none⟩ = some (.string a0_0) := (blk_cell BK209.out 0).trans rfl
     have hcz10_1 : w5.cell? ⟨gb209, 1, none⟩ = some (.int .i64 a0_1) := (blk_cell BK209.out 1).trans rfl
     have hcz10_2 : w5.cell? ⟨gb209, 2, none⟩ = some (.slice A0_2 l0_2.length c0_2) := (blk_cell BK209.out 2).trans rfl
     have hcz10_3 : w5.cell? ⟨gb209, 3, none⟩ = some (.slice A0_3 l0_3.length c0_3) := (blk_cell BK209.out 3).trans rfl
     have hfz10_0 := blk_frozen BK209.out 0
     have hfz10_1 := blk_frozen BK209.out 1
     have hfz10_2 := blk_frozen BK209.out 2
     have hfz10_3 := blk_frozen BK209.out 3
     have hcz11_0 : w5.cell? ⟨gb210, 0, none⟩ = some (.string a1_0) := (blk_cell BK210.out 0).trans rfl
     have hcz11_1 : w5.cell? ⟨gb210, 1, none⟩ = some (.int .i64 a1_1) := (blk_cell BK210.out 1).trans rfl
     have hcz11_2 : w5.cell? ⟨gb210, 2, none⟩ = some (.slice A1_2 l1_2.length c1_2) := (blk_cell BK210.out 2).trans rfl
     have hcz11_3 : w5.cell? ⟨gb210, 3, none⟩ = some (.slice A1_3 l1_3.length c1_3) := (blk_cell BK210.out 3).trans rfl
     have hfz11_0 := blk_frozen BK210.out 0
     have hfz11_1 := blk_frozen BK210.out 1
     have hfz11_2 := blk_frozen BK210.out 2
     have hfz11_3 := blk_frozen BK210.out 3
     go_wp2
     go_meet
     case rel => exact ⟨_, (((l0_3.length : Int) != (l1_3.length : Int))), (by first | rfl | (simp; done) | (simp [*]; done)), H', ⟨by first | omega | exact Nat.le_refl _⟩, ⟨by (with_reducible repeat (first | refine blk_drewN ?_ _ | refine blk_drew ?_ | refine blk_alloc ?_ _)); exact BK209.out⟩, ⟨by (with_reducible repeat (first | refine blk_drewN ?_ _ | refine blk_drew ?_ | refine blk_alloc ?_ _)); exact BK210.out⟩, ⟨by repeat (first | (with_reducible first | exact HB.out | apply below_alloc | apply pw_below_drewN | apply below_drew1 | refine below_set ?_ GE209.out | refine below_set ?_ GE210.out) | exact HB.out)⟩⟩
    ·rw [if_neg c8] at H
     have c8b0 : ((l0_2.length : Int) == (l1_2.length : Int)) = false := beq_eq_false_iff_ne.mpr c8
     have c8b1 : ((l0_2.length : Int) != (l1_2.length : Int)) = true := bne_iff_ne.mpr c8
     have c8b2 : (l0_2.length == l1_2.length) = false := by first | simpa using c8 | (simp at c8 ⊢; omega)
     have H' := Aside0.mk H
     clear H
     have hnb12 := NB209_210.out
     have hnc12 := NB210_209.out
     have hcz13_0 : w5.cell? ⟨gb209, 0, none⟩ = some (.string a0_0) := (blk_cell BK209.out 0).trans rfl
     have hcz13_1 : w5.cell? ⟨gb209, 1, none⟩ = some (.int .i64 a0_1) := (blk_cell BK209.out 1).trans rfl
     have hcz13_2 : w5.cell? ⟨gb209, 2, none⟩ = some (.slice A0_2 l0_2.length c0_2) := (blk_cell BK209.out 2).trans rfl
     have hcz13_3 : w5.cell? ⟨gb209, 3, none⟩ = some (.slice A0_3 l0_3.length c0_3) := (blk_cell BK209.out 3).trans rfl
     have hfz13_0 := blk_frozen BK209.out 0
     have hfz13_1 := blk_frozen BK209.out 1
     have hfz13_2 := blk_frozen BK209.out 2
     have hfz13_3 := blk_frozen BK209.out 3
     have hcz14_0 : w5.cell? ⟨gb210, 0, none⟩ = some (.string a1_0) := (blk_cell BK210.out 0).trans rfl
     have hcz14_1 : w5.cell? ⟨gb210, 1, none⟩ = some (.int .i64 a1_1) := (blk_cell BK210.out 1).trans rfl
     have hcz14_2 : w5.cell? ⟨gb210, 2, none⟩ = some (.slice A1_2 l1_2.length c1_2) := (blk_cell BK210.out 2).trans rfl
     have hcz14_3 : w5.cell? ⟨gb210, 3, none⟩ = some (.slice A1_3 l1_3.length c1_3) := (blk_cell BK210.out 3).trans rfl
     have hfz14_0 := blk_frozen BK210.out 0
     have hfz14_1 := blk_frozen BK210.out 1
     have hfz14_2 := blk_frozen BK210.out 2
     have hfz14_3 := blk_frozen BK210.out 3
     go_wp2
     go_meet
     case rel => exact ⟨_, (true), (by first | rfl | (simp; done) | (simp [*]; done)), H', ⟨by first | omega | exact Nat.le_refl _⟩, ⟨by (with_reducible repeat (first | refine blk_drewN ?_ _ | refine blk_drew ?_ | refine blk_alloc ?_ _)); exact BK209.out⟩, ⟨by (with_reducible repeat (first | refine blk_drewN ?_ _ | refine blk_drew ?_ | refine blk_alloc ?_ _)); exact BK210.out⟩, ⟨by repeat (first | (with_reducible first | exact HB.out | apply below_alloc | apply pw_below_drewN | apply below_drew1 | refine below_set ?_ GE209.out | refine below_set ?_ GE210.out) | exact HB.out)⟩⟩
   ·rw [if_neg c7] at H
    have c7b0 : (a0_1 == a1_1) = false := beq_eq_false_iff_ne.mpr c7
    have c7b1 : (a0_1 != a1_1) = true := bne_iff_ne.mpr c7
    have H' := Aside0.mk H
    clear H
    have hnb15 := NB209_210.out
    have hnc15 := NB210_209.out
    have hcz16_0 : w5.cell? ⟨gb209, 0, none⟩ = some (.string a0_0) := (blk_cell BK209.out 0).trans rfl
    have hcz16_1 : w5.cell? ⟨gb209, 1, none⟩ = some (.int .i64 a0_1) := (blk_cell BK209.out 1).trans rfl
    have hcz16_2 : w5.cell? ⟨gb209, 2, none⟩ = some (.slice A0_2 l0_2.length c0_2) := (blk_cell BK209.out 2).trans rfl
    have hcz16_3 : w5.cell? ⟨gb209, 3, none⟩ = some (.slice A0_3 l0_3.length c0_3) := (blk_cell BK209.out 3).trans rfl
    have hfz16_0 := blk_frozen BK209.out 0
    have hfz16_1 := blk_frozen BK209.out 1
    have hfz16_2 := blk_frozen BK209.out 2
    have hfz16_3 := blk_frozen BK209.out 3
    have hcz17_0 : w5.cell? ⟨gb210, 0, none⟩ = some (.string a1_0) := (blk_cell BK210.out 0).trans rfl
    have hcz17_1 : w5.cell? ⟨gb210, 1, none⟩ = some (.int .i64 a1_1) := (blk_cell BK210.out 1).trans rfl
    have hcz17_2 : w5.cell? ⟨gb210, 2, none⟩ = some (.slice A1_2 l1_2.length c1_2) := (blk_cell BK210.out 2).trans rfl
    have hcz17_3 : w5.cell? ⟨gb210, 3, none⟩ = some (.slice A1_3 l1_3.length c1_3) := (blk_cell BK210.out 3).trans rfl
    have hfz17_0 := blk_frozen BK210.out 0
    have hfz17_1 := blk_frozen BK210.out 1
    have hfz17_2 := blk_frozen BK210.out 2
    have hfz17_3 := blk_frozen BK210.out 3
    go_wp2
    go_meet
    case rel => exact ⟨_, (true), (by first | rfl | (simp; done) | (simp [*]; done)), H', ⟨by first | omega | exact Nat.le_refl _⟩, ⟨by (with_reducible repeat (first | refine blk_drewN ?_ _ | refine blk_drew ?_ | refine blk_alloc ?_ _)); exact BK209.out⟩, ⟨by (with_reducible repeat (first | refine blk_drewN ?_ _ | refine blk_drew ?_ | refine blk_alloc ?_ _)); exact BK210.out⟩, ⟨by repeat (first | (with_reducible first | exact HB.out | apply below_alloc | apply pw_below_drewN | apply below_drew1 | refine below_set ?_ GE209.out | refine below_set ?_ GE210.out) | exact HB.out)⟩⟩
  ·rw [if_neg c6] at H
   have c6b0 : (a0_0.toList == a1_0.toList) = false := beq_eq_false_iff_ne.mpr c6
   have c6b1 : (a0_0.toList != a1_0.toList) = true := bne_iff_ne.mpr c6
   (first | rw [c6b0] | (simp only [i64_w, i32_w]; rw [c6b0]) | skip)
   have H' := Aside0.mk H
   clear H
   have hnb18 := NB209_210.out
   have hnc18 := NB210_209.out
   have hcz19_0 : w5.cell? ⟨gb209, 0, none⟩ = some (.string a0_0) := (blk_cell BK209.out 0).trans rfl
   have hcz19_1 : w5.cell? ⟨gb209, 1, none⟩ = some (.int .i64 a0_1) := (blk_cell BK209.out 1).trans rfl
   have hcz19_2 : w5.cell? ⟨gb209, 2, none⟩ = some (.slice A0_2 l0_2.length c0_2) := (blk_cell BK209.out 2).trans rfl
   have hcz19_3 : w5.cell? ⟨gb209, 3, none⟩ = some (.slice A0_3 l0_3.length c0_3) := (blk_cell BK209.out 3).trans rfl
   have hfz19_0 := blk_frozen BK209.out 0
   have hfz19_1 := blk_frozen BK209.out 1
   have hfz19_2 := blk_frozen BK209.out 2
   have hfz19_3 := blk_frozen BK209.out 3
   have hcz20_0 : w5.cell? ⟨gb210, 0, none⟩ = some (.string a1_0) := (blk_cell BK210.out 0).trans rfl
   have hcz20_1 : w5.cell? ⟨gb210, 1, none⟩ = some (.int .i64 a1_1) := (blk_cell BK210.out 1).trans rfl
   have hcz20_2 : w5.cell? ⟨gb210, 2, none⟩ = some (.slice A1_2 l1_2.length c1_2) := (blk_cell BK210.out 2).trans rfl
   have hcz20_3 : w5.cell? ⟨gb210, 3, none⟩ = some (.slice A1_3 l1_3.length c1_3) := (blk_cell BK210.out 3).trans rfl
   have hfz20_0 := blk_frozen BK210.out 0
   have hfz20_1 := blk_frozen BK210.out 1
   have hfz20_2 := blk_frozen BK210.out 2
   have hfz20_3 := blk_frozen BK210.out 3
   go_wp2
   go_meet
   case rel => exact ⟨_, (true), (by first | rfl | (simp; done) | (simp [*]; done)), H', ⟨by first | omega | exact Nat.le_refl _⟩, ⟨by (with_reducible repeat (first | refine blk_drewN ?_ _ | refine blk_drew ?_ | refine blk_alloc ?_ _)); exact BK209.out⟩, ⟨by (with_reducible repeat (first | refine blk_drewN ?_ _ | refine blk_drew ?_ | refine blk_alloc ?_ _)); exact BK210.out⟩, ⟨by repeat (first | (with_reducible first | exact HB.out | apply below_alloc | apply pw_below_drewN | apply below_drew1 | refine below_set ?_ GE209.out | refine below_set ?_ GE210.out) | exact HB.out)⟩⟩
 case rest =>
  clear HC3
  try clear c1
  try clear p2
  try clear c3
  try clear c6
  try clear c6b0
  try clear c6b1
  try clear c7
  try clear c7b0
  try clear c7b1
  try clear c8
  try clear c8b0
  try clear c8b1
  try clear c8b2
  try clear c9
  try clear c12
  try clear c15
  try clear c18
  try clear hcz10_0
  try clear hcz10_1
  try clear hcz10_2
  try clear hcz10_3
  try clear hcz11_0
  try clear hcz11_1
  try clear hcz11_2
  try clear hcz11_3
  try clear hcz13_0
  try clear hcz13_1
  try clear hcz13_2
  try clear hcz13_3
  try clear hcz14_0
  try clear hcz14_1
  try clear hcz14_2
  try clear hcz14_3
  try clear hcz16_0
  try clear hcz16_1
  try clear hcz16_2
  try clear hcz16_3
  try clear hcz17_0
  try clear hcz17_1
  try clear hcz17_2
  try clear hcz17_3
  try clear hcz19_0
  try clear hcz19_1
  try clear hcz19_2
  try clear hcz19_3
  try clear hcz20_0
  try clear hcz20_1
  try clear hcz20_2
  try clear hcz20_3
  try clear hfz10_0
  try clear hfz10_1
  try clear hfz10_2
  try clear hfz10_3
  try clear hfz11_0
  try clear hfz11_1
  try clear hfz11_2
  try clear hfz11_3
  try clear hfz13_0
  try clear hfz13_1
  try clear hfz13_2
  try clear hfz13_3
  try clear hfz14_0
  try clear hfz14_1
  try clear hfz14_2
  try clear hfz14_3
  try clear hfz16_0
  try clear hfz16_1
  try clear hfz16_2
  try clear hfz16_3
  try clear hfz17_0
  try clear hfz17_1
  try clear hfz17_2
  try clear hfz17_3
  try clear hfz19_0
  try clear hfz19_1
  try clear hfz19_2
  try clear hfz19_3
  try clear hfz20_0
  try clear hfz20_1
  try clear hfz20_2
  try clear hfz20_3
  obtain ⟨kq, x36_2, rfl, HA, HJ2, BK209, BK210, HB⟩ := hcut
  cases kq with
  | zero => exact absurd HA.out (by simp [mortmainref09_SameTable.j0])
  | succ kj2 =>
   have H := HA.out
   clear HA
   simp only [mortmainref09_SameTable.j0] at H
   by_cases c21 : x36_2 = true
   ·subst c21
    have H1 : (some false) = some r := by rw [if_pos rfl] at H; exact H
    clear H
    have H := H1
    clear H1
    obtain rfl := Option.some.inj H
    go_wp2
    go_ret
    exact ⟨by first | rfl | (simp [errW_none, errW_some] <;> rfl) | (simp [*, errW_none, errW_some] <;> rfl), by repeat (first | (with_reducible first | exact HB.out | apply below_alloc | apply pw_below_drewN | apply below_drew1 | refine below_set ?_ GE209.out | refine below_set ?_ GE210.out) | exact HB.out)⟩
   ·replace c21 := Bool.eq_false_iff.mpr c21
    subst c21
    have H1 : (mortmainref09_SameTable.l0 kj2 (l0_2.length : Int) 0 a0_0 a0_1 l0_2 l0_3 a1_0 a1_1 l1_2 l1_3) = some r := by rw [if_neg (show ¬ (false = true) by decide)] at H; exact H
    clear H
    have H := H1
    clear H1
    have H' := Aside0.mk H
    clear H
    have hnb22 := NB209_210.out
    have hnc22 := NB210_209.out
    have hcz23_0 : wc.cell? ⟨gb209, 0, none⟩ = some (.string a0_0) := (blk_cell BK209.out 0).trans rfl
    have hcz23_1 : wc.cell? ⟨gb209, 1, none⟩ = some (.int .i64 a0_1) := (blk_cell BK209.out 1).trans rfl
    have hcz23_2 : wc.cell? ⟨gb209, 2, none⟩ = some (.slice A0_2 l0_2.length c0_2) := (blk_cell BK209.out 2).trans rfl
    have hcz23_3 : wc.cell? ⟨gb209, 3, none⟩ = some (.slice A0_3 l0_3.length c0_3) := (blk_cell BK209.out 3).trans rfl
    have hfz23_0 := blk_frozen BK209.out 0
    have hfz23_1 := blk_frozen BK209.out 1
    have hfz23_2 := blk_frozen BK209.out 2
    have hfz23_3 := blk_frozen BK209.out 3
    go_wp2
    go_loopg [40] kj2 (fun kq v40 w' => ∃ (x40_2 : Int), v40 = .int .i64 x40_2 ∧ Aside0 (mortmainref09_SameTable.l0 kq (l0_2.length : Int) x40_2 a0_0 a0_1 l0_2 l0_3 a1_0 a1_1 l1_2 l1_3 = some r) ∧ Aside0 (kq ≤ kj2) ∧ Aside0 (w'.heap[gb209]? = some (.cells #[.string a0_0, .int .i64 a0_1, (.slice A0_2 l0_2.length c0_2), (.slice A0_3 l0_3.length c0_3)] 45 (0, 0))) ∧ Aside0 (w'.heap[gb210]? = some (.cells #[.string a1_0, .int .i64 a1_1, (.slice A1_2 l1_2.length c1_2), (.slice A1_3 l1_3.length c1_3)] 45 (0, 0))) ∧ Aside0 (Below w.heap.size w w'))
    case atStart => exact ⟨(0), (by first | rfl | (simp; done) | (simp [*]; done)), H', ⟨Nat.le_refl _⟩, ⟨by (with_reducible repeat (first | refine blk_drewN ?_ _ | refine blk_drew ?_ | refine blk_alloc ?_ _)); exact BK209.out⟩, ⟨by (with_reducible repeat (first | refine blk_drewN ?_ _ | refine blk_drew ?_ | refine blk_alloc ?_ _)); exact BK210.out⟩, ⟨by repeat (first | (with_reducible first | exact HB.out | apply below_alloc | apply pw_below_drewN | apply below_drew1 | refine below_set ?_ GE209.out | refine below_set ?_ GE210.out) | exact HB.out)⟩⟩
    case round =>
     clear H'
     try clear c1
     try clear c2
     try clear p2
     try clear c3
     try clear c6
     try clear c6b0
     try clear c6b1
     try clear c7
     try clear c7b0
     try clear c7b1
     try clear c8
     try clear c8b0
     try clear c8b1
     try clear c8b2
     try clear c9
     try clear c12
     try clear c15
     try clear c18
     try clear c21
     try clear c22
     try clear hcz10_0
     try clear hcz10_1
     try clear hcz10_2
     try clear hcz10_3
     try clear hcz11_0
     try clear hcz11_1
     try clear hcz11_2
     try clear hcz11_3
     try clear hcz13_0
     try clear hcz13_1
     try clear hcz13_2
     try clear hcz13_3
     try clear hcz14_0
     try clear hcz14_1
     try clear hcz14_2
     try clear hcz14_3
     try clear hcz16_0
     try clear hcz16_1
     try clear hcz16_2
     try clear hcz16_3
     try clear hcz17_0
     try clear hcz17_1
     try clear hcz17_2
     try clear hcz17_3
     try clear hcz19_0
     try clear hcz19_1
     try clear hcz19_2
     try clear hcz19_3
     try clear hcz20_0
     try clear hcz20_1
     try clear hcz20_2
     try clear hcz20_3
     try clear hcz23_0
     try clear hcz23_1
     try clear hcz23_2
     try clear hcz23_3
     try clear hfz10_0
     try clear hfz10_1
     try clear hfz10_2
     try clear hfz10_3
     try clear hfz11_0
     try clear hfz11_1
     try clear hfz11_2
     try clear hfz11_3
     try clear hfz13_0
     try clear hfz13_1
     try clear hfz13_2
     try clear hfz13_3
     try clear hfz14_0
     try clear hfz14_1
     try clear hfz14_2
     try clear hfz14_3
     try clear hfz16_0
     try clear hfz16_1
     try clear hfz16_2
     try clear hfz16_3
     try clear hfz17_0
     try clear hfz17_1
     try clear hfz17_2
     try clear hfz17_3
     try clear hfz19_0
     try clear hfz19_1
     try clear hfz19_2
     try clear hfz19_3
     try clear hfz20_0
     try clear hfz20_1
     try clear hfz20_2
     try clear hfz20_3
     try clear hfz23_0
     try clear hfz23_1
     try clear hfz23_2
     try clear hfz23_3
     try clear p2
     obtain ⟨x40_2, rfl, HA, HK2, BK209, BK210, HB⟩ := hrel
     cases gk with
     | zero => exact absurd HA.out (by simp [mortmainref09_SameTable.l0])
     | succ k2 =>
      have H := HA.out
      clear HA
      simp only [mortmainref09_SameTable.l0] at H
      by_cases c24 : x40_2 < (l0_2.length : Int)
      ·rw [if_pos c24] at H
       have c24b0 : decide (x40_2 < (l0_2.length : Int)) = true := decide_eq_true c24
       clear c24
       by_cases c25 : 0 ≤ x40_2
       ·rw [if_pos c25] at H
        have c25b0 : decide (0 ≤ x40_2) = true := decide_eq_true c25
        clear c25
        by_cases c26 : x40_2 < (l0_2.length : Int)
        ·rw [if_pos c26] at H
         have c26b0 : decide (x40_2 < (l0_2.length : Int)) = true := decide_eq_true c26
         clear c26
         by_cases c27 : x40_2 < (l1_2.length : Int)
         ·rw [if_pos c27] at H
          have c27b0 : decide (x40_2 < (l1_2.length : Int)) = true := decide_eq_true c27
          clear c27
          by_cases c28 : (!((((rd_T59 l0_2 x40_2).f0).toList) == (((rd_T59 l1_2 x40_2).f0).toList)) || (!(((rd_T59 l0_2 x40_2).f1) == ((rd_T59 l1_2 x40_2).f1)) || (!(((rd_T59 l0_2 x40_2).f2) == ((rd_T59 l1_2 x40_2).f2)) || (!(((rd_T59 l0_2 x40_2).f3) == ((rd_T59 l1_2 x40_2).f3)) || (!((((rd_T59 l0_2 x40_2).f4).toList) == (((rd_T59 l1_2 x40_2).f4).toList)) || (!(((rd_T59 l0_2 x40_2).f5) == ((rd_T59 l1_2 x40_2).f5)))))))) = true
          ·rw [if_pos c28] at H
           have c28b0 : (!((((rd_T59 l0_2 x40_2).f0).toList) == (((rd_T59 l1_2 x40_2).f0).toList)) || (!(((rd_T59 l0_2 x40_2).f1) == ((rd_T59 l1_2 x40_2).f1)) || (!(((rd_T59 l0_2 x40_2).f2) == ((rd_T59 l1_2 x40_2).f2)) || (!(((rd_T59 l0_2 x40_2).f3) == ((rd_T59 l1_2 x40_2).f3)) || (!((((rd_T59 l0_2 x40_2).f4).toList) == (((rd_T59 l1_2 x40_2).f4).toList)) || (!(((rd_T59 l0_2 x40_2).f5) == ((rd_T59 l1_2 x40_2).f5)))))))) = true := c28
           clear c28
           obtain rfl := Option.some.inj H
           try go_wp2
           have n0_ := Aside0.mk (blk_drew BK209.out)
           have n1_ := Aside0.mk (blk_drew BK210.out)
           have n2_ := Aside0.mk (below_drew1 HB.out)
           clear BK209
           clear BK210
           clear HB
           have BK209 := n0_
           have BK210 := n1_
           have HB := n2_
           clear n0_ n1_ n2_
           have p211 : 0 ≤ (x40_2 : Int) := of_decide_eq_true (by first | (with_reducible assumption) | assumption)
           have q211 : x40_2 < (l0_2.length : Int) := of_decide_eq_true (by first | (with_reducible assumption) | assumption)
           obtain ⟨ad211, e211, hx211_0, hx211_1, hx211_2, hx211_3, hx211_4, hx211_5⟩ := at_T59 HR0_2.out x40_2 p211 q211
           have hw211_5 := hx211_5
           have hw211_4 := hx211_4
           have hw211_3 := hx211_3
           have hw211_2 := hx211_2
           have hw211_1 := hx211_1
           have hw211_0 := hx211_0
           cases e211
           replace hx211_0 := (HB.out.cell (World.block_lt_of_cell? w _ hx211_0)).trans hx211_0
           replace hx211_1 := (HB.out.cell (World.block_lt_of_cell? w _ hx211_1)).trans hx211_1
           replace hx211_2 := (HB.out.cell (World.block_lt_of_cell? w _ hx211_2)).trans hx211_2
           replace hx211_3 := (HB.out.cell (World.block_lt_of_cell? w _ hx211_3)).trans hx211_3
           replace hx211_4 := (HB.out.cell (World.block_lt_of_cell? w _ hx211_4)).trans hx211_4
           replace hx211_5 := (HB.out.cell (World.block_lt_of_cell? w _ hx211_5)).trans hx211_5
           replace p211 := eq_true p211
           replace q211 := eq_true q211
           have p212 : 0 ≤ (x40_2 : Int) := of_decide_eq_true (by first | (with_reducible assumption) | assumption)
           have q212 : x40_2 < (l1_2.length : Int) := of_decide_eq_true (by first | (with_reducible assumption) | assumption)
           obtain ⟨ad212, e212, hx212_0, hx212_1, hx212_2, hx212_3, hx212_4, hx212_5⟩ := at_T59 HR1_2.out x40_2 p212 q212
           have hw212_5 := hx212_5
           have hw212_4 := hx212_4
           have hw212_3 := hx212_3
           have hw212_2 := hx212_2
           have hw212_1 := hx212_1
           have hw212_0 := hx212_0
           cases e212
           replace hx212_0 := (HB.out.cell (World.block_lt_of_cell? w _ hx212_0)).trans hx212_0
           replace hx212_1 := (HB.out.cell (World.block_lt_of_cell? w _ hx212_1)).trans hx212_1
           replace hx212_2 := (HB.out.cell (World.block_lt_of_cell? w _ hx212_2)).trans hx212_2
           replace hx212_3 := (HB.out.cell (World.block_lt_of_cell? w _ hx212_3)).trans hx212_3
           replace hx212_4 := (HB.out.cell (World.block_lt_of_cell? w _ hx212_4)).trans hx212_4
           replace hx212_5 := (HB.out.cell (World.block_lt_of_cell? w _ hx212_5)).trans hx212_5
           replace p212 := eq_true p212
           replace q212 := eq_true q212
           refine start_ (n := 11) (S := fun w' => w'.cell? ⟨gb209, 0, none⟩ = some (.string a0_0) ∧ w'.cell? ⟨gb209, 1, none⟩ = some (.int .i64 a0_1) ∧ w'.cell? ⟨gb209, 2, none⟩ = some (.slice (some ad211) l0_2.length c0_2) ∧ w'.cell? ⟨gb209, 3, none⟩ = some (.slice A0_3 l0_3.length c0_3) ∧ w'.cell? ⟨gb210, 0, none⟩ = some (.string a1_0) ∧ w'.cell? ⟨gb210, 1, none⟩ = some (.int .i64 a1_1) ∧ w'.cell? ⟨gb210, 2, none⟩ = some (.slice (some ad212) l1_2.length c1_2) ∧ w'.cell? ⟨gb210, 3, none⟩ = some (.slice A1_3 l1_3.length c1_3) ∧ w'.cell? (ad211.add ((x40_2).toNat * 6)) = some (.string ((rd_T59 l0_2 x40_2).f0)) ∧ w'.cell? ⟨(ad211.add ((x40_2).toNat * 6)).block, (ad211.add ((x40_2).toNat * 6)).off + 1, none⟩ = some (.int .i64 ((rd_T59 l0_2 x40_2).f1)) ∧ w'.cell? ⟨(ad211.add ((x40_2).toNat * 6)).block, (ad211.add ((x40_2).toNat * 6)).off + 2, none⟩ = some (.bool ((rd_T59 l0_2 x40_2).f2)) ∧ w'.cell? ⟨(ad211.add ((x40_2).toNat * 6)).block, (ad211.add ((x40_2).toNat * 6)).off + 3, none⟩ = some (.bool ((rd_T59 l0_2 x40_2).f3)) ∧ w'.cell? ⟨(ad211.add ((x40_2).toNat * 6)).block, (ad211.add ((x40_2).toNat * 6)).off + 4, none⟩ = some (.string ((rd_T59 l0_2 x40_2).f4)) ∧ w'.cell? ⟨(ad211.add ((x40_2).toNat * 6)).block, (ad211.add ((x40_2).toNat * 6)).off + 5, none⟩ = some (.int .i64 ((rd_T59 l0_2 x40_2).f5)) ∧ w'.cell? (ad212.add ((x40_2).toNat * 6)) = some (.string ((rd_T59 l1_2 x40_2).f0)) ∧ w'.cell? ⟨(ad212.add ((x40_2).toNat * 6)).block, (ad212.add ((x40_2).toNat * 6)).off + 1, none⟩ = some (.int .i64 ((rd_T59 l1_2 x40_2).f1)) ∧ w'.cell? ⟨(ad212.add ((x40_2).toNat * 6)).block, (ad212.add ((x40_2).toNat * 6)).off + 2, none⟩ = some (.bool ((rd_T59 l1_2 x40_2).f2)) ∧ w'.cell? ⟨(ad212.add ((x40_2).toNat * 6)).block, (ad212.add ((x40_2).toNat * 6)).off + 3, none⟩ = some (.bool ((rd_T59 l1_2 x40_2).f3)) ∧ w'.cell? ⟨(ad212.add ((x40_2).toNat * 6)).block, (ad212.add ((x40_2).toNat * 6)).off + 4, none⟩ = some (.string ((rd_T59 l1_2 x40_2).f4)) ∧ w'.cell? ⟨(ad212.add ((x40_2).toNat * 6)).block, (ad212.add ((x40_2).toNat * 6)).off + 5, none⟩ = some (.int .i64 ((rd_T59 l1_2 x40_2).f5))) (ds := []) #[false, false, false, false, false, false, false, false, false, false, false] (by kernel_rfl) rfl rfl ⟨(blk_cell BK209.out 0).trans rfl, (blk_cell BK209.out 1).trans rfl, (blk_cell BK209.out 2).trans rfl, (blk_cell BK209.out 3).trans rfl, (blk_cell BK210.out 0).trans rfl, (blk_cell BK210.out 1).trans rfl, (blk_cell BK210.out 2).trans rfl, (blk_cell BK210.out 3).trans rfl, ((HB.out.cell (World.block_lt_of_cell? w _ hw211_0)).trans hw211_0), ((HB.out.cell (World.block_lt_of_cell? w _ hw211_1)).trans hw211_1), ((HB.out.cell (World.block_lt_of_cell? w _ hw211_2)).trans hw211_2), ((HB.out.cell (World.block_lt_of_cell? w _ hw211_3)).trans hw211_3), ((HB.out.cell (World.block_lt_of_cell? w _ hw211_4)).trans hw211_4), ((HB.out.cell (World.block_lt_of_cell? w _ hw211_5)).trans hw211_5), ((HB.out.cell (World.block_lt_of_cell? w _ hw212_0)).trans hw212_0), ((HB.out.cell (World.block_lt_of_cell? w _ hw212_1)).trans hw212_1), ((HB.out.cell (World.block_lt_of_cell? w _ hw212_2)).trans hw212_2), ((HB.out.cell (World.block_lt_of_cell? w _ hw212_3)).trans hw212_3), ((HB.out.cell (World.block_lt_of_cell? w _ hw212_4)).trans hw212_4), ((HB.out.cell (World.block_lt_of_cell? w _ hw212_5)).trans hw212_5)⟩ (fun hHeld => ?_); refine with_tabW mortmainref09_SameTable.tab6 mortmainref09_SameTable.bits6 (fun HT_ HW_ => ?_)
           generalize wr.drew = w29 at BK209 BK210 HB hx211_0 hx211_1 hx211_2 hx211_3 hx211_4 hx211_5 hx212_0 hx212_1 hx212_2 hx212_3 hx212_4 hx212_5 hHeld ⊢
           refine pure_ (i := 0) (N := some 43) (v := ?_) (a' := ?_) #[true, false, false, false, false, false, false, false, false, false, false] rfl rfl (any_of HT_.out (by kernel_rfl)) (fun _ _ _ h => h) (Or.inl ⟨by rfl, ?_⟩) ?_ ?_
           rotate_left
           ·intro w'
            go_simp
            with_reducible rfl
           rotate_left
           ·simp only [Act.put, List.setIfInBounds_toArray, List.set_cons_zero, List.set_cons_succ, i64_w, i32_w]
            rfl
           refine pure_ (i := 2) (N := some 45) (v := ?_) (a' := ?_) #[true, false, true, false, false, false, false, false, false, false, false] rfl rfl (any_of HT_.out (by kernel_rfl)) (fun _ _ _ h => h) (Or.inl ⟨by rfl, ?_⟩) ?_ ?_
           rotate_left
           ·intro w'
            go_simp
            with_reducible rfl
           rotate_left
           ·simp only [Act.put, List.setIfInBounds_toArray, List.set_cons_zero, List.set_cons_succ, i64_w, i32_w]
            rfl
           refine pure_ (i := 5) (N := some 48) (v := ?_) (a' := ?_) #[true, false, true, false, false, true, false, false, false, false, false] rfl rfl (any_of HT_.out (by kernel_rfl)) (fun _ _ _ h => h) (Or.inl ⟨by rfl, ?_⟩) ?_ ?_
           rotate_left
           ·intro w'
            go_simp
            with_reducible rfl
           rotate_left
           ·simp only [Act.put, List.setIfInBounds_toArray, List.set_cons_zero, List.set_cons_succ, i64_w, i32_w]
            rfl
           refine pure_ (i := 7) (N := some 50) (v := ?_) (a' := ?_) #[true, false, true, false, false, true, false, true, false, false, false] rfl rfl (any_of HT_.out (by kernel_rfl)) (fun _ _ _ h => h) (Or.inl ⟨by rfl, ?_⟩) ?_ ?_
           rotate_left
           ·intro w'
            go_simp
            with_reducible rfl
           rotate_left
           ·simp only [Act.put, List.setIfInBounds_toArray, List.set_cons_zero, List.set_cons_succ, i64_w, i32_w]
            rfl
           refine take_ (i := 1) (N := some 44) (v := ?_) (a' := ?_) #[true, true, true, false, false, true, false, true, false, false, false] rfl rfl (take_ofW HT_.out HW_.out (by kernel_rfl)) (fun _ _ _ h => h) (Or.inl ⟨by rfl, ?_⟩) hHeld ?_ ?_
           rotate_left
           ·rintro w' ⟨s0, s1, s2, s3, s4, s5, s6, s7, s8, s9, s10, s11, s12, s13, s14, s15, s16, s17, s18, s19⟩
            go_simp
            with_reducible rfl
           rotate_left
           ·simp only [Act.put, List.setIfInBounds_toArray, List.set_cons_zero, List.set_cons_succ, i64_w, i32_w]
            rfl
           refine pure_ (i := 3) (N := some 46) (v := ?_) (a' := ?_) #[true, true, true, true, false, true, false, true, false, false, false] rfl rfl (any_of HT_.out (by kernel_rfl)) (fun _ _ _ h => h) (Or.inl ⟨by rfl, ?_⟩) ?_ ?_
           rotate_left
           ·intro w'
            go_simp
            with_reducible rfl
           rotate_left
           ·simp only [Act.put, List.setIfInBounds_toArray, List.set_cons_zero, List.set_cons_succ, i64_w, i32_w]
            rfl
           refine take_ (i := 4) (N := some 47) (v := ?_) (a' := ?_) #[true, true, true, true, true, true, false, true, false, false, false] rfl rfl (take_ofW HT_.out HW_.out (by kernel_rfl)) (fun _ _ _ h => h) (Or.inl ⟨by rfl, ?_⟩) hHeld ?_ ?_
           rotate_left
           ·rintro w' ⟨s0, s1, s2, s3, s4, s5, s6, s7, s8, s9, s10, s11, s12, s13, s14, s15, s16, s17, s18, s19⟩
            go_simp
            with_reducible rfl
           rotate_left
           ·simp only [Act.put, List.setIfInBounds_toArray, List.set_cons_zero, List.set_cons_succ, i64_w, i32_w]
            rfl
           refine take_ (i := 6) (N := some 49) (v := ?_) (a' := ?_) #[true, true, true, true, true, true, true, true, false, false, false] rfl rfl (take_ofW HT_.out HW_.out (by kernel_rfl)) (fun _ _ _ h => h) (Or.inl ⟨by rfl, ?_⟩) hHeld ?_ ?_
           rotate_left
           ·rintro w' ⟨s0, s1, s2, s3, s4, s5, s6, s7, s8, s9, s10, s11, s12, s13, s14, s15, s16, s17, s18, s19⟩
            go_simp
            with_reducible rfl
           rotate_left
           ·simp only [Act.put, List.setIfInBounds_toArray, List.set_cons_zero, List.set_cons_succ, i64_w, i32_w]
            rfl
           refine pure_ (i := 8) (N := some 51) (v := ?_) (a' := ?_) #[true, true, true, true, true, true, true, true, true, false, false] rfl rfl (any_of HT_.out (by kernel_rfl)) (fun _ _ _ h => h) (Or.inl ⟨by rfl, ?_⟩) ?_ ?_
           rotate_left
           ·intro w'
            go_simp
            with_reducible rfl
           rotate_left
           ·simp only [Act.put, List.setIfInBounds_toArray, List.set_cons_zero, List.set_cons_succ, i64_w, i32_w]
            rfl
           refine take_ (i := 9) (N := some 52) (v := ?_) (a' := ?_) #[true, true, true, true, true, true, true, true, true, true, false] rfl rfl (take_ofW HT_.out HW_.out (by kernel_rfl)) (fun _ _ _ h => h) (Or.inl ⟨by rfl, ?_⟩) hHeld ?_ ?_
           rotate_left
           ·rintro w' ⟨s0, s1, s2, s3, s4, s5, s6, s7, s8, s9, s10, s11, s12, s13, s14, s15, s16, s17, s18, s19⟩
            go_simp
            with_reducible rfl
           rotate_left
           ·simp only [Act.put, List.setIfInBounds_toArray, List.set_cons_zero, List.set_cons_succ, i64_w, i32_w]
            rfl
           refine pure_ (i := 10) (N := some 53) (v := ?_) (a' := ?_) #[true, true, true, true, true, true, true, true, true, true, true] rfl rfl (any_of HT_.out (by kernel_rfl)) (fun _ _ _ h => h) (Or.inl ⟨by rfl, ?_⟩) ?_ ?_
           rotate_left
           ·intro w'
            go_simp
            with_reducible rfl
           rotate_left
           ·simp only [Act.put, List.setIfInBounds_toArray, List.set_cons_zero, List.set_cons_succ, i64_w, i32_w]
            rfl
           refine done_ (done_of HT_.out (by kernel_rfl)) ?_
           try go_wp2
           go_ret
           exact ⟨by first | rfl | (simp [errW_none, errW_some] <;> rfl) | (simp [*, errW_none, errW_some] <;> rfl), by repeat (first | (with_reducible first | exact HB.out | apply below_alloc | apply pw_below_drewN | apply below_drew1 | refine below_set ?_ GE209.out | refine below_set ?_ GE210.out) | exact HB.out)⟩
          ·rw [if_neg c28] at H
           have c28b0 : (!((((rd_T59 l0_2 x40_2).f0).toList) == (((rd_T59 l1_2 x40_2).f0).toList)) || (!(((rd_T59 l0_2 x40_2).f1) == ((rd_T59 l1_2 x40_2).f1)) || (!(((rd_T59 l0_2 x40_2).f2) == ((rd_T59 l1_2 x40_2).f2)) || (!(((rd_T59 l0_2 x40_2).f3) == ((rd_T59 l1_2 x40_2).f3)) || (!((((rd_T59 l0_2 x40_2).f4).toList) == (((rd_T59 l1_2 x40_2).f4).toList)) || (!(((rd_T59 l0_2 x40_2).f5) == ((rd_T59 l1_2 x40_2).f5)))))))) = false := by simpa using c28
           clear c28
           have H' := Aside0.mk H
           clear H
           try go_wp2
           have n0_ := Aside0.mk (blk_drew BK209.out)
           have n1_ := Aside0.mk (blk_drew BK210.out)
           have n2_ := Aside0.mk (below_drew1 HB.out)
           clear BK209
           clear BK210
           clear HB
           have BK209 := n0_
           have BK210 := n1_
           have HB := n2_
           clear n0_ n1_ n2_
           have p211 : 0 ≤ (x40_2 : Int) := of_decide_eq_true (by first | (with_reducible assumption) | assumption)
           have q211 : x40_2 < (l0_2.length : Int) := of_decide_eq_true (by first | (with_reducible assumption) | assumption)
           obtain ⟨ad211, e211, hx211_0, hx211_1, hx211_2, hx211_3, hx211_4, hx211_5⟩ := at_T59 HR0_2.out x40_2 p211 q211
           have hw211_5 := hx211_5
           have hw211_4 := hx211_4
           have hw211_3 := hx211_3
           have hw211_2 := hx211_2
           have hw211_1 := hx211_1
           have hw211_0 := hx211_0
           cases e211
           replace hx211_0 := (HB.out.cell (World.block_lt_of_cell? w _ hx211_0)).trans hx211_0
           replace hx211_1 := (HB.out.cell (World.block_lt_of_cell? w _ hx211_1)).trans hx211_1
           replace hx211_2 := (HB.out.cell (World.block_lt_of_cell? w _ hx211_2)).trans hx211_2
           replace hx211_3 := (HB.out.cell (World.block_lt_of_cell? w _ hx211_3)).trans hx211_3
           replace hx211_4 := (HB.out.cell (World.block_lt_of_cell? w _ hx211_4)).trans hx211_4
           replace hx211_5 := (HB.out.cell (World.block_lt_of_cell? w _ hx211_5)).trans hx211_5
           replace p211 := eq_true p211
           replace q211 := eq_true q211
           have p212 : 0 ≤ (x40_2 : Int) := of_decide_eq_true (by first | (with_reducible assumption) | assumption)
           have q212 : x40_2 < (l1_2.length : Int) := of_decide_eq_true (by first | (with_reducible assumption) | assumption)
           obtain ⟨ad212, e212, hx212_0, hx212_1, hx212_2, hx212_3, hx212_4, hx212_5⟩ := at_T59 HR1_2.out x40_2 p212 q212
           have hw212_5 := hx212_5
           have hw212_4 := hx212_4
           have hw212_3 := hx212_3
           have hw212_2 := hx212_2
           have hw212_1 := hx212_1
           have hw212_0 := hx212_0
           cases e212
           replace hx212_0 := (HB.out.cell (World.block_lt_of_cell? w _ hx212_0)).trans hx212_0
           replace hx212_1 := (HB.out.cell (World.block_lt_of_cell? w _ hx212_1)).trans hx212_1
           replace hx212_2 := (HB.out.cell (World.block_lt_of_cell? w _ hx212_2)).trans hx212_2
           replace hx212_3 := (HB.out.cell (World.block_lt_of_cell? w _ hx212_3)).trans hx212_3
           replace hx212_4 := (HB.out.cell (World.block_lt_of_cell? w _ hx212_4)).trans hx212_4
           replace hx212_5 := (HB.out.cell (World.block_lt_of_cell? w _ hx212_5)).trans hx212_5
           replace p212 := eq_true p212
           replace q212 := eq_true q212
           refine start_ (n := 11) (S := fun w' => w'.cell? ⟨gb209, 0, none⟩ = some (.string a0_0) ∧ w'.cell? ⟨gb209, 1, none⟩ = some (.int .i64 a0_1) ∧ w'.cell? ⟨gb209, 2, none⟩ = some (.slice (some ad211) l0_2.length c0_2) ∧ w'.cell? ⟨gb209, 3, none⟩ = some (.slice A0_3 l0_3.length c0_3) ∧ w'.cell? ⟨gb210, 0, none⟩ = some (.string a1_0) ∧ w'.cell? ⟨gb210, 1, none⟩ = some (.int .i64 a1_1) ∧ w'.cell? ⟨gb210, 2, none⟩ = some (.slice (some ad212) l1_2.length c1_2) ∧ w'.cell? ⟨gb210, 3, none⟩ = some (.slice A1_3 l1_3.length c1_3) ∧ w'.cell? (ad211.add ((x40_2).toNat * 6)) = some (.string ((rd_T59 l0_2 x40_2).f0)) ∧ w'.cell? ⟨(ad211.add ((x40_2).toNat * 6)).block, (ad211.add ((x40_2).toNat * 6)).off + 1, none⟩ = some (.int .i64 ((rd_T59 l0_2 x40_2).f1)) ∧ w'.cell? ⟨(ad211.add ((x40_2).toNat * 6)).block, (ad211.add ((x40_2).toNat * 6)).off + 2, none⟩ = some (.bool ((rd_T59 l0_2 x40_2).f2)) ∧ w'.cell? ⟨(ad211.add ((x40_2).toNat * 6)).block, (ad211.add ((x40_2).toNat * 6)).off + 3, none⟩ = some (.bool ((rd_T59 l0_2 x40_2).f3)) ∧ w'.cell? ⟨(ad211.add ((x40_2).toNat * 6)).block, (ad211.add ((x40_2).toNat * 6)).off + 4, none⟩ = some (.string ((rd_T59 l0_2 x40_2).f4)) ∧ w'.cell? ⟨(ad211.add ((x40_2).toNat * 6)).block, (ad211.add ((x40_2).toNat * 6)).off + 5, none⟩ = some (.int .i64 ((rd_T59 l0_2 x40_2).f5)) ∧ w'.cell? (ad212.add ((x40_2).toNat * 6)) = some (.string ((rd_T59 l1_2 x40_2).f0)) ∧ w'.cell? ⟨(ad212.add ((x40_2).toNat * 6)).block, (ad212.add ((x40_2).toNat * 6)).off + 1, none⟩ = some (.int .i64 ((rd_T59 l1_2 x40_2).f1)) ∧ w'.cell? ⟨(ad212.add ((x40_2).toNat * 6)).block, (ad212.add ((x40_2).toNat * 6)).off + 2, none⟩ = some (.bool ((rd_T59 l1_2 x40_2).f2)) ∧ w'.cell? ⟨(ad212.add ((x40_2).toNat * 6)).block, (ad212.add ((x40_2).toNat * 6)).off + 3, none⟩ = some (.bool ((rd_T59 l1_2 x40_2).f3)) ∧ w'.cell? ⟨(ad212.add ((x40_2).toNat * 6)).block, (ad212.add ((x40_2).toNat * 6)).off + 4, none⟩ = some (.string ((rd_T59 l1_2 x40_2).f4)) ∧ w'.cell? ⟨(ad212.add ((x40_2).toNat * 6)).block, (ad212.add ((x40_2).toNat * 6)).off + 5, none⟩ = some (.int .i64 ((rd_T59 l1_2 x40_2).f5))) (ds := []) #[false, false, false, false, false, false, false, false, false, false, false] (by kernel_rfl) rfl rfl ⟨(blk_cell BK209.out 0).trans rfl, (blk_cell BK209.out 1).trans rfl, (blk_cell BK209.out 2).trans rfl, (blk_cell BK209.out 3).trans rfl, (blk_cell BK210.out 0).trans rfl, (blk_cell BK210.out 1).trans rfl, (blk_cell BK210.out 2).trans rfl, (blk_cell BK210.out 3).trans rfl, ((HB.out.cell (World.block_lt_of_cell? w _ hw211_0)).trans hw211_0), ((HB.out.cell (World.block_lt_of_cell? w _ hw211_1)).trans hw211_1), ((HB.out.cell (World.block_lt_of_cell? w _ hw211_2)).trans hw211_2), ((HB.out.cell (World.block_lt_of_cell? w _ hw211_3)).trans hw211_3), ((HB.out.cell (World.block_lt_of_cell? w _ hw211_4)).trans hw211_4), ((HB.out.cell (World.block_lt_of_cell? w _ hw211_5)).trans hw211_5), ((HB.out.cell (World.block_lt_of_cell? w _ hw212_0)).trans hw212_0), ((HB.out.cell (World.block_lt_of_cell? w _ hw212_1)).trans hw212_1), ((HB.out.cell (World.block_lt_of_cell? w _ hw212_2)).trans hw212_2), ((HB.out.cell (World.block_lt_of_cell? w _ hw212_3)).trans hw212_3), ((HB.out.cell (World.block_lt_of_cell? w _ hw212_4)).trans hw212_4), ((HB.out.cell (World.block_lt_of_cell? w _ hw212_5)).trans hw212_5)⟩ (fun hHeld => ?_); refine with_tabW mortmainref09_SameTable.tab6 mortmainref09_SameTable.bits6 (fun HT_ HW_ => ?_)
           generalize wr.drew = w30 at BK209 BK210 HB hx211_0 hx211_1 hx211_2 hx211_3 hx211_4 hx211_5 hx212_0 hx212_1 hx212_2 hx212_3 hx212_4 hx212_5 hHeld ⊢
           refine pure_ (i := 0) (N := some 43) (v := ?_) (a' := ?_) #[true, false, false, false, false, false, false, false, false, false, false] rfl rfl (any_of HT_.out (by kernel_rfl)) (fun _ _ _ h => h) (Or.inl ⟨by rfl, ?_⟩) ?_ ?_
           rotate_left
           ·intro w'
            go_simp
            with_reducible rfl
           rotate_left
           ·simp only [Act.put, List.setIfInBounds_toArray, List.set_cons_zero, List.set_cons_succ, i64_w, i32_w]
            rfl
           refine pure_ (i := 2) (N := some 45) (v := ?_) (a' := ?_) #[true, false, true, false, false, false, false, false, false, false, false] rfl rfl (any_of HT_.out (by kernel_rfl)) (fun _ _ _ h => h) (Or.inl ⟨by rfl, ?_⟩) ?_ ?_
           rotate_left
           ·intro w'
            go_simp
            with_reducible rfl
           rotate_left
           ·simp only [Act.put, List.setIfInBounds_toArray, List.set_cons_zero, List.set_cons_succ, i64_w, i32_w]
            rfl
           refine pure_ (i := 5) (N := some 48) (v := ?_) (a' := ?_) #[true, false, true, false, false, true, false, false, false, false, false] rfl rfl (any_of HT_.out (by kernel_rfl)) (fun _ _ _ h => h) (Or.inl ⟨by rfl, ?_⟩) ?_ ?_
           rotate_left
           ·intro w'
            go_simp
            with_reducible rfl
           rotate_left
           ·simp only [Act.put, List.setIfInBounds_toArray, List.set_cons_zero, List.set_cons_succ, i64_w, i32_w]
            rfl
           refine pure_ (i := 7) (N := some 50) (v := ?_) (a' := ?_) #[true, false, true, false, false, true, false, true, false, false, false] rfl rfl (any_of HT_.out (by kernel_rfl)) (fun _ _ _ h => h) (Or.inl ⟨by rfl, ?_⟩) ?_ ?_
           rotate_left
           ·intro w'
            go_simp
            with_reducible rfl
           rotate_left
           ·simp only [Act.put, List.setIfInBounds_toArray, List.set_cons_zero, List.set_cons_succ, i64_w, i32_w]
            rfl
           refine take_ (i := 1) (N := some 44) (v := ?_) (a' := ?_) #[true, true, true, false, false, true, false, true, false, false, false] rfl rfl (take_ofW HT_.out HW_.out (by kernel_rfl)) (fun _ _ _ h => h) (Or.inl ⟨by rfl, ?_⟩) hHeld ?_ ?_
           rotate_left
           ·rintro w' ⟨s0, s1, s2, s3, s4, s5, s6, s7, s8, s9, s10, s11, s12, s13, s14, s15, s16, s17, s18, s19⟩
            go_simp
            with_reducible rfl
           rotate_left
           ·simp only [Act.put, List.setIfInBounds_toArray, List.set_cons_zero, List.set_cons_succ, i64_w, i32_w]
            rfl
           refine pure_ (i := 3) (N := some 46) (v := ?_) (a' := ?_) #[true, true, true, true, false, true, false, true, false, false, false] rfl rfl (any_of HT_.out (by kernel_rfl)) (fun _ _ _ h => h) (Or.inl ⟨by rfl, ?_⟩) ?_ ?_
           rotate_left
           ·intro w'
            go_simp
            with_reducible rfl
           rotate_left
           ·simp only [Act.put, List.setIfInBounds_toArray, List.set_cons_zero, List.set_cons_succ, i64_w, i32_w]
            rfl
           refine take_ (i := 4) (N := some 47) (v := ?_) (a' := ?_) #[true, true, true, true, true, true, false, true, false, false, false] rfl rfl (take_ofW HT_.out HW_.out (by kernel_rfl)) (fun _ _ _ h => h) (Or.inl ⟨by rfl, ?_⟩) hHeld ?_ ?_
           rotate_left
           ·rintro w' ⟨s0, s1, s2, s3, s4, s5, s6, s7, s8, s9, s10, s11, s12, s13, s14, s15, s16, s17, s18, s19⟩
            go_simp
            with_reducible rfl
           rotate_left
           ·simp only [Act.put, List.setIfInBounds_toArray, List.set_cons_zero, List.set_cons_succ, i64_w, i32_w]
            rfl
           refine take_ (i := 6) (N := some 49) (v := ?_) (a' := ?_) #[true, true, true, true, true, true, true, true, false, false, false] rfl rfl (take_ofW HT_.out HW_.out (by kernel_rfl)) (fun _ _ _ h => h) (Or.inl ⟨by rfl, ?_⟩) hHeld ?_ ?_
           rotate_left
           ·rintro w' ⟨s0, s1, s2, s3, s4, s5, s6, s7, s8, s9, s10, s11, s12, s13, s14, s15, s16, s17, s18, s19⟩
            go_simp
            with_reducible rfl
           rotate_left
           ·simp only [Act.put, List.setIfInBounds_toArray, List.set_cons_zero, List.set_cons_succ, i64_w, i32_w]
            rfl
           refine pure_ (i := 8) (N := some 51) (v := ?_) (a' := ?_) #[true, true, true, true, true, true, true, true, true, false, false] rfl rfl (any_of HT_.out (by kernel_rfl)) (fun _ _ _ h => h) (Or.inl ⟨by rfl, ?_⟩) ?_ ?_
           rotate_left
           ·intro w'
            go_simp
            with_reducible rfl
           rotate_left
           ·simp only [Act.put, List.setIfInBounds_toArray, List.set_cons_zero, List.set_cons_succ, i64_w, i32_w]
            rfl
           refine take_ (i := 9) (N := some 52) (v := ?_) (a' := ?_) #[true, true, true, true, true, true, true, true, true, true, false] rfl rfl (take_ofW HT_.out HW_.out (by kernel_rfl)) (fun _ _ _ h => h) (Or.inl ⟨by rfl, ?_⟩) hHeld ?_ ?_
           rotate_left
           ·rintro w' ⟨s0, s1, s2, s3, s4, s5, s6, s7, s8, s9, s10, s11, s12, s13, s14, s15, s16, s17, s18, s19⟩
            go_simp
            with_reducible rfl
           rotate_left
           ·simp only [Act.put, List.setIfInBounds_toArray, List.set_cons_zero, List.set_cons_succ, i64_w, i32_w]
            rfl
           refine pure_ (i := 10) (N := some 53) (v := ?_) (a' := ?_) #[true, true, true, true, true, true, true, true, true, true, true] rfl rfl (any_of HT_.out (by kernel_rfl)) (fun _ _ _ h => h) (Or.inl ⟨by rfl, ?_⟩) ?_ ?_
           rotate_left
           ·intro w'
            go_simp
            with_reducible rfl
           rotate_left
           ·simp only [Act.put, List.setIfInBounds_toArray, List.set_cons_zero, List.set_cons_succ, i64_w, i32_w]
            rfl
           refine done_ (done_of HT_.out (by kernel_rfl)) ?_
           try go_wp2
           go_roundg k2
           case measure => have := HJ2.out; have := HK2.out; omega
           case rel => exact ⟨(wrap64 (x40_2 + 1)), (by first | rfl | (simp; done) | (simp [*]; done)), H', ⟨by have := HJ2.out; have := HK2.out; omega⟩, ⟨by (with_reducible repeat (first | refine blk_drewN ?_ _ | refine blk_drew ?_ | refine blk_alloc ?_ _)); exact BK209.out⟩, ⟨by (with_reducible repeat (first | refine blk_drewN ?_ _ | refine blk_drew ?_ | refine blk_alloc ?_ _)); exact BK210.out⟩, ⟨by repeat (first | (with_reducible first | exact HB.out | apply below_alloc | apply pw_below_drewN | apply below_drew1 | refine below_set ?_ GE209.out | refine below_set ?_ GE210.out) | exact HB.out)⟩⟩
         ·rw [if_neg c27] at H
          exact absurd H (by simp)
        ·rw [if_neg c26] at H
         exact absurd H (by simp)
       ·rw [if_neg c25] at H
        exact absurd H (by simp)
      ·rw [if_neg c24] at H
       have c24b0 : decide (x40_2 < (l0_2.length : Int)) = false := decide_eq_false c24
       clear c24
       have H' := Aside0.mk H
       clear H
       have hnb31 := NB209_210.out
       have hnc31 := NB210_209.out
       have hcz32_0 : wr.cell? ⟨gb209, 0, none⟩ = some (.string a0_0) := (blk_cell BK209.out 0).trans rfl
       have hcz32_1 : wr.cell? ⟨gb209, 1, none⟩ = some (.int .i64 a0_1) := (blk_cell BK209.out 1).trans rfl
       have hcz32_2 : wr.cell? ⟨gb209, 2, none⟩ = some (.slice A0_2 l0_2.length c0_2) := (blk_cell BK209.out 2).trans rfl
       have hcz32_3 : wr.cell? ⟨gb209, 3, none⟩ = some (.slice A0_3 l0_3.length c0_3) := (blk_cell BK209.out 3).trans rfl
       have hfz32_0 := blk_frozen BK209.out 0
       have hfz32_1 := blk_frozen BK209.out 1
       have hfz32_2 := blk_frozen BK209.out 2
       have hfz32_3 := blk_frozen BK209.out 3
       go_wp2
       go_loopg [58] k2 (fun kq v58 w' => ∃ (x58_3 : Int), v58 = .int .i64 x58_3 ∧ Aside0 (mortmainref09_SameTable.l1 kq (l0_3.length : Int) x58_3 a0_0 a0_1 l0_2 l0_3 a1_0 a1_1 l1_2 l1_3 = some r) ∧ Aside0 (kq ≤ k2) ∧ Aside0 (w'.heap[gb209]? = some (.cells #[.string a0_0, .int .i64 a0_1, (.slice A0_2 l0_2.length c0_2), (.slice A0_3 l0_3.length c0_3)] 45 (0, 0))) ∧ Aside0 (w'.heap[gb210]? = some (.cells #[.string a1_0, .int .i64 a1_1, (.slice A1_2 l1_2.length c1_2), (.slice A1_3 l1_3.length c1_3)] 45 (0, 0))) ∧ Aside0 (Below w.heap.size w w'))
       case atStart => exact ⟨(0), (by first | rfl | (simp; done) | (simp [*]; done)), H', ⟨Nat.le_refl _⟩, ⟨by (with_reducible repeat (first | refine blk_drewN ?_ _ | refine blk_drew ?_ | refine blk_alloc ?_ _)); exact BK209.out⟩, ⟨by (with_reducible repeat (first | refine blk_drewN ?_ _ | refine blk_drew ?_ | refine blk_alloc ?_ _)); exact BK210.out⟩, ⟨by repeat (first | (with_reducible first | exact HB.out | apply below_alloc | apply pw_below_drewN | apply below_drew1 | refine below_set ?_ GE209.out | refine below_set ?_ GE210.out) | exact HB.out)⟩⟩
       case round =>
        clear H'
        try clear c1
        try clear c2
        try clear p2
        try clear q2
        try clear hx2
        try clear c3
        try clear c6
        try clear c6b0
        try clear c6b1
        try clear p6
        try clear c7
        try clear c7b0
        try clear c7b1
        try clear c8
        try clear c8b0
        try clear c8b1
        try clear c8b2
        try clear c9
        try clear c12
        try clear c15
        try clear c18
        try clear c21
        try clear p21
        try clear q21
        try clear hx21
        try clear c22
        try clear c24
        try clear c24b0
        try clear c25
        try clear c25b0
        try clear c26
        try clear c26b0
        try clear c27
        try clear c27b0
        try clear c28
        try clear c28b0
        try clear c31
        try clear hcz10_0
        try clear hcz10_1
        try clear hcz10_2
        try clear hcz10_3
        try clear hcz11_0
        try clear hcz11_1
        try clear hcz11_2
        try clear hcz11_3
        try clear hcz13_0
        try clear hcz13_1
        try clear hcz13_2
        try clear hcz13_3
        try clear hcz14_0
        try clear hcz14_1
        try clear hcz14_2
        try clear hcz14_3
        try clear hcz16_0
        try clear hcz16_1
        try clear hcz16_2
        try clear hcz16_3
        try clear hcz17_0
        try clear hcz17_1
        try clear hcz17_2
        try clear hcz17_3
        try clear hcz19_0
        try clear hcz19_1
        try clear hcz19_2
        try clear hcz19_3
        try clear hcz20_0
        try clear hcz20_1
        try clear hcz20_2
        try clear hcz20_3
        try clear hcz23_0
        try clear hcz23_1
        try clear hcz23_2
        try clear hcz23_3
        try clear hcz32_0
        try clear hcz32_1
        try clear hcz32_2
        try clear hcz32_3
        try clear hfz10_0
        try clear hfz10_1
        try clear hfz10_2
        try clear hfz10_3
        try clear hfz11_0
        try clear hfz11_1
        try clear hfz11_2
        try clear hfz11_3
        try clear hfz13_0
        try clear hfz13_1
        try clear hfz13_2
        try clear hfz13_3
        try clear hfz14_0
        try clear hfz14_1
        try clear hfz14_2
        try clear hfz14_3
        try clear hfz16_0
        try clear hfz16_1
        try clear hfz16_2
        try clear hfz16_3
        try clear hfz17_0
        try clear hfz17_1
        try clear hfz17_2
        try clear hfz17_3
        try clear hfz19_0
        try clear hfz19_1
        try clear hfz19_2
        try clear hfz19_3
        try clear hfz20_0
        try clear hfz20_1
        try clear hfz20_2
        try clear hfz20_3
        try clear hfz23_0
        try clear hfz23_1
        try clear hfz23_2
        try clear hfz23_3
        try clear hfz32_0
        try clear hfz32_1
        try clear hfz32_2
        try clear hfz32_3
        try clear hx211_0
        try clear hx211_1
        try clear hx211_2
        try clear hx211_3
        try clear hx211_4
        try clear hx211_5
        try clear hx212_0
        try clear hx212_1
        try clear hx212_2
        try clear hx212_3
        try clear hx212_4
        try clear hx212_5
        try clear p2
        try clear p211
        try clear p212
        try clear q211
        try clear q212
        obtain ⟨x58_3, rfl, HA, HK3, BK209, BK210, HB⟩ := hrel
        cases gk with
        | zero => exact absurd HA.out (by simp [mortmainref09_SameTable.l1])
        | succ k3 =>
         have H := HA.out
         clear HA
         simp only [mortmainref09_SameTable.l1] at H
         by_cases c33 : x58_3 < (l0_3.length : Int)
         ·rw [if_pos c33] at H
          have c33b0 : decide (x58_3 < (l0_3.length : Int)) = true := decide_eq_true c33
          clear c33
          by_cases c34 : 0 ≤ x58_3
          ·rw [if_pos c34] at H
           have c34b0 : decide (0 ≤ x58_3) = true := decide_eq_true c34
           clear c34
           by_cases c35 : x58_3 < (l0_3.length : Int)
           ·rw [if_pos c35] at H
            have c35b0 : decide (x58_3 < (l0_3.length : Int)) = true := decide_eq_true c35
            clear c35
            by_cases c36 : x58_3 < (l1_3.length : Int)
            ·rw [if_pos c36] at H
             have c36b0 : decide (x58_3 < (l1_3.length : Int)) = true := decide_eq_true c36
             clear c36
             replace H := Option.bind_eq_some_iff.mp H
             obtain ⟨t215, A370, H⟩ := H
             replace H : (if t215 = true then (mortmainref09_SameTable.l1 k3 (l0_3.length : Int) (wrap64 (x58_3 + 1)) a0_0 a0_1 l0_2 l0_3 a1_0 a1_1 l1_2 l1_3) else (some false)) = some r := H
             have A37 := Aside0.mk A370
             clear A370
             by_cases c38 : t215 = true
             ·subst c38
              have H1 : (mortmainref09_SameTable.l1 k3 (l0_3.length : Int) (wrap64 (x58_3 + 1)) a0_0 a0_1 l0_2 l0_3 a1_0 a1_1 l1_2 l1_3) = some r := by rw [if_pos rfl] at H; exact H
              clear H
              have H := H1
              clear H1
              have H' := Aside0.mk H
              clear H
              try go_wp2
              have n0_ := Aside0.mk (blk_drew BK209.out)
              have n1_ := Aside0.mk (blk_drew BK210.out)
              have n2_ := Aside0.mk (below_drew1 HB.out)
              clear BK209
              clear BK210
              clear HB
              have BK209 := n0_
              have BK210 := n1_
              have HB := n2_
              clear n0_ n1_ n2_
              have p213 : 0 ≤ (x58_3 : Int) := of_decide_eq_true (by first | (with_reducible assumption) | assumption)
              have q213 : x58_3 < (l0_3.length : Int) := of_decide_eq_true (by first | (with_reducible assumption) | assumption)
              obtain ⟨ad213, A213_5, c213_5, e213, hx213_0, hx213_1, hx213_2, hx213_3, hx213_4, hx213_5, hl213_5, hi213_5⟩ := at_T72 HR0_3.out x58_3 p213 q213
              have hw213_5 := hx213_5
              have hw213_4 := hx213_4
              have hw213_3 := hx213_3
              have hw213_2 := hx213_2
              have hw213_1 := hx213_1
              have hw213_0 := hx213_0
              cases e213
              replace hx213_0 := (HB.out.cell (World.block_lt_of_cell? w _ hx213_0)).trans hx213_0
              replace hx213_1 := (HB.out.cell (World.block_lt_of_cell? w _ hx213_1)).trans hx213_1
              replace hx213_2 := (HB.out.cell (World.block_lt_of_cell? w _ hx213_2)).trans hx213_2
              replace hx213_3 := (HB.out.cell (World.block_lt_of_cell? w _ hx213_3)).trans hx213_3
              replace hx213_4 := (HB.out.cell (World.block_lt_of_cell? w _ hx213_4)).trans hx213_4
              replace hx213_5 := (HB.out.cell (World.block_lt_of_cell? w _ hx213_5)).trans hx213_5
              have HR213_5 := Aside0.mk hi213_5
              have HC213_5 := Aside0.mk hl213_5
              clear hi213_5 hl213_5
              replace p213 := eq_true p213
              replace q213 := eq_true q213
              have p214 : 0 ≤ (x58_3 : Int) := of_decide_eq_true (by first | (with_reducible assumption) | assumption)
              have q214 : x58_3 < (l1_3.length : Int) := of_decide_eq_true (by first | (with_reducible assumption) | assumption)
              obtain ⟨ad214, A214_5, c214_5, e214, hx214_0, hx214_1, hx214_2, hx214_3, hx214_4, hx214_5, hl214_5, hi214_5⟩ := at_T72 HR1_3.out x58_3 p214 q214
              have hw214_5 := hx214_5
              have hw214_4 := hx214_4
              have hw214_3 := hx214_3
              have hw214_2 := hx214_2
              have hw214_1 := hx214_1
              have hw214_0 := hx214_0
              cases e214
              replace hx214_0 := (HB.out.cell (World.block_lt_of_cell? w _ hx214_0)).trans hx214_0
              replace hx214_1 := (HB.out.cell (World.block_lt_of_cell? w _ hx214_1)).trans hx214_1
              replace hx214_2 := (HB.out.cell (World.block_lt_of_cell? w _ hx214_2)).trans hx214_2
              replace hx214_3 := (HB.out.cell (World.block_lt_of_cell? w _ hx214_3)).trans hx214_3
              replace hx214_4 := (HB.out.cell (World.block_lt_of_cell? w _ hx214_4)).trans hx214_4
              replace hx214_5 := (HB.out.cell (World.block_lt_of_cell? w _ hx214_5)).trans hx214_5
              have HR214_5 := Aside0.mk hi214_5
              have HC214_5 := Aside0.mk hl214_5
              clear hi214_5 hl214_5
              replace p214 := eq_true p214
              replace q214 := eq_true q214
              refine start_ (n := 12) (S := fun w' => w'.cell? ⟨gb209, 0, none⟩ = some (.string a0_0) ∧ w'.cell? ⟨gb209, 1, none⟩ = some (.int .i64 a0_1) ∧ w'.cell? ⟨gb209, 2, none⟩ = some (.slice A0_2 l0_2.length c0_2) ∧ w'.cell? ⟨gb209, 3, none⟩ = some (.slice (some ad213) l0_3.length c0_3) ∧ w'.cell? ⟨gb210, 0, none⟩ = some (.string a1_0) ∧ w'.cell? ⟨gb210, 1, none⟩ = some (.int .i64 a1_1) ∧ w'.cell? ⟨gb210, 2, none⟩ = some (.slice A1_2 l1_2.length c1_2) ∧ w'.cell? ⟨gb210, 3, none⟩ = some (.slice (some ad214) l1_3.length c1_3) ∧ w'.cell? (ad213.add ((x58_3).toNat * 6)) = some (.int .i64 ((rd_T72 l0_3 x58_3).f0)) ∧ w'.cell? ⟨(ad213.add ((x58_3).toNat * 6)).block, (ad213.add ((x58_3).toNat * 6)).off + 1, none⟩ = some (.int .i64 ((rd_T72 l0_3 x58_3).f1)) ∧ w'.cell? ⟨(ad213.add ((x58_3).toNat * 6)).block, (ad213.add ((x58_3).toNat * 6)).off + 2, none⟩ = some (.int .i64 ((rd_T72 l0_3 x58_3).f2.f0)) ∧ w'.cell? ⟨(ad213.add ((x58_3).toNat * 6)).block, (ad213.add ((x58_3).toNat * 6)).off + 3, none⟩ = some (.int .i64 ((rd_T72 l0_3 x58_3).f2.f1)) ∧ w'.cell? ⟨(ad213.add ((x58_3).toNat * 6)).block, (ad213.add ((x58_3).toNat * 6)).off + 4, none⟩ = some (.string ((rd_T72 l0_3 x58_3).f2.f2)) ∧ w'.cell? ⟨(ad213.add ((x58_3).toNat * 6)).block, (ad213.add ((x58_3).toNat * 6)).off + 5, none⟩ = some (.slice A213_5 ((rd_T72 l0_3 x58_3).f3).length c213_5) ∧ w'.cell? (ad214.add ((x58_3).toNat * 6)) = some (.int .i64 ((rd_T72 l1_3 x58_3).f0)) ∧ w'.cell? ⟨(ad214.add ((x58_3).toNat * 6)).block, (ad214.add ((x58_3).toNat * 6)).off + 1, none⟩ = some (.int .i64 ((rd_T72 l1_3 x58_3).f1)) ∧ w'.cell? ⟨(ad214.add ((x58_3).toNat * 6)).block, (ad214.add ((x58_3).toNat * 6)).off + 2, none⟩ = some (.int .i64 ((rd_T72 l1_3 x58_3).f2.f0)) ∧ w'.cell? ⟨(ad214.add ((x58_3).toNat * 6)).block, (ad214.add ((x58_3).toNat * 6)).off + 3, none⟩ = some (.int .i64 ((rd_T72 l1_3 x58_3).f2.f1)) ∧ w'.cell? ⟨(ad214.add ((x58_3).toNat * 6)).block, (ad214.add ((x58_3).toNat * 6)).off + 4, none⟩ = some (.string ((rd_T72 l1_3 x58_3).f2.f2)) ∧ w'.cell? ⟨(ad214.add ((x58_3).toNat * 6)).block, (ad214.add ((x58_3).toNat * 6)).off + 5, none⟩ = some (.slice A214_5 ((rd_T72 l1_3 x58_3).f3).length c214_5)) (ds := []) #[false, false, false, false, false, false, false, false, false, false, false, false] (by kernel_rfl) rfl rfl ⟨(blk_cell BK209.out 0).trans rfl, (blk_cell BK209.out 1).trans rfl, (blk_cell BK209.out 2).trans rfl, (blk_cell BK209.out 3).trans rfl, (blk_cell BK210.out 0).trans rfl, (blk_cell BK210.out 1).trans rfl, (blk_cell BK210.out 2).trans rfl, (blk_cell BK210.out 3).trans rfl, ((HB.out.cell (World.block_lt_of_cell? w _ hw213_0)).trans hw213_0), ((HB.out.cell (World.block_lt_of_cell? w _ hw213_1)).trans hw213_1), ((HB.out.cell (World.block_lt_of_cell? w _ hw213_2)).trans hw213_2), ((HB.out.cell (World.block_lt_of_cell? w _ hw213_3)).trans hw213_3), ((HB.out.cell (World.block_lt_of_cell? w _ hw213_4)).trans hw213_4), ((HB.out.cell (World.block_lt_of_cell? w _ hw213_5)).trans hw213_5), ((HB.out.cell (World.block_lt_of_cell? w _ hw214_0)).trans hw214_0), ((HB.out.cell (World.block_lt_of_cell? w _ hw214_1)).trans hw214_1), ((HB.out.cell (World.block_lt_of_cell? w _ hw214_2)).trans hw214_2), ((HB.out.cell (World.block_lt_of_cell? w _ hw214_3)).trans hw214_3), ((HB.out.cell (World.block_lt_of_cell? w _ hw214_4)).trans hw214_4), ((HB.out.cell (World.block_lt_of_cell? w _ hw214_5)).trans hw214_5)⟩ (fun hHeld => ?_); refine with_tabW mortmainref09_SameTable.tab12 mortmainref09_SameTable.bits12 (fun HT_ HW_ => ?_)
              generalize wr.drew = w39 at BK209 BK210 HB HR213_5 HR214_5 hx213_0 hx213_1 hx213_2 hx213_3 hx213_4 hx213_5 hx214_0 hx214_1 hx214_2 hx214_3 hx214_4 hx214_5 hHeld ⊢
              refine pure_ (i := 0) (N := some 61) (v := ?_) (a' := ?_) #[true, false, false, false, false, false, false, false, false, false, false, false] rfl rfl (any_of HT_.out (by kernel_rfl)) (fun _ _ _ h => h) (Or.inl ⟨by rfl, ?_⟩) ?_ ?_
              rotate_left
              ·intro w'
               go_simp
               with_reducible rfl
              rotate_left
              ·simp only [Act.put, List.setIfInBounds_toArray, List.set_cons_zero, List.set_cons_succ, i64_w, i32_w]
               rfl
              refine pure_ (i := 2) (N := some 63) (v := ?_) (a' := ?_) #[true, false, true, false, false, false, false, false, false, false, false, false] rfl rfl (any_of HT_.out (by kernel_rfl)) (fun _ _ _ h => h) (Or.inl ⟨by rfl, ?_⟩) ?_ ?_
              rotate_left
              ·intro w'
               go_simp
               with_reducible rfl
              rotate_left
              ·simp only [Act.put, List.setIfInBounds_toArray, List.set_cons_zero, List.set_cons_succ, i64_w, i32_w]
               rfl
              refine pure_ (i := 5) (N := some 66) (v := ?_) (a' := ?_) #[true, false, true, false, false, true, false, false, false, false, false, false] rfl rfl (any_of HT_.out (by kernel_rfl)) (fun _ _ _ h => h) (Or.inl ⟨by rfl, ?_⟩) ?_ ?_
              rotate_left
              ·intro w'
               go_simp
               with_reducible rfl
              rotate_left
              ·simp only [Act.put, List.setIfInBounds_toArray, List.set_cons_zero, List.set_cons_succ, i64_w, i32_w]
               rfl
              refine pure_ (i := 7) (N := some 68) (v := ?_) (a' := ?_) #[true, false, true, false, false, true, false, true, false, false, false, false] rfl rfl (any_of HT_.out (by kernel_rfl)) (fun _ _ _ h => h) (Or.inl ⟨by rfl, ?_⟩) ?_ ?_
              rotate_left
              ·intro w'
               go_simp
               with_reducible rfl
              rotate_left
              ·simp only [Act.put, List.setIfInBounds_toArray, List.set_cons_zero, List.set_cons_succ, i64_w, i32_w]
               rfl
              refine take_ (i := 1) (N := some 62) (v := ?_) (a' := ?_) #[true, true, true, false, false, true, false, true, false, false, false, false] rfl rfl (take_ofW HT_.out HW_.out (by kernel_rfl)) (fun _ _ _ h => h) (Or.inl ⟨by rfl, ?_⟩) hHeld ?_ ?_
              rotate_left
              ·rintro w' ⟨s0, s1, s2, s3, s4, s5, s6, s7, s8, s9, s10, s11, s12, s13, s14, s15, s16, s17, s18, s19⟩
               go_simp
               with_reducible rfl
              rotate_left
              ·simp only [Act.put, List.setIfInBounds_toArray, List.set_cons_zero, List.set_cons_succ, i64_w, i32_w]
               rfl
              refine pure_ (i := 3) (N := some 64) (v := ?_) (a' := ?_) #[true, true, true, true, false, true, false, true, false, false, false, false] rfl rfl (any_of HT_.out (by kernel_rfl)) (fun _ _ _ h => h) (Or.inl ⟨by rfl, ?_⟩) ?_ ?_
              rotate_left
              ·intro w'
               go_simp
               with_reducible rfl
              rotate_left
              ·simp only [Act.put, List.setIfInBounds_toArray, List.set_cons_zero, List.set_cons_succ, i64_w, i32_w]
               rfl
              refine take_ (i := 4) (N := some 65) (v := ?_) (a' := ?_) #[true, true, true, true, true, true, false, true, false, false, false, false] rfl rfl (take_ofW HT_.out HW_.out (by kernel_rfl)) (fun _ _ _ h => h) (Or.inl ⟨by rfl, ?_⟩) hHeld ?_ ?_
              rotate_left
              ·rintro w' ⟨s0, s1, s2, s3, s4, s5, s6, s7, s8, s9, s10, s11, s12, s13, s14, s15, s16, s17, s18, s19⟩
               go_simp
               with_reducible rfl
              rotate_left
              ·simp only [Act.put, List.setIfInBounds_toArray, List.set_cons_zero, List.set_cons_succ, i64_w, i32_w]
               rfl
              refine take_ (i := 6) (N := some 67) (v := ?_) (a' := ?_) #[true, true, true, true, true, true, true, true, false, false, false, false] rfl rfl (take_ofW HT_.out HW_.out (by kernel_rfl)) (fun _ _ _ h => h) (Or.inl ⟨by rfl, ?_⟩) hHeld ?_ ?_
              rotate_left
              ·rintro w' ⟨s0, s1, s2, s3, s4, s5, s6, s7, s8, s9, s10, s11, s12, s13, s14, s15, s16, s17, s18, s19⟩
               go_simp
               with_reducible rfl
              rotate_left
              ·simp only [Act.put, List.setIfInBounds_toArray, List.set_cons_zero, List.set_cons_succ, i64_w, i32_w]
               rfl
              refine pure_ (i := 8) (N := some 69) (v := ?_) (a' := ?_) #[true, true, true, true, true, true, true, true, true, false, false, false] rfl rfl (any_of HT_.out (by kernel_rfl)) (fun _ _ _ h => h) (Or.inl ⟨by rfl, ?_⟩) ?_ ?_
              rotate_left
              ·intro w'
               go_simp
               with_reducible rfl
              rotate_left
              ·simp only [Act.put, List.setIfInBounds_toArray, List.set_cons_zero, List.set_cons_succ, i64_w, i32_w]
               rfl
              refine take_ (i := 9) (N := some 70) (v := ?_) (a' := ?_) #[true, true, true, true, true, true, true, true, true, true, false, false] rfl rfl (take_ofW HT_.out HW_.out (by kernel_rfl)) (fun _ _ _ h => h) (Or.inl ⟨by rfl, ?_⟩) hHeld ?_ ?_
              rotate_left
              ·rintro w' ⟨s0, s1, s2, s3, s4, s5, s6, s7, s8, s9, s10, s11, s12, s13, s14, s15, s16, s17, s18, s19⟩
               go_simp
               with_reducible rfl
              rotate_left
              ·simp only [Act.put, List.setIfInBounds_toArray, List.set_cons_zero, List.set_cons_succ, i64_w, i32_w]
               rfl
              refine one_ (i := 10) (N := some 71) #[true, true, true, true, true, true, true, true, true, true, true, false] rfl rfl (one_of HT_.out (by kernel_rfl)) (by decide) (fun K hK => ?_)
              refine goes_ Tryd.func54 (by kernel_rfl) rfl #[.agg #[.int .i64 ((rd_T72 l0_3 x58_3).f0), .int .i64 ((rd_T72 l0_3 x58_3).f1), .int .i64 ((rd_T72 l0_3 x58_3).f2.f0), .int .i64 ((rd_T72 l0_3 x58_3).f2.f1), .string ((rd_T72 l0_3 x58_3).f2.f2), .slice A213_5 ((rd_T72 l0_3 x58_3).f3).length c213_5], .agg #[.int .i64 ((rd_T72 l1_3 x58_3).f0), .int .i64 ((rd_T72 l1_3 x58_3).f1), .int .i64 ((rd_T72 l1_3 x58_3).f2.f0), .int .i64 ((rd_T72 l1_3 x58_3).f2.f1), .string ((rd_T72 l1_3 x58_3).f2.f2), .slice A214_5 ((rd_T72 l1_3 x58_3).f3).length c214_5]] (by rfl) rfl rfl (by (try simp only [List.map_toArray, List.map_cons, List.map_nil]); first | done | rfl | (simp only [List.length_drop, List.length_take]; rfl)) ?_
              with_reducible refine (mortmainref09_sameExpr.calls k3 ((rd_T72 l0_3 x58_3).f0) ((rd_T72 l0_3 x58_3).f1) ((rd_T72 l0_3 x58_3).f2.f0) ((rd_T72 l0_3 x58_3).f2.f1) ((rd_T72 l0_3 x58_3).f2.f2) _ _ ((rd_T72 l0_3 x58_3).f3) ((rd_T72 l1_3 x58_3).f0) ((rd_T72 l1_3 x58_3).f1) ((rd_T72 l1_3 x58_3).f2.f0) ((rd_T72 l1_3 x58_3).f2.f1) ((rd_T72 l1_3 x58_3).f2.f2) _ _ ((rd_T72 l1_3 x58_3).f3) true _ ?side1 ?side2 ?side3 ?side4 A37.out).mono ?_
              (case side1 => repeat (first | exact (Kd.C_below HR213_5.out HB.out) | (with_reducible refine Kd.C_alloc ?_ _) | (with_reducible refine Kd.C_drewN ?_ _) | (with_reducible refine Kd.C_drew ?_)))
              (case side2 => exact HC213_5.out)
              (case side3 => repeat (first | exact (Kd.C_below HR214_5.out HB.out) | (with_reducible refine Kd.C_alloc ?_ _) | (with_reducible refine Kd.C_drewN ?_ _) | (with_reducible refine Kd.C_drew ?_)))
              (case side4 => exact HC214_5.out)
              rintro e w40 ⟨rfl, hb⟩
              refine ⟨_, rfl, ?_⟩
              have n0_ := Aside0.mk (blk_below (g := gb209) (o := .cells #[.string a0_0, .int .i64 a0_1, .slice A0_2 l0_2.length c0_2, .slice (some ad213) l0_3.length c0_3] 45 (0, 0)) (by (with_reducible repeat (first | refine blk_drewN ?_ _ | refine blk_drew ?_ | refine blk_alloc ?_ _)); exact BK209.out) hb)
              have n1_ := Aside0.mk (blk_below (g := gb210) (o := .cells #[.string a1_0, .int .i64 a1_1, .slice A1_2 l1_2.length c1_2, .slice (some ad214) l1_3.length c1_3] 45 (0, 0)) (by (with_reducible repeat (first | refine blk_drewN ?_ _ | refine blk_drew ?_ | refine blk_alloc ?_ _)); exact BK210.out) hb)
              have n2_ := Aside0.mk (below_step (by repeat (first | (with_reducible first | exact HB.out | apply below_alloc | apply pw_below_drewN | apply below_drew1 | refine below_set ?_ GE209.out | refine below_set ?_ GE210.out) | exact HB.out)) hb)
              clear BK209
              clear BK210
              clear HB
              have BK209 := n0_
              have BK210 := n1_
              have HB := n2_
              clear n0_ n1_ n2_
              (try clear hb)
              (try clear hb2)
              (try clear hk)
              (try clear hi)
              refine hK.out _ _ ⟨(blk_cell BK209.out 0).trans rfl, (blk_cell BK209.out 1).trans rfl, (blk_cell BK209.out 2).trans rfl, (blk_cell BK209.out 3).trans rfl, (blk_cell BK210.out 0).trans rfl, (blk_cell BK210.out 1).trans rfl, (blk_cell BK210.out 2).trans rfl, (blk_cell BK210.out 3).trans rfl, ((HB.out.cell (World.block_lt_of_cell? w _ hw213_0)).trans hw213_0), ((HB.out.cell (World.block_lt_of_cell? w _ hw213_1)).trans hw213_1), ((HB.out.cell (World.block_lt_of_cell? w _ hw213_2)).trans hw213_2), ((HB.out.cell (World.block_lt_of_cell? w _ hw213_3)).trans hw213_3), ((HB.out.cell (World.block_lt_of_cell? w _ hw213_4)).trans hw213_4), ((HB.out.cell (World.block_lt_of_cell? w _ hw213_5)).trans hw213_5), ((HB.out.cell (World.block_lt_of_cell? w _ hw214_0)).trans hw214_0), ((HB.out.cell (World.block_lt_of_cell? w _ hw214_1)).trans hw214_1), ((HB.out.cell (World.block_lt_of_cell? w _ hw214_2)).trans hw214_2), ((HB.out.cell (World.block_lt_of_cell? w _ hw214_3)).trans hw214_3), ((HB.out.cell (World.block_lt_of_cell? w _ hw214_4)).trans hw214_4), ((HB.out.cell (World.block_lt_of_cell? w _ hw214_5)).trans hw214_5)⟩ (fun hHeld => ?_)
              clear hK K
              refine norm_ (a' := ?_) ?_ ?_
              rotate_left
              ·show Act.put _ (some 71) _ = _
               simp only [Act.put, List.setIfInBounds_toArray, List.set_cons_zero, List.set_cons_succ, i64_w, i32_w]
               rfl
              refine pure_ (i := 11) (N := some 72) (v := ?_) (a' := ?_) #[true, true, true, true, true, true, true, true, true, true, true, true] rfl rfl (any_of HT_.out (by kernel_rfl)) (fun _ _ _ h => h) (Or.inl ⟨by rfl, ?_⟩) ?_ ?_
              rotate_left
              ·intro w'
               go_simp
               with_reducible rfl
              rotate_left
              ·simp only [Act.put, List.setIfInBounds_toArray, List.set_cons_zero, List.set_cons_succ, i64_w, i32_w]
               rfl
              refine done_ (done_of HT_.out (by kernel_rfl)) ?_
              try go_wp2
              go_roundg k3
              case measure => have := HJ2.out; have := HK2.out; have := HK3.out; omega
              case rel => exact ⟨(wrap64 (x58_3 + 1)), (by first | rfl | (simp; done) | (simp [*]; done)), H', ⟨by have := HJ2.out; have := HK2.out; have := HK3.out; omega⟩, ⟨by (with_reducible repeat (first | refine blk_drewN ?_ _ | refine blk_drew ?_ | refine blk_alloc ?_ _)); exact BK209.out⟩, ⟨by (with_reducible repeat (first | refine blk_drewN ?_ _ | refine blk_drew ?_ | refine blk_alloc ?_ _)); exact BK210.out⟩, ⟨by repeat (first | (with_reducible first | exact HB.out | apply below_alloc | apply pw_below_drewN | apply below_drew1 | refine below_set ?_ GE209.out | refine below_set ?_ GE210.out) | exact HB.out)⟩⟩
             ·replace c38 := Bool.eq_false_iff.mpr c38
              subst c38
              have H1 : (some false) = some r := by rw [if_neg (show ¬ (false = true) by decide)] at H; exact H
              clear H
              have H := H1
              clear H1
              obtain rfl := Option.some.inj H
              try go_wp2
              have n0_ := Aside0.mk (blk_drew BK209.out)
              have n1_ := Aside0.mk (blk_drew BK210.out)
              have n2_ := Aside0.mk (below_drew1 HB.out)
              clear BK209
              clear BK210
              clear HB
              have BK209 := n0_
              have BK210 := n1_
              have HB := n2_
              clear n0_ n1_ n2_
              have p213 : 0 ≤ (x58_3 : Int) := of_decide_eq_true (by first | (with_reducible assumption) | assumption)
              have q213 : x58_3 < (l0_3.length : Int) := of_decide_eq_true (by first | (with_reducible assumption) | assumption)
              obtain ⟨ad213, A213_5, c213_5, e213, hx213_0, hx213_1, hx213_2, hx213_3, hx213_4, hx213_5, hl213_5, hi213_5⟩ := at_T72 HR0_3.out x58_3 p213 q213
              have hw213_5 := hx213_5
              have hw213_4 := hx213_4
              have hw213_3 := hx213_3
              have hw213_2 := hx213_2
              have hw213_1 := hx213_1
              have hw213_0 := hx213_0
              cases e213
              replace hx213_0 := (HB.out.cell (World.block_lt_of_cell? w _ hx213_0)).trans hx213_0
              replace hx213_1 := (HB.out.cell (World.block_lt_of_cell? w _ hx213_1)).trans hx213_1
              replace hx213_2 := (HB.out.cell (World.block_lt_of_cell? w _ hx213_2)).trans hx213_2
              replace hx213_3 := (HB.out.cell (World.block_lt_of_cell? w _ hx213_3)).trans hx213_3
              replace hx213_4 := (HB.out.cell (World.block_lt_of_cell? w _ hx213_4)).trans hx213_4
              replace hx213_5 := (HB.out.cell (World.block_lt_of_cell? w _ hx213_5)).trans hx213_5
              have HR213_5 := Aside0.mk hi213_5
              have HC213_5 := Aside0.mk hl213_5
              clear hi213_5 hl213_5
              replace p213 := eq_true p213
              replace q213 := eq_true q213
              have p214 : 0 ≤ (x58_3 : Int) := of_decide_eq_true (by first | (with_reducible assumption) | assumption)
              have q214 : x58_3 < (l1_3.length : Int) := of_decide_eq_true (by first | (with_reducible assumption) | assumption)
              obtain ⟨ad214, A214_5, c214_5, e214, hx214_0, hx214_1, hx214_2, hx214_3, hx214_4, hx214_5, hl214_5, hi214_5⟩ := at_T72 HR1_3.out x58_3 p214 q214
              have hw214_5 := hx214_5
              have hw214_4 := hx214_4
              have hw214_3 := hx214_3
              have hw214_2 := hx214_2
              have hw214_1 := hx214_1
              have hw214_0 := hx214_0
              cases e214
              replace hx214_0 := (HB.out.cell (World.block_lt_of_cell? w _ hx214_0)).trans hx214_0
              replace hx214_1 := (HB.out.cell (World.block_lt_of_cell? w _ hx214_1)).trans hx214_1
              replace hx214_2 := (HB.out.cell (World.block_lt_of_cell? w _ hx214_2)).trans hx214_2
              replace hx214_3 := (HB.out.cell (World.block_lt_of_cell? w _ hx214_3)).trans hx214_3
              replace hx214_4 := (HB.out.cell (World.block_lt_of_cell? w _ hx214_4)).trans hx214_4
              replace hx214_5 := (HB.out.cell (World.block_lt_of_cell? w _ hx214_5)).trans hx214_5
              have HR214_5 := Aside0.mk hi214_5
              have HC214_5 := Aside0.mk hl214_5
              clear hi214_5 hl214_5
              replace p214 := eq_true p214
              replace q214 := eq_true q214
              refine start_ (n := 12) (S := fun w' => w'.cell? ⟨gb209, 0, none⟩ = some (.string a0_0) ∧ w'.cell? ⟨gb209, 1, none⟩ = some (.int .i64 a0_1) ∧ w'.cell? ⟨gb209, 2, none⟩ = some (.slice A0_2 l0_2.length c0_2) ∧ w'.cell? ⟨gb209, 3, none⟩ = some (.slice (some ad213) l0_3.length c0_3) ∧ w'.cell? ⟨gb210, 0, none⟩ = some (.string a1_0) ∧ w'.cell? ⟨gb210, 1, none⟩ = some (.int .i64 a1_1) ∧ w'.cell? ⟨gb210, 2, none⟩ = some (.slice A1_2 l1_2.length c1_2) ∧ w'.cell? ⟨gb210, 3, none⟩ = some (.slice (some ad214) l1_3.length c1_3) ∧ w'.cell? (ad213.add ((x58_3).toNat * 6)) = some (.int .i64 ((rd_T72 l0_3 x58_3).f0)) ∧ w'.cell? ⟨(ad213.add ((x58_3).toNat * 6)).block, (ad213.add ((x58_3).toNat * 6)).off + 1, none⟩ = some (.int .i64 ((rd_T72 l0_3 x58_3).f1)) ∧ w'.cell? ⟨(ad213.add ((x58_3).toNat * 6)).block, (ad213.add ((x58_3).toNat * 6)).off + 2, none⟩ = some (.int .i64 ((rd_T72 l0_3 x58_3).f2.f0)) ∧ w'.cell? ⟨(ad213.add ((x58_3).toNat * 6)).block, (ad213.add ((x58_3).toNat * 6)).off + 3, none⟩ = some (.int .i64 ((rd_T72 l0_3 x58_3).f2.f1)) ∧ w'.cell? ⟨(ad213.add ((x58_3).toNat * 6)).block, (ad213.add ((x58_3).toNat * 6)).off + 4, none⟩ = some (.string ((rd_T72 l0_3 x58_3).f2.f2)) ∧ w'.cell? ⟨(ad213.add ((x58_3).toNat * 6)).block, (ad213.add ((x58_3).toNat * 6)).off + 5, none⟩ = some (.slice A213_5 ((rd_T72 l0_3 x58_3).f3).length c213_5) ∧ w'.cell? (ad214.add ((x58_3).toNat * 6)) = some (.int .i64 ((rd_T72 l1_3 x58_3).f0)) ∧ w'.cell? ⟨(ad214.add ((x58_3).toNat * 6)).block, (ad214.add ((x58_3).toNat * 6)).off + 1, none⟩ = some (.int .i64 ((rd_T72 l1_3 x58_3).f1)) ∧ w'.cell? ⟨(ad214.add ((x58_3).toNat * 6)).block, (ad214.add ((x58_3).toNat * 6)).off + 2, none⟩ = some (.int .i64 ((rd_T72 l1_3 x58_3).f2.f0)) ∧ w'.cell? ⟨(ad214.add ((x58_3).toNat * 6)).block, (ad214.add ((x58_3).toNat * 6)).off + 3, none⟩ = some (.int .i64 ((rd_T72 l1_3 x58_3).f2.f1)) ∧ w'.cell? ⟨(ad214.add ((x58_3).toNat * 6)).block, (ad214.add ((x58_3).toNat * 6)).off + 4, none⟩ = some (.string ((rd_T72 l1_3 x58_3).f2.f2)) ∧ w'.cell? ⟨(ad214.add ((x58_3).toNat * 6)).block, (ad214.add ((x58_3).toNat * 6)).off + 5, none⟩ = some (.slice A214_5 ((rd_T72 l1_3 x58_3).f3).length c214_5)) (ds := []) #[false, false, false, false, false, false, false, false, false, false, false, false] (by kernel_rfl) rfl rfl ⟨(blk_cell BK209.out 0).trans rfl, (blk_cell BK209.out 1).trans rfl, (blk_cell BK209.out 2).trans rfl, (blk_cell BK209.out 3).trans rfl, (blk_cell BK210.out 0).trans rfl, (blk_cell BK210.out 1).trans rfl, (blk_cell BK210.out 2).trans rfl, (blk_cell BK210.out 3).trans rfl, ((HB.out.cell (World.block_lt_of_cell? w _ hw213_0)).trans hw213_0), ((HB.out.cell (World.block_lt_of_cell? w _ hw213_1)).trans hw213_1), ((HB.out.cell (World.block_lt_of_cell? w _ hw213_2)).trans hw213_2), ((HB.out.cell (World.block_lt_of_cell? w _ hw213_3)).trans hw213_3), ((HB.out.cell (World.block_lt_of_cell? w _ hw213_4)).trans hw213_4), ((HB.out.cell (World.block_lt_of_cell? w _ hw213_5)).trans hw213_5), ((HB.out.cell (World.block_lt_of_cell? w _ hw214_0)).trans hw214_0), ((HB.out.cell (World.block_lt_of_cell? w _ hw214_1)).trans hw214_1), ((HB.out.cell (World.block_lt_of_cell? w _ hw214_2)).trans hw214_2), ((HB.out.cell (World.block_lt_of_cell? w _ hw214_3)).trans hw214_3), ((HB.out.cell (World.block_lt_of_cell? w _ hw214_4)).trans hw214_4), ((HB.out.cell (World.block_lt_of_cell? w _ hw214_5)).trans hw214_5)⟩ (fun hHeld => ?_); refine with_tabW mortmainref09_SameTable.tab12 mortmainref09_SameTable.bits12 (fun HT_ HW_ => ?_)
              generalize wr.drew = w41 at BK209 BK210 HB HR213_5 HR214_5 hx213_0 hx213_1 hx213_2 hx213_3 hx213_4 hx213_5 hx214_0 hx214_1 hx214_2 hx214_3 hx214_4 hx214_5 hHeld ⊢
              refine pure_ (i := 0) (N := some 61) (v := ?_) (a' := ?_) #[true, false, false, false, false, false, false, false, false, false, false, false] rfl rfl (any_of HT_.out (by kernel_rfl)) (fun _ _ _ h => h) (Or.inl ⟨by rfl, ?_⟩) ?_ ?_
              rotate_left
              ·intro w'
               go_simp
               with_reducible rfl
              rotate_left
              ·simp only [Act.put, List.setIfInBounds_toArray, List.set_cons_zero, List.set_cons_succ, i64_w, i32_w]
               rfl
              refine pure_ (i := 2) (N := some 63) (v := ?_) (a' := ?_) #[true, false, true, false, false, false, false, false, false, false, false, false] rfl rfl (any_of HT_.out (by kernel_rfl)) (fun _ _ _ h => h) (Or.inl ⟨by rfl, ?_⟩) ?_ ?_
              rotate_left
              ·intro w'
               go_simp
               with_reducible rfl
              rotate_left
              ·simp only [Act.put, List.setIfInBounds_toArray, List.set_cons_zero, List.set_cons_succ, i64_w, i32_w]
               rfl
              refine pure_ (i := 5) (N := some 66) (v := ?_) (a' := ?_) #[true, false, true, false, false, true, false, false, false, false, false, false] rfl rfl (any_of HT_.out (by kernel_rfl)) (fun _ _ _ h => h) (Or.inl ⟨by rfl, ?_⟩) ?_ ?_
              rotate_left
              ·intro w'
               go_simp
               with_reducible rfl
              rotate_left
              ·simp only [Act.put, List.setIfInBounds_toArray, List.set_cons_zero, List.set_cons_succ, i64_w, i32_w]
               rfl
              refine pure_ (i := 7) (N := some 68) (v := ?_) (a' := ?_) #[true, false, true, false, false, true, false, true, false, false, false, false] rfl rfl (any_of HT_.out (by kernel_rfl)) (fun _ _ _ h => h) (Or.inl ⟨by rfl, ?_⟩) ?_ ?_
              rotate_left
              ·intro w'
               go_simp
               with_reducible rfl
              rotate_left
              ·simp only [Act.put, List.setIfInBounds_toArray, List.set_cons_zero, List.set_cons_succ, i64_w, i32_w]
               rfl
              refine take_ (i := 1) (N := some 62) (v := ?_) (a' := ?_) #[true, true, true, false, false, true, false, true, false, false, false, false] rfl rfl (take_ofW HT_.out HW_.out (by kernel_rfl)) (fun _ _ _ h => h) (Or.inl ⟨by rfl, ?_⟩) hHeld ?_ ?_
              rotate_left
              ·rintro w' ⟨s0, s1, s2, s3, s4, s5, s6, s7, s8, s9, s10, s11, s12, s13, s14, s15, s16, s17, s18, s19⟩
               go_simp
               with_reducible rfl
              rotate_left
              ·simp only [Act.put, List.setIfInBounds_toArray, List.set_cons_zero, List.set_cons_succ, i64_w, i32_w]
               rfl
              refine pure_ (i := 3) (N := some 64) (v := ?_) (a' := ?_) #[true, true, true, true, false, true, false, true, false, false, false, false] rfl rfl (any_of HT_.out (by kernel_rfl)) (fun _ _ _ h => h) (Or.inl ⟨by rfl, ?_⟩) ?_ ?_
              rotate_left
              ·intro w'
               go_simp
               with_reducible rfl
              rotate_left
              ·simp only [Act.put, List.setIfInBounds_toArray, List.set_cons_zero, List.set_cons_succ, i64_w, i32_w]
               rfl
              refine take_ (i := 4) (N := some 65) (v := ?_) (a' := ?_) #[true, true, true, true, true, true, false, true, false, false, false, false] rfl rfl (take_ofW HT_.out HW_.out (by kernel_rfl)) (fun _ _ _ h => h) (Or.inl ⟨by rfl, ?_⟩) hHeld ?_ ?_
              rotate_left
              ·rintro w' ⟨s0, s1, s2, s3, s4, s5, s6, s7, s8, s9, s10, s11, s12, s13, s14, s15, s16, s17, s18, s19⟩
               go_simp
               with_reducible rfl
              rotate_left
              ·simp only [Act.put, List.setIfInBounds_toArray, List.set_cons_zero, List.set_cons_succ, i64_w, i32_w]
               rfl
              refine take_ (i := 6) (N := some 67) (v := ?_) (a' := ?_) #[true, true, true, true, true, true, true, true, false, false, false, false] rfl rfl (take_ofW HT_.out HW_.out (by kernel_rfl)) (fun _ _ _ h => h) (Or.inl ⟨by rfl, ?_⟩) hHeld ?_ ?_
              rotate_left
              ·rintro w' ⟨s0, s1, s2, s3, s4, s5, s6, s7, s8, s9, s10, s11, s12, s13, s14, s15, s16, s17, s18, s19⟩
               go_simp
               with_reducible rfl
              rotate_left
              ·simp only [Act.put, List.setIfInBounds_toArray, List.set_cons_zero, List.set_cons_succ, i64_w, i32_w]
               rfl
              refine pure_ (i := 8) (N := some 69) (v := ?_) (a' := ?_) #[true, true, true, true, true, true, true, true, true, false, false, false] rfl rfl (any_of HT_.out (by kernel_rfl)) (fun _ _ _ h => h) (Or.inl ⟨by rfl, ?_⟩) ?_ ?_
              rotate_left
              ·intro w'
               go_simp
               with_reducible rfl
              rotate_left
              ·simp only [Act.put, List.setIfInBounds_toArray, List.set_cons_zero, List.set_cons_succ, i64_w, i32_w]
               rfl
              refine take_ (i := 9) (N := some 70) (v := ?_) (a' := ?_) #[true, true, true, true, true, true, true, true, true, true, false, false] rfl rfl (take_ofW HT_.out HW_.out (by kernel_rfl)) (fun _ _ _ h => h) (Or.inl ⟨by rfl, ?_⟩) hHeld ?_ ?_
              rotate_left
              ·rintro w' ⟨s0, s1, s2, s3, s4, s5, s6, s7, s8, s9, s10, s11, s12, s13, s14, s15, s16, s17, s18, s19⟩
               go_simp
               with_reducible rfl
              rotate_left
              ·simp only [Act.put, List.setIfInBounds_toArray, List.set_cons_zero, List.set_cons_succ, i64_w, i32_w]
               rfl
              refine one_ (i := 10) (N := some 71) #[true, true, true, true, true, true, true, true, true, true, true, false] rfl rfl (one_of HT_.out (by kernel_rfl)) (by decide) (fun K hK => ?_)
              refine goes_ Tryd.func54 (by kernel_rfl) rfl #[.agg #[.int .i64 ((rd_T72 l0_3 x58_3).f0), .int .i64 ((rd_T72 l0_3 x58_3).f1), .int .i64 ((rd_T72 l0_3 x58_3).f2.f0), .int .i64 ((rd_T72 l0_3 x58_3).f2.f1), .string ((rd_T72 l0_3 x58_3).f2.f2), .slice A213_5 ((rd_T72 l0_3 x58_3).f3).length c213_5], .agg #[.int .i64 ((rd_T72 l1_3 x58_3).f0), .int .i64 ((rd_T72 l1_3 x58_3).f1), .int .i64 ((rd_T72 l1_3 x58_3).f2.f0), .int .i64 ((rd_T72 l1_3 x58_3).f2.f1), .string ((rd_T72 l1_3 x58_3).f2.f2), .slice A214_5 ((rd_T72 l1_3 x58_3).f3).length c214_5]] (by rfl) rfl rfl (by (try simp only [List.map_toArray, List.map_cons, List.map_nil]); first | done | rfl | (simp only [List.length_drop, List.length_take]; rfl)) ?_
              with_reducible refine (mortmainref09_sameExpr.calls k3 ((rd_T72 l0_3 x58_3).f0) ((rd_T72 l0_3 x58_3).f1) ((rd_T72 l0_3 x58_3).f2.f0) ((rd_T72 l0_3 x58_3).f2.f1) ((rd_T72 l0_3 x58_3).f2.f2) _ _ ((rd_T72 l0_3 x58_3).f3) ((rd_T72 l1_3 x58_3).f0) ((rd_T72 l1_3 x58_3).f1) ((rd_T72 l1_3 x58_3).f2.f0) ((rd_T72 l1_3 x58_3).f2.f1) ((rd_T72 l1_3 x58_3).f2.f2) _ _ ((rd_T72 l1_3 x58_3).f3) false _ ?side1 ?side2 ?side3 ?side4 A37.out).mono ?_
              (case side1 => repeat (first | exact (Kd.C_below HR213_5.out HB.out) | (with_reducible refine Kd.C_alloc ?_ _) | (with_reducible refine Kd.C_drewN ?_ _) | (with_reducible refine Kd.C_drew ?_)))
              (case side2 => exact HC213_5.out)
              (case side3 => repeat (first | exact (Kd.C_below HR214_5.out HB.out) | (with_reducible refine Kd.C_alloc ?_ _) | (with_reducible refine Kd.C_drewN ?_ _) | (with_reducible refine Kd.C_drew ?_)))
              (case side4 => exact HC214_5.out)
              rintro e w42 ⟨rfl, hb⟩
              refine ⟨_, rfl, ?_⟩
              have n0_ := Aside0.mk (blk_below (g := gb209) (o := .cells #[.string a0_0, .int .i64 a0_1, .slice A0_2 l0_2.length c0_2, .slice (some ad213) l0_3.length c0_3] 45 (0, 0)) (by (with_reducible repeat (first | refine blk_drewN ?_ _ | refine blk_drew ?_ | refine blk_alloc ?_ _)); exact BK209.out) hb)
              have n1_ := Aside0.mk (blk_below (g := gb210) (o := .cells #[.string a1_0, .int .i64 a1_1, .slice A1_2 l1_2.length c1_2, .slice (some ad214) l1_3.length c1_3] 45 (0, 0)) (by (with_reducible repeat (first | refine blk_drewN ?_ _ | refine blk_drew ?_ | refine blk_alloc ?_ _)); exact BK210.out) hb)
              have n2_ := Aside0.mk (below_step (by repeat (first | (with_reducible first | exact HB.out | apply below_alloc | apply pw_below_drewN | apply below_drew1 | refine below_set ?_ GE209.out | refine below_set ?_ GE210.out) | exact HB.out)) hb)
              clear BK209
              clear BK210
              clear HB
              have BK209 := n0_
              have BK210 := n1_
              have HB := n2_
              clear n0_ n1_ n2_
              (try clear hb)
              (try clear hb2)
              (try clear hk)
              (try clear hi)
              refine hK.out _ _ ⟨(blk_cell BK209.out 0).trans rfl, (blk_cell BK209.out 1).trans rfl, (blk_cell BK209.out 2).trans rfl, (blk_cell BK209.out 3).trans rfl, (blk_cell BK210.out 0).trans rfl, (blk_cell BK210.out 1).trans rfl, (blk_cell BK210.out 2).trans rfl, (blk_cell BK210.out 3).trans rfl, ((HB.out.cell (World.block_lt_of_cell? w _ hw213_0)).trans hw213_0), ((HB.out.cell (World.block_lt_of_cell? w _ hw213_1)).trans hw213_1), ((HB.out.cell (World.block_lt_of_cell? w _ hw213_2)).trans hw213_2), ((HB.out.cell (World.block_lt_of_cell? w _ hw213_3)).trans hw213_3), ((HB.out.cell (World.block_lt_of_cell? w _ hw213_4)).trans hw213_4), ((HB.out.cell (World.block_lt_of_cell? w _ hw213_5)).trans hw213_5), ((HB.out.cell (World.block_lt_of_cell? w _ hw214_0)).trans hw214_0), ((HB.out.cell (World.block_lt_of_cell? w _ hw214_1)).trans hw214_1), ((HB.out.cell (World.block_lt_of_cell? w _ hw214_2)).trans hw214_2), ((HB.out.cell (World.block_lt_of_cell? w _ hw214_3)).trans hw214_3), ((HB.out.cell (World.block_lt_of_cell? w _ hw214_4)).trans hw214_4), ((HB.out.cell (World.block_lt_of_cell? w _ hw214_5)).trans hw214_5)⟩ (fun hHeld => ?_)
              clear hK K
              refine norm_ (a' := ?_) ?_ ?_
              rotate_left
              ·show Act.put _ (some 71) _ = _
               simp only [Act.put, List.setIfInBounds_toArray, List.set_cons_zero, List.set_cons_succ, i64_w, i32_w]
               rfl
              refine pure_ (i := 11) (N := some 72) (v := ?_) (a' := ?_) #[true, true, true, true, true, true, true, true, true, true, true, true] rfl rfl (any_of HT_.out (by kernel_rfl)) (fun _ _ _ h => h) (Or.inl ⟨by rfl, ?_⟩) ?_ ?_
              rotate_left
              ·intro w'
               go_simp
               with_reducible rfl
              rotate_left
              ·simp only [Act.put, List.setIfInBounds_toArray, List.set_cons_zero, List.set_cons_succ, i64_w, i32_w]
               rfl
              refine done_ (done_of HT_.out (by kernel_rfl)) ?_
              try go_wp2
              go_ret
              exact ⟨by first | rfl | (simp [errW_none, errW_some] <;> rfl) | (simp [*, errW_none, errW_some] <;> rfl), by repeat (first | (with_reducible first | exact HB.out | apply below_alloc | apply pw_below_drewN | apply below_drew1 | refine below_set ?_ GE209.out | refine below_set ?_ GE210.out) | exact HB.out)⟩
            ·rw [if_neg c36] at H
             exact absurd H (by simp)
           ·rw [if_neg c35] at H
            exact absurd H (by simp)
          ·rw [if_neg c34] at H
           exact absurd H (by simp)
         ·rw [if_neg c33] at H
          have c33b0 : decide (x58_3 < (l0_3.length : Int)) = false := decide_eq_false c33
          clear c33
          obtain rfl := Option.some.inj H
          go_wp2
          go_ret
          exact ⟨by first | rfl | (simp [errW_none, errW_some] <;> rfl) | (simp [*, errW_none, errW_some] <;> rfl), by repeat (first | (with_reducible first | exact HB.out | apply below_alloc | apply pw_below_drewN | apply below_drew1 | refine below_set ?_ GE209.out | refine below_set ?_ GE210.out) | exact HB.out)⟩
end Go.Proofs.YtefdfgmlmjnmlaaDoor.Rf
end

section
set_option linter.unusedVariables false
set_option linter.unusedSimpArgs false
namespace Go.Proofs.YtefdfgmlmjnmlaaDoor.Rf
open Go.RowKit Go.Proofs.YtefdfgmlmjnmlaaDoorW.PrintWords Go.Proofs.YtefdfgmlmjnmlaaDoorW.PrintLast Go.Proofs.YtefdfgmlmjnmlaaDoorW.PrintMore
attribute [local go_sem high] eqA27
mutual
def mortmainref09_Same.j0 : Nat → Bool → Int → List (S45) → List (S27) → Int → List (S45) → List (S27) → Option (Bool)
 | 0, _, _, _, _, _, _, _ => none
 | k + 1, x29, x285000, x285001, x285002, x286000, x286001, x286002 => if x29 = true then (some false) else (mortmainref09_Same.l0 k (x285001.length : Int) 0 x285000 x285001 x285002 x286000 x286001 x286002)
def mortmainref09_Same.l0 : Nat → Int → Int → Int → List (S45) → List (S27) → Int → List (S45) → List (S27) → Option (Bool)
 | 0, _, _, _, _, _, _, _, _ => none
 | k + 1, x32, x33, x285000, x285001, x285002, x286000, x286001, x286002 => if x33 < x32 then (if 0 ≤ x33 then (if x33 < (x285001.length : Int) then (if x33 < (x286001.length : Int) then ((mortmainref09_SameTable.f k ((rd_T45 x285001 x33).f0) ((rd_T45 x285001 x33).f1) ((rd_T45 x285001 x33).f2) ((rd_T45 x285001 x33).f3) ((rd_T45 x286001 x33).f0) ((rd_T45 x286001 x33).f1) ((rd_T45 x286001 x33).f2) ((rd_T45 x286001 x33).f3)).bind fun t288 => (if t288 = true then (mortmainref09_Same.l0 k x32 (wrap64 (x33 + 1)) x285000 x285001 x285002 x286000 x286001 x286002) else (some false))) else (none)) else (none)) else (none)) else (mortmainref09_Same.l1 k (x285002.length : Int) 0 x285000 x285001 x285002 x286000 x286001 x286002)
def mortmainref09_Same.l1 : Nat → Int → Int → Int → List (S45) → List (S27) → Int → List (S45) → List (S27) → Option (Bool)
 | 0, _, _, _, _, _, _, _, _ => none
 | k + 1, x51, x52, x285000, x285001, x285002, x286000, x286001, x286002 => if x52 < x51 then (if 0 ≤ x52 then (if x52 < (x285002.length : Int) then (if x52 < (x286002.length : Int) then (if (!(((rd_T27 x285002 x52).f0) == ((rd_T27 x286002 x52).f0)) || (!((((rd_T27 x285002 x52).f1).toList) == (((rd_T27 x286002 x52).f1).toList)) || (!(((rd_T27 x285002 x52).f2) == ((rd_T27 x286002 x52).f2))))) = true then (some false) else (mortmainref09_Same.l1 k x51 (wrap64 (x52 + 1)) x285000 x285001 x285002 x286000 x286001 x286002)) else (none)) else (none)) else (none)) else (some true)
end
def mortmainref09_Same.f (k : Nat) (a0_0 : Int) (l0_1 : List (S45)) (l0_2 : List (S27)) (a1_0 : Int) (l1_1 : List (S45)) (l1_2 : List (S27)) : Option (Bool) := if a0_0 = a1_0 then (if (l0_1.length : Int) = (l1_1.length : Int) then (mortmainref09_Same.j0 k ((l0_2.length : Int) != (l1_2.length : Int)) a0_0 l0_1 l0_2 a1_0 l1_1 l1_2) else (mortmainref09_Same.j0 k true a0_0 l0_1 l0_2 a1_0 l1_1 l1_2)) else (mortmainref09_Same.j0 k true a0_0 l0_1 l0_2 a1_0 l1_1 l1_2)
def mortmainref09_Same.T6 : Bool × List (List Nat × List Nat) := (true, [([], []), ([0], [0]), ([], []), ([1, 2], [1, 2]), ([3], [3]), ([], []), ([5], [5]), ([], []), ([6, 7], [6, 7]), ([8], [8]), ([4, 9], [4, 9]), ([10], [10])])
def mortmainref09_Same.B6 : List Nat := [0, 1, 0, 7, 15, 0, 32, 0, 224, 480, 1023, 2047]
theorem mortmainref09_Same.tab6 : rtab .any (opsOf Tryd.f41 6) = mortmainref09_Same.T6 := by kernel_rfl
theorem mortmainref09_Same.bits6 : waitsOk mortmainref09_Same.T6.2 mortmainref09_Same.B6 = true := by kernel_rfl
def mortmainref09_Same.T12 : Bool × List (List Nat × List Nat) := (true, [([], []), ([0], [0]), ([], []), ([1, 2], [1, 2]), ([3], [3]), ([], []), ([5], [5]), ([], []), ([6, 7], [6, 7]), ([8], [8]), ([4, 9], [4, 9])])
def mortmainref09_Same.B12 : List Nat := [0, 1, 0, 7, 15, 0, 32, 0, 224, 480, 1023]
theorem mortmainref09_Same.tab12 : rtab .any (opsOf Tryd.f41 12) = mortmainref09_Same.T12 := by kernel_rfl
theorem mortmainref09_Same.bits12 : waitsOk mortmainref09_Same.T12.2 mortmainref09_Same.B12 = true := by kernel_rfl
set_option maxHeartbeats 8000000 in
set_option maxRecDepth 100000 in
theorem mortmainref09_Same.calls (k : Nat) (a0_0 : Int) (A0_1 : Option Addr) (c0_1 : Nat) (l0_1 : List (S45)) (A0_2 : Option Addr) (c0_2 : Nat) (l0_2 : List (S27)) (a1_0 : Int) (A1_1 : Option Addr) (c1_1 : Nat) (l1_1 : List (S45)) (A1_2 : Option Addr) (c1_2 : Nat) (l1_2 : List (S27)) (r : Bool) (w : World) (hr0_1 : Kd.C k45 w A0_1 l0_1.length l0_1) (hc0_1 : l0_1.length ≤ c0_1) (hr0_2 : Kd.C k27 w A0_2 l0_2.length l0_2) (hc0_2 : l0_2.length ≤ c0_2) (hr1_1 : Kd.C k45 w A1_1 l1_1.length l1_1) (hc1_1 : l1_1.length ≤ c1_1) (hr1_2 : Kd.C k27 w A1_2 l1_2.length l1_2) (hc1_2 : l1_2.length ≤ c1_2) (h : mortmainref09_Same.f k a0_0 l0_1 l0_2 a1_0 l1_1 l1_2 = some r) :
  Calls Tryd.prog 41 #[.agg #[.int .i64 a0_0, .slice A0_1 l0_1.length c0_1, .slice A0_2 l0_2.length c0_2], .agg #[.int .i64 a1_0, .slice A1_1 l1_1.length c1_1, .slice A1_2 l1_2.length c1_2]] w fun e w' => e = .returned (.bool r) ∧ Below w.heap.size w w' := by
 have hu25 := Tryd.underlying25
 have hu45 := Tryd.underlying45
 have hu27 := Tryd.underlying27
 have HR0_1 := Aside0.mk hr0_1
 have HC0_1 := Aside0.mk hc0_1
 clear hr0_1 hc0_1
 have HR0_2 := Aside0.mk hr0_2
 have HC0_2 := Aside0.mk hc0_2
 clear hr0_2 hc0_2
 have HR1_1 := Aside0.mk hr1_1
 have HC1_1 := Aside0.mk hc1_1
 clear hr1_1 hc1_1
 have HR1_2 := Aside0.mk hr1_2
 have HC1_2 := Aside0.mk hc1_2
 clear hr1_2 hc1_2
 have HB := Aside0.mk (Below.refl w.heap.size w)
 have H : (if a0_0 = a1_0 then (if (l0_1.length : Int) = (l1_1.length : Int) then (mortmainref09_Same.j0 k ((l0_2.length : Int) != (l1_2.length : Int)) a0_0 l0_1 l0_2 a1_0 l1_1 l1_2) else (mortmainref09_Same.j0 k true a0_0 l0_1 l0_2 a1_0 l1_1 l1_2)) else (mortmainref09_Same.j0 k true a0_0 l0_1 l0_2 a1_0 l1_1 l1_2)) = some r := h
 clear h
 have HC3 := Aside0.mk H
 clear H
 go_enter Tryd.func41, Tryd.ntmps41
 go_upto_region 1 with (first | ((with_reducible refine gate_dst (N := 2) rfl ?_); (try (refine gate_guard (by rfl) ?_; dsimp only)); refine box_event ?hg (N := 2) ?hd (cs := #[.int .i64 a0_0, .slice A0_1 l0_1.length c0_1, .slice A0_2 l0_2.length c0_2]) (t := 25) ?hr ?_; (case hd => rfl); (case hg => rfl); (case hr => first | (go_simp; done) | (go_simp; rfl)); intro gb284 hg w4 hbox hb; have n0_ := Aside0.mk (below_step (by repeat (first | (with_reducible first | exact HB.out | apply below_alloc | apply pw_below_drewN | apply below_drew1) | exact HB.out)) hb); have n1_ := Aside0.mk (hbox); have n2_ := Aside0.mk ((by rw [hg]; exact (below_size (by repeat (first | (with_reducible first | exact HB.out | apply below_alloc | apply pw_below_drewN | apply below_drew1) | exact HB.out))) : w.heap.size ≤ gb284)); have n3_ := Aside0.mk ((by rw [hg]; exact (below_size (by repeat (first | (with_reducible first | exact HB.out | apply below_alloc | apply pw_below_drewN | apply below_drew1) | exact HB.out))) : w.heap.size ≤ gb284)); clear HB; have HB := n0_; have BK284 := n1_; have GW284 := n2_; have GE284 := n3_; clear n0_ n1_ n2_ n3_; clear hb hbox hg) | ((with_reducible refine gate_dst (N := 3) rfl ?_); (try (refine gate_guard (by rfl) ?_; dsimp only)); refine box_event ?hg (N := 3) ?hd (cs := #[.int .i64 a1_0, .slice A1_1 l1_1.length c1_1, .slice A1_2 l1_2.length c1_2]) (t := 25) ?hr ?_; (case hd => rfl); (case hg => rfl); (case hr => first | (go_simp; done) | (go_simp; rfl)); intro gb285 hg w5 hbox hb; have n0_ := Aside0.mk (blk_below (g := gb284) (o := .cells #[.int .i64 a0_0, .slice A0_1 l0_1.length c0_1, .slice A0_2 l0_2.length c0_2] 25 (0, 0)) (by (with_reducible repeat (first | refine blk_drewN ?_ _ | refine blk_drew ?_ | refine blk_alloc ?_ _)); exact BK284.out) hb); have n1_ := Aside0.mk (below_step (by repeat (first | (with_reducible first | exact HB.out | apply below_alloc | apply pw_below_drewN | apply below_drew1 | refine below_set ?_ GE284.out) | exact HB.out)) hb); have n2_ := Aside0.mk (hbox); have n3_ := Aside0.mk ((by rw [hg]; exact (below_size (by repeat (first | (with_reducible first | exact HB.out | apply below_alloc | apply pw_below_drewN | apply below_drew1 | refine below_set ?_ GE284.out) | exact HB.out))) : w.heap.size ≤ gb285)); have n4_ := Aside0.mk ((by rw [hg]; exact (below_size (by repeat (first | (with_reducible first | exact HB.out | apply below_alloc | apply pw_below_drewN | apply below_drew1 | refine below_set ?_ GE284.out) | exact HB.out))) : w.heap.size ≤ gb285)); have n5_ := Aside0.mk ((by rw [hg]; exact Nat.ne_of_lt (blk_lt (g := gb284) (o := .cells #[.int .i64 a0_0, .slice A0_1 l0_1.length c0_1, .slice A0_2 l0_2.length c0_2] 25 (0, 0)) (by (with_reducible repeat (first | refine blk_drewN ?_ _ | refine blk_drew ?_ | refine blk_alloc ?_ _)); exact BK284.out)) : gb284 ≠ gb285)); have n6_ := Aside0.mk ((by rw [hg]; exact Nat.ne_of_gt (blk_lt (g := gb284) (o := .cells #[.int .i64 a0_0, .slice A0_1 l0_1.length c0_1, .slice A0_2 l0_2.length c0_2] 25 (0, 0)) (by (with_reducible repeat (first | refine blk_drewN ?_ _ | refine blk_drew ?_ | refine blk_alloc ?_ _)); exact BK284.out)) : gb285 ≠ gb284)); clear BK284; clear HB; have BK284 := n0_; have HB := n1_; have BK285 := n2_; have GW285 := n3_; have GE285 := n4_; have NB284_285 := n5_; have NB285_284 := n6_; clear n0_ n1_ n2_ n3_ n4_ n5_ n6_; clear hb hbox hg))
 (try simp only [Act.put, List.setIfInBounds_toArray, List.set_cons_zero, List.set_cons_succ])
 go_cut [29] (fun v29 wc => ∃ (kq : Nat) (x29_2 : Bool), v29 = .bool x29_2 ∧ Aside0 (mortmainref09_Same.j0 kq x29_2 a0_0 l0_1 l0_2 a1_0 l1_1 l1_2 = some r) ∧ Aside0 (kq ≤ k) ∧ Aside0 (wc.heap[gb284]? = some (.cells #[.int .i64 a0_0, (.slice A0_1 l0_1.length c0_1), (.slice A0_2 l0_2.length c0_2)] 25 (0, 0))) ∧ Aside0 (wc.heap[gb285]? = some (.cells #[.int .i64 a1_0, (.slice A1_1 l1_1.length c1_1), (.slice A1_2 l1_2.length c1_2)] 25 (0, 0))) ∧ Aside0 (Below w.heap.size w wc))
 case first =>
  have H := HC3.out
  clear HC3
  by_cases c6 : a0_0 = a1_0
  ·rw [if_pos c6] at H
   have c6b0 : (a0_0 == a1_0) = true := beq_iff_eq.mpr c6
   have c6b1 : (a0_0 != a1_0) = false := bne_eq_false_iff_eq.mpr c6
   clear c6
   (first | rw [c6b0] | (simp only [i64_w, i32_w]; rw [c6b0]) | skip)
   by_cases c7 : (l0_1.length : Int) = (l1_1.length : Int)
   ·rw [if_pos c7] at H
    have c7b0 : ((l0_1.length : Int) == (l1_1.length : Int)) = true := beq_iff_eq.mpr c7
    have c7b1 : ((l0_1.length : Int) != (l1_1.length : Int)) = false := bne_eq_false_iff_eq.mpr c7
    have c7b2 : (l0_1.length == l1_1.length) = true := by first | simpa using c7 | (simp at c7 ⊢; omega)
    clear c7
    have H' := Aside0.mk H
    clear H
    have hnb8 := NB284_285.out
    have hnc8 := NB285_284.out
    have hcz9_0 : w5.cell? ⟨gb284, 0, none⟩ = some (.int .i64 a0_0) := (blk_cell BK284.out 0).trans rfl
    have hcz9_1 : w5.cell? ⟨gb284, 1, none⟩ = some (.slice A0_1 l0_1.length c0_1) := (blk_cell BK284.out 1).trans rfl
    have hcz9_2 : w5.cell? ⟨gb284, 2, none⟩ = some (.slice A0_2 l0_2.length c0_2) := (blk_cell BK284.out 2).trans rfl
    have hfz9_0 := blk_frozen BK284.out 0
    have hfz9_1 := blk_frozen BK284.out 1
    have hfz9_2 := blk_frozen BK284.out 2
    have hcz10_0 : w5.cell? ⟨gb285, 0, none⟩ = some (.int .i64 a1_0) := (blk_cell BK285.out 0).trans rfl
    have hcz10_1 : w5.cell? ⟨gb285, 1, none⟩ = some (.slice A1_1 l1_1.length c1_1) := (blk_cell BK285.out 1).trans rfl
    have hcz10_2 : w5.cell? ⟨gb285, 2, none⟩ = some (.slice A1_2 l1_2.length c1_2) := (blk_cell BK285.out 2).trans rfl
    have hfz10_0 := blk_frozen BK285.out 0
    have hfz10_1 := blk_frozen BK285.out 1
    have hfz10_2 := blk_frozen BK285.out 2
    go_wp2
    go_meet
    case rel => exact ⟨_, (((l0_2.length : Int) != (l1_2.length : Int))), (by first | rfl | (simp; done) | (simp [*]; done)), H', ⟨by first | omega | exact Nat.le_refl _⟩, ⟨by (with_reducible repeat (first | refine blk_drewN ?_ _ | refine blk_drew ?_ | refine blk_alloc ?_ _)); exact BK284.out⟩, ⟨by (with_reducible repeat (first | refine blk_drewN ?_ _ | refine blk_drew ?_ | refine blk_alloc ?_ _)); exact BK285.out⟩, ⟨by repeat (first | (with_reducible first | exact HB.out | apply below_alloc | apply pw_below_drewN | apply below_drew1 | refine below_set ?_ GE284.out | refine below_set ?_ GE285.out) | exact HB.out)⟩⟩
   ·rw [if_neg c7] at H
    have c7b0 : ((l0_1.length : Int) == (l1_1.length : Int)) = false := beq_eq_false_iff_ne.mpr c7
    have c7b1 : ((l0_1.length : Int) != (l1_1.length : Int)) = true := bne_iff_ne.mpr c7
    have c7b2 : (l0_1.length == l1_1.length) = false := by first | simpa using c7 | (simp at c7 ⊢; omega)
    have H' := Aside0.mk H
    clear H
    have hnb11 := NB284_285.out
    have hnc11 := NB285_284.out
    have hcz12_0 : w5.cell? ⟨gb284, 0, none⟩ = some (.int .i64 a0_0) := (blk_cell BK284.out 0).trans rfl
    have hcz12_1 : w5.cell? ⟨gb284, 1, none⟩ = some (.slice A0_1 l0_1.length c0_1) := (blk_cell BK284.out 1).trans rfl
    have hcz12_2 : w5.cell? ⟨gb284, 2, none⟩ = some (.slice A0_2 l0_2.length c0_2) := (blk_cell BK284.out 2).trans rfl
    have hfz12_0 := blk_frozen BK284.out 0
    have hfz12_1 := blk_frozen BK284.out 1
    have hfz12_2 := blk_frozen BK284.out 2
    have hcz13_0 : w5.cell? ⟨gb285, 0, none⟩ = some (.int .i64 a1_0) := (blk_cell BK285.out 0).trans rfl
    have hcz13_1 : w5.cell? ⟨gb285, 1, none⟩ = some (.slice A1_1 l1_1.length c1_1) := (blk_cell BK285.out 1).trans rfl
    have hcz13_2 : w5.cell? ⟨gb285, 2, none⟩ = some (.slice A1_2 l1_2.length c1_2) := (blk_cell BK285.out 2).trans rfl
    have hfz13_0 := blk_frozen BK285.out 0
    have hfz13_1 := blk_frozen BK285.out 1
    have hfz13_2 := blk_frozen BK285.out 2
    go_wp2
    go_meet
    case rel => exact ⟨_, (true), (by first | rfl | (simp; done) | (simp [*]; done)), H', ⟨by first | omega | exact Nat.le_refl _⟩, ⟨by (with_reducible repeat (first | refine blk_drewN ?_ _ | refine blk_drew ?_ | refine blk_alloc ?_ _)); exact BK284.out⟩, ⟨by (with_reducible repeat (first | refine blk_drewN ?_ _ | refine blk_drew ?_ | refine blk_alloc ?_ _)); exact BK285.out⟩, ⟨by repeat (first | (with_reducible first | exact HB.out | apply below_alloc | apply pw_below_drewN | apply below_drew1 | refine below_set ?_ GE284.out | refine below_set ?_ GE285.out) | exact HB.out)⟩⟩
  ·rw [if_neg c6] at H
   have c6b0 : (a0_0 == a1_0) = false := beq_eq_false_iff_ne.mpr c6
   have c6b1 : (a0_0 != a1_0) = true := bne_iff_ne.mpr c6
   (first | rw [c6b0] | (simp only [i64_w, i32_w]; rw [c6b0]) | skip)
   have H' := Aside0.mk H
   clear H
   have hnb14 := NB284_285.out
   have hnc14 := NB285_284.out
   have hcz15_0 : w5.cell? ⟨gb284, 0, none⟩ = some (.int .i64 a0_0) := (blk_cell BK284.out 0).trans rfl
   have hcz15_1 : w5.cell? ⟨gb284, 1, none⟩ = some (.slice A0_1 l0_1.length c0_1) := (blk_cell BK284.out 1).trans rfl
   have hcz15_2 : w5.cell? ⟨gb284, 2, none⟩ = some (.slice A0_2 l0_2.length c0_2) := (blk_cell BK284.out 2).trans rfl
   have hfz15_0 := blk_frozen BK284.out 0
   have hfz15_1 := blk_frozen BK284.out 1
   have hfz15_2 := blk_frozen BK284.out 2
   have hcz16_0 : w5.cell? ⟨gb285, 0, none⟩ = some (.int .i64 a1_0) := (blk_cell BK285.out 0).trans rfl
   have hcz16_1 : w5.cell? ⟨gb285, 1, none⟩ = some (.slice A1_1 l1_1.length c1_1) := (blk_cell BK285.out 1).trans rfl
   have hcz16_2 : w5.cell? ⟨gb285, 2, none⟩ = some (.slice A1_2 l1_2.length c1_2) := (blk_cell BK285.out 2).trans rfl
   have hfz16_0 := blk_frozen BK285.out 0
   have hfz16_1 := blk_frozen BK285.out 1
   have hfz16_2 := blk_frozen BK285.out 2
   go_wp2
   go_meet
   case rel => exact ⟨_, (true), (by first | rfl | (simp; done) | (simp [*]; done)), H', ⟨by first | omega | exact Nat.le_refl _⟩, ⟨by (with_reducible repeat (first | refine blk_drewN ?_ _ | refine blk_drew ?_ | refine blk_alloc ?_ _)); exact BK284.out⟩, ⟨by (with_reducible repeat (first | refine blk_drewN ?_ _ | refine blk_drew ?_ | refine blk_alloc ?_ _)); exact BK285.out⟩, ⟨by repeat (first | (with_reducible first | exact HB.out | apply below_alloc | apply pw_below_drewN | apply below_drew1 | refine below_set ?_ GE284.out | refine below_set ?_ GE285.out) | exact HB.out)⟩⟩
 case rest =>
  clear HC3
  try clear c1
  try clear p2
  try clear c4
  try clear c6
  try clear c6b0
  try clear c6b1
  try clear c7
  try clear c7b0
  try clear c7b1
  try clear c7b2
  try clear c8
  try clear c11
  try clear c14
  try clear hcz10_0
  try clear hcz10_1
  try clear hcz10_2
  try clear hcz12_0
  try clear hcz12_1
  try clear hcz12_2
  try clear hcz13_0
  try clear hcz13_1
  try clear hcz13_2
  try clear hcz15_0
  try clear hcz15_1
  try clear hcz15_2
  try clear hcz16_0
  try clear hcz16_1
  try clear hcz16_2
  try clear hcz9_0
  try clear hcz9_1
  try clear hcz9_2
  try clear hfz10_0
  try clear hfz10_1
  try clear hfz10_2
  try clear hfz12_0
  try clear hfz12_1
  try clear hfz12_2
  try clear hfz13_0
  try clear hfz13_1
  try clear hfz13_2
  try clear hfz15_0
  try clear hfz15_1
  try clear hfz15_2
  try clear hfz16_0
  try clear hfz16_1
  try clear hfz16_2
  try clear hfz9_0
  try clear hfz9_1
  try clear hfz9_2
  obtain ⟨kq, x29_2, rfl, HA, HJ2, BK284, BK285, HB⟩ := hcut
  cases kq with
  | zero => exact absurd HA.out (by simp [mortmainref09_Same.j0])
  | succ kj2 =>
   have H := HA.out
   clear HA
   simp only [mortmainref09_Same.j0] at H
   by_cases c17 : x29_2 = true
   ·subst c17
    have H1 : (some false) = some r := by rw [if_pos rfl] at H; exact H
    clear H
    have H := H1
    clear H1
    obtain rfl := Option.some.inj H
    go_wp2
    go_ret
    exact ⟨by first | rfl | (simp [errW_none, errW_some] <;> rfl) | (simp [*, errW_none, errW_some] <;> rfl), by repeat (first | (with_reducible first | exact HB.out | apply below_alloc | apply pw_below_drewN | apply below_drew1 | refine below_set ?_ GE284.out | refine below_set ?_ GE285.out) | exact HB.out)⟩
   ·replace c17 := Bool.eq_false_iff.mpr c17
    subst c17
    have H1 : (mortmainref09_Same.l0 kj2 (l0_1.length : Int) 0 a0_0 l0_1 l0_2 a1_0 l1_1 l1_2) = some r := by rw [if_neg (show ¬ (false = true) by decide)] at H; exact H
    clear H
    have H := H1
    clear H1
    have H' := Aside0.mk H
    clear H
    have hnb18 := NB284_285.out
    have hnc18 := NB285_284.out
    have hcz19_0 : wc.cell? ⟨gb284, 0, none⟩ = some (.int .i64 a0_0) := (blk_cell BK284.out 0).trans rfl
    have hcz19_1 : wc.cell? ⟨gb284, 1, none⟩ = some (.slice A0_1 l0_1.length c0_1) := (blk_cell BK284.out 1).trans rfl
    have hcz19_2 : wc.cell? ⟨gb284, 2, none⟩ = some (.slice A0_2 l0_2.length c0_2) := (blk_cell BK284.out 2).trans rfl
    have hfz19_0 := blk_frozen BK284.out 0
    have hfz19_1 := blk_frozen BK284.out 1
    have hfz19_2 := blk_frozen BK284.out 2
    go_wp2
    go_loopg [33] kj2 (fun kq v33 w' => ∃ (x33_2 : Int), v33 = .int .i64 x33_2 ∧ Aside0 (mortmainref09_Same.l0 kq (l0_1.length : Int) x33_2 a0_0 l0_1 l0_2 a1_0 l1_1 l1_2 = some r) ∧ Aside0 (kq ≤ kj2) ∧ Aside0 (w'.heap[gb284]? = some (.cells #[.int .i64 a0_0, (.slice A0_1 l0_1.length c0_1), (.slice A0_2 l0_2.length c0_2)] 25 (0, 0))) ∧ Aside0 (w'.heap[gb285]? = some (.cells #[.int .i64 a1_0, (.slice A1_1 l1_1.length c1_1), (.slice A1_2 l1_2.length c1_2)] 25 (0, 0))) ∧ Aside0 (Below w.heap.size w w'))
    case atStart => exact ⟨(0), (by first | rfl | (simp; done) | (simp [*]; done)), H', ⟨Nat.le_refl _⟩, ⟨by (with_reducible repeat (first | refine blk_drewN ?_ _ | refine blk_drew ?_ | refine blk_alloc ?_ _)); exact BK284.out⟩, ⟨by (with_reducible repeat (first | refine blk_drewN ?_ _ | refine blk_drew ?_ | refine blk_alloc ?_ _)); exact BK285.out⟩, ⟨by repeat (first | (with_reducible first | exact HB.out | apply below_alloc | apply pw_below_drewN | apply below_drew1 | refine below_set ?_ GE284.out | refine below_set ?_ GE285.out) | exact HB.out)⟩⟩
    case round =>
     clear H'
     try clear c1
     try clear p2
     try clear c4
     try clear c6
     try clear c6b0
     try clear c6b1
     try clear c7
     try clear c7b0
     try clear c7b1
     try clear c7b2
     try clear c8
     try clear c11
     try clear c14
     try clear c17
     try clear c18
     try clear hcz10_0
     try clear hcz10_1
     try clear hcz10_2
     try clear hcz12_0
     try clear hcz12_1
     try clear hcz12_2
     try clear hcz13_0
     try clear hcz13_1
     try clear hcz13_2
     try clear hcz15_0
     try clear hcz15_1
     try clear hcz15_2
     try clear hcz16_0
     try clear hcz16_1
     try clear hcz16_2
     try clear hcz19_0
     try clear hcz19_1
     try clear hcz19_2
     try clear hcz9_0
     try clear hcz9_1
     try clear hcz9_2
     try clear hfz10_0
     try clear hfz10_1
     try clear hfz10_2
     try clear hfz12_0
     try clear hfz12_1
     try clear hfz12_2
     try clear hfz13_0
     try clear hfz13_1
     try clear hfz13_2
     try clear hfz15_0
     try clear hfz15_1
     try clear hfz15_2
     try clear hfz16_0
     try clear hfz16_1
     try clear hfz16_2
     try clear hfz19_0
     try clear hfz19_1
     try clear hfz19_2
     try clear hfz9_0
     try clear hfz9_1
     try clear hfz9_2
     try clear p2
     obtain ⟨x33_2, rfl, HA, HK2, BK284, BK285, HB⟩ := hrel
     cases gk with
     | zero => exact absurd HA.out (by simp [mortmainref09_Same.l0])
     | succ k2 =>
      have H := HA.out
      clear HA
      simp only [mortmainref09_Same.l0] at H
      by_cases c20 : x33_2 < (l0_1.length : Int)
      ·rw [if_pos c20] at H
       have c20b0 : decide (x33_2 < (l0_1.length : Int)) = true := decide_eq_true c20
       clear c20
       by_cases c21 : 0 ≤ x33_2
       ·rw [if_pos c21] at H
        have c21b0 : decide (0 ≤ x33_2) = true := decide_eq_true c21
        clear c21
        by_cases c22 : x33_2 < (l0_1.length : Int)
        ·rw [if_pos c22] at H
         have c22b0 : decide (x33_2 < (l0_1.length : Int)) = true := decide_eq_true c22
         clear c22
         by_cases c23 : x33_2 < (l1_1.length : Int)
         ·rw [if_pos c23] at H
          have c23b0 : decide (x33_2 < (l1_1.length : Int)) = true := decide_eq_true c23
          clear c23
          replace H := Option.bind_eq_some_iff.mp H
          obtain ⟨t288, A240, H⟩ := H
          replace H : (if t288 = true then (mortmainref09_Same.l0 k2 (l0_1.length : Int) (wrap64 (x33_2 + 1)) a0_0 l0_1 l0_2 a1_0 l1_1 l1_2) else (some false)) = some r := H
          have A24 := Aside0.mk A240
          clear A240
          by_cases c25 : t288 = true
          ·subst c25
           have H1 : (mortmainref09_Same.l0 k2 (l0_1.length : Int) (wrap64 (x33_2 + 1)) a0_0 l0_1 l0_2 a1_0 l1_1 l1_2) = some r := by rw [if_pos rfl] at H; exact H
           clear H
           have H := H1
           clear H1
           have H' := Aside0.mk H
           clear H
           try go_wp2
           have n0_ := Aside0.mk (blk_drew BK284.out)
           have n1_ := Aside0.mk (blk_drew BK285.out)
           have n2_ := Aside0.mk (below_drew1 HB.out)
           clear BK284
           clear BK285
           clear HB
           have BK284 := n0_
           have BK285 := n1_
           have HB := n2_
           clear n0_ n1_ n2_
           have p286 : 0 ≤ (x33_2 : Int) := of_decide_eq_true (by first | (with_reducible assumption) | assumption)
           have q286 : x33_2 < (l0_1.length : Int) := of_decide_eq_true (by first | (with_reducible assumption) | assumption)
           obtain ⟨ad286, A286_2, c286_2, A286_3, c286_3, e286, hx286_0, hx286_1, hx286_2, hx286_3, hl286_2, hi286_2, hl286_3, hi286_3⟩ := at_T45 HR0_1.out x33_2 p286 q286
           have hw286_3 := hx286_3
           have hw286_2 := hx286_2
           have hw286_1 := hx286_1
           have hw286_0 := hx286_0
           cases e286
           replace hx286_0 := (HB.out.cell (World.block_lt_of_cell? w _ hx286_0)).trans hx286_0
           replace hx286_1 := (HB.out.cell (World.block_lt_of_cell? w _ hx286_1)).trans hx286_1
           replace hx286_2 := (HB.out.cell (World.block_lt_of_cell? w _ hx286_2)).trans hx286_2
           replace hx286_3 := (HB.out.cell (World.block_lt_of_cell? w _ hx286_3)).trans hx286_3
           have HR286_2 := Aside0.mk hi286_2
           have HC286_2 := Aside0.mk hl286_2
           clear hi286_2 hl286_2
           have HR286_3 := Aside0.mk hi286_3
           have HC286_3 := Aside0.mk hl286_3
           clear hi286_3 hl286_3
           replace p286 := eq_true p286
           replace q286 := eq_true q286
           have p287 : 0 ≤ (x33_2 : Int) := of_decide_eq_true (by first | (with_reducible assumption) | assumption)
           have q287 : x33_2 < (l1_1.length : Int) := of_decide_eq_true (by first | (with_reducible assumption) | assumption)
           obtain ⟨ad287, A287_2, c287_2, A287_3, c287_3, e287, hx287_0, hx287_1, hx287_2, hx287_3, hl287_2, hi287_2, hl287_3, hi287_3⟩ := at_T45 HR1_1.out x33_2 p287 q287
           have hw287_3 := hx287_3
           have hw287_2 := hx287_2
           have hw287_1 := hx287_1
           have hw287_0 := hx287_0
           cases e287
           replace hx287_0 := (HB.out.cell (World.block_lt_of_cell? w _ hx287_0)).trans hx287_0
           replace hx287_1 := (HB.out.cell (World.block_lt_of_cell? w _ hx287_1)).trans hx287_1
           replace hx287_2 := (HB.out.cell (World.block_lt_of_cell? w _ hx287_2)).trans hx287_2
           replace hx287_3 := (HB.out.cell (World.block_lt_of_cell? w _ hx287_3)).trans hx287_3
           have HR287_2 := Aside0.mk hi287_2
           have HC287_2 := Aside0.mk hl287_2
           clear hi287_2 hl287_2
           have HR287_3 := Aside0.mk hi287_3
           have HC287_3 := Aside0.mk hl287_3
           clear hi287_3 hl287_3
           replace p287 := eq_true p287
           replace q287 := eq_true q287
           refine start_ (n := 12) (S := fun w' => w'.cell? ⟨gb284, 0, none⟩ = some (.int .i64 a0_0) ∧ w'.cell? ⟨gb284, 1, none⟩ = some (.slice (some ad286) l0_1.length c0_1) ∧ w'.cell? ⟨gb284, 2, none⟩ = some (.slice A0_2 l0_2.length c0_2) ∧ w'.cell? ⟨gb285, 0, none⟩ = some (.int .i64 a1_0) ∧ w'.cell? ⟨gb285, 1, none⟩ = some (.slice (some ad287) l1_1.length c1_1) ∧ w'.cell? ⟨gb285, 2, none⟩ = some (.slice A1_2 l1_2.length c1_2) ∧ w'.cell? (ad286.add ((x33_2).toNat * 4)) = some (.string ((rd_T45 l0_1 x33_2).f0)) ∧ w'.cell? ⟨(ad286.add ((x33_2).toNat * 4)).block, (ad286.add ((x33_2).toNat * 4)).off + 1, none⟩ = some (.int .i64 ((rd_T45 l0_1 x33_2).f1)) ∧ w'.cell? ⟨(ad286.add ((x33_2).toNat * 4)).block, (ad286.add ((x33_2).toNat * 4)).off + 2, none⟩ = some (.slice A286_2 ((rd_T45 l0_1 x33_2).f2).length c286_2) ∧ w'.cell? ⟨(ad286.add ((x33_2).toNat * 4)).block, (ad286.add ((x33_2).toNat * 4)).off + 3, none⟩ = some (.slice A286_3 ((rd_T45 l0_1 x33_2).f3).length c286_3) ∧ w'.cell? (ad287.add ((x33_2).toNat * 4)) = some (.string ((rd_T45 l1_1 x33_2).f0)) ∧ w'.cell? ⟨(ad287.add ((x33_2).toNat * 4)).block, (ad287.add ((x33_2).toNat * 4)).off + 1, none⟩ = some (.int .i64 ((rd_T45 l1_1 x33_2).f1)) ∧ w'.cell? ⟨(ad287.add ((x33_2).toNat * 4)).block, (ad287.add ((x33_2).toNat * 4)).off + 2, none⟩ = some (.slice A287_2 ((rd_T45 l1_1 x33_2).f2).length c287_2) ∧ w'.cell? ⟨(ad287.add ((x33_2).toNat * 4)).block, (ad287.add ((x33_2).toNat * 4)).off + 3, none⟩ = some (.slice A287_3 ((rd_T45 l1_1 x33_2).f3).length c287_3)) (ds := []) #[false, false, false, false, false, false, false, false, false, false, false, false] (by kernel_rfl) rfl rfl ⟨(blk_cell BK284.out 0).trans rfl, (blk_cell BK284.out 1).trans rfl, (blk_cell BK284.out 2).trans rfl, (blk_cell BK285.out 0).trans rfl, (blk_cell BK285.out 1).trans rfl, (blk_cell BK285.out 2).trans rfl, ((HB.out.cell (World.block_lt_of_cell? w _ hw286_0)).trans hw286_0), ((HB.out.cell (World.block_lt_of_cell? w _ hw286_1)).trans hw286_1), ((HB.out.cell (World.block_lt_of_cell? w _ hw286_2)).trans hw286_2), ((HB.out.cell (World.block_lt_of_cell? w _ hw286_3)).trans hw286_3), ((HB.out.cell (World.block_lt_of_cell? w _ hw287_0)).trans hw287_0), ((HB.out.cell (World.block_lt_of_cell? w _ hw287_1)).trans hw287_1), ((HB.out.cell (World.block_lt_of_cell? w _ hw287_2)).trans hw287_2), ((HB.out.cell (World.block_lt_of_cell? w _ hw287_3)).trans hw287_3)⟩ (fun hHeld => ?_); refine with_tabW mortmainref09_Same.tab6 mortmainref09_Same.bits6 (fun HT_ HW_ => ?_)
           generalize wr.drew = w26 at BK284 BK285 HB HR286_2 HR286_3 HR287_2 HR287_3 hx286_0 hx286_1 hx286_2 hx286_3 hx287_0 hx287_1 hx287_2 hx287_3 hHeld ⊢
           refine pure_ (i := 0) (N := some 36) (v := ?_) (a' := ?_) #[true, false, false, false, false, false, false, false, false, false, false, false] rfl rfl (any_of HT_.out (by kernel_rfl)) (fun _ _ _ h => h) (Or.inl ⟨by rfl, ?_⟩) ?_ ?_
           rotate_left
           ·intro w'
            go_simp
            with_reducible rfl
           rotate_left
           ·simp only [Act.put, List.setIfInBounds_toArray, List.set_cons_zero, List.set_cons_succ, i64_w, i32_w]
            rfl
           refine pure_ (i := 2) (N := some 38) (v := ?_) (a' := ?_) #[true, false, true, false, false, false, false, false, false, false, false, false] rfl rfl (any_of HT_.out (by kernel_rfl)) (fun _ _ _ h => h) (Or.inl ⟨by rfl, ?_⟩) ?_ ?_
           rotate_left
           ·intro w'
            go_simp
            with_reducible rfl
           rotate_left
           ·simp only [Act.put, List.setIfInBounds_toArray, List.set_cons_zero, List.set_cons_succ, i64_w, i32_w]
            rfl
           refine pure_ (i := 5) (N := some 41) (v := ?_) (a' := ?_) #[true, false, true, false, false, true, false, false, false, false, false, false] rfl rfl (any_of HT_.out (by kernel_rfl)) (fun _ _ _ h => h) (Or.inl ⟨by rfl, ?_⟩) ?_ ?_
           rotate_left
           ·intro w'
            go_simp
            with_reducible rfl
           rotate_left
           ·simp only [Act.put, List.setIfInBounds_toArray, List.set_cons_zero, List.set_cons_succ, i64_w, i32_w]
            rfl
           refine pure_ (i := 7) (N := some 43) (v := ?_) (a' := ?_) #[true, false, true, false, false, true, false, true, false, false, false, false] rfl rfl (any_of HT_.out (by kernel_rfl)) (fun _ _ _ h => h) (Or.inl ⟨by rfl, ?_⟩) ?_ ?_
           rotate_left
           ·intro w'
            go_simp
            with_reducible rfl
           rotate_left
           ·simp only [Act.put, List.setIfInBounds_toArray, List.set_cons_zero, List.set_cons_succ, i64_w, i32_w]
            rfl
           refine take_ (i := 1) (N := some 37) (v := ?_) (a' := ?_) #[true, true, true, false, false, true, false, true, false, false, false, false] rfl rfl (take_ofW HT_.out HW_.out (by kernel_rfl)) (fun _ _ _ h => h) (Or.inl ⟨by rfl, ?_⟩) hHeld ?_ ?_
           rotate_left
           ·rintro w' ⟨s0, s1, s2, s3, s4, s5, s6, s7, s8, s9, s10, s11, s12, s13⟩
            go_simp
            with_reducible rfl
           rotate_left
           ·simp only [Act.put, List.setIfInBounds_toArray, List.set_cons_zero, List.set_cons_succ, i64_w, i32_w]
            rfl
           refine pure_ (i := 3) (N := some 39) (v := ?_) (a' := ?_) #[true, true, true, true, false, true, false, true, false, false, false, false] rfl rfl (any_of HT_.out (by kernel_rfl)) (fun _ _ _ h => h) (Or.inl ⟨by rfl, ?_⟩) ?_ ?_
           rotate_left
           ·intro w'
            go_simp
            with_reducible rfl
           rotate_left
           ·simp only [Act.put, List.setIfInBounds_toArray, List.set_cons_zero, List.set_cons_succ, i64_w, i32_w]
            rfl
           refine take_ (i := 4) (N := some 40) (v := ?_) (a' := ?_) #[true, true, true, true, true, true, false, true, false, false, false, false] rfl rfl (take_ofW HT_.out HW_.out (by kernel_rfl)) (fun _ _ _ h => h) (Or.inl ⟨by rfl, ?_⟩) hHeld ?_ ?_
           rotate_left
           ·rintro w' ⟨s0, s1, s2, s3, s4, s5, s6, s7, s8, s9, s10, s11, s12, s13⟩
            go_simp
            with_reducible rfl
           rotate_left
           ·simp only [Act.put, List.setIfInBounds_toArray, List.set_cons_zero, List.set_cons_succ, i64_w, i32_w]
            rfl
           refine take_ (i := 6) (N := some 42) (v := ?_) (a' := ?_) #[true, true, true, true, true, true, true, true, false, false, false, false] rfl rfl (take_ofW HT_.out HW_.out (by kernel_rfl)) (fun _ _ _ h => h) (Or.inl ⟨by rfl, ?_⟩) hHeld ?_ ?_
           rotate_left
           ·rintro w' ⟨s0, s1, s2, s3, s4, s5, s6, s7, s8, s9, s10, s11, s12, s13⟩
            go_simp
            with_reducible rfl
           rotate_left
           ·simp only [Act.put, List.setIfInBounds_toArray, List.set_cons_zero, List.set_cons_succ, i64_w, i32_w]
            rfl
           refine pure_ (i := 8) (N := some 44) (v := ?_) (a' := ?_) #[true, true, true, true, true, true, true, true, true, false, false, false] rfl rfl (any_of HT_.out (by kernel_rfl)) (fun _ _ _ h => h) (Or.inl ⟨by rfl, ?_⟩) ?_ ?_
           rotate_left
           ·intro w'
            go_simp
            with_reducible rfl
           rotate_left
           ·simp only [Act.put, List.setIfInBounds_toArray, List.set_cons_zero, List.set_cons_succ, i64_w, i32_w]
            rfl
           refine take_ (i := 9) (N := some 45) (v := ?_) (a' := ?_) #[true, true, true, true, true, true, true, true, true, true, false, false] rfl rfl (take_ofW HT_.out HW_.out (by kernel_rfl)) (fun _ _ _ h => h) (Or.inl ⟨by rfl, ?_⟩) hHeld ?_ ?_
           rotate_left
           ·rintro w' ⟨s0, s1, s2, s3, s4, s5, s6, s7, s8, s9, s10, s11, s12, s13⟩
            go_simp
            with_reducible rfl
           rotate_left
           ·simp only [Act.put, List.setIfInBounds_toArray, List.set_cons_zero, List.set_cons_succ, i64_w, i32_w]
            rfl
           refine one_ (i := 10) (N := some 46) #[true, true, true, true, true, true, true, true, true, true, true, false] rfl rfl (one_of HT_.out (by kernel_rfl)) (by decide) (fun K hK => ?_)
           refine goes_ Tryd.func31 (by kernel_rfl) rfl #[.agg #[.string ((rd_T45 l0_1 x33_2).f0), .int .i64 ((rd_T45 l0_1 x33_2).f1), .slice A286_2 ((rd_T45 l0_1 x33_2).f2).length c286_2, .slice A286_3 ((rd_T45 l0_1 x33_2).f3).length c286_3], .agg #[.string ((rd_T45 l1_1 x33_2).f0), .int .i64 ((rd_T45 l1_1 x33_2).f1), .slice A287_2 ((rd_T45 l1_1 x33_2).f2).length c287_2, .slice A287_3 ((rd_T45 l1_1 x33_2).f3).length c287_3]] (by rfl) rfl rfl (by (try simp only [List.map_toArray, List.map_cons, List.map_nil]); first | done | rfl | (simp only [List.length_drop, List.length_take]; rfl)) ?_
           with_reducible refine (mortmainref09_SameTable.calls k2 ((rd_T45 l0_1 x33_2).f0) ((rd_T45 l0_1 x33_2).f1) _ _ ((rd_T45 l0_1 x33_2).f2) _ _ ((rd_T45 l0_1 x33_2).f3) ((rd_T45 l1_1 x33_2).f0) ((rd_T45 l1_1 x33_2).f1) _ _ ((rd_T45 l1_1 x33_2).f2) _ _ ((rd_T45 l1_1 x33_2).f3) true _ ?side1 ?side2 ?side3 ?side4 ?side5 ?side6 ?side7 ?side8 A24.out).mono ?_
           (case side1 => repeat (first | exact (Kd.C_below HR286_2.out HB.out) | (with_reducible refine Kd.C_alloc ?_ _) | (with_reducible refine Kd.C_drewN ?_ _) | (with_reducible refine Kd.C_drew ?_)))
           (case side2 => exact HC286_2.out)
           (case side3 => repeat (first | exact (Kd.C_below HR286_3.out HB.out) | (with_reducible refine Kd.C_alloc ?_ _) | (with_reducible refine Kd.C_drewN ?_ _) | (with_reducible refine Kd.C_drew ?_)))
           (case side4 => exact HC286_3.out)
           (case side5 => repeat (first | exact (Kd.C_below HR287_2.out HB.out) | (with_reducible refine Kd.C_alloc ?_ _) | (with_reducible refine Kd.C_drewN ?_ _) | (with_reducible refine Kd.C_drew ?_)))
           (case side6 => exact HC287_2.out)
           (case side7 => repeat (first | exact (Kd.C_below HR287_3.out HB.out) | (with_reducible refine Kd.C_alloc ?_ _) | (with_reducible refine Kd.C_drewN ?_ _) | (with_reducible refine Kd.C_drew ?_)))
           (case side8 => exact HC287_3.out)
           rintro e w27 ⟨rfl, hb⟩
           refine ⟨_, rfl, ?_⟩
           have n0_ := Aside0.mk (blk_below (g := gb284) (o := .cells #[.int .i64 a0_0, .slice (some ad286) l0_1.length c0_1, .slice A0_2 l0_2.length c0_2] 25 (0, 0)) (by (with_reducible repeat (first | refine blk_drewN ?_ _ | refine blk_drew ?_ | refine blk_alloc ?_ _)); exact BK284.out) hb)
           have n1_ := Aside0.mk (blk_below (g := gb285) (o := .cells #[.int .i64 a1_0, .slice (some ad287) l1_1.length c1_1, .slice A1_2 l1_2.length c1_2] 25 (0, 0)) (by (with_reducible repeat (first | refine blk_drewN ?_ _ | refine blk_drew ?_ | refine blk_alloc ?_ _)); exact BK285.out) hb)
           have n2_ := Aside0.mk (below_step (by repeat (first | (with_reducible first | exact HB.out | apply below_alloc | apply pw_below_drewN | apply below_drew1 | refine below_set ?_ GE284.out | refine below_set ?_ GE285.out) | exact HB.out)) hb)
           clear BK284
           clear BK285
           clear HB
           have BK284 := n0_
           have BK285 := n1_
           have HB := n2_
           clear n0_ n1_ n2_
           (try clear hb)
           (try clear hb2)
           (try clear hk)
           (try clear hi)
           refine hK.out _ _ ⟨(blk_cell BK284.out 0).trans rfl, (blk_cell BK284.out 1).trans rfl, (blk_cell BK284.out 2).trans rfl, (blk_cell BK285.out 0).trans rfl, (blk_cell BK285.out 1).trans rfl, (blk_cell BK285.out 2).trans rfl, ((HB.out.cell (World.block_lt_of_cell? w _ hw286_0)).trans hw286_0), ((HB.out.cell (World.block_lt_of_cell? w _ hw286_1)).trans hw286_1), ((HB.out.cell (World.block_lt_of_cell? w _ hw286_2)).trans hw286_2), ((HB.out.cell (World.block_lt_of_cell? w _ hw286_3)).trans hw286_3), ((HB.out.cell (World.block_lt_of_cell? w _ hw287_0)).trans hw287_0), ((HB.out.cell (World.block_lt_of_cell? w _ hw287_1)).trans hw287_1), ((HB.out.cell (World.block_lt_of_cell? w _ hw287_2)).trans hw287_2), ((HB.out.cell (World.block_lt_of_cell? w _ hw287_3)).trans hw287_3)⟩ (fun hHeld => ?_)
           clear hK K
           refine norm_ (a' := ?_) ?_ ?_
           rotate_left
           ·show Act.put _ (some 46) _ = _
            simp only [Act.put, List.setIfInBounds_toArray, List.set_cons_zero, List.set_cons_succ, i64_w, i32_w]
            rfl
           refine pure_ (i := 11) (N := some 47) (v := ?_) (a' := ?_) #[true, true, true, true, true, true, true, true, true, true, true, true] rfl rfl (any_of HT_.out (by kernel_rfl)) (fun _ _ _ h => h) (Or.inl ⟨by rfl, ?_⟩) ?_ ?_
           rotate_left
           ·intro w'
            go_simp
            with_reducible rfl
           rotate_left
           ·simp only [Act.put, List.setIfInBounds_toArray, List.set_cons_zero, List.set_cons_succ, i64_w, i32_w]
            rfl
           refine done_ (done_of HT_.out (by kernel_rfl)) ?_
           try go_wp2
           go_roundg k2
           case measure => have := HJ2.out; have := HK2.out; omega
           case rel => exact ⟨(wrap64 (x33_2 + 1)), (by first | rfl | (simp; done) | (simp [*]; done)), H', ⟨by have := HJ2.out; have := HK2.out; omega⟩, ⟨by (with_reducible repeat (first | refine blk_drewN ?_ _ | refine blk_drew ?_ | refine blk_alloc ?_ _)); exact BK284.out⟩, ⟨by (with_reducible repeat (first | refine blk_drewN ?_ _ | refine blk_drew ?_ | refine blk_alloc ?_ _)); exact BK285.out⟩, ⟨by repeat (first | (with_reducible first | exact HB.out | apply below_alloc | apply pw_below_drewN | apply below_drew1 | refine below_set ?_ GE284.out | refine below_set ?_ GE285.out) | exact HB.out)⟩⟩
          ·replace c25 := Bool.eq_false_iff.mpr c25
           subst c25
           have H1 : (some false) = some r := by rw [if_neg (show ¬ (false = true) by decide)] at H; exact H
           clear H
           have H := H1
           clear H1
           obtain rfl := Option.some.inj H
           try go_wp2
           have n0_ := Aside0.mk (blk_drew BK284.out)
           have n1_ := Aside0.mk (blk_drew BK285.out)
           have n2_ := Aside0.mk (below_drew1 HB.out)
           clear BK284
           clear BK285
           clear HB
           have BK284 := n0_
           have BK285 := n1_
           have HB := n2_
           clear n0_ n1_ n2_
           have p286 : 0 ≤ (x33_2 : Int) := of_decide_eq_true (by first | (with_reducible assumption) | assumption)
           have q286 : x33_2 < (l0_1.length : Int) := of_decide_eq_true (by first | (with_reducible assumption) | assumption)
           obtain ⟨ad286, A286_2, c286_2, A286_3, c286_3, e286, hx286_0, hx286_1, hx286_2, hx286_3, hl286_2, hi286_2, hl286_3, hi286_3⟩ := at_T45 HR0_1.out x33_2 p286 q286
           have hw286_3 := hx286_3
           have hw286_2 := hx286_2
           have hw286_1 := hx286_1
           have hw286_0 := hx286_0
           cases e286
           replace hx286_0 := (HB.out.cell (World.block_lt_of_cell? w _ hx286_0)).trans hx286_0
           replace hx286_1 := (HB.out.cell (World.block_lt_of_cell? w _ hx286_1)).trans hx286_1
           replace hx286_2 := (HB.out.cell (World.block_lt_of_cell? w _ hx286_2)).trans hx286_2
           replace hx286_3 := (HB.out.cell (World.block_lt_of_cell? w _ hx286_3)).trans hx286_3
           have HR286_2 := Aside0.mk hi286_2
           have HC286_2 := Aside0.mk hl286_2
           clear hi286_2 hl286_2
           have HR286_3 := Aside0.mk hi286_3
           have HC286_3 := Aside0.mk hl286_3
           clear hi286_3 hl286_3
           replace p286 := eq_true p286
           replace q286 := eq_true q286
           have p287 : 0 ≤ (x33_2 : Int) := of_decide_eq_true (by first | (with_reducible assumption) | assumption)
           have q287 : x33_2 < (l1_1.length : Int) := of_decide_eq_true (by first | (with_reducible assumption) | assumption)
           obtain ⟨ad287, A287_2, c287_2, A287_3, c287_3, e287, hx287_0, hx287_1, hx287_2, hx287_3, hl287_2, hi287_2, hl287_3, hi287_3⟩ := at_T45 HR1_1.out x33_2 p287 q287
           have hw287_3 := hx287_3
           have hw287_2 := hx287_2
           have hw287_1 := hx287_1
           have hw287_0 := hx287_0
           cases e287
           replace hx287_0 := (HB.out.cell (World.block_lt_of_cell? w _ hx287_0)).trans hx287_0
           replace hx287_1 := (HB.out.cell (World.block_lt_of_cell? w _ hx287_1)).trans hx287_1
           replace hx287_2 := (HB.out.cell (World.block_lt_of_cell? w _ hx287_2)).trans hx287_2
           replace hx287_3 := (HB.out.cell (World.block_lt_of_cell? w _ hx287_3)).trans hx287_3
           have HR287_2 := Aside0.mk hi287_2
           have HC287_2 := Aside0.mk hl287_2
           clear hi287_2 hl287_2
           have HR287_3 := Aside0.mk hi287_3
           have HC287_3 := Aside0.mk hl287_3
           clear hi287_3 hl287_3
           replace p287 := eq_true p287
           replace q287 := eq_true q287
           refine start_ (n := 12) (S := fun w' => w'.cell? ⟨gb284, 0, none⟩ = some (.int .i64 a0_0) ∧ w'.cell? ⟨gb284, 1, none⟩ = some (.slice (some ad286) l0_1.length c0_1) ∧ w'.cell? ⟨gb284, 2, none⟩ = some (.slice A0_2 l0_2.length c0_2) ∧ w'.cell? ⟨gb285, 0, none⟩ = some (.int .i64 a1_0) ∧ w'.cell? ⟨gb285, 1, none⟩ = some (.slice (some ad287) l1_1.length c1_1) ∧ w'.cell? ⟨gb285, 2, none⟩ = some (.slice A1_2 l1_2.length c1_2) ∧ w'.cell? (ad286.add ((x33_2).toNat * 4)) = some (.string ((rd_T45 l0_1 x33_2).f0)) ∧ w'.cell? ⟨(ad286.add ((x33_2).toNat * 4)).block, (ad286.add ((x33_2).toNat * 4)).off + 1, none⟩ = some (.int .i64 ((rd_T45 l0_1 x33_2).f1)) ∧ w'.cell? ⟨(ad286.add ((x33_2).toNat * 4)).block, (ad286.add ((x33_2).toNat * 4)).off + 2, none⟩ = some (.slice A286_2 ((rd_T45 l0_1 x33_2).f2).length c286_2) ∧ w'.cell? ⟨(ad286.add ((x33_2).toNat * 4)).block, (ad286.add ((x33_2).toNat * 4)).off + 3, none⟩ = some (.slice A286_3 ((rd_T45 l0_1 x33_2).f3).length c286_3) ∧ w'.cell? (ad287.add ((x33_2).toNat * 4)) = some (.string ((rd_T45 l1_1 x33_2).f0)) ∧ w'.cell? ⟨(ad287.add ((x33_2).toNat * 4)).block, (ad287.add ((x33_2).toNat * 4)).off + 1, none⟩ = some (.int .i64 ((rd_T45 l1_1 x33_2).f1)) ∧ w'.cell? ⟨(ad287.add ((x33_2).toNat * 4)).block, (ad287.add ((x33_2).toNat * 4)).off + 2, none⟩ = some (.slice A287_2 ((rd_T45 l1_1 x33_2).f2).length c287_2) ∧ w'.cell? ⟨(ad287.add ((x33_2).toNat * 4)).block, (ad287.add ((x33_2).toNat * 4)).off + 3, none⟩ = some (.slice A287_3 ((rd_T45 l1_1 x33_2).f3).length c287_3)) (ds := []) #[false, false, false, false, false, false, false, false, false, false, false, false] (by kernel_rfl) rfl rfl ⟨(blk_cell BK284.out 0).trans rfl, (blk_cell BK284.out 1).trans rfl, (blk_cell BK284.out 2).trans rfl, (blk_cell BK285.out 0).trans rfl, (blk_cell BK285.out 1).trans rfl, (blk_cell BK285.out 2).trans rfl, ((HB.out.cell (World.block_lt_of_cell? w _ hw286_0)).trans hw286_0), ((HB.out.cell (World.block_lt_of_cell? w _ hw286_1)).trans hw286_1), ((HB.out.cell (World.block_lt_of_cell? w _ hw286_2)).trans hw286_2), ((HB.out.cell (World.block_lt_of_cell? w _ hw286_3)).trans hw286_3), ((HB.out.cell (World.block_lt_of_cell? w _ hw287_0)).trans hw287_0), ((HB.out.cell (World.block_lt_of_cell? w _ hw287_1)).trans hw287_1), ((HB.out.cell (World.block_lt_of_cell? w _ hw287_2)).trans hw287_2), ((HB.out.cell (World.block_lt_of_cell? w _ hw287_3)).trans hw287_3)⟩ (fun hHeld => ?_); refine with_tabW mortmainref09_Same.tab6 mortmainref09_Same.bits6 (fun HT_ HW_ => ?_)
           generalize wr.drew = w28 at BK284 BK285 HB HR286_2 HR286_3 HR287_2 HR287_3 hx286_0 hx286_1 hx286_2 hx286_3 hx287_0 hx287_1 hx287_2 hx287_3 hHeld ⊢
           refine pure_ (i := 0) (N := some 36) (v := ?_) (a' := ?_) #[true, false, false, false, false, false, false, false, false, false, false, false] rfl rfl (any_of HT_.out (by kernel_rfl)) (fun _ _ _ h => h) (Or.inl ⟨by rfl, ?_⟩) ?_ ?_
           rotate_left
           ·intro w'
            go_simp
            with_reducible rfl
           rotate_left
           ·simp only [Act.put, List.setIfInBounds_toArray, List.set_cons_zero, List.set_cons_succ, i64_w, i32_w]
            rfl
           refine pure_ (i := 2) (N := some 38) (v := ?_) (a' := ?_) #[true, false, true, false, false, false, false, false, false, false, false, false] rfl rfl (any_of HT_.out (by kernel_rfl)) (fun _ _ _ h => h) (Or.inl ⟨by rfl, ?_⟩) ?_ ?_
           rotate_left
           ·intro w'
            go_simp
            with_reducible rfl
           rotate_left
           ·simp only [Act.put, List.setIfInBounds_toArray, List.set_cons_zero, List.set_cons_succ, i64_w, i32_w]
            rfl
           refine pure_ (i := 5) (N := some 41) (v := ?_) (a' := ?_) #[true, false, true, false, false, true, false, false, false, false, false, false] rfl rfl (any_of HT_.out (by kernel_rfl)) (fun _ _ _ h => h) (Or.inl ⟨by rfl, ?_⟩) ?_ ?_
           rotate_left
           ·intro w'
            go_simp
            with_reducible rfl
           rotate_left
           ·simp only [Act.put, List.setIfInBounds_toArray, List.set_cons_zero, List.set_cons_succ, i64_w, i32_w]
            rfl
           refine pure_ (i := 7) (N := some 43) (v := ?_) (a' := ?_) #[true, false, true, false, false, true, false, true, false, false, false, false] rfl rfl (any_of HT_.out (by kernel_rfl)) (fun _ _ _ h => h) (Or.inl ⟨by rfl, ?_⟩) ?_ ?_
           rotate_left
           ·intro w'
            go_simp
            with_reducible rfl
           rotate_left
           ·simp only [Act.put, List.setIfInBounds_toArray, List.set_cons_zero, List.set_cons_succ, i64_w, i32_w]
            rfl
           refine take_ (i := 1) (N := some 37) (v := ?_) (a' := ?_) #[true, true, true, false, false, true, false, true, false, false, false, false] rfl rfl (take_ofW HT_.out HW_.out (by kernel_rfl)) (fun _ _ _ h => h) (Or.inl ⟨by rfl, ?_⟩) hHeld ?_ ?_
           rotate_left
           ·rintro w' ⟨s0, s1, s2, s3, s4, s5, s6, s7, s8, s9, s10, s11, s12, s13⟩
            go_simp
            with_reducible rfl
           rotate_left
           ·simp only [Act.put, List.setIfInBounds_toArray, List.set_cons_zero, List.set_cons_succ, i64_w, i32_w]
            rfl
           refine pure_ (i := 3) (N := some 39) (v := ?_) (a' := ?_) #[true, true, true, true, false, true, false, true, false, false, false, false] rfl rfl (any_of HT_.out (by kernel_rfl)) (fun _ _ _ h => h) (Or.inl ⟨by rfl, ?_⟩) ?_ ?_
           rotate_left
           ·intro w'
            go_simp
            with_reducible rfl
           rotate_left
           ·simp only [Act.put, List.setIfInBounds_toArray, List.set_cons_zero, List.set_cons_succ, i64_w, i32_w]
            rfl
           refine take_ (i := 4) (N := some 40) (v := ?_) (a' := ?_) #[true, true, true, true, true, true, false, true, false, false, false, false] rfl rfl (take_ofW HT_.out HW_.out (by kernel_rfl)) (fun _ _ _ h => h) (Or.inl ⟨by rfl, ?_⟩) hHeld ?_ ?_
           rotate_left
           ·rintro w' ⟨s0, s1, s2, s3, s4, s5, s6, s7, s8, s9, s10, s11, s12, s13⟩
            go_simp
            with_reducible rfl
           rotate_left
           ·simp only [Act.put, List.setIfInBounds_toArray, List.set_cons_zero, List.set_cons_succ, i64_w, i32_w]
            rfl
           refine take_ (i := 6) (N := some 42) (v := ?_) (a' := ?_) #[true, true, true, true, true, true, true, true, false, false, false, false] rfl rfl (take_ofW HT_.out HW_.out (by kernel_rfl)) (fun _ _ _ h => h) (Or.inl ⟨by rfl, ?_⟩) hHeld ?_ ?_
           rotate_left
           ·rintro w' ⟨s0, s1, s2, s3, s4, s5, s6, s7, s8, s9, s10, s11, s12, s13⟩
            go_simp
            with_reducible rfl
           rotate_left
           ·simp only [Act.put, List.setIfInBounds_toArray, List.set_cons_zero, List.set_cons_succ, i64_w, i32_w]
            rfl
           refine pure_ (i := 8) (N := some 44) (v := ?_) (a' := ?_) #[true, true, true, true, true, true, true, true, true, false, false, false] rfl rfl (any_of HT_.out (by kernel_rfl)) (fun _ _ _ h => h) (Or.inl ⟨by rfl, ?_⟩) ?_ ?_
           rotate_left
           ·intro w'
            go_simp
            with_reducible rfl
           rotate_left
           ·simp only [Act.put, List.setIfInBounds_toArray, List.set_cons_zero, List.set_cons_succ, i64_w, i32_w]
            rfl
           refine take_ (i := 9) (N := some 45) (v := ?_) (a' := ?_) #[true, true, true, true, true, true, true, true, true, true, false, false] rfl rfl (take_ofW HT_.out HW_.out (by kernel_rfl)) (fun _ _ _ h => h) (Or.inl ⟨by rfl, ?_⟩) hHeld ?_ ?_
           rotate_left
           ·rintro w' ⟨s0, s1, s2, s3, s4, s5, s6, s7, s8, s9, s10, s11, s12, s13⟩
            go_simp
            with_reducible rfl
           rotate_left
           ·simp only [Act.put, List.setIfInBounds_toArray, List.set_cons_zero, List.set_cons_succ, i64_w, i32_w]
            rfl
           refine one_ (i := 10) (N := some 46) #[true, true, true, true, true, true, true, true, true, true, true, false] rfl rfl (one_of HT_.out (by kernel_rfl)) (by decide) (fun K hK => ?_)
           refine goes_ Tryd.func31 (by kernel_rfl) rfl #[.agg #[.string ((rd_T45 l0_1 x33_2).f0), .int .i64 ((rd_T45 l0_1 x33_2).f1), .slice A286_2 ((rd_T45 l0_1 x33_2).f2).length c286_2, .slice A286_3 ((rd_T45 l0_1 x33_2).f3).length c286_3], .agg #[.string ((rd_T45 l1_1 x33_2).f0), .int .i64 ((rd_T45 l1_1 x33_2).f1), .slice A287_2 ((rd_T45 l1_1 x33_2).f2).length c287_2, .slice A287_3 ((rd_T45 l1_1 x33_2).f3).length c287_3]] (by rfl) rfl rfl (by (try simp only [List.map_toArray, List.map_cons, List.map_nil]); first | done | rfl | (simp only [List.length_drop, List.length_take]; rfl)) ?_
           with_reducible refine (mortmainref09_SameTable.calls k2 ((rd_T45 l0_1 x33_2).f0) ((rd_T45 l0_1 x33_2).f1) _ _ ((rd_T45 l0_1 x33_2).f2) _ _ ((rd_T45 l0_1 x33_2).f3) ((rd_T45 l1_1 x33_2).f0) ((rd_T45 l1_1 x33_2).f1) _ _ ((rd_T45 l1_1 x33_2).f2) _ _ ((rd_T45 l1_1 x33_2).f3) false _ ?side1 ?side2 ?side3 ?side4 ?side5 ?side6 ?side7 ?side8 A24.out).mono ?_
           (case side1 => repeat (first | exact (Kd.C_below HR286_2.out HB.out) | (with_reducible refine Kd.C_alloc ?_ _) | (with_reducible refine Kd.C_drewN ?_ _) | (with_reducible refine Kd.C_drew ?_)))
           (case side2 => exact HC286_2.out)
           (case side3 => repeat (first | exact (Kd.C_below HR286_3.out HB.out) | (with_reducible refine Kd.C_alloc ?_ _) | (with_reducible refine Kd.C_drewN ?_ _) | (with_reducible refine Kd.C_drew ?_)))
           (case side4 => exact HC286_3.out)
           (case side5 => repeat (first | exact (Kd.C_below HR287_2.out HB.out) | (with_reducible refine Kd.C_alloc ?_ _) | (with_reducible refine Kd.C_drewN ?_ _) | (with_reducible refine Kd.C_drew ?_)))
           (case side6 => exact HC287_2.out)
           (case side7 => repeat (first | exact (Kd.C_below HR287_3.out HB.out) | (with_reducible refine Kd.C_alloc ?_ _) | (with_reducible refine Kd.C_drewN ?_ _) | (with_reducible refine Kd.C_drew ?_)))
           (case side8 => exact HC287_3.out)
           rintro e w29 ⟨rfl, hb⟩
           refine ⟨_, rfl, ?_⟩
           have n0_ := Aside0.mk (blk_below (g := gb284) (o := .cells #[.int .i64 a0_0, .slice (some ad286) l0_1.length c0_1, .slice A0_2 l0_2.length c0_2] 25 (0, 0)) (by (with_reducible repeat (first | refine blk_drewN ?_ _ | refine blk_drew ?_ | refine blk_alloc ?_ _)); exact BK284.out) hb)
           have n1_ := Aside0.mk (blk_below (g := gb285) (o := .cells #[.int .i64 a1_0, .slice (some ad287) l1_1.length c1_1, .slice A1_2 l1_2.length c1_2] 25 (0, 0)) (by (with_reducible repeat (first | refine blk_drewN ?_ _ | refine blk_drew ?_ | refine blk_alloc ?_ _)); exact BK285.out) hb)
           have n2_ := Aside0.mk (below_step (by repeat (first | (with_reducible first | exact HB.out | apply below_alloc | apply pw_below_drewN | apply below_drew1 | refine below_set ?_ GE284.out | refine below_set ?_ GE285.out) | exact HB.out)) hb)
           clear BK284
           clear BK285
           clear HB
           have BK284 := n0_
           have BK285 := n1_
           have HB := n2_
           clear n0_ n1_ n2_
           (try clear hb)
           (try clear hb2)
           (try clear hk)
           (try clear hi)
           refine hK.out _ _ ⟨(blk_cell BK284.out 0).trans rfl, (blk_cell BK284.out 1).trans rfl, (blk_cell BK284.out 2).trans rfl, (blk_cell BK285.out 0).trans rfl, (blk_cell BK285.out 1).trans rfl, (blk_cell BK285.out 2).trans rfl, ((HB.out.cell (World.block_lt_of_cell? w _ hw286_0)).trans hw286_0), ((HB.out.cell (World.block_lt_of_cell? w _ hw286_1)).trans hw286_1), ((HB.out.cell (World.block_lt_of_cell? w _ hw286_2)).trans hw286_2), ((HB.out.cell (World.block_lt_of_cell? w _ hw286_3)).trans hw286_3), ((HB.out.cell (World.block_lt_of_cell? w _ hw287_0)).trans hw287_0), ((HB.out.cell (World.block_lt_of_cell? w _ hw287_1)).trans hw287_1), ((HB.out.cell (World.block_lt_of_cell? w _ hw287_2)).trans hw287_2), ((HB.out.cell (World.block_lt_of_cell? w _ hw287_3)).trans hw287_3)⟩ (fun hHeld => ?_)
           clear hK K
           refine norm_ (a' := ?_) ?_ ?_
           rotate_left
           ·show Act.put _ (some 46) _ = _
            simp only [Act.put, List.setIfInBounds_toArray, List.set_cons_zero, List.set_cons_succ, i64_w, i32_w]
            rfl
           refine pure_ (i := 11) (N := some 47) (v := ?_) (a' := ?_) #[true, true, true, true, true, true, true, true, true, true, true, true] rfl rfl (any_of HT_.out (by kernel_rfl)) (fun _ _ _ h => h) (Or.inl ⟨by rfl, ?_⟩) ?_ ?_
           rotate_left
           ·intro w'
            go_simp
            with_reducible rfl
           rotate_left
           ·simp only [Act.put, List.setIfInBounds_toArray, List.set_cons_zero, List.set_cons_succ, i64_w, i32_w]
            rfl
           refine done_ (done_of HT_.out (by kernel_rfl)) ?_
           try go_wp2
           go_ret
           exact ⟨by first | rfl | (simp [errW_none, errW_some] <;> rfl) | (simp [*, errW_none, errW_some] <;> rfl), by repeat (first | (with_reducible first | exact HB.out | apply below_alloc | apply pw_below_drewN | apply below_drew1 | refine below_set ?_ GE284.out | refine below_set ?_ GE285.out) | exact HB.out)⟩
         ·rw [if_neg c23] at H
          exact absurd H (by simp)
        ·rw [if_neg c22] at H
         exact absurd H (by simp)
       ·rw [if_neg c21] at H
        exact absurd H (by simp)
      ·rw [if_neg c20] at H
       have c20b0 : decide (x33_2 < (l0_1.length : Int)) = false := decide_eq_false c20
       clear c20
       have H' := Aside0.mk H
       clear H
       have hnb30 := NB284_285.out
       have hnc30 := NB285_284.out
       have hcz31_0 : wr.cell? ⟨gb284, 0, none⟩ = some (.int .i64 a0_0) := (blk_cell BK284.out 0).trans rfl
       have hcz31_1 : wr.cell? ⟨gb284, 1, none⟩ = some (.slice A0_1 l0_1.length c0_1) := (blk_cell BK284.out 1).trans rfl
       have hcz31_2 : wr.cell? ⟨gb284, 2, none⟩ = some (.slice A0_2 l0_2.length c0_2) := (blk_cell BK284.out 2).trans rfl
       have hfz31_0 := blk_frozen BK284.out 0
       have hfz31_1 := blk_frozen BK284.out 1
       have hfz31_2 := blk_frozen BK284.out 2
       go_wp2
       go_loopg [52] k2 (fun kq v52 w' => ∃ (x52_3 : Int), v52 = .int .i64 x52_3 ∧ Aside0 (mortmainref09_Same.l1 kq (l0_2.length : Int) x52_3 a0_0 l0_1 l0_2 a1_0 l1_1 l1_2 = some r) ∧ Aside0 (kq ≤ k2) ∧ Aside0 (w'.heap[gb284]? = some (.cells #[.int .i64 a0_0, (.slice A0_1 l0_1.length c0_1), (.slice A0_2 l0_2.length c0_2)] 25 (0, 0))) ∧ Aside0 (w'.heap[gb285]? = some (.cells #[.int .i64 a1_0, (.slice A1_1 l1_1.length c1_1), (.slice A1_2 l1_2.length c1_2)] 25 (0, 0))) ∧ Aside0 (Below w.heap.size w w'))
       case atStart => exact ⟨(0), (by first | rfl | (simp; done) | (simp [*]; done)), H', ⟨Nat.le_refl _⟩, ⟨by (with_reducible repeat (first | refine blk_drewN ?_ _ | refine blk_drew ?_ | refine blk_alloc ?_ _)); exact BK284.out⟩, ⟨by (with_reducible repeat (first | refine blk_drewN ?_ _ | refine blk_drew ?_ | refine blk_alloc ?_ _)); exact BK285.out⟩, ⟨by repeat (first | (with_reducible first | exact HB.out | apply below_alloc | apply pw_below_drewN | apply below_drew1 | refine below_set ?_ GE284.out | refine below_set ?_ GE285.out) | exact HB.out)⟩⟩
       case round =>
        clear H'
        try clear c1
        try clear c2
        try clear p2
        try clear q2
        try clear hx2
        try clear c3
        try clear c4
        try clear c6
        try clear c6b0
        try clear c6b1
        try clear p6
        try clear c7
        try clear c7b0
        try clear c7b1
        try clear c7b2
        try clear c8
        try clear c11
        try clear c14
        try clear c17
        try clear c18
        try clear c20
        try clear c20b0
        try clear c21
        try clear c21b0
        try clear c22
        try clear c22b0
        try clear c23
        try clear c23b0
        try clear c25
        try clear c28
        try clear p28
        try clear q28
        try clear hx28
        try clear c30
        try clear c31
        try clear hcz10_0
        try clear hcz10_1
        try clear hcz10_2
        try clear hcz12_0
        try clear hcz12_1
        try clear hcz12_2
        try clear hcz13_0
        try clear hcz13_1
        try clear hcz13_2
        try clear hcz15_0
        try clear hcz15_1
        try clear hcz15_2
        try clear hcz16_0
        try clear hcz16_1
        try clear hcz16_2
        try clear hcz19_0
        try clear hcz19_1
        try clear hcz19_2
        try clear hcz31_0
        try clear hcz31_1
        try clear hcz31_2
        try clear hcz9_0
        try clear hcz9_1
        try clear hcz9_2
        try clear hfz10_0
        try clear hfz10_1
        try clear hfz10_2
        try clear hfz12_0
        try clear hfz12_1
        try clear hfz12_2
        try clear hfz13_0
        try clear hfz13_1
        try clear hfz13_2
        try clear hfz15_0
        try clear hfz15_1
        try clear hfz15_2
        try clear hfz16_0
        try clear hfz16_1
        try clear hfz16_2
        try clear hfz19_0
        try clear hfz19_1
        try clear hfz19_2
        try clear hfz31_0
        try clear hfz31_1
        try clear hfz31_2
        try clear hfz9_0
        try clear hfz9_1
        try clear hfz9_2
        try clear hx286_0
        try clear hx286_1
        try clear hx286_2
        try clear hx286_3
        try clear hx287_0
        try clear hx287_1
        try clear hx287_2
        try clear hx287_3
        try clear p2
        try clear p286
        try clear p287
        try clear q286
        try clear q287
        obtain ⟨x52_3, rfl, HA, HK3, BK284, BK285, HB⟩ := hrel
        cases gk with
        | zero => exact absurd HA.out (by simp [mortmainref09_Same.l1])
        | succ k3 =>
         have H := HA.out
         clear HA
         simp only [mortmainref09_Same.l1] at H
         by_cases c32 : x52_3 < (l0_2.length : Int)
         ·rw [if_pos c32] at H
          have c32b0 : decide (x52_3 < (l0_2.length : Int)) = true := decide_eq_true c32
          clear c32
          by_cases c33 : 0 ≤ x52_3
          ·rw [if_pos c33] at H
           have c33b0 : decide (0 ≤ x52_3) = true := decide_eq_true c33
           clear c33
           by_cases c34 : x52_3 < (l0_2.length : Int)
           ·rw [if_pos c34] at H
            have c34b0 : decide (x52_3 < (l0_2.length : Int)) = true := decide_eq_true c34
            clear c34
            by_cases c35 : x52_3 < (l1_2.length : Int)
            ·rw [if_pos c35] at H
             have c35b0 : decide (x52_3 < (l1_2.length : Int)) = true := decide_eq_true c35
             clear c35
             by_cases c36 : (!(((rd_T27 l0_2 x52_3).f0) == ((rd_T27 l1_2 x52_3).f0)) || (!((((rd_T27 l0_2 x52_3).f1).toList) == (((rd_T27 l1_2 x52_3).f1).toList)) || (!(((rd_T27 l0_2 x52_3).f2) == ((rd_T27 l1_2 x52_3).f2))))) = true
             ·rw [if_pos c36] at H
              have c36b0 : (!(((rd_T27 l0_2 x52_3).f0) == ((rd_T27 l1_2 x52_3).f0)) || (!((((rd_T27 l0_2 x52_3).f1).toList) == (((rd_T27 l1_2 x52_3).f1).toList)) || (!(((rd_T27 l0_2 x52_3).f2) == ((rd_T27 l1_2 x52_3).f2))))) = true := c36
              clear c36
              obtain rfl := Option.some.inj H
              try go_wp2
              have n0_ := Aside0.mk (blk_drew BK284.out)
              have n1_ := Aside0.mk (blk_drew BK285.out)
              have n2_ := Aside0.mk (below_drew1 HB.out)
              clear BK284
              clear BK285
              clear HB
              have BK284 := n0_
              have BK285 := n1_
              have HB := n2_
              clear n0_ n1_ n2_
              have p289 : 0 ≤ (x52_3 : Int) := of_decide_eq_true (by first | (with_reducible assumption) | assumption)
              have q289 : x52_3 < (l0_2.length : Int) := of_decide_eq_true (by first | (with_reducible assumption) | assumption)
              obtain ⟨ad289, e289, hx289_0, hx289_1, hx289_2⟩ := at_T27 HR0_2.out x52_3 p289 q289
              have hw289_2 := hx289_2
              have hw289_1 := hx289_1
              have hw289_0 := hx289_0
              cases e289
              replace hx289_0 := (HB.out.cell (World.block_lt_of_cell? w _ hx289_0)).trans hx289_0
              replace hx289_1 := (HB.out.cell (World.block_lt_of_cell? w _ hx289_1)).trans hx289_1
              replace hx289_2 := (HB.out.cell (World.block_lt_of_cell? w _ hx289_2)).trans hx289_2
              replace p289 := eq_true p289
              replace q289 := eq_true q289
              have p290 : 0 ≤ (x52_3 : Int) := of_decide_eq_true (by first | (with_reducible assumption) | assumption)
              have q290 : x52_3 < (l1_2.length : Int) := of_decide_eq_true (by first | (with_reducible assumption) | assumption)
              obtain ⟨ad290, e290, hx290_0, hx290_1, hx290_2⟩ := at_T27 HR1_2.out x52_3 p290 q290
              have hw290_2 := hx290_2
              have hw290_1 := hx290_1
              have hw290_0 := hx290_0
              cases e290
              replace hx290_0 := (HB.out.cell (World.block_lt_of_cell? w _ hx290_0)).trans hx290_0
              replace hx290_1 := (HB.out.cell (World.block_lt_of_cell? w _ hx290_1)).trans hx290_1
              replace hx290_2 := (HB.out.cell (World.block_lt_of_cell? w _ hx290_2)).trans hx290_2
              replace p290 := eq_true p290
              replace q290 := eq_true q290
              refine start_ (n := 11) (S := fun w' => w'.cell? ⟨gb284, 0, none⟩ = some (.int .i64 a0_0) ∧ w'.cell? ⟨gb284, 1, none⟩ = some (.slice A0_1 l0_1.length c0_1) ∧ w'.cell? ⟨gb284, 2, none⟩ = some (.slice (some ad289) l0_2.length c0_2) ∧ w'.cell? ⟨gb285, 0, none⟩ = some (.int .i64 a1_0) ∧ w'.cell? ⟨gb285, 1, none⟩ = some (.slice A1_1 l1_1.length c1_1) ∧ w'.cell? ⟨gb285, 2, none⟩ = some (.slice (some ad290) l1_2.length c1_2) ∧ w'.cell? (ad289.add ((x52_3).toNat * 3)) = some (.int .i64 ((rd_T27 l0_2 x52_3).f0)) ∧ w'.cell? ⟨(ad289.add ((x52_3).toNat * 3)).block, (ad289.add ((x52_3).toNat * 3)).off + 1, none⟩ = some (.string ((rd_T27 l0_2 x52_3).f1)) ∧ w'.cell? ⟨(ad289.add ((x52_3).toNat * 3)).block, (ad289.add ((x52_3).toNat * 3)).off + 2, none⟩ = some (.int .i64 ((rd_T27 l0_2 x52_3).f2)) ∧ w'.cell? (ad290.add ((x52_3).toNat * 3)) = some (.int .i64 ((rd_T27 l1_2 x52_3).f0)) ∧ w'.cell? ⟨(ad290.add ((x52_3).toNat * 3)).block, (ad290.add ((x52_3).toNat * 3)).off + 1, none⟩ = some (.string ((rd_T27 l1_2 x52_3).f1)) ∧ w'.cell? ⟨(ad290.add ((x52_3).toNat * 3)).block, (ad290.add ((x52_3).toNat * 3)).off + 2, none⟩ = some (.int .i64 ((rd_T27 l1_2 x52_3).f2))) (ds := []) #[false, false, false, false, false, false, false, false, false, false, false] (by kernel_rfl) rfl rfl ⟨(blk_cell BK284.out 0).trans rfl, (blk_cell BK284.out 1).trans rfl, (blk_cell BK284.out 2).trans rfl, (blk_cell BK285.out 0).trans rfl, (blk_cell BK285.out 1).trans rfl, (blk_cell BK285.out 2).trans rfl, ((HB.out.cell (World.block_lt_of_cell? w _ hw289_0)).trans hw289_0), ((HB.out.cell (World.block_lt_of_cell? w _ hw289_1)).trans hw289_1), ((HB.out.cell (World.block_lt_of_cell? w _ hw289_2)).trans hw289_2), ((HB.out.cell (World.block_lt_of_cell? w _ hw290_0)).trans hw290_0), ((HB.out.cell (World.block_lt_of_cell? w _ hw290_1)).trans hw290_1), ((HB.out.cell (World.block_lt_of_cell? w _ hw290_2)).trans hw290_2)⟩ (fun hHeld => ?_); refine with_tabW mortmainref09_Same.tab12 mortmainref09_Same.bits12 (fun HT_ HW_ => ?_)
              generalize wr.drew = w37 at BK284 BK285 HB hx289_0 hx289_1 hx289_2 hx290_0 hx290_1 hx290_2 hHeld ⊢
              refine pure_ (i := 0) (N := some 55) (v := ?_) (a' := ?_) #[true, false, false, false, false, false, false, false, false, false, false] rfl rfl (any_of HT_.out (by kernel_rfl)) (fun _ _ _ h => h) (Or.inl ⟨by rfl, ?_⟩) ?_ ?_
              rotate_left
              ·intro w'
               go_simp
               with_reducible rfl
              rotate_left
              ·simp only [Act.put, List.setIfInBounds_toArray, List.set_cons_zero, List.set_cons_succ, i64_w, i32_w]
               rfl
              refine pure_ (i := 2) (N := some 57) (v := ?_) (a' := ?_) #[true, false, true, false, false, false, false, false, false, false, false] rfl rfl (any_of HT_.out (by kernel_rfl)) (fun _ _ _ h => h) (Or.inl ⟨by rfl, ?_⟩) ?_ ?_
              rotate_left
              ·intro w'
               go_simp
               with_reducible rfl
              rotate_left
              ·simp only [Act.put, List.setIfInBounds_toArray, List.set_cons_zero, List.set_cons_succ, i64_w, i32_w]
               rfl
              refine pure_ (i := 5) (N := some 60) (v := ?_) (a' := ?_) #[true, false, true, false, false, true, false, false, false, false, false] rfl rfl (any_of HT_.out (by kernel_rfl)) (fun _ _ _ h => h) (Or.inl ⟨by rfl, ?_⟩) ?_ ?_
              rotate_left
              ·intro w'
               go_simp
               with_reducible rfl
              rotate_left
              ·simp only [Act.put, List.setIfInBounds_toArray, List.set_cons_zero, List.set_cons_succ, i64_w, i32_w]
               rfl
              refine pure_ (i := 7) (N := some 62) (v := ?_) (a' := ?_) #[true, false, true, false, false, true, false, true, false, false, false] rfl rfl (any_of HT_.out (by kernel_rfl)) (fun _ _ _ h => h) (Or.inl ⟨by rfl, ?_⟩) ?_ ?_
              rotate_left
              ·intro w'
               go_simp
               with_reducible rfl
              rotate_left
              ·simp only [Act.put, List.setIfInBounds_toArray, List.set_cons_zero, List.set_cons_succ, i64_w, i32_w]
               rfl
              refine take_ (i := 1) (N := some 56) (v := ?_) (a' := ?_) #[true, true, true, false, false, true, false, true, false, false, false] rfl rfl (take_ofW HT_.out HW_.out (by kernel_rfl)) (fun _ _ _ h => h) (Or.inl ⟨by rfl, ?_⟩) hHeld ?_ ?_
              rotate_left
              ·rintro w' ⟨s0, s1, s2, s3, s4, s5, s6, s7, s8, s9, s10, s11⟩
               go_simp
               with_reducible rfl
              rotate_left
              ·simp only [Act.put, List.setIfInBounds_toArray, List.set_cons_zero, List.set_cons_succ, i64_w, i32_w]
               rfl
              refine pure_ (i := 3) (N := some 58) (v := ?_) (a' := ?_) #[true, true, true, true, false, true, false, true, false, false, false] rfl rfl (any_of HT_.out (by kernel_rfl)) (fun _ _ _ h => h) (Or.inl ⟨by rfl, ?_⟩) ?_ ?_
              rotate_left
              ·intro w'
               go_simp
               with_reducible rfl
              rotate_left
              ·simp only [Act.put, List.setIfInBounds_toArray, List.set_cons_zero, List.set_cons_succ, i64_w, i32_w]
               rfl
              refine take_ (i := 4) (N := some 59) (v := ?_) (a' := ?_) #[true, true, true, true, true, true, false, true, false, false, false] rfl rfl (take_ofW HT_.out HW_.out (by kernel_rfl)) (fun _ _ _ h => h) (Or.inl ⟨by rfl, ?_⟩) hHeld ?_ ?_
              rotate_left
              ·rintro w' ⟨s0, s1, s2, s3, s4, s5, s6, s7, s8, s9, s10, s11⟩
               go_simp
               with_reducible rfl
              rotate_left
              ·simp only [Act.put, List.setIfInBounds_toArray, List.set_cons_zero, List.set_cons_succ, i64_w, i32_w]
               rfl
              refine take_ (i := 6) (N := some 61) (v := ?_) (a' := ?_) #[true, true, true, true, true, true, true, true, false, false, false] rfl rfl (take_ofW HT_.out HW_.out (by kernel_rfl)) (fun _ _ _ h => h) (Or.inl ⟨by rfl, ?_⟩) hHeld ?_ ?_
              rotate_left
              ·rintro w' ⟨s0, s1, s2, s3, s4, s5, s6, s7, s8, s9, s10, s11⟩
               go_simp
               with_reducible rfl
              rotate_left
              ·simp only [Act.put, List.setIfInBounds_toArray, List.set_cons_zero, List.set_cons_succ, i64_w, i32_w]
               rfl
              refine pure_ (i := 8) (N := some 63) (v := ?_) (a' := ?_) #[true, true, true, true, true, true, true, true, true, false, false] rfl rfl (any_of HT_.out (by kernel_rfl)) (fun _ _ _ h => h) (Or.inl ⟨by rfl, ?_⟩) ?_ ?_
              rotate_left
              ·intro w'
               go_simp
               with_reducible rfl
              rotate_left
              ·simp only [Act.put, List.setIfInBounds_toArray, List.set_cons_zero, List.set_cons_succ, i64_w, i32_w]
               rfl
              refine take_ (i := 9) (N := some 64) (v := ?_) (a' := ?_) #[true, true, true, true, true, true, true, true, true, true, false] rfl rfl (take_ofW HT_.out HW_.out (by kernel_rfl)) (fun _ _ _ h => h) (Or.inl ⟨by rfl, ?_⟩) hHeld ?_ ?_
              rotate_left
              ·rintro w' ⟨s0, s1, s2, s3, s4, s5, s6, s7, s8, s9, s10, s11⟩
               go_simp
               with_reducible rfl
              rotate_left
              ·simp only [Act.put, List.setIfInBounds_toArray, List.set_cons_zero, List.set_cons_succ, i64_w, i32_w]
               rfl
              refine pure_ (i := 10) (N := some 65) (v := ?_) (a' := ?_) #[true, true, true, true, true, true, true, true, true, true, true] rfl rfl (any_of HT_.out (by kernel_rfl)) (fun _ _ _ h => h) (Or.inl ⟨by rfl, ?_⟩) ?_ ?_
              rotate_left
              ·intro w'
               go_simp
               with_reducible rfl
              rotate_left
              ·simp only [Act.put, List.setIfInBounds_toArray, List.set_cons_zero, List.set_cons_succ, i64_w, i32_w]
               rfl
              refine done_ (done_of HT_.out (by kernel_rfl)) ?_
              try go_wp2
              go_ret
              exact ⟨by first | rfl | (simp [errW_none, errW_some] <;> rfl) | (simp [*, errW_none, errW_some] <;> rfl), by repeat (first | (with_reducible first | exact HB.out | apply below_alloc | apply pw_below_drewN | apply below_drew1 | refine below_set ?_ GE284.out | refine below_set ?_ GE285.out) | exact HB.out)⟩
             ·rw [if_neg c36] at H
              have c36b0 : (!(((rd_T27 l0_2 x52_3).f0) == ((rd_T27 l1_2 x52_3).f0)) || (!((((rd_T27 l0_2 x52_3).f1).toList) == (((rd_T27 l1_2 x52_3).f1).toList)) || (!(((rd_T27 l0_2 x52_3).f2) == ((rd_T27 l1_2 x52_3).f2))))) = false := by simpa using c36
              clear c36
              have H' := Aside0.mk H
              clear H
              try go_wp2
              have n0_ := Aside0.mk (blk_drew BK284.out)
              have n1_ := Aside0.mk (blk_drew BK285.out)
              have n2_ := Aside0.mk (below_drew1 HB.out)
              clear BK284
              clear BK285
              clear HB
              have BK284 := n0_
              have BK285 := n1_
              have HB := n2_
              clear n0_ n1_ n2_
              have p289 : 0 ≤ (x52_3 : Int) := of_decide_eq_true (by first | (with_reducible assumption) | assumption)
              have q289 : x52_3 < (l0_2.length : Int) := of_decide_eq_true (by first | (with_reducible assumption) | assumption)
              obtain ⟨ad289, e289, hx289_0, hx289_1, hx289_2⟩ := at_T27 HR0_2.out x52_3 p289 q289
              have hw289_2 := hx289_2
              have hw289_1 := hx289_1
              have hw289_0 := hx289_0
              cases e289
              replace hx289_0 := (HB.out.cell (World.block_lt_of_cell? w _ hx289_0)).trans hx289_0
              replace hx289_1 := (HB.out.cell (World.block_lt_of_cell? w _ hx289_1)).trans hx289_1
              replace hx289_2 := (HB.out.cell (World.block_lt_of_cell? w _ hx289_2)).trans hx289_2
              replace p289 := eq_true p289
              replace q289 := eq_true q289
              have p290 : 0 ≤ (x52_3 : Int) := of_decide_eq_true (by first | (with_reducible assumption) | assumption)
              have q290 : x52_3 < (l1_2.length : Int) := of_decide_eq_true (by first | (with_reducible assumption) | assumption)
              obtain ⟨ad290, e290, hx290_0, hx290_1, hx290_2⟩ := at_T27 HR1_2.out x52_3 p290 q290
              have hw290_2 := hx290_2
              have hw290_1 := hx290_1
              have hw290_0 := hx290_0
              cases e290
              replace hx290_0 := (HB.out.cell (World.block_lt_of_cell? w _ hx290_0)).trans hx290_0
              replace hx290_1 := (HB.out.cell (World.block_lt_of_cell? w _ hx290_1)).trans hx290_1
              replace hx290_2 := (HB.out.cell (World.block_lt_of_cell? w _ hx290_2)).trans hx290_2
              replace p290 := eq_true p290
              replace q290 := eq_true q290
              refine start_ (n := 11) (S := fun w' => w'.cell? ⟨gb284, 0, none⟩ = some (.int .i64 a0_0) ∧ w'.cell? ⟨gb284, 1, none⟩ = some (.slice A0_1 l0_1.length c0_1) ∧ w'.cell? ⟨gb284, 2, none⟩ = some (.slice (some ad289) l0_2.length c0_2) ∧ w'.cell? ⟨gb285, 0, none⟩ = some (.int .i64 a1_0) ∧ w'.cell? ⟨gb285, 1, none⟩ = some (.slice A1_1 l1_1.length c1_1) ∧ w'.cell? ⟨gb285, 2, none⟩ = some (.slice (some ad290) l1_2.length c1_2) ∧ w'.cell? (ad289.add ((x52_3).toNat * 3)) = some (.int .i64 ((rd_T27 l0_2 x52_3).f0)) ∧ w'.cell? ⟨(ad289.add ((x52_3).toNat * 3)).block, (ad289.add ((x52_3).toNat * 3)).off + 1, none⟩ = some (.string ((rd_T27 l0_2 x52_3).f1)) ∧ w'.cell? ⟨(ad289.add ((x52_3).toNat * 3)).block, (ad289.add ((x52_3).toNat * 3)).off + 2, none⟩ = some (.int .i64 ((rd_T27 l0_2 x52_3).f2)) ∧ w'.cell? (ad290.add ((x52_3).toNat * 3)) = some (.int .i64 ((rd_T27 l1_2 x52_3).f0)) ∧ w'.cell? ⟨(ad290.add ((x52_3).toNat * 3)).block, (ad290.add ((x52_3).toNat * 3)).off + 1, none⟩ = some (.string ((rd_T27 l1_2 x52_3).f1)) ∧ w'.cell? ⟨(ad290.add ((x52_3).toNat * 3)).block, (ad290.add ((x52_3).toNat * 3)).off + 2, none⟩ = some (.int .i64 ((rd_T27 l1_2 x52_3).f2))) (ds := []) #[false, false, false, false, false, false, false, false, false, false, false] (by kernel_rfl) rfl rfl ⟨(blk_cell BK284.out 0).trans rfl, (blk_cell BK284.out 1).trans rfl, (blk_cell BK284.out 2).trans rfl, (blk_cell BK285.out 0).trans rfl, (blk_cell BK285.out 1).trans rfl, (blk_cell BK285.out 2).trans rfl, ((HB.out.cell (World.block_lt_of_cell? w _ hw289_0)).trans hw289_0), ((HB.out.cell (World.block_lt_of_cell? w _ hw289_1)).trans hw289_1), ((HB.out.cell (World.block_lt_of_cell? w _ hw289_2)).trans hw289_2), ((HB.out.cell (World.block_lt_of_cell? w _ hw290_0)).trans hw290_0), ((HB.out.cell (World.block_lt_of_cell? w _ hw290_1)).trans hw290_1), ((HB.out.cell (World.block_lt_of_cell? w _ hw290_2)).trans hw290_2)⟩ (fun hHeld => ?_); refine with_tabW mortmainref09_Same.tab12 mortmainref09_Same.bits12 (fun HT_ HW_ => ?_)
              generalize wr.drew = w38 at BK284 BK285 HB hx289_0 hx289_1 hx289_2 hx290_0 hx290_1 hx290_2 hHeld ⊢
              refine pure_ (i := 0) (N := some 55) (v := ?_) (a' := ?_) #[true, false, false, false, false, false, false, false, false, false, false] rfl rfl (any_of HT_.out (by kernel_rfl)) (fun _ _ _ h => h) (Or.inl ⟨by rfl, ?_⟩) ?_ ?_
              rotate_left
              ·intro w'
               go_simp
               with_reducible rfl
              rotate_left
              ·simp only [Act.put, List.setIfInBounds_toArray, List.set_cons_zero, List.set_cons_succ, i64_w, i32_w]
               rfl
              refine pure_ (i := 2) (N := some 57) (v := ?_) (a' := ?_) #[true, false, true, false, false, false, false, false, false, false, false] rfl rfl (any_of HT_.out (by kernel_rfl)) (fun _ _ _ h => h) (Or.inl ⟨by rfl, ?_⟩) ?_ ?_
              rotate_left
              ·intro w'
               go_simp
               with_reducible rfl
              rotate_left
              ·simp only [Act.put, List.setIfInBounds_toArray, List.set_cons_zero, List.set_cons_succ, i64_w, i32_w]
               rfl
              refine pure_ (i := 5) (N := some 60) (v := ?_) (a' := ?_) #[true, false, true, false, false, true, false, false, false, false, false] rfl rfl (any_of HT_.out (by kernel_rfl)) (fun _ _ _ h => h) (Or.inl ⟨by rfl, ?_⟩) ?_ ?_
              rotate_left
              ·intro w'
               go_simp
               with_reducible rfl
              rotate_left
              ·simp only [Act.put, List.setIfInBounds_toArray, List.set_cons_zero, List.set_cons_succ, i64_w, i32_w]
               rfl
              refine pure_ (i := 7) (N := some 62) (v := ?_) (a' := ?_) #[true, false, true, false, false, true, false, true, false, false, false] rfl rfl (any_of HT_.out (by kernel_rfl)) (fun _ _ _ h => h) (Or.inl ⟨by rfl, ?_⟩) ?_ ?_
              rotate_left
              ·intro w'
               go_simp
               with_reducible rfl
              rotate_left
              ·simp only [Act.put, List.setIfInBounds_toArray, List.set_cons_zero, List.set_cons_succ, i64_w, i32_w]
               rfl
              refine take_ (i := 1) (N := some 56) (v := ?_) (a' := ?_) #[true, true, true, false, false, true, false, true, false, false, false] rfl rfl (take_ofW HT_.out HW_.out (by kernel_rfl)) (fun _ _ _ h => h) (Or.inl ⟨by rfl, ?_⟩) hHeld ?_ ?_
              rotate_left
              ·rintro w' ⟨s0, s1, s2, s3, s4, s5, s6, s7, s8, s9, s10, s11⟩
               go_simp
               with_reducible rfl
              rotate_left
              ·simp only [Act.put, List.setIfInBounds_toArray, List.set_cons_zero, List.set_cons_succ, i64_w, i32_w]
               rfl
              refine pure_ (i := 3) (N := some 58) (v := ?_) (a' := ?_) #[true, true, true, true, false, true, false, true, false, false, false] rfl rfl (any_of HT_.out (by kernel_rfl)) (fun _ _ _ h => h) (Or.inl ⟨by rfl, ?_⟩) ?_ ?_
              rotate_left
              ·intro w'
               go_simp
               with_reducible rfl
              rotate_left
              ·simp only [Act.put, List.setIfInBounds_toArray, List.set_cons_zero, List.set_cons_succ, i64_w, i32_w]
               rfl
              refine take_ (i := 4) (N := some 59) (v := ?_) (a' := ?_) #[true, true, true, true, true, true, false, true, false, false, false] rfl rfl (take_ofW HT_.out HW_.out (by kernel_rfl)) (fun _ _ _ h => h) (Or.inl ⟨by rfl, ?_⟩) hHeld ?_ ?_
              rotate_left
              ·rintro w' ⟨s0, s1, s2, s3, s4, s5, s6, s7, s8, s9, s10, s11⟩
               go_simp
               with_reducible rfl
              rotate_left
              ·simp only [Act.put, List.setIfInBounds_toArray, List.set_cons_zero, List.set_cons_succ, i64_w, i32_w]
               rfl
              refine take_ (i := 6) (N := some 61) (v := ?_) (a' := ?_) #[true, true, true, true, true, true, true, true, false, false, false] rfl rfl (take_ofW HT_.out HW_.out (by kernel_rfl)) (fun _ _ _ h => h) (Or.inl ⟨by rfl, ?_⟩) hHeld ?_ ?_
              rotate_left
              ·rintro w' ⟨s0, s1, s2, s3, s4, s5, s6, s7, s8, s9, s10, s11⟩
               go_simp
               with_reducible rfl
              rotate_left
              ·simp only [Act.put, List.setIfInBounds_toArray, List.set_cons_zero, List.set_cons_succ, i64_w, i32_w]
               rfl
              refine pure_ (i := 8) (N := some 63) (v := ?_) (a' := ?_) #[true, true, true, true, true, true, true, true, true, false, false] rfl rfl (any_of HT_.out (by kernel_rfl)) (fun _ _ _ h => h) (Or.inl ⟨by rfl, ?_⟩) ?_ ?_
              rotate_left
              ·intro w'
               go_simp
               with_reducible rfl
              rotate_left
              ·simp only [Act.put, List.setIfInBounds_toArray, List.set_cons_zero, List.set_cons_succ, i64_w, i32_w]
               rfl
              refine take_ (i := 9) (N := some 64) (v := ?_) (a' := ?_) #[true, true, true, true, true, true, true, true, true, true, false] rfl rfl (take_ofW HT_.out HW_.out (by kernel_rfl)) (fun _ _ _ h => h) (Or.inl ⟨by rfl, ?_⟩) hHeld ?_ ?_
              rotate_left
              ·rintro w' ⟨s0, s1, s2, s3, s4, s5, s6, s7, s8, s9, s10, s11⟩
               go_simp
               with_reducible rfl
              rotate_left
              ·simp only [Act.put, List.setIfInBounds_toArray, List.set_cons_zero, List.set_cons_succ, i64_w, i32_w]
               rfl
              refine pure_ (i := 10) (N := some 65) (v := ?_) (a' := ?_) #[true, true, true, true, true, true, true, true, true, true, true] rfl rfl (any_of HT_.out (by kernel_rfl)) (fun _ _ _ h => h) (Or.inl ⟨by rfl, ?_⟩) ?_ ?_
              rotate_left
              ·intro w'
               go_simp
               with_reducible rfl
              rotate_left
              ·simp only [Act.put, List.setIfInBounds_toArray, List.set_cons_zero, List.set_cons_succ, i64_w, i32_w]
               rfl
              refine done_ (done_of HT_.out (by kernel_rfl)) ?_
              try go_wp2
              go_roundg k3
              case measure => have := HJ2.out; have := HK2.out; have := HK3.out; omega
              case rel => exact ⟨(wrap64 (x52_3 + 1)), (by first | rfl | (simp; done) | (simp [*]; done)), H', ⟨by have := HJ2.out; have := HK2.out; have := HK3.out; omega⟩, ⟨by (with_reducible repeat (first | refine blk_drewN ?_ _ | refine blk_drew ?_ | refine blk_alloc ?_ _)); exact BK284.out⟩, ⟨by (with_reducible repeat (first | refine blk_drewN ?_ _ | refine blk_drew ?_ | refine blk_alloc ?_ _)); exact BK285.out⟩, ⟨by repeat (first | (with_reducible first | exact HB.out | apply below_alloc | apply pw_below_drewN | apply below_drew1 | refine below_set ?_ GE284.out | refine below_set ?_ GE285.out) | exact HB.out)⟩⟩
            ·rw [if_neg c35] at H
             exact absurd H (by simp)
           ·rw [if_neg c34] at H
            exact absurd H (by simp)
          ·rw [if_neg c33] at H
           exact absurd H (by simp)
         ·rw [if_neg c32] at H
          have c32b0 : decide (x52_3 < (l0_2.length : Int)) = false := decide_eq_false c32
          clear c32
          obtain rfl := Option.some.inj H
          go_wp2
          go_ret
          exact ⟨by first | rfl | (simp [errW_none, errW_some] <;> rfl) | (simp [*, errW_none, errW_some] <;> rfl), by repeat (first | (with_reducible first | exact HB.out | apply below_alloc | apply pw_below_drewN | apply below_drew1 | refine below_set ?_ GE284.out | refine below_set ?_ GE285.out) | exact HB.out)⟩
end Go.Proofs.YtefdfgmlmjnmlaaDoor.Rf
end

section
namespace Go.Proofs.YtefdfgmlmjnmlaaDoor.Rf
open Go.RowKit Go.Proofs.YtefdfgmlmjnmlaaDoorW.PrintWords Go.Proofs.YtefdfgmlmjnmlaaDoorW.PrintLast Go.Proofs.YtefdfgmlmjnmlaaDoorW.PrintMore
def mortmainref03_Good.f (a0_0 : Int) (a0_1 : Int) (a0_2 : ByteArray) : Option (Bool) := some (My.goodV ⟨a0_0, a0_1, a0_2⟩)
theorem mortmainref03_Good.calls (a0_0 : Int) (a0_1 : Int) (a0_2 : ByteArray) (r : Bool) (w : World) (h : mortmainref03_Good.f a0_0 a0_1 a0_2 = some r) :
  Calls Tryd.prog 98 #[.agg #[.int .i64 a0_0, .int .i64 a0_1, .string a0_2]] w fun e w' => e = .returned (.bool r) ∧ Below w.heap.size w w' := by
 obtain rfl := Option.some.inj h
 exact My.valR_calls ⟨a0_0, a0_1, a0_2⟩ w
end Go.Proofs.YtefdfgmlmjnmlaaDoor.Rf
end

section
set_option linter.unusedVariables false
set_option linter.unusedSimpArgs false
namespace Go.Proofs.YtefdfgmlmjnmlaaDoor.Rf
open Go.RowKit Go.Proofs.YtefdfgmlmjnmlaaDoorW.PrintWords Go.Proofs.YtefdfgmlmjnmlaaDoorW.PrintLast Go.Proofs.YtefdfgmlmjnmlaaDoorW.PrintMore
mutual
def mortmainref09_fits.j0 : Nat → Int → Bool → Int → Int → Int → Int → ByteArray → List (S72) → Option (Bool)
 | 0, _, _, _, _, _, _, _, _ => none
 | k + 1, x1, x26, x367000, x367001, x367002, x367003, x367004, x367005 => if x26 = true then (some false) else (mortmainref09_fits.l0 k x1 x367005 (x367005.length : Int) 0)
def mortmainref09_fits.l0 : Nat → Int → List (S72) → Int → Int → Option (Bool)
 | 0, _, _, _, _ => none
 | k + 1, x1, x28, x29, x30 => if x30 < x29 then (if 0 ≤ x30 then (if x30 < (x28.length : Int) then ((mortmainref09_fits.f k ((rd_T72 x28 x30).f0) ((rd_T72 x28 x30).f1) ((rd_T72 x28 x30).f2.f0) ((rd_T72 x28 x30).f2.f1) ((rd_T72 x28 x30).f2.f2) ((rd_T72 x28 x30).f3) (wrap64 (x1 - 1))).bind fun t370 => (if t370 = true then (mortmainref09_fits.l0 k x1 x28 x29 (wrap64 (x30 + 1))) else (some false))) else (none)) else (none)) else (some true)
def mortmainref09_fits.f : Nat → Int → Int → Int → Int → ByteArray → List (S72) → Int → Option (Bool)
 | 0, _, _, _, _, _, _, _ => none
 | k + 1, a0_0, a0_1, a0_2, a0_3, a0_4, l0_5, a1 => (mortmainref03_Good.f a0_2 a0_3 a0_4).bind fun t367 => (if t367 = true then (if (l0_5.length : Int) > 2 then (mortmainref09_fits.j0 k a1 true a0_0 a0_1 a0_2 a0_3 a0_4 l0_5) else (if a1 = 0 then (mortmainref09_fits.j0 k a1 (decide ((l0_5.length : Int) > 0)) a0_0 a0_1 a0_2 a0_3 a0_4 l0_5) else (mortmainref09_fits.j0 k a1 false a0_0 a0_1 a0_2 a0_3 a0_4 l0_5))) else (mortmainref09_fits.j0 k a1 true a0_0 a0_1 a0_2 a0_3 a0_4 l0_5))
end
set_option maxHeartbeats 8000000 in
set_option maxRecDepth 100000 in
theorem mortmainref09_fits.calls (k : Nat) : ∀ (a0_0 : Int) (a0_1 : Int) (a0_2 : Int) (a0_3 : Int) (a0_4 : ByteArray) (A0_5 : Option Addr) (c0_5 : Nat) (l0_5 : List (S72)) (a1 : Int) (r : Bool) (w : World) (hr0_5 : Kd.C k72 w A0_5 l0_5.length l0_5) (hc0_5 : l0_5.length ≤ c0_5) (h : mortmainref09_fits.f k a0_0 a0_1 a0_2 a0_3 a0_4 l0_5 a1 = some r),
  Calls Tryd.prog 70 #[.agg #[.int .i64 a0_0, .int .i64 a0_1, .int .i64 a0_2, .int .i64 a0_3, .string a0_4, .slice A0_5 l0_5.length c0_5], .int .i64 a1] w fun e w' => e = .returned (.bool r) ∧ Below w.heap.size w w' := by
 induction k using Nat.strongRecOn with
 | _ k ih =>
 intro a0_0 a0_1 a0_2 a0_3 a0_4 A0_5 c0_5 l0_5 a1 r w hr0_5 hc0_5 h
 cases k with
 | zero => exact absurd h (by simp [mortmainref09_fits.f])
 | succ k =>
 simp only [mortmainref09_fits.f] at h
 have hu72 := Tryd.underlying72
 have hu70 := Tryd.underlying70
 have HR0_5 := Aside0.mk hr0_5
 have HC0_5 := Aside0.mk hc0_5
 clear hr0_5 hc0_5
 have HB := Aside0.mk (Below.refl w.heap.size w)
 have H : ((mortmainref03_Good.f a0_2 a0_3 a0_4).bind fun t367 => (if t367 = true then (if (l0_5.length : Int) > 2 then (mortmainref09_fits.j0 k a1 true a0_0 a0_1 a0_2 a0_3 a0_4 l0_5) else (if a1 = 0 then (mortmainref09_fits.j0 k a1 (decide ((l0_5.length : Int) > 0)) a0_0 a0_1 a0_2 a0_3 a0_4 l0_5) else (mortmainref09_fits.j0 k a1 false a0_0 a0_1 a0_2 a0_3 a0_4 l0_5))) else (mortmainref09_fits.j0 k a1 true a0_0 a0_1 a0_2 a0_3 a0_4 l0_5))) = some r := h
 clear h
 have HC3 := Aside0.mk H
 clear H
 go_enter Tryd.func70, Tryd.ntmps70
 go_upto_region 1 with (first | ((with_reducible refine gate_dst (N := 2) rfl ?_); (try (refine gate_guard (by rfl) ?_; dsimp only)); refine box_event ?hg (N := 2) ?hd (cs := #[.int .i64 a0_0, .int .i64 a0_1, .int .i64 a0_2, .int .i64 a0_3, .string a0_4, .slice A0_5 l0_5.length c0_5]) (t := 72) ?hr ?_; (case hd => rfl); (case hg => rfl); (case hr => first | (go_simp; done) | (go_simp; rfl)); intro gb366 hg w4 hbox hb; have n0_ := Aside0.mk (below_step (by repeat (first | (with_reducible first | exact HB.out | apply below_alloc | apply pw_below_drewN | apply below_drew1) | exact HB.out)) hb); have n1_ := Aside0.mk (hbox); have n2_ := Aside0.mk ((by rw [hg]; exact (below_size (by repeat (first | (with_reducible first | exact HB.out | apply below_alloc | apply pw_below_drewN | apply below_drew1) | exact HB.out))) : w.heap.size ≤ gb366)); have n3_ := Aside0.mk ((by rw [hg]; exact (below_size (by repeat (first | (with_reducible first | exact HB.out | apply below_alloc | apply pw_below_drewN | apply below_drew1) | exact HB.out))) : w.heap.size ≤ gb366)); clear HB; have HB := n0_; have BK366 := n1_; have GW366 := n2_; have GE366 := n3_; clear n0_ n1_ n2_ n3_; clear hb hbox hg))
 (try simp only [Act.put, List.setIfInBounds_toArray, List.set_cons_zero, List.set_cons_succ])
 go_cut [26] (fun v26 wc => ∃ (kq : Nat) (x26_2 : Bool), v26 = .bool x26_2 ∧ Aside0 (mortmainref09_fits.j0 kq a1 x26_2 a0_0 a0_1 a0_2 a0_3 a0_4 l0_5 = some r) ∧ Aside0 (kq ≤ k) ∧ Aside0 (wc.heap[gb366]? = some (.cells #[.int .i64 a0_0, .int .i64 a0_1, .int .i64 a0_2, .int .i64 a0_3, .string a0_4, (.slice A0_5 l0_5.length c0_5)] 72 (0, 0))) ∧ Aside0 (Below w.heap.size w wc))
 case first =>
  have H := HC3.out
  clear HC3
  replace H := Option.bind_eq_some_iff.mp H
  obtain ⟨t367, A50, H⟩ := H
  replace H : (if t367 = true then (if (l0_5.length : Int) > 2 then (mortmainref09_fits.j0 k a1 true a0_0 a0_1 a0_2 a0_3 a0_4 l0_5) else (if a1 = 0 then (mortmainref09_fits.j0 k a1 (decide ((l0_5.length : Int) > 0)) a0_0 a0_1 a0_2 a0_3 a0_4 l0_5) else (mortmainref09_fits.j0 k a1 false a0_0 a0_1 a0_2 a0_3 a0_4 l0_5))) else (mortmainref09_fits.j0 k a1 true a0_0 a0_1 a0_2 a0_3 a0_4 l0_5)) = some r := H
  have A5 := Aside0.mk A50
  clear A50
  by_cases c6 : t367 = true
  ·subst c6
   have H1 : (if (l0_5.length : Int) > 2 then (mortmainref09_fits.j0 k a1 true a0_0 a0_1 a0_2 a0_3 a0_4 l0_5) else (if a1 = 0 then (mortmainref09_fits.j0 k a1 (decide ((l0_5.length : Int) > 0)) a0_0 a0_1 a0_2 a0_3 a0_4 l0_5) else (mortmainref09_fits.j0 k a1 false a0_0 a0_1 a0_2 a0_3 a0_4 l0_5))) = some r := by rw [if_pos rfl] at H; exact H
   clear H
   have H := H1
   clear H1
   by_cases c7 : (l0_5.length : Int) > 2
   ·rw [if_pos c7] at H
    have c7b0 : decide (2 < (l0_5.length : Int)) = true := decide_eq_true c7
    have c7b1 : decide (2 < l0_5.length) = true := decide_eq_true (by omega)
    clear c7
    (first | rw [c7b0] | (simp only [i64_w, i32_w]; rw [c7b0]) | skip)
    have H' := Aside0.mk H
    clear H
    have hcz8_0 : w4.cell? ⟨gb366, 0, none⟩ = some (.int .i64 a0_0) := (blk_cell BK366.out 0).trans rfl
    have hcz8_1 : w4.cell? ⟨gb366, 1, none⟩ = some (.int .i64 a0_1) := (blk_cell BK366.out 1).trans rfl
    have hcz8_2 : w4.cell? ⟨gb366, 2, none⟩ = some (.int .i64 a0_2) := (blk_cell BK366.out 2).trans rfl
    have hcz8_3 : w4.cell? ⟨gb366, 3, none⟩ = some (.int .i64 a0_3) := (blk_cell BK366.out 3).trans rfl
    have hcz8_4 : w4.cell? ⟨gb366, 4, none⟩ = some (.string a0_4) := (blk_cell BK366.out 4).trans rfl
    have hcz8_5 : w4.cell? ⟨gb366, 5, none⟩ = some (.slice A0_5 l0_5.length c0_5) := (blk_cell BK366.out 5).trans rfl
    have hfz8_0 := blk_frozen BK366.out 0
    have hfz8_1 := blk_frozen BK366.out 1
    have hfz8_2 := blk_frozen BK366.out 2
    have hfz8_3 := blk_frozen BK366.out 3
    have hfz8_4 := blk_frozen BK366.out 4
    have hfz8_5 := blk_frozen BK366.out 5
    go_wp2_with (first | ((with_reducible refine gate_callee (f := 98) rfl ?_); refine goesL_ (some 9) rfl rfl Tryd.func98 (by kernel_rfl) rfl #[.agg #[.int .i64 a0_2, .int .i64 a0_3, .string a0_4]] rfl (by (try simp only [List.map_toArray, List.map_cons, List.map_nil]); first | done | rfl | (simp only [List.length_drop, List.length_take]; rfl)) ?_; (with_reducible refine (mortmainref03_Good.calls a0_2 a0_3 a0_4 true _ A5.out).mono ?_); rintro e w9 ⟨rfl, hb⟩; refine ⟨_, rfl, ?_⟩; have n0_ := Aside0.mk (blk_below (g := gb366) (o := .cells #[.int .i64 a0_0, .int .i64 a0_1, .int .i64 a0_2, .int .i64 a0_3, .string a0_4, .slice A0_5 l0_5.length c0_5] 72 (0, 0)) (by (with_reducible repeat (first | refine blk_drewN ?_ _ | refine blk_drew ?_ | refine blk_alloc ?_ _)); exact BK366.out) hb); have n1_ := Aside0.mk (below_step (by repeat (first | (with_reducible first | exact HB.out | apply below_alloc | apply pw_below_drewN | apply below_drew1 | refine below_set ?_ GE366.out) | exact HB.out)) hb); clear BK366; clear HB; have BK366 := n0_; have HB := n1_; clear n0_ n1_; (try clear hb); (try clear hb2); (try clear hk); (try clear hi); have hcz10_0 : w9.cell? ⟨gb366, 0, none⟩ = some (.int .i64 a0_0) := (blk_cell BK366.out 0).trans rfl; have hcz10_1 : w9.cell? ⟨gb366, 1, none⟩ = some (.int .i64 a0_1) := (blk_cell BK366.out 1).trans rfl; have hcz10_2 : w9.cell? ⟨gb366, 2, none⟩ = some (.int .i64 a0_2) := (blk_cell BK366.out 2).trans rfl; have hcz10_3 : w9.cell? ⟨gb366, 3, none⟩ = some (.int .i64 a0_3) := (blk_cell BK366.out 3).trans rfl; have hcz10_4 : w9.cell? ⟨gb366, 4, none⟩ = some (.string a0_4) := (blk_cell BK366.out 4).trans rfl; have hcz10_5 : w9.cell? ⟨gb366, 5, none⟩ = some (.slice A0_5 l0_5.length c0_5) := (blk_cell BK366.out 5).trans rfl; have hfz10_0 := blk_frozen BK366.out 0; have hfz10_1 := blk_frozen BK366.out 1; have hfz10_2 := blk_frozen BK366.out 2; have hfz10_3 := blk_frozen BK366.out 3; have hfz10_4 := blk_frozen BK366.out 4; have hfz10_5 := blk_frozen BK366.out 5))
    go_meet
    case rel => exact ⟨_, (true), (by first | rfl | (simp; done) | (simp [*]; done)), H', ⟨by first | omega | exact Nat.le_refl _⟩, ⟨by (with_reducible repeat (first | refine blk_drewN ?_ _ | refine blk_drew ?_ | refine blk_alloc ?_ _)); exact BK366.out⟩, ⟨by repeat (first | (with_reducible first | exact HB.out | apply below_alloc | apply pw_below_drewN | apply below_drew1 | refine below_set ?_ GE366.out) | exact HB.out)⟩⟩
   ·rw [if_neg c7] at H
    have c7b0 : decide (2 < (l0_5.length : Int)) = false := decide_eq_false c7
    have c7b1 : decide (2 < l0_5.length) = false := decide_eq_false (by omega)
    clear c7
    (first | rw [c7b0] | (simp only [i64_w, i32_w]; rw [c7b0]) | skip)
    by_cases c11 : a1 = 0
    ·rw [if_pos c11] at H
     have c11b0 : (a1 == 0) = true := beq_iff_eq.mpr c11
     have c11b1 : (a1 != 0) = false := bne_eq_false_iff_eq.mpr c11
     clear c11
     have H' := Aside0.mk H
     clear H
     have hcz12_0 : w4.cell? ⟨gb366, 0, none⟩ = some (.int .i64 a0_0) := (blk_cell BK366.out 0).trans rfl
     have hcz12_1 : w4.cell? ⟨gb366, 1, none⟩ = some (.int .i64 a0_1) := (blk_cell BK366.out 1).trans rfl
     have hcz12_2 : w4.cell? ⟨gb366, 2, none⟩ = some (.int .i64 a0_2) := (blk_cell BK366.out 2).trans rfl
     have hcz12_3 : w4.cell? ⟨gb366, 3, none⟩ = some (.int .i64 a0_3) := (blk_cell BK366.out 3).trans rfl
     have hcz12_4 : w4.cell? ⟨gb366, 4, none⟩ = some (.string a0_4) := (blk_cell BK366.out 4).trans rfl
     have hcz12_5 : w4.cell? ⟨gb366, 5, none⟩ = some (.slice A0_5 l0_5.length c0_5) := (blk_cell BK366.out 5).trans rfl
     have hfz12_0 := blk_frozen BK366.out 0
     have hfz12_1 := blk_frozen BK366.out 1
     have hfz12_2 := blk_frozen BK366.out 2
     have hfz12_3 := blk_frozen BK366.out 3
     have hfz12_4 := blk_frozen BK366.out 4
     have hfz12_5 := blk_frozen BK366.out 5
     go_wp2_with (first | ((with_reducible refine gate_callee (f := 98) rfl ?_); refine goesL_ (some 9) rfl rfl Tryd.func98 (by kernel_rfl) rfl #[.agg #[.int .i64 a0_2, .int .i64 a0_3, .string a0_4]] rfl (by (try simp only [List.map_toArray, List.map_cons, List.map_nil]); first | done | rfl | (simp only [List.length_drop, List.length_take]; rfl)) ?_; (with_reducible refine (mortmainref03_Good.calls a0_2 a0_3 a0_4 true _ A5.out).mono ?_); rintro e w13 ⟨rfl, hb⟩; refine ⟨_, rfl, ?_⟩; have n0_ := Aside0.mk (blk_below (g := gb366) (o := .cells #[.int .i64 a0_0, .int .i64 a0_1, .int .i64 a0_2, .int .i64 a0_3, .string a0_4, .slice A0_5 l0_5.length c0_5] 72 (0, 0)) (by (with_reducible repeat (first | refine blk_drewN ?_ _ | refine blk_drew ?_ | refine blk_alloc ?_ _)); exact BK366.out) hb); have n1_ := Aside0.mk (below_step (by repeat (first | (with_reducible first | exact HB.out | apply below_alloc | apply pw_below_drewN | apply below_drew1 | refine below_set ?_ GE366.out) | exact HB.out)) hb); clear BK366; clear HB; have BK366 := n0_; have HB := n1_; clear n0_ n1_; (try clear hb); (try clear hb2); (try clear hk); (try clear hi); have hcz14_0 : w13.cell? ⟨gb366, 0, none⟩ = some (.int .i64 a0_0) := (blk_cell BK366.out 0).trans rfl; have hcz14_1 : w13.cell? ⟨gb366, 1, none⟩ = some (.int .i64 a0_1) := (blk_cell BK366.out 1).trans rfl; have hcz14_2 : w13.cell? ⟨gb366, 2, none⟩ = some (.int .i64 a0_2) := (blk_cell BK366.out 2).trans rfl; have hcz14_3 : w13.cell? ⟨gb366, 3, none⟩ = some (.int .i64 a0_3) := (blk_cell BK366.out 3).trans rfl; have hcz14_4 : w13.cell? ⟨gb366, 4, none⟩ = some (.string a0_4) := (blk_cell BK366.out 4).trans rfl; have hcz14_5 : w13.cell? ⟨gb366, 5, none⟩ = some (.slice A0_5 l0_5.length c0_5) := (blk_cell BK366.out 5).trans rfl; have hfz14_0 := blk_frozen BK366.out 0; have hfz14_1 := blk_frozen BK366.out 1; have hfz14_2 := blk_frozen BK366.out 2; have hfz14_3 := blk_frozen BK366.out 3; have hfz14_4 := blk_frozen BK366.out 4; have hfz14_5 := blk_frozen BK366.out 5))
     go_meet
     case rel => exact ⟨_, (decide ((l0_5.length : Int) > 0)), (by first | rfl | (simp; done) | (simp [*]; done)), H', ⟨by first | omega | exact Nat.le_refl _⟩, ⟨by (with_reducible repeat (first | refine blk_drewN ?_ _ | refine blk_drew ?_ | refine blk_alloc ?_ _)); exact BK366.out⟩, ⟨by repeat (first | (with_reducible first | exact HB.out | apply below_alloc | apply pw_below_drewN | apply below_drew1 | refine below_set ?_ GE366.out) | exact HB.out)⟩⟩
    ·rw [if_neg c11] at H
     have c11b0 : (a1 == 0) = false := beq_eq_false_iff_ne.mpr c11
     have c11b1 : (a1 != 0) = true := bne_iff_ne.mpr c11
     have H' := Aside0.mk H
     clear H
     have hcz15_0 : w4.cell? ⟨gb366, 0, none⟩ = some (.int .i64 a0_0) := (blk_cell BK366.out 0).trans rfl
     have hcz15_1 : w4.cell? ⟨gb366, 1, none⟩ = some (.int .i64 a0_1) := (blk_cell BK366.out 1).trans rfl
     have hcz15_2 : w4.cell? ⟨gb366, 2, none⟩ = some (.int .i64 a0_2) := (blk_cell BK366.out 2).trans rfl
     have hcz15_3 : w4.cell? ⟨gb366, 3, none⟩ = some (.int .i64 a0_3) := (blk_cell BK366.out 3).trans rfl
     have hcz15_4 : w4.cell? ⟨gb366, 4, none⟩ = some (.string a0_4) := (blk_cell BK366.out 4).trans rfl
     have hcz15_5 : w4.cell? ⟨gb366, 5, none⟩ = some (.slice A0_5 l0_5.length c0_5) := (blk_cell BK366.out 5).trans rfl
     have hfz15_0 := blk_frozen BK366.out 0
     have hfz15_1 := blk_frozen BK366.out 1
     have hfz15_2 := blk_frozen BK366.out 2
     have hfz15_3 := blk_frozen BK366.out 3
     have hfz15_4 := blk_frozen BK366.out 4
     have hfz15_5 := blk_frozen BK366.out 5
     go_wp2_with (first | ((with_reducible refine gate_callee (f := 98) rfl ?_); refine goesL_ (some 9) rfl rfl Tryd.func98 (by kernel_rfl) rfl #[.agg #[.int .i64 a0_2, .int .i64 a0_3, .string a0_4]] rfl (by (try simp only [List.map_toArray, List.map_cons, List.map_nil]); first | done | rfl | (simp only [List.length_drop, List.length_take]; rfl)) ?_; (with_reducible refine (mortmainref03_Good.calls a0_2 a0_3 a0_4 true _ A5.out).mono ?_); rintro e w16 ⟨rfl, hb⟩; refine ⟨_, rfl, ?_⟩; have n0_ := Aside0.mk (blk_below (g := gb366) (o := .cells #[.int .i64 a0_0, .int .i64 a0_1, .int .i64 a0_2, .int .i64 a0_3, .string a0_4, .slice A0_5 l0_5.length c0_5] 72 (0, 0)) (by (with_reducible repeat (first | refine blk_drewN ?_ _ | refine blk_drew ?_ | refine blk_alloc ?_ _)); exact BK366.out) hb); have n1_ := Aside0.mk (below_step (by repeat (first | (with_reducible first | exact HB.out | apply below_alloc | apply pw_below_drewN | apply below_drew1 | refine below_set ?_ GE366.out) | exact HB.out)) hb); clear BK366; clear HB; have BK366 := n0_; have HB := n1_; clear n0_ n1_; (try clear hb); (try clear hb2); (try clear hk); (try clear hi); have hcz17_0 : w16.cell? ⟨gb366, 0, none⟩ = some (.int .i64 a0_0) := (blk_cell BK366.out 0).trans rfl; have hcz17_1 : w16.cell? ⟨gb366, 1, none⟩ = some (.int .i64 a0_1) := (blk_cell BK366.out 1).trans rfl; have hcz17_2 : w16.cell? ⟨gb366, 2, none⟩ = some (.int .i64 a0_2) := (blk_cell BK366.out 2).trans rfl; have hcz17_3 : w16.cell? ⟨gb366, 3, none⟩ = some (.int .i64 a0_3) := (blk_cell BK366.out 3).trans rfl; have hcz17_4 : w16.cell? ⟨gb366, 4, none⟩ = some (.string a0_4) := (blk_cell BK366.out 4).trans rfl; have hcz17_5 : w16.cell? ⟨gb366, 5, none⟩ = some (.slice A0_5 l0_5.length c0_5) := (blk_cell BK366.out 5).trans rfl; have hfz17_0 := blk_frozen BK366.out 0; have hfz17_1 := blk_frozen BK366.out 1; have hfz17_2 := blk_frozen BK366.out 2; have hfz17_3 := blk_frozen BK366.out 3; have hfz17_4 := blk_frozen BK366.out 4; have hfz17_5 := blk_frozen BK366.out 5))
     go_meet
     case rel => exact ⟨_, (false), (by first | rfl | (simp; done) | (simp [*]; done)), H', ⟨by first | omega | exact Nat.le_refl _⟩, ⟨by (with_reducible repeat (first | refine blk_drewN ?_ _ | refine blk_drew ?_ | refine blk_alloc ?_ _)); exact BK366.out⟩, ⟨by repeat (first | (with_reducible first | exact HB.out | apply below_alloc | apply pw_below_drewN | apply below_drew1 | refine below_set ?_ GE366.out) | exact HB.out)⟩⟩
  ·replace c6 := Bool.eq_false_iff.mpr c6
   subst c6
   have H1 : (mortmainref09_fits.j0 k a1 true a0_0 a0_1 a0_2 a0_3 a0_4 l0_5) = some r := by rw [if_neg (show ¬ (false = true) by decide)] at H; exact H
   clear H
   have H := H1
   clear H1
   have H' := Aside0.mk H
   clear H
   have hcz18_0 : w4.cell? ⟨gb366, 0, none⟩ = some (.int .i64 a0_0) := (blk_cell BK366.out 0).trans rfl
   have hcz18_1 : w4.cell? ⟨gb366, 1, none⟩ = some (.int .i64 a0_1) := (blk_cell BK366.out 1).trans rfl
   have hcz18_2 : w4.cell? ⟨gb366, 2, none⟩ = some (.int .i64 a0_2) := (blk_cell BK366.out 2).trans rfl
   have hcz18_3 : w4.cell? ⟨gb366, 3, none⟩ = some (.int .i64 a0_3) := (blk_cell BK366.out 3).trans rfl
   have hcz18_4 : w4.cell? ⟨gb366, 4, none⟩ = some (.string a0_4) := (blk_cell BK366.out 4).trans rfl
   have hcz18_5 : w4.cell? ⟨gb366, 5, none⟩ = some (.slice A0_5 l0_5.length c0_5) := (blk_cell BK366.out 5).trans rfl
   have hfz18_0 := blk_frozen BK366.out 0
   have hfz18_1 := blk_frozen BK366.out 1
   have hfz18_2 := blk_frozen BK366.out 2
   have hfz18_3 := blk_frozen BK366.out 3
   have hfz18_4 := blk_frozen BK366.out 4
   have hfz18_5 := blk_frozen BK366.out 5
   go_wp2_with (first | ((with_reducible refine gate_callee (f := 98) rfl ?_); refine goesL_ (some 9) rfl rfl Tryd.func98 (by kernel_rfl) rfl #[.agg #[.int .i64 a0_2, .int .i64 a0_3, .string a0_4]] rfl (by (try simp only [List.map_toArray, List.map_cons, List.map_nil]); first | done | rfl | (simp only [List.length_drop, List.length_take]; rfl)) ?_; (with_reducible refine (mortmainref03_Good.calls a0_2 a0_3 a0_4 false _ A5.out).mono ?_); rintro e w19 ⟨rfl, hb⟩; refine ⟨_, rfl, ?_⟩; have n0_ := Aside0.mk (blk_below (g := gb366) (o := .cells #[.int .i64 a0_0, .int .i64 a0_1, .int .i64 a0_2, .int .i64 a0_3, .string a0_4, .slice A0_5 l0_5.length c0_5] 72 (0, 0)) (by (with_reducible repeat (first | refine blk_drewN ?_ _ | refine blk_drew ?_ | refine blk_alloc ?_ _)); exact BK366.out) hb); have n1_ := Aside0.mk (below_step (by repeat (first | (with_reducible first | exact HB.out | apply below_alloc | apply pw_below_drewN | apply below_drew1 | refine below_set ?_ GE366.out) | exact HB.out)) hb); clear BK366; clear HB; have BK366 := n0_; have HB := n1_; clear n0_ n1_; (try clear hb); (try clear hb2); (try clear hk); (try clear hi)))
   go_meet
   case rel => exact ⟨_, (true), (by first | rfl | (simp; done) | (simp [*]; done)), H', ⟨by first | omega | exact Nat.le_refl _⟩, ⟨by (with_reducible repeat (first | refine blk_drewN ?_ _ | refine blk_drew ?_ | refine blk_alloc ?_ _)); exact BK366.out⟩, ⟨by repeat (first | (with_reducible first | exact HB.out | apply below_alloc | apply pw_below_drewN | apply below_drew1 | refine below_set ?_ GE366.out) | exact HB.out)⟩⟩
 case rest =>
  clear HC3
  try clear c1
  try clear p2
  try clear c6
  try clear c7
  try clear c7b0
  try clear c7b1
  try clear c9
  try clear c11
  try clear c11b0
  try clear c11b1
  try clear hcz10_0
  try clear hcz10_1
  try clear hcz10_2
  try clear hcz10_3
  try clear hcz10_4
  try clear hcz10_5
  try clear hcz12_0
  try clear hcz12_1
  try clear hcz12_2
  try clear hcz12_3
  try clear hcz12_4
  try clear hcz12_5
  try clear hcz14_0
  try clear hcz14_1
  try clear hcz14_2
  try clear hcz14_3
  try clear hcz14_4
  try clear hcz14_5
  try clear hcz15_0
  try clear hcz15_1
  try clear hcz15_2
  try clear hcz15_3
  try clear hcz15_4
  try clear hcz15_5
  try clear hcz17_0
  try clear hcz17_1
  try clear hcz17_2
  try clear hcz17_3
  try clear hcz17_4
  try clear hcz17_5
  try clear hcz18_0
  try clear hcz18_1
  try clear hcz18_2
  try clear hcz18_3
  try clear hcz18_4
  try clear hcz18_5
  try clear hcz8_0
  try clear hcz8_1
  try clear hcz8_2
  try clear hcz8_3
  try clear hcz8_4
  try clear hcz8_5
  try clear hfz10_0
  try clear hfz10_1
  try clear hfz10_2
  try clear hfz10_3
  try clear hfz10_4
  try clear hfz10_5
  try clear hfz12_0
  try clear hfz12_1
  try clear hfz12_2
  try clear hfz12_3
  try clear hfz12_4
  try clear hfz12_5
  try clear hfz14_0
  try clear hfz14_1
  try clear hfz14_2
  try clear hfz14_3
  try clear hfz14_4
  try clear hfz14_5
  try clear hfz15_0
  try clear hfz15_1
  try clear hfz15_2
  try clear hfz15_3
  try clear hfz15_4
  try clear hfz15_5
  try clear hfz17_0
  try clear hfz17_1
  try clear hfz17_2
  try clear hfz17_3
  try clear hfz17_4
  try clear hfz17_5
  try clear hfz18_0
  try clear hfz18_1
  try clear hfz18_2
  try clear hfz18_3
  try clear hfz18_4
  try clear hfz18_5
  try clear hfz8_0
  try clear hfz8_1
  try clear hfz8_2
  try clear hfz8_3
  try clear hfz8_4
  try clear hfz8_5
  obtain ⟨kq, x26_2, rfl, HA, HJ2, BK366, HB⟩ := hcut
  cases kq with
  | zero => exact absurd HA.out (by simp [mortmainref09_fits.j0])
  | succ kj2 =>
   have H := HA.out
   clear HA
   simp only [mortmainref09_fits.j0] at H
   by_cases c20 : x26_2 = true
   ·subst c20
    have H1 : (some false) = some r := by rw [if_pos rfl] at H; exact H
    clear H
    have H := H1
    clear H1
    obtain rfl := Option.some.inj H
    go_wp2
    go_ret
    exact ⟨by first | rfl | (simp [errW_none, errW_some] <;> rfl) | (simp [*, errW_none, errW_some] <;> rfl), by repeat (first | (with_reducible first | exact HB.out | apply below_alloc | apply pw_below_drewN | apply below_drew1 | refine below_set ?_ GE366.out) | exact HB.out)⟩
   ·replace c20 := Bool.eq_false_iff.mpr c20
    subst c20
    have H1 : (mortmainref09_fits.l0 kj2 a1 l0_5 (l0_5.length : Int) 0) = some r := by rw [if_neg (show ¬ (false = true) by decide)] at H; exact H
    clear H
    have H := H1
    clear H1
    have H' := Aside0.mk H
    clear H
    have hcz21_0 : wc.cell? ⟨gb366, 0, none⟩ = some (.int .i64 a0_0) := (blk_cell BK366.out 0).trans rfl
    have hcz21_1 : wc.cell? ⟨gb366, 1, none⟩ = some (.int .i64 a0_1) := (blk_cell BK366.out 1).trans rfl
    have hcz21_2 : wc.cell? ⟨gb366, 2, none⟩ = some (.int .i64 a0_2) := (blk_cell BK366.out 2).trans rfl
    have hcz21_3 : wc.cell? ⟨gb366, 3, none⟩ = some (.int .i64 a0_3) := (blk_cell BK366.out 3).trans rfl
    have hcz21_4 : wc.cell? ⟨gb366, 4, none⟩ = some (.string a0_4) := (blk_cell BK366.out 4).trans rfl
    have hcz21_5 : wc.cell? ⟨gb366, 5, none⟩ = some (.slice A0_5 l0_5.length c0_5) := (blk_cell BK366.out 5).trans rfl
    have hfz21_0 := blk_frozen BK366.out 0
    have hfz21_1 := blk_frozen BK366.out 1
    have hfz21_2 := blk_frozen BK366.out 2
    have hfz21_3 := blk_frozen BK366.out 3
    have hfz21_4 := blk_frozen BK366.out 4
    have hfz21_5 := blk_frozen BK366.out 5
    go_wp2
    go_loopg [30] kj2 (fun kq v30 w' => ∃ (x30_2 : Int), v30 = .int .i64 x30_2 ∧ Aside0 (mortmainref09_fits.l0 kq a1 l0_5 (l0_5.length : Int) x30_2 = some r) ∧ Aside0 (kq ≤ kj2) ∧ Aside0 (w'.heap[gb366]? = some (.cells #[.int .i64 a0_0, .int .i64 a0_1, .int .i64 a0_2, .int .i64 a0_3, .string a0_4, (.slice A0_5 l0_5.length c0_5)] 72 (0, 0))) ∧ Aside0 (Below w.heap.size w w'))
    case atStart => exact ⟨(0), (by first | rfl | (simp; done) | (simp [*]; done)), H', ⟨Nat.le_refl _⟩, ⟨by (with_reducible repeat (first | refine blk_drewN ?_ _ | refine blk_drew ?_ | refine blk_alloc ?_ _)); exact BK366.out⟩, ⟨by repeat (first | (with_reducible first | exact HB.out | apply below_alloc | apply pw_below_drewN | apply below_drew1 | refine below_set ?_ GE366.out) | exact HB.out)⟩⟩
    case round =>
     clear H'
     try clear c1
     try clear c2
     try clear p2
     try clear c6
     try clear c7
     try clear c7b0
     try clear c7b1
     try clear c9
     try clear c11
     try clear c11b0
     try clear c11b1
     try clear c20
     try clear hcz10_0
     try clear hcz10_1
     try clear hcz10_2
     try clear hcz10_3
     try clear hcz10_4
     try clear hcz10_5
     try clear hcz12_0
     try clear hcz12_1
     try clear hcz12_2
     try clear hcz12_3
     try clear hcz12_4
     try clear hcz12_5
     try clear hcz14_0
     try clear hcz14_1
     try clear hcz14_2
     try clear hcz14_3
     try clear hcz14_4
     try clear hcz14_5
     try clear hcz15_0
     try clear hcz15_1
     try clear hcz15_2
     try clear hcz15_3
     try clear hcz15_4
     try clear hcz15_5
     try clear hcz17_0
     try clear hcz17_1
     try clear hcz17_2
     try clear hcz17_3
     try clear hcz17_4
     try clear hcz17_5
     try clear hcz18_0
     try clear hcz18_1
     try clear hcz18_2
     try clear hcz18_3
     try clear hcz18_4
     try clear hcz18_5
     try clear hcz21_0
     try clear hcz21_1
     try clear hcz21_2
     try clear hcz21_3
     try clear hcz21_4
     try clear hcz21_5
     try clear hcz8_0
     try clear hcz8_1
     try clear hcz8_2
     try clear hcz8_3
     try clear hcz8_4
     try clear hcz8_5
     try clear hfz10_0
     try clear hfz10_1
     try clear hfz10_2
     try clear hfz10_3
     try clear hfz10_4
     try clear hfz10_5
     try clear hfz12_0
     try clear hfz12_1
     try clear hfz12_2
     try clear hfz12_3
     try clear hfz12_4
     try clear hfz12_5
     try clear hfz14_0
     try clear hfz14_1
     try clear hfz14_2
     try clear hfz14_3
     try clear hfz14_4
     try clear hfz14_5
     try clear hfz15_0
     try clear hfz15_1
     try clear hfz15_2
     try clear hfz15_3
     try clear hfz15_4
     try clear hfz15_5
     try clear hfz17_0
     try clear hfz17_1
     try clear hfz17_2
     try clear hfz17_3
     try clear hfz17_4
     try clear hfz17_5
     try clear hfz18_0
     try clear hfz18_1
     try clear hfz18_2
     try clear hfz18_3
     try clear hfz18_4
     try clear hfz18_5
     try clear hfz21_0
     try clear hfz21_1
     try clear hfz21_2
     try clear hfz21_3
     try clear hfz21_4
     try clear hfz21_5
     try clear hfz8_0
     try clear hfz8_1
     try clear hfz8_2
     try clear hfz8_3
     try clear hfz8_4
     try clear hfz8_5
     try clear p2
     obtain ⟨x30_2, rfl, HA, HK2, BK366, HB⟩ := hrel
     cases gk with
     | zero => exact absurd HA.out (by simp [mortmainref09_fits.l0])
     | succ k2 =>
      have H := HA.out
      clear HA
      simp only [mortmainref09_fits.l0] at H
      by_cases c22 : x30_2 < (l0_5.length : Int)
      ·rw [if_pos c22] at H
       have c22b0 : decide (x30_2 < (l0_5.length : Int)) = true := decide_eq_true c22
       clear c22
       by_cases c23 : 0 ≤ x30_2
       ·rw [if_pos c23] at H
        have c23b0 : decide (0 ≤ x30_2) = true := decide_eq_true c23
        clear c23
        by_cases c24 : x30_2 < (l0_5.length : Int)
        ·rw [if_pos c24] at H
         have c24b0 : decide (x30_2 < (l0_5.length : Int)) = true := decide_eq_true c24
         clear c24
         replace H := Option.bind_eq_some_iff.mp H
         obtain ⟨t370, A250, H⟩ := H
         replace H : (if t370 = true then (mortmainref09_fits.l0 k2 a1 l0_5 (l0_5.length : Int) (wrap64 (x30_2 + 1))) else (some false)) = some r := H
         have A25 := Aside0.mk A250
         clear A250
         by_cases c26 : t370 = true
         ·subst c26
          have H1 : (mortmainref09_fits.l0 k2 a1 l0_5 (l0_5.length : Int) (wrap64 (x30_2 + 1))) = some r := by rw [if_pos rfl] at H; exact H
          clear H
          have H := H1
          clear H1
          have H' := Aside0.mk H
          clear H
          have p368 : 0 ≤ (x30_2 : Int) := of_decide_eq_true (by first | (with_reducible assumption) | assumption)
          have q368 : x30_2 < (l0_5.length : Int) := of_decide_eq_true (by first | (with_reducible assumption) | assumption)
          obtain ⟨ad368, A368_5, c368_5, e368, hx368_0, hx368_1, hx368_2, hx368_3, hx368_4, hx368_5, hl368_5, hi368_5⟩ := at_T72 HR0_5.out x30_2 p368 q368
          cases e368
          replace hx368_0 := (HB.out.cell (World.block_lt_of_cell? w _ hx368_0)).trans hx368_0
          replace hx368_1 := (HB.out.cell (World.block_lt_of_cell? w _ hx368_1)).trans hx368_1
          replace hx368_2 := (HB.out.cell (World.block_lt_of_cell? w _ hx368_2)).trans hx368_2
          replace hx368_3 := (HB.out.cell (World.block_lt_of_cell? w _ hx368_3)).trans hx368_3
          replace hx368_4 := (HB.out.cell (World.block_lt_of_cell? w _ hx368_4)).trans hx368_4
          replace hx368_5 := (HB.out.cell (World.block_lt_of_cell? w _ hx368_5)).trans hx368_5
          have HR368_5 := Aside0.mk hi368_5
          have HC368_5 := Aside0.mk hl368_5
          clear hi368_5 hl368_5
          replace p368 := eq_true p368
          replace q368 := eq_true q368
          go_wp2_with (first | ((with_reducible refine gate_dst (N := 6) rfl ?_); (try (refine gate_guard (by rfl) ?_; dsimp only)); refine box_event ?hg (N := 6) ?hd (cs := #[.int .i64 0, .int .i64 0, .int .i64 0, .int .i64 0, .string (⟨#[]⟩ : ByteArray), .slice none 0 0]) (t := 72) ?hr ?_; (case hd => rfl); (case hg => rfl); (case hr => first | (go_simp; done) | (go_simp; rfl)); intro gb369 hg w27 hbox hb; have n0_ := Aside0.mk (blk_below (g := gb366) (o := .cells #[.int .i64 a0_0, .int .i64 a0_1, .int .i64 a0_2, .int .i64 a0_3, .string a0_4, .slice (some ad368) l0_5.length c0_5] 72 (0, 0)) (by (with_reducible repeat (first | refine blk_drewN ?_ _ | refine blk_drew ?_ | refine blk_alloc ?_ _)); exact BK366.out) hb); have n1_ := Aside0.mk (below_step (by repeat (first | (with_reducible first | exact HB.out | apply below_alloc | apply pw_below_drewN | apply below_drew1 | refine below_set ?_ GE366.out) | exact HB.out)) hb); have n2_ := Aside0.mk (hbox); have n3_ := Aside0.mk ((by rw [hg]; exact (below_size (by repeat (first | (with_reducible first | exact HB.out | apply below_alloc | apply pw_below_drewN | apply below_drew1 | refine below_set ?_ GE366.out) | exact HB.out))) : w.heap.size ≤ gb369)); have n4_ := Aside0.mk ((by rw [hg]; exact (below_size (by repeat (first | (with_reducible first | exact HB.out | apply below_alloc | apply pw_below_drewN | apply below_drew1 | refine below_set ?_ GE366.out) | exact HB.out))) : w.heap.size ≤ gb369)); have n5_ := Aside0.mk ((by rw [hg]; exact Nat.ne_of_lt (blk_lt (g := gb366) (o := .cells #[.int .i64 a0_0, .int .i64 a0_1, .int .i64 a0_2, .int .i64 a0_3, .string a0_4, .slice (some ad368) l0_5.length c0_5] 72 (0, 0)) (by (with_reducible repeat (first | refine blk_drewN ?_ _ | refine blk_drew ?_ | refine blk_alloc ?_ _)); exact BK366.out)) : gb366 ≠ gb369)); have n6_ := Aside0.mk ((by rw [hg]; exact Nat.ne_of_gt (blk_lt (g := gb366) (o := .cells #[.int .i64 a0_0, .int .i64 a0_1, .int .i64 a0_2, .int .i64 a0_3, .string a0_4, .slice (some ad368) l0_5.length c0_5] 72 (0, 0)) (by (with_reducible repeat (first | refine blk_drewN ?_ _ | refine blk_drew ?_ | refine blk_alloc ?_ _)); exact BK366.out)) : gb369 ≠ gb366)); clear BK366; clear HB; have BK366 := n0_; have HB := n1_; have BK369 := n2_; have GW369 := n3_; have GE369 := n4_; have NB366_369 := n5_; have NB369_366 := n6_; clear n0_ n1_ n2_ n3_ n4_ n5_ n6_; clear hb hbox hg; have hnb28 := NB369_366.out; have hnc28 := NB366_369.out; have hcz29_0 : w27.cell? ⟨gb369, 0, none⟩ = some (.int .i64 0) := (blk_cell BK369.out 0).trans rfl; have hcz29_1 : w27.cell? ⟨gb369, 1, none⟩ = some (.int .i64 0) := (blk_cell BK369.out 1).trans rfl; have hcz29_2 : w27.cell? ⟨gb369, 2, none⟩ = some (.int .i64 0) := (blk_cell BK369.out 2).trans rfl; have hcz29_3 : w27.cell? ⟨gb369, 3, none⟩ = some (.int .i64 0) := (blk_cell BK369.out 3).trans rfl; have hcz29_4 : w27.cell? ⟨gb369, 4, none⟩ = some (.string (⟨#[]⟩ : ByteArray)) := (blk_cell BK369.out 4).trans rfl; have hcz29_5 : w27.cell? ⟨gb369, 5, none⟩ = some (.slice none 0 0) := (blk_cell BK369.out 5).trans rfl; have hfz29_0 := blk_frozen BK369.out 0; have hfz29_1 := blk_frozen BK369.out 1; have hfz29_2 := blk_frozen BK369.out 2; have hfz29_3 := blk_frozen BK369.out 3; have hfz29_4 := blk_frozen BK369.out 4; have hfz29_5 := blk_frozen BK369.out 5) | ((with_reducible refine gate_callee (f := 70) rfl ?_); refine goesL_ (some 37) rfl rfl Tryd.func70 (by kernel_rfl) rfl #[.agg #[.int .i64 ((rd_T72 l0_5 x30_2).f0), .int .i64 ((rd_T72 l0_5 x30_2).f1), .int .i64 ((rd_T72 l0_5 x30_2).f2.f0), .int .i64 ((rd_T72 l0_5 x30_2).f2.f1), .string ((rd_T72 l0_5 x30_2).f2.f2), .slice A368_5 ((rd_T72 l0_5 x30_2).f3).length c368_5], .int .i64 (wrap64 (a1 - 1))] rfl (by (try simp only [List.map_toArray, List.map_cons, List.map_nil]); first | done | rfl | (simp only [List.length_drop, List.length_take]; rfl)) ?_; (with_reducible refine (ih k2 (by have := HJ2.out; have := HK2.out; omega) ((rd_T72 l0_5 x30_2).f0) ((rd_T72 l0_5 x30_2).f1) ((rd_T72 l0_5 x30_2).f2.f0) ((rd_T72 l0_5 x30_2).f2.f1) ((rd_T72 l0_5 x30_2).f2.f2) _ _ ((rd_T72 l0_5 x30_2).f3) (wrap64 (a1 - 1)) true _ ?side1 ?side2 A25.out).mono ?_); (case side1 => exact Kd.C_below HR368_5.out (by repeat (first | (with_reducible first | exact HB.out | apply below_alloc | apply pw_below_drewN | apply below_drew1 | refine below_set ?_ GE366.out | refine below_set ?_ GE369.out) | exact HB.out))); (case side2 => exact HC368_5.out); rintro e w30 ⟨rfl, hb⟩; refine ⟨_, rfl, ?_⟩; have n0_ := Aside0.mk (blk_below (g := gb366) (o := .cells #[.int .i64 a0_0, .int .i64 a0_1, .int .i64 a0_2, .int .i64 a0_3, .string a0_4, .slice (some ad368) l0_5.length c0_5] 72 (0, 0)) (by (with_reducible repeat (first | refine blk_drewN ?_ _ | refine blk_drew ?_ | refine blk_alloc ?_ _)); refine blk_far ?_ NB366_369.out _; (with_reducible repeat (first | refine blk_drewN ?_ _ | refine blk_drew ?_ | refine blk_alloc ?_ _)); refine blk_far ?_ NB366_369.out _; (with_reducible repeat (first | refine blk_drewN ?_ _ | refine blk_drew ?_ | refine blk_alloc ?_ _)); refine blk_far ?_ NB366_369.out _; (with_reducible repeat (first | refine blk_drewN ?_ _ | refine blk_drew ?_ | refine blk_alloc ?_ _)); refine blk_far ?_ NB366_369.out _; (with_reducible repeat (first | refine blk_drewN ?_ _ | refine blk_drew ?_ | refine blk_alloc ?_ _)); refine blk_far ?_ NB366_369.out _; (with_reducible repeat (first | refine blk_drewN ?_ _ | refine blk_drew ?_ | refine blk_alloc ?_ _)); refine blk_far ?_ NB366_369.out _; (with_reducible repeat (first | refine blk_drewN ?_ _ | refine blk_drew ?_ | refine blk_alloc ?_ _)); exact BK366.out) hb); have n1_ := Aside0.mk (blk_below (g := gb369) (o := .cells #[.int .i64 ((rd_T72 l0_5 x30_2).f0), .int .i64 ((rd_T72 l0_5 x30_2).f1), .int .i64 ((rd_T72 l0_5 x30_2).f2.f0), .int .i64 ((rd_T72 l0_5 x30_2).f2.f1), .string ((rd_T72 l0_5 x30_2).f2.f2), .slice A368_5 ((rd_T72 l0_5 x30_2).f3).length c368_5] 72 (0, 0)) (by (with_reducible repeat (first | refine blk_drewN ?_ _ | refine blk_drew ?_ | refine blk_alloc ?_ _)); refine blk_put (cs := #[.int .i64 ((rd_T72 l0_5 x30_2).f0), .int .i64 ((rd_T72 l0_5 x30_2).f1), .int .i64 ((rd_T72 l0_5 x30_2).f2.f0), .int .i64 ((rd_T72 l0_5 x30_2).f2.f1), .string ((rd_T72 l0_5 x30_2).f2.f2), .slice none 0 0]) ?_ 5 _ rfl; (with_reducible repeat (first | refine blk_drewN ?_ _ | refine blk_drew ?_ | refine blk_alloc ?_ _)); refine blk_put (cs := #[.int .i64 ((rd_T72 l0_5 x30_2).f0), .int .i64 ((rd_T72 l0_5 x30_2).f1), .int .i64 ((rd_T72 l0_5 x30_2).f2.f0), .int .i64 ((rd_T72 l0_5 x30_2).f2.f1), .string (⟨#[]⟩ : ByteArray), .slice none 0 0]) ?_ 4 _ rfl; (with_reducible repeat (first | refine blk_drewN ?_ _ | refine blk_drew ?_ | refine blk_alloc ?_ _)); refine blk_put (cs := #[.int .i64 ((rd_T72 l0_5 x30_2).f0), .int .i64 ((rd_T72 l0_5 x30_2).f1), .int .i64 ((rd_T72 l0_5 x30_2).f2.f0), .int .i64 0, .string (⟨#[]⟩ : ByteArray), .slice none 0 0]) ?_ 3 _ rfl; (with_reducible repeat (first | refine blk_drewN ?_ _ | refine blk_drew ?_ | refine blk_alloc ?_ _)); refine blk_put (cs := #[.int .i64 ((rd_T72 l0_5 x30_2).f0), .int .i64 ((rd_T72 l0_5 x30_2).f1), .int .i64 0, .int .i64 0, .string (⟨#[]⟩ : ByteArray), .slice none 0 0]) ?_ 2 _ rfl; (with_reducible repeat (first | refine blk_drewN ?_ _ | refine blk_drew ?_ | refine blk_alloc ?_ _)); refine blk_put (cs := #[.int .i64 ((rd_T72 l0_5 x30_2).f0), .int .i64 0, .int .i64 0, .int .i64 0, .string (⟨#[]⟩ : ByteArray), .slice none 0 0]) ?_ 1 _ rfl; (with_reducible repeat (first | refine blk_drewN ?_ _ | refine blk_drew ?_ | refine blk_alloc ?_ _)); refine blk_put (cs := #[.int .i64 0, .int .i64 0, .int .i64 0, .int .i64 0, .string (⟨#[]⟩ : ByteArray), .slice none 0 0]) ?_ 0 _ rfl; (with_reducible repeat (first | refine blk_drewN ?_ _ | refine blk_drew ?_ | refine blk_alloc ?_ _)); exact BK369.out) hb); have n2_ := Aside0.mk (below_step (by repeat (first | (with_reducible first | exact HB.out | apply below_alloc | apply pw_below_drewN | apply below_drew1 | refine below_set ?_ GE366.out | refine below_set ?_ GE369.out) | exact HB.out)) hb); clear BK366; clear BK369; clear HB; have BK366 := n0_; have BK369 := n1_; have HB := n2_; clear n0_ n1_ n2_; (try clear hb); (try clear hb2); (try clear hk); (try clear hi)))
          go_roundg k2
          case measure => have := HJ2.out; have := HK2.out; omega
          case rel => exact ⟨(wrap64 (x30_2 + 1)), (by first | rfl | (simp; done) | (simp [*]; done)), H', ⟨by have := HJ2.out; have := HK2.out; omega⟩, ⟨by (with_reducible repeat (first | refine blk_drewN ?_ _ | refine blk_drew ?_ | refine blk_alloc ?_ _)); exact BK366.out⟩, ⟨by repeat (first | (with_reducible first | exact HB.out | apply below_alloc | apply pw_below_drewN | apply below_drew1 | refine below_set ?_ GE366.out | refine below_set ?_ GE369.out) | exact HB.out)⟩⟩
         ·replace c26 := Bool.eq_false_iff.mpr c26
          subst c26
          have H1 : (some false) = some r := by rw [if_neg (show ¬ (false = true) by decide)] at H; exact H
          clear H
          have H := H1
          clear H1
          obtain rfl := Option.some.inj H
          have p368 : 0 ≤ (x30_2 : Int) := of_decide_eq_true (by first | (with_reducible assumption) | assumption)
          have q368 : x30_2 < (l0_5.length : Int) := of_decide_eq_true (by first | (with_reducible assumption) | assumption)
          obtain ⟨ad368, A368_5, c368_5, e368, hx368_0, hx368_1, hx368_2, hx368_3, hx368_4, hx368_5, hl368_5, hi368_5⟩ := at_T72 HR0_5.out x30_2 p368 q368
          cases e368
          replace hx368_0 := (HB.out.cell (World.block_lt_of_cell? w _ hx368_0)).trans hx368_0
          replace hx368_1 := (HB.out.cell (World.block_lt_of_cell? w _ hx368_1)).trans hx368_1
          replace hx368_2 := (HB.out.cell (World.block_lt_of_cell? w _ hx368_2)).trans hx368_2
          replace hx368_3 := (HB.out.cell (World.block_lt_of_cell? w _ hx368_3)).trans hx368_3
          replace hx368_4 := (HB.out.cell (World.block_lt_of_cell? w _ hx368_4)).trans hx368_4
          replace hx368_5 := (HB.out.cell (World.block_lt_of_cell? w _ hx368_5)).trans hx368_5
          have HR368_5 := Aside0.mk hi368_5
          have HC368_5 := Aside0.mk hl368_5
          clear hi368_5 hl368_5
          replace p368 := eq_true p368
          replace q368 := eq_true q368
          go_wp2_with (first | ((with_reducible refine gate_dst (N := 6) rfl ?_); (try (refine gate_guard (by rfl) ?_; dsimp only)); refine box_event ?hg (N := 6) ?hd (cs := #[.int .i64 0, .int .i64 0, .int .i64 0, .int .i64 0, .string (⟨#[]⟩ : ByteArray), .slice none 0 0]) (t := 72) ?hr ?_; (case hd => rfl); (case hg => rfl); (case hr => first | (go_simp; done) | (go_simp; rfl)); intro gb369 hg w31 hbox hb; have n0_ := Aside0.mk (blk_below (g := gb366) (o := .cells #[.int .i64 a0_0, .int .i64 a0_1, .int .i64 a0_2, .int .i64 a0_3, .string a0_4, .slice (some ad368) l0_5.length c0_5] 72 (0, 0)) (by (with_reducible repeat (first | refine blk_drewN ?_ _ | refine blk_drew ?_ | refine blk_alloc ?_ _)); exact BK366.out) hb); have n1_ := Aside0.mk (below_step (by repeat (first | (with_reducible first | exact HB.out | apply below_alloc | apply pw_below_drewN | apply below_drew1 | refine below_set ?_ GE366.out) | exact HB.out)) hb); have n2_ := Aside0.mk (hbox); have n3_ := Aside0.mk ((by rw [hg]; exact (below_size (by repeat (first | (with_reducible first | exact HB.out | apply below_alloc | apply pw_below_drewN | apply below_drew1 | refine below_set ?_ GE366.out) | exact HB.out))) : w.heap.size ≤ gb369)); have n4_ := Aside0.mk ((by rw [hg]; exact (below_size (by repeat (first | (with_reducible first | exact HB.out | apply below_alloc | apply pw_below_drewN | apply below_drew1 | refine below_set ?_ GE366.out) | exact HB.out))) : w.heap.size ≤ gb369)); have n5_ := Aside0.mk ((by rw [hg]; exact Nat.ne_of_lt (blk_lt (g := gb366) (o := .cells #[.int .i64 a0_0, .int .i64 a0_1, .int .i64 a0_2, .int .i64 a0_3, .string a0_4, .slice (some ad368) l0_5.length c0_5] 72 (0, 0)) (by (with_reducible repeat (first | refine blk_drewN ?_ _ | refine blk_drew ?_ | refine blk_alloc ?_ _)); exact BK366.out)) : gb366 ≠ gb369)); have n6_ := Aside0.mk ((by rw [hg]; exact Nat.ne_of_gt (blk_lt (g := gb366) (o := .cells #[.int .i64 a0_0, .int .i64 a0_1, .int .i64 a0_2, .int .i64 a0_3, .string a0_4, .slice (some ad368) l0_5.length c0_5] 72 (0, 0)) (by (with_reducible repeat (first | refine blk_drewN ?_ _ | refine blk_drew ?_ | refine blk_alloc ?_ _)); exact BK366.out)) : gb369 ≠ gb366)); clear BK366; clear HB; have BK366 := n0_; have HB := n1_; have BK369 := n2_; have GW369 := n3_; have GE369 := n4_; have NB366_369 := n5_; have NB369_366 := n6_; clear n0_ n1_ n2_ n3_ n4_ n5_ n6_; clear hb hbox hg; have hnb32 := NB369_366.out; have hnc32 := NB366_369.out; have hcz33_0 : w31.cell? ⟨gb369, 0, none⟩ = some (.int .i64 0) := (blk_cell BK369.out 0).trans rfl; have hcz33_1 : w31.cell? ⟨gb369, 1, none⟩ = some (.int .i64 0) := (blk_cell BK369.out 1).trans rfl; have hcz33_2 : w31.cell? ⟨gb369, 2, none⟩ = some (.int .i64 0) := (blk_cell BK369.out 2).trans rfl; have hcz33_3 : w31.cell? ⟨gb369, 3, none⟩ = some (.int .i64 0) := (blk_cell BK369.out 3).trans rfl; have hcz33_4 : w31.cell? ⟨gb369, 4, none⟩ = some (.string (⟨#[]⟩ : ByteArray)) := (blk_cell BK369.out 4).trans rfl; have hcz33_5 : w31.cell? ⟨gb369, 5, none⟩ = some (.slice none 0 0) := (blk_cell BK369.out 5).trans rfl; have hfz33_0 := blk_frozen BK369.out 0; have hfz33_1 := blk_frozen BK369.out 1; have hfz33_2 := blk_frozen BK369.out 2; have hfz33_3 := blk_frozen BK369.out 3; have hfz33_4 := blk_frozen BK369.out 4; have hfz33_5 := blk_frozen BK369.out 5) | ((with_reducible refine gate_callee (f := 70) rfl ?_); refine goesL_ (some 37) rfl rfl Tryd.func70 (by kernel_rfl) rfl #[.agg #[.int .i64 ((rd_T72 l0_5 x30_2).f0), .int .i64 ((rd_T72 l0_5 x30_2).f1), .int .i64 ((rd_T72 l0_5 x30_2).f2.f0), .int .i64 ((rd_T72 l0_5 x30_2).f2.f1), .string ((rd_T72 l0_5 x30_2).f2.f2), .slice A368_5 ((rd_T72 l0_5 x30_2).f3).length c368_5], .int .i64 (wrap64 (a1 - 1))] rfl (by (try simp only [List.map_toArray, List.map_cons, List.map_nil]); first | done | rfl | (simp only [List.length_drop, List.length_take]; rfl)) ?_; (with_reducible refine (ih k2 (by have := HJ2.out; have := HK2.out; omega) ((rd_T72 l0_5 x30_2).f0) ((rd_T72 l0_5 x30_2).f1) ((rd_T72 l0_5 x30_2).f2.f0) ((rd_T72 l0_5 x30_2).f2.f1) ((rd_T72 l0_5 x30_2).f2.f2) _ _ ((rd_T72 l0_5 x30_2).f3) (wrap64 (a1 - 1)) false _ ?side1 ?side2 A25.out).mono ?_); (case side1 => exact Kd.C_below HR368_5.out (by repeat (first | (with_reducible first | exact HB.out | apply below_alloc | apply pw_below_drewN | apply below_drew1 | refine below_set ?_ GE366.out | refine below_set ?_ GE369.out) | exact HB.out))); (case side2 => exact HC368_5.out); rintro e w34 ⟨rfl, hb⟩; refine ⟨_, rfl, ?_⟩; have n0_ := Aside0.mk (blk_below (g := gb366) (o := .cells #[.int .i64 a0_0, .int .i64 a0_1, .int .i64 a0_2, .int .i64 a0_3, .string a0_4, .slice (some ad368) l0_5.length c0_5] 72 (0, 0)) (by (with_reducible repeat (first | refine blk_drewN ?_ _ | refine blk_drew ?_ | refine blk_alloc ?_ _)); refine blk_far ?_ NB366_369.out _; (with_reducible repeat (first | refine blk_drewN ?_ _ | refine blk_drew ?_ | refine blk_alloc ?_ _)); refine blk_far ?_ NB366_369.out _; (with_reducible repeat (first | refine blk_drewN ?_ _ | refine blk_drew ?_ | refine blk_alloc ?_ _)); refine blk_far ?_ NB366_369.out _; (with_reducible repeat (first | refine blk_drewN ?_ _ | refine blk_drew ?_ | refine blk_alloc ?_ _)); refine blk_far ?_ NB366_369.out _; (with_reducible repeat (first | refine blk_drewN ?_ _ | refine blk_drew ?_ | refine blk_alloc ?_ _)); refine blk_far ?_ NB366_369.out _; (with_reducible repeat (first | refine blk_drewN ?_ _ | refine blk_drew ?_ | refine blk_alloc ?_ _)); refine blk_far ?_ NB366_369.out _; (with_reducible repeat (first | refine blk_drewN ?_ _ | refine blk_drew ?_ | refine blk_alloc ?_ _)); exact BK366.out) hb); have n1_ := Aside0.mk (blk_below (g := gb369) (o := .cells #[.int .i64 ((rd_T72 l0_5 x30_2).f0), .int .i64 ((rd_T72 l0_5 x30_2).f1), .int .i64 ((rd_T72 l0_5 x30_2).f2.f0), .int .i64 ((rd_T72 l0_5 x30_2).f2.f1), .string ((rd_T72 l0_5 x30_2).f2.f2), .slice A368_5 ((rd_T72 l0_5 x30_2).f3).length c368_5] 72 (0, 0)) (by (with_reducible repeat (first | refine blk_drewN ?_ _ | refine blk_drew ?_ | refine blk_alloc ?_ _)); refine blk_put (cs := #[.int .i64 ((rd_T72 l0_5 x30_2).f0), .int .i64 ((rd_T72 l0_5 x30_2).f1), .int .i64 ((rd_T72 l0_5 x30_2).f2.f0), .int .i64 ((rd_T72 l0_5 x30_2).f2.f1), .string ((rd_T72 l0_5 x30_2).f2.f2), .slice none 0 0]) ?_ 5 _ rfl; (with_reducible repeat (first | refine blk_drewN ?_ _ | refine blk_drew ?_ | refine blk_alloc ?_ _)); refine blk_put (cs := #[.int .i64 ((rd_T72 l0_5 x30_2).f0), .int .i64 ((rd_T72 l0_5 x30_2).f1), .int .i64 ((rd_T72 l0_5 x30_2).f2.f0), .int .i64 ((rd_T72 l0_5 x30_2).f2.f1), .string (⟨#[]⟩ : ByteArray), .slice none 0 0]) ?_ 4 _ rfl; (with_reducible repeat (first | refine blk_drewN ?_ _ | refine blk_drew ?_ | refine blk_alloc ?_ _)); refine blk_put (cs := #[.int .i64 ((rd_T72 l0_5 x30_2).f0), .int .i64 ((rd_T72 l0_5 x30_2).f1), .int .i64 ((rd_T72 l0_5 x30_2).f2.f0), .int .i64 0, .string (⟨#[]⟩ : ByteArray), .slice none 0 0]) ?_ 3 _ rfl; (with_reducible repeat (first | refine blk_drewN ?_ _ | refine blk_drew ?_ | refine blk_alloc ?_ _)); refine blk_put (cs := #[.int .i64 ((rd_T72 l0_5 x30_2).f0), .int .i64 ((rd_T72 l0_5 x30_2).f1), .int .i64 0, .int .i64 0, .string (⟨#[]⟩ : ByteArray), .slice none 0 0]) ?_ 2 _ rfl; (with_reducible repeat (first | refine blk_drewN ?_ _ | refine blk_drew ?_ | refine blk_alloc ?_ _)); refine blk_put (cs := #[.int .i64 ((rd_T72 l0_5 x30_2).f0), .int .i64 0, .int .i64 0, .int .i64 0, .string (⟨#[]⟩ : ByteArray), .slice none 0 0]) ?_ 1 _ rfl; (with_reducible repeat (first | refine blk_drewN ?_ _ | refine blk_drew ?_ | refine blk_alloc ?_ _)); refine blk_put (cs := #[.int .i64 0, .int .i64 0, .int .i64 0, .int .i64 0, .string (⟨#[]⟩ : ByteArray), .slice none 0 0]) ?_ 0 _ rfl; (with_reducible repeat (first | refine blk_drewN ?_ _ | refine blk_drew ?_ | refine blk_alloc ?_ _)); exact BK369.out) hb); have n2_ := Aside0.mk (below_step (by repeat (first | (with_reducible first | exact HB.out | apply below_alloc | apply pw_below_drewN | apply below_drew1 | refine below_set ?_ GE366.out | refine below_set ?_ GE369.out) | exact HB.out)) hb); clear BK366; clear BK369; clear HB; have BK366 := n0_; have BK369 := n1_; have HB := n2_; clear n0_ n1_ n2_; (try clear hb); (try clear hb2); (try clear hk); (try clear hi)))
          go_ret
          exact ⟨by first | rfl | (simp [errW_none, errW_some] <;> rfl) | (simp [*, errW_none, errW_some] <;> rfl), by repeat (first | (with_reducible first | exact HB.out | apply below_alloc | apply pw_below_drewN | apply below_drew1 | refine below_set ?_ GE366.out | refine below_set ?_ GE369.out) | exact HB.out)⟩
        ·rw [if_neg c24] at H
         exact absurd H (by simp)
       ·rw [if_neg c23] at H
        exact absurd H (by simp)
      ·rw [if_neg c22] at H
       have c22b0 : decide (x30_2 < (l0_5.length : Int)) = false := decide_eq_false c22
       clear c22
       obtain rfl := Option.some.inj H
       go_wp2
       go_ret
       exact ⟨by first | rfl | (simp [errW_none, errW_some] <;> rfl) | (simp [*, errW_none, errW_some] <;> rfl), by repeat (first | (with_reducible first | exact HB.out | apply below_alloc | apply pw_below_drewN | apply below_drew1 | refine below_set ?_ GE366.out) | exact HB.out)⟩
end Go.Proofs.YtefdfgmlmjnmlaaDoor.Rf
end
