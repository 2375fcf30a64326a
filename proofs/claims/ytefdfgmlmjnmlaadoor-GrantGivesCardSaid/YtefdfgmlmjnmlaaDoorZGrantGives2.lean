/- Lemmas for the law GrantGives: what the functions that it reaches compute. No condition. Joined out of this session's smaller texts (part 2 of 4). -/
import Derived.Test.YtefdfgmlmjnmlaaDoorZGrantGives1
section
set_option linter.unusedVariables false
set_option linter.unusedSimpArgs false
/- What the kit's print.py wrote of one Go function of this seat's translation (run by a program of this session, one function a text): the function as a plain Lean function, and that the call computes it. -/
namespace Go.Proofs.YtefdfgmlmjnmlaaDoor.Rf
open Go.RowKit Go.Proofs.YtefdfgmlmjnmlaaDoorW.PrintWords Go.Proofs.YtefdfgmlmjnmlaaDoorW.PrintLast Go.Proofs.YtefdfgmlmjnmlaaDoorW.PrintMore
attribute [local go_sem] max2_int min2_int max_two min_two max_three min_three max_four min_four   -- for this text's walks alone

/-! ### mortmainref10_Owns: function 20 -/
def mortmainref10_Owns.f (k : Nat) (a0_0 : Int) (l0_1 : List (S45)) (l0_2 : List (S27)) (a1 : Int) (a2 : ByteArray) : Option (Bool) := (mortmainref09_Find.f k a0_0 l0_1 l0_2 a2).bind fun t164 => (if t164 ≥ 0 then (if a1 ≥ 0 then (if a1 ≤ 7 then (if a1 = 0 then (some true) else (if 0 ≤ t164 then (if t164 < (l0_1.length : Int) then (some (((rd_T45 l0_1 t164).f1) == a1)) else (none)) else (none))) else (some false)) else (some false)) else (some false))
theorem mortmainref10_Owns.mono : ∀ a0 a1 a2 a3 a4 k, LeO (mortmainref10_Owns.f k a0 a1 a2 a3 a4) (mortmainref10_Owns.f (k + 1) a0 a1 a2 a3 a4) := by
  intro a0 a1 a2 a3 a4 k
  unfold mortmainref10_Owns.f
  repeat' first
      | (with_reducible exact mortmainref09_Find.mono _ _ _ _ _)
      | (with_reducible exact LeO.refl _)
      | (with_reducible exact LeO.none _)
      | (with_reducible refine LeO.ite ?_ ?_)
      | (with_reducible refine LeO.bind ?_ (fun _ => ?_))
      | exact mortmainref09_Find.mono _ _ _ _ _
      | exact LeO.none _
      | refine LeO.ite ?_ ?_
      | refine LeO.bind ?_ (fun _ => ?_)
set_option maxHeartbeats 8000000 in
set_option maxRecDepth 100000 in
theorem mortmainref10_Owns.calls (k : Nat) (a0_0 : Int) (A0_1 : Option Addr) (c0_1 : Nat) (l0_1 : List (S45)) (A0_2 : Option Addr) (c0_2 : Nat) (l0_2 : List (S27)) (a1 : Int) (a2 : ByteArray) (r : Bool) (w : World) (hr0_1 : Kd.C k45 w A0_1 l0_1.length l0_1) (hc0_1 : l0_1.length ≤ c0_1) (hr0_2 : Kd.C k27 w A0_2 l0_2.length l0_2) (hc0_2 : l0_2.length ≤ c0_2) (h : mortmainref10_Owns.f k a0_0 l0_1 l0_2 a1 a2 = some r) :
    Calls Tryd.prog 20 #[.agg #[.int .i64 a0_0, .slice A0_1 l0_1.length c0_1, .slice A0_2 l0_2.length c0_2], .int .i64 a1, .string a2] w fun e w' => e = .returned (.bool r) ∧ Below w.heap.size w w' := by
  have hu25 := Tryd.underlying25
  have HR0_1 := Aside0.mk hr0_1
  have HC0_1 := Aside0.mk hc0_1
  clear hr0_1 hc0_1
  have HR0_2 := Aside0.mk hr0_2
  have HC0_2 := Aside0.mk hc0_2
  clear hr0_2 hc0_2
  have HB := Aside0.mk (Below.refl w.heap.size w)
  have H : ((mortmainref09_Find.f k a0_0 l0_1 l0_2 a2).bind fun t164 => (if t164 ≥ 0 then (if a1 ≥ 0 then (if a1 ≤ 7 then (if a1 = 0 then (some true) else (if 0 ≤ t164 then (if t164 < (l0_1.length : Int) then (some (((rd_T45 l0_1 t164).f1) == a1)) else (none)) else (none))) else (some false)) else (some false)) else (some false))) = some r := h
  clear h
  replace H := Option.bind_eq_some_iff.mp H
  obtain ⟨t164, A40, H⟩ := H
  replace H : (if t164 ≥ 0 then (if a1 ≥ 0 then (if a1 ≤ 7 then (if a1 = 0 then (some true) else (if 0 ≤ t164 then (if t164 < (l0_1.length : Int) then (some (((rd_T45 l0_1 t164).f1) == a1)) else (none)) else (none))) else (some false)) else (some false)) else (some false)) = some r := H
  have A4 := Aside0.mk A40
  clear A40
  by_cases c5 : t164 ≥ 0
  · rw [if_pos c5] at H
    have c5b0 : decide (0 ≤ t164) = true := decide_eq_true c5
    clear c5
    by_cases c6 : a1 ≥ 0
    · rw [if_pos c6] at H
      have c6b0 : decide (0 ≤ a1) = true := decide_eq_true c6
      clear c6
      by_cases c7 : a1 ≤ 7
      · rw [if_pos c7] at H
        have c7b0 : decide (a1 ≤ 7) = true := decide_eq_true c7
        clear c7
        by_cases c8 : a1 = 0
        · rw [if_pos c8] at H
          have c8b0 : (a1 == 0) = true := beq_iff_eq.mpr c8
          have c8b1 : (a1 != 0) = false := bne_eq_false_iff_eq.mpr c8
          clear c8
          obtain rfl := Option.some.inj H
          go_enter Tryd.func20, Tryd.ntmps20
          go_wp2_with (first | ((with_reducible refine gate_dst (N := 3) rfl ?_); refine box_event ?hg (N := 3) ?hd (cs := #[.int .i64 a0_0, .slice A0_1 l0_1.length c0_1, .slice A0_2 l0_2.length c0_2]) (t := 25) ?hr ?_; (case hd => rfl); (case hg => rfl); (case hr => first | (go_simp; done) | (go_simp; rfl)); intro gb163 hg w9 hbox hb; have n0_ := Aside0.mk (below_step (by repeat (first | (with_reducible first | exact HB.out | apply below_alloc | apply pw_below_drewN | apply below_drew1) | exact HB.out)) hb); have n1_ := Aside0.mk (hbox); have n2_ := Aside0.mk ((by rw [hg]; exact (below_size (by repeat (first | (with_reducible first | exact HB.out | apply below_alloc | apply pw_below_drewN | apply below_drew1) | exact HB.out))) : w.heap.size ≤ gb163)); have n3_ := Aside0.mk ((by rw [hg]; exact (below_size (by repeat (first | (with_reducible first | exact HB.out | apply below_alloc | apply pw_below_drewN | apply below_drew1) | exact HB.out))) : w.heap.size ≤ gb163)); clear HB; have HB := n0_; have BK163 := n1_; have GW163 := n2_; have GE163 := n3_; clear n0_ n1_ n2_ n3_; clear hb hbox hg; have hcz10_0 : w9.cell? ⟨gb163, 0, none⟩ = some (.int .i64 a0_0) := (blk_cell BK163.out 0).trans rfl; have hcz10_1 : w9.cell? ⟨gb163, 1, none⟩ = some (.slice A0_1 l0_1.length c0_1) := (blk_cell BK163.out 1).trans rfl; have hcz10_2 : w9.cell? ⟨gb163, 2, none⟩ = some (.slice A0_2 l0_2.length c0_2) := (blk_cell BK163.out 2).trans rfl; have hfz10_0 := blk_frozen BK163.out 0; have hfz10_1 := blk_frozen BK163.out 1; have hfz10_2 := blk_frozen BK163.out 2) | ((with_reducible refine gate_callee (f := 30) rfl ?_); refine goesL_ (some 10) rfl rfl Tryd.func30 (by kernel_rfl) rfl #[.agg #[.int .i64 a0_0, .slice A0_1 l0_1.length c0_1, .slice A0_2 l0_2.length c0_2], .string a2] rfl (by (try simp only [List.map_toArray, List.map_cons, List.map_nil]); first | done | rfl | (simp only [List.length_drop, List.length_take]; rfl)) ?_; (with_reducible refine (mortmainref09_Find.calls k a0_0 _ _ l0_1 _ _ l0_2 a2 t164 _ ?side1 ?side2 ?side3 ?side4 A4.out).mono ?_); (case side1 => repeat (first | exact (Kd.C_below HR0_1.out HB.out) | (with_reducible refine Kd.C_alloc ?_ _) | (with_reducible refine Kd.C_drewN ?_ _) | (with_reducible refine Kd.C_drew ?_))); (case side2 => exact HC0_1.out); (case side3 => repeat (first | exact (Kd.C_below HR0_2.out HB.out) | (with_reducible refine Kd.C_alloc ?_ _) | (with_reducible refine Kd.C_drewN ?_ _) | (with_reducible refine Kd.C_drew ?_))); (case side4 => exact HC0_2.out); rintro e w11 ⟨rfl, hb⟩; refine ⟨_, rfl, ?_⟩; have n0_ := Aside0.mk (blk_below (g := gb163) (o := .cells #[.int .i64 a0_0, .slice A0_1 l0_1.length c0_1, .slice A0_2 l0_2.length c0_2] 25 (0, 0)) (by (with_reducible repeat (first | refine blk_drewN ?_ _ | refine blk_drew ?_ | refine blk_alloc ?_ _)); exact BK163.out) hb); have n1_ := Aside0.mk (below_step (by repeat (first | (with_reducible first | exact HB.out | apply below_alloc | apply pw_below_drewN | apply below_drew1 | refine below_set ?_ GE163.out) | exact HB.out)) hb); clear BK163; clear HB; have BK163 := n0_; have HB := n1_; clear n0_ n1_; (try clear hb); (try clear hb2); (try clear hk); (try clear hi)))
          go_ret
          exact ⟨by first | rfl | (simp [errW_none, errW_some] <;> rfl) | (simp [*, errW_none, errW_some] <;> rfl), by repeat (first | (with_reducible first | exact HB.out | apply below_alloc | apply pw_below_drewN | apply below_drew1 | refine below_set ?_ GE163.out) | exact HB.out)⟩
        · rw [if_neg c8] at H
          have c8b0 : (a1 == 0) = false := beq_eq_false_iff_ne.mpr c8
          have c8b1 : (a1 != 0) = true := bne_iff_ne.mpr c8
          by_cases c12 : 0 ≤ t164
          · rw [if_pos c12] at H
            have c12b0 : decide (0 ≤ t164) = true := decide_eq_true c12
            clear c12
            by_cases c13 : t164 < (l0_1.length : Int)
            · rw [if_pos c13] at H
              have c13b0 : decide (t164 < (l0_1.length : Int)) = true := decide_eq_true c13
              clear c13
              obtain rfl := Option.some.inj H
              go_enter Tryd.func20, Tryd.ntmps20
              go_wp2_with (first | ((with_reducible refine gate_dst (N := 3) rfl ?_); refine box_event ?hg (N := 3) ?hd (cs := #[.int .i64 a0_0, .slice A0_1 l0_1.length c0_1, .slice A0_2 l0_2.length c0_2]) (t := 25) ?hr ?_; (case hd => rfl); (case hg => rfl); (case hr => first | (go_simp; done) | (go_simp; rfl)); intro gb163 hg w14 hbox hb; have n0_ := Aside0.mk (below_step (by repeat (first | (with_reducible first | exact HB.out | apply below_alloc | apply pw_below_drewN | apply below_drew1) | exact HB.out)) hb); have n1_ := Aside0.mk (hbox); have n2_ := Aside0.mk ((by rw [hg]; exact (below_size (by repeat (first | (with_reducible first | exact HB.out | apply below_alloc | apply pw_below_drewN | apply below_drew1) | exact HB.out))) : w.heap.size ≤ gb163)); have n3_ := Aside0.mk ((by rw [hg]; exact (below_size (by repeat (first | (with_reducible first | exact HB.out | apply below_alloc | apply pw_below_drewN | apply below_drew1) | exact HB.out))) : w.heap.size ≤ gb163)); clear HB; have HB := n0_; have BK163 := n1_; have GW163 := n2_; have GE163 := n3_; clear n0_ n1_ n2_ n3_; clear hb hbox hg; have hcz15_0 : w14.cell? ⟨gb163, 0, none⟩ = some (.int .i64 a0_0) := (blk_cell BK163.out 0).trans rfl; have hcz15_1 : w14.cell? ⟨gb163, 1, none⟩ = some (.slice A0_1 l0_1.length c0_1) := (blk_cell BK163.out 1).trans rfl; have hcz15_2 : w14.cell? ⟨gb163, 2, none⟩ = some (.slice A0_2 l0_2.length c0_2) := (blk_cell BK163.out 2).trans rfl; have hfz15_0 := blk_frozen BK163.out 0; have hfz15_1 := blk_frozen BK163.out 1; have hfz15_2 := blk_frozen BK163.out 2) | ((with_reducible refine gate_callee (f := 30) rfl ?_); refine goesL_ (some 10) rfl rfl Tryd.func30 (by kernel_rfl) rfl #[.agg #[.int .i64 a0_0, .slice A0_1 l0_1.length c0_1, .slice A0_2 l0_2.length c0_2], .string a2] rfl (by (try simp only [List.map_toArray, List.map_cons, List.map_nil]); first | done | rfl | (simp only [List.length_drop, List.length_take]; rfl)) ?_; (with_reducible refine (mortmainref09_Find.calls k a0_0 _ _ l0_1 _ _ l0_2 a2 t164 _ ?side1 ?side2 ?side3 ?side4 A4.out).mono ?_); (case side1 => repeat (first | exact (Kd.C_below HR0_1.out HB.out) | (with_reducible refine Kd.C_alloc ?_ _) | (with_reducible refine Kd.C_drewN ?_ _) | (with_reducible refine Kd.C_drew ?_))); (case side2 => exact HC0_1.out); (case side3 => repeat (first | exact (Kd.C_below HR0_2.out HB.out) | (with_reducible refine Kd.C_alloc ?_ _) | (with_reducible refine Kd.C_drewN ?_ _) | (with_reducible refine Kd.C_drew ?_))); (case side4 => exact HC0_2.out); rintro e w16 ⟨rfl, hb⟩; refine ⟨_, rfl, ?_⟩; have n0_ := Aside0.mk (blk_below (g := gb163) (o := .cells #[.int .i64 a0_0, .slice A0_1 l0_1.length c0_1, .slice A0_2 l0_2.length c0_2] 25 (0, 0)) (by (with_reducible repeat (first | refine blk_drewN ?_ _ | refine blk_drew ?_ | refine blk_alloc ?_ _)); exact BK163.out) hb); have n1_ := Aside0.mk (below_step (by repeat (first | (with_reducible first | exact HB.out | apply below_alloc | apply pw_below_drewN | apply below_drew1 | refine below_set ?_ GE163.out) | exact HB.out)) hb); clear BK163; clear HB; have BK163 := n0_; have HB := n1_; clear n0_ n1_; (try clear hb); (try clear hb2); (try clear hk); (try clear hi); have hcz17_0 : w16.cell? ⟨gb163, 0, none⟩ = some (.int .i64 a0_0) := (blk_cell BK163.out 0).trans rfl; have hcz17_1 : w16.cell? ⟨gb163, 1, none⟩ = some (.slice A0_1 l0_1.length c0_1) := (blk_cell BK163.out 1).trans rfl; have hcz17_2 : w16.cell? ⟨gb163, 2, none⟩ = some (.slice A0_2 l0_2.length c0_2) := (blk_cell BK163.out 2).trans rfl; have hfz17_0 := blk_frozen BK163.out 0; have hfz17_1 := blk_frozen BK163.out 1; have hfz17_2 := blk_frozen BK163.out 2; have p165 : 0 ≤ (t164 : Int) := of_decide_eq_true (by first | (with_reducible assumption) | assumption); have q165 : t164 < (l0_1.length : Int) := of_decide_eq_true (by first | (with_reducible assumption) | assumption); obtain ⟨ad165, A165_2, c165_2, A165_3, c165_3, e165, hx165_0, hx165_1, hx165_2, hx165_3, hl165_2, hi165_2, hl165_3, hi165_3⟩ := at_T45 HR0_1.out t164 p165 q165; cases e165; replace hx165_0 := (HB.out.cell (World.block_lt_of_cell? w _ hx165_0)).trans hx165_0; replace hx165_1 := (HB.out.cell (World.block_lt_of_cell? w _ hx165_1)).trans hx165_1; replace hx165_2 := (HB.out.cell (World.block_lt_of_cell? w _ hx165_2)).trans hx165_2; replace hx165_3 := (HB.out.cell (World.block_lt_of_cell? w _ hx165_3)).trans hx165_3; have HR165_2 := Aside0.mk hi165_2; have HC165_2 := Aside0.mk hl165_2; clear hi165_2 hl165_2; have HR165_3 := Aside0.mk hi165_3; have HC165_3 := Aside0.mk hl165_3; clear hi165_3 hl165_3; replace p165 := eq_true p165; replace q165 := eq_true q165))
              go_ret
              exact ⟨by first | rfl | (simp [errW_none, errW_some] <;> rfl) | (simp [*, errW_none, errW_some] <;> rfl), by repeat (first | (with_reducible first | exact HB.out | apply below_alloc | apply pw_below_drewN | apply below_drew1 | refine below_set ?_ GE163.out) | exact HB.out)⟩
            · rw [if_neg c13] at H
              exact absurd H (by simp)
          · rw [if_neg c12] at H
            exact absurd H (by simp)
      · rw [if_neg c7] at H
        have c7b0 : decide (a1 ≤ 7) = false := decide_eq_false c7
        clear c7
        obtain rfl := Option.some.inj H
        go_enter Tryd.func20, Tryd.ntmps20
        go_wp2_with (first | ((with_reducible refine gate_dst (N := 3) rfl ?_); refine box_event ?hg (N := 3) ?hd (cs := #[.int .i64 a0_0, .slice A0_1 l0_1.length c0_1, .slice A0_2 l0_2.length c0_2]) (t := 25) ?hr ?_; (case hd => rfl); (case hg => rfl); (case hr => first | (go_simp; done) | (go_simp; rfl)); intro gb163 hg w18 hbox hb; have n0_ := Aside0.mk (below_step (by repeat (first | (with_reducible first | exact HB.out | apply below_alloc | apply pw_below_drewN | apply below_drew1) | exact HB.out)) hb); have n1_ := Aside0.mk (hbox); have n2_ := Aside0.mk ((by rw [hg]; exact (below_size (by repeat (first | (with_reducible first | exact HB.out | apply below_alloc | apply pw_below_drewN | apply below_drew1) | exact HB.out))) : w.heap.size ≤ gb163)); have n3_ := Aside0.mk ((by rw [hg]; exact (below_size (by repeat (first | (with_reducible first | exact HB.out | apply below_alloc | apply pw_below_drewN | apply below_drew1) | exact HB.out))) : w.heap.size ≤ gb163)); clear HB; have HB := n0_; have BK163 := n1_; have GW163 := n2_; have GE163 := n3_; clear n0_ n1_ n2_ n3_; clear hb hbox hg; have hcz19_0 : w18.cell? ⟨gb163, 0, none⟩ = some (.int .i64 a0_0) := (blk_cell BK163.out 0).trans rfl; have hcz19_1 : w18.cell? ⟨gb163, 1, none⟩ = some (.slice A0_1 l0_1.length c0_1) := (blk_cell BK163.out 1).trans rfl; have hcz19_2 : w18.cell? ⟨gb163, 2, none⟩ = some (.slice A0_2 l0_2.length c0_2) := (blk_cell BK163.out 2).trans rfl; have hfz19_0 := blk_frozen BK163.out 0; have hfz19_1 := blk_frozen BK163.out 1; have hfz19_2 := blk_frozen BK163.out 2) | ((with_reducible refine gate_callee (f := 30) rfl ?_); refine goesL_ (some 10) rfl rfl Tryd.func30 (by kernel_rfl) rfl #[.agg #[.int .i64 a0_0, .slice A0_1 l0_1.length c0_1, .slice A0_2 l0_2.length c0_2], .string a2] rfl (by (try simp only [List.map_toArray, List.map_cons, List.map_nil]); first | done | rfl | (simp only [List.length_drop, List.length_take]; rfl)) ?_; (with_reducible refine (mortmainref09_Find.calls k a0_0 _ _ l0_1 _ _ l0_2 a2 t164 _ ?side1 ?side2 ?side3 ?side4 A4.out).mono ?_); (case side1 => repeat (first | exact (Kd.C_below HR0_1.out HB.out) | (with_reducible refine Kd.C_alloc ?_ _) | (with_reducible refine Kd.C_drewN ?_ _) | (with_reducible refine Kd.C_drew ?_))); (case side2 => exact HC0_1.out); (case side3 => repeat (first | exact (Kd.C_below HR0_2.out HB.out) | (with_reducible refine Kd.C_alloc ?_ _) | (with_reducible refine Kd.C_drewN ?_ _) | (with_reducible refine Kd.C_drew ?_))); (case side4 => exact HC0_2.out); rintro e w20 ⟨rfl, hb⟩; refine ⟨_, rfl, ?_⟩; have n0_ := Aside0.mk (blk_below (g := gb163) (o := .cells #[.int .i64 a0_0, .slice A0_1 l0_1.length c0_1, .slice A0_2 l0_2.length c0_2] 25 (0, 0)) (by (with_reducible repeat (first | refine blk_drewN ?_ _ | refine blk_drew ?_ | refine blk_alloc ?_ _)); exact BK163.out) hb); have n1_ := Aside0.mk (below_step (by repeat (first | (with_reducible first | exact HB.out | apply below_alloc | apply pw_below_drewN | apply below_drew1 | refine below_set ?_ GE163.out) | exact HB.out)) hb); clear BK163; clear HB; have BK163 := n0_; have HB := n1_; clear n0_ n1_; (try clear hb); (try clear hb2); (try clear hk); (try clear hi)))
        go_ret
        exact ⟨by first | rfl | (simp [errW_none, errW_some] <;> rfl) | (simp [*, errW_none, errW_some] <;> rfl), by repeat (first | (with_reducible first | exact HB.out | apply below_alloc | apply pw_below_drewN | apply below_drew1 | refine below_set ?_ GE163.out) | exact HB.out)⟩
    · rw [if_neg c6] at H
      have c6b0 : decide (0 ≤ a1) = false := decide_eq_false c6
      clear c6
      obtain rfl := Option.some.inj H
      go_enter Tryd.func20, Tryd.ntmps20
      go_wp2_with (first | ((with_reducible refine gate_dst (N := 3) rfl ?_); refine box_event ?hg (N := 3) ?hd (cs := #[.int .i64 a0_0, .slice A0_1 l0_1.length c0_1, .slice A0_2 l0_2.length c0_2]) (t := 25) ?hr ?_; (case hd => rfl); (case hg => rfl); (case hr => first | (go_simp; done) | (go_simp; rfl)); intro gb163 hg w21 hbox hb; have n0_ := Aside0.mk (below_step (by repeat (first | (with_reducible first | exact HB.out | apply below_alloc | apply pw_below_drewN | apply below_drew1) | exact HB.out)) hb); have n1_ := Aside0.mk (hbox); have n2_ := Aside0.mk ((by rw [hg]; exact (below_size (by repeat (first | (with_reducible first | exact HB.out | apply below_alloc | apply pw_below_drewN | apply below_drew1) | exact HB.out))) : w.heap.size ≤ gb163)); have n3_ := Aside0.mk ((by rw [hg]; exact (below_size (by repeat (first | (with_reducible first | exact HB.out | apply below_alloc | apply pw_below_drewN | apply below_drew1) | exact HB.out))) : w.heap.size ≤ gb163)); clear HB; have HB := n0_; have BK163 := n1_; have GW163 := n2_; have GE163 := n3_; clear n0_ n1_ n2_ n3_; clear hb hbox hg; have hcz22_0 : w21.cell? ⟨gb163, 0, none⟩ = some (.int .i64 a0_0) := (blk_cell BK163.out 0).trans rfl; have hcz22_1 : w21.cell? ⟨gb163, 1, none⟩ = some (.slice A0_1 l0_1.length c0_1) := (blk_cell BK163.out 1).trans rfl; have hcz22_2 : w21.cell? ⟨gb163, 2, none⟩ = some (.slice A0_2 l0_2.length c0_2) := (blk_cell BK163.out 2).trans rfl; have hfz22_0 := blk_frozen BK163.out 0; have hfz22_1 := blk_frozen BK163.out 1; have hfz22_2 := blk_frozen BK163.out 2) | ((with_reducible refine gate_callee (f := 30) rfl ?_); refine goesL_ (some 10) rfl rfl Tryd.func30 (by kernel_rfl) rfl #[.agg #[.int .i64 a0_0, .slice A0_1 l0_1.length c0_1, .slice A0_2 l0_2.length c0_2], .string a2] rfl (by (try simp only [List.map_toArray, List.map_cons, List.map_nil]); first | done | rfl | (simp only [List.length_drop, List.length_take]; rfl)) ?_; (with_reducible refine (mortmainref09_Find.calls k a0_0 _ _ l0_1 _ _ l0_2 a2 t164 _ ?side1 ?side2 ?side3 ?side4 A4.out).mono ?_); (case side1 => repeat (first | exact (Kd.C_below HR0_1.out HB.out) | (with_reducible refine Kd.C_alloc ?_ _) | (with_reducible refine Kd.C_drewN ?_ _) | (with_reducible refine Kd.C_drew ?_))); (case side2 => exact HC0_1.out); (case side3 => repeat (first | exact (Kd.C_below HR0_2.out HB.out) | (with_reducible refine Kd.C_alloc ?_ _) | (with_reducible refine Kd.C_drewN ?_ _) | (with_reducible refine Kd.C_drew ?_))); (case side4 => exact HC0_2.out); rintro e w23 ⟨rfl, hb⟩; refine ⟨_, rfl, ?_⟩; have n0_ := Aside0.mk (blk_below (g := gb163) (o := .cells #[.int .i64 a0_0, .slice A0_1 l0_1.length c0_1, .slice A0_2 l0_2.length c0_2] 25 (0, 0)) (by (with_reducible repeat (first | refine blk_drewN ?_ _ | refine blk_drew ?_ | refine blk_alloc ?_ _)); exact BK163.out) hb); have n1_ := Aside0.mk (below_step (by repeat (first | (with_reducible first | exact HB.out | apply below_alloc | apply pw_below_drewN | apply below_drew1 | refine below_set ?_ GE163.out) | exact HB.out)) hb); clear BK163; clear HB; have BK163 := n0_; have HB := n1_; clear n0_ n1_; (try clear hb); (try clear hb2); (try clear hk); (try clear hi)))
      go_ret
      exact ⟨by first | rfl | (simp [errW_none, errW_some] <;> rfl) | (simp [*, errW_none, errW_some] <;> rfl), by repeat (first | (with_reducible first | exact HB.out | apply below_alloc | apply pw_below_drewN | apply below_drew1 | refine below_set ?_ GE163.out) | exact HB.out)⟩
  · rw [if_neg c5] at H
    have c5b0 : decide (0 ≤ t164) = false := decide_eq_false c5
    clear c5
    obtain rfl := Option.some.inj H
    go_enter Tryd.func20, Tryd.ntmps20
    go_wp2_with (first | ((with_reducible refine gate_dst (N := 3) rfl ?_); refine box_event ?hg (N := 3) ?hd (cs := #[.int .i64 a0_0, .slice A0_1 l0_1.length c0_1, .slice A0_2 l0_2.length c0_2]) (t := 25) ?hr ?_; (case hd => rfl); (case hg => rfl); (case hr => first | (go_simp; done) | (go_simp; rfl)); intro gb163 hg w24 hbox hb; have n0_ := Aside0.mk (below_step (by repeat (first | (with_reducible first | exact HB.out | apply below_alloc | apply pw_below_drewN | apply below_drew1) | exact HB.out)) hb); have n1_ := Aside0.mk (hbox); have n2_ := Aside0.mk ((by rw [hg]; exact (below_size (by repeat (first | (with_reducible first | exact HB.out | apply below_alloc | apply pw_below_drewN | apply below_drew1) | exact HB.out))) : w.heap.size ≤ gb163)); have n3_ := Aside0.mk ((by rw [hg]; exact (below_size (by repeat (first | (with_reducible first | exact HB.out | apply below_alloc | apply pw_below_drewN | apply below_drew1) | exact HB.out))) : w.heap.size ≤ gb163)); clear HB; have HB := n0_; have BK163 := n1_; have GW163 := n2_; have GE163 := n3_; clear n0_ n1_ n2_ n3_; clear hb hbox hg; have hcz25_0 : w24.cell? ⟨gb163, 0, none⟩ = some (.int .i64 a0_0) := (blk_cell BK163.out 0).trans rfl; have hcz25_1 : w24.cell? ⟨gb163, 1, none⟩ = some (.slice A0_1 l0_1.length c0_1) := (blk_cell BK163.out 1).trans rfl; have hcz25_2 : w24.cell? ⟨gb163, 2, none⟩ = some (.slice A0_2 l0_2.length c0_2) := (blk_cell BK163.out 2).trans rfl; have hfz25_0 := blk_frozen BK163.out 0; have hfz25_1 := blk_frozen BK163.out 1; have hfz25_2 := blk_frozen BK163.out 2) | ((with_reducible refine gate_callee (f := 30) rfl ?_); refine goesL_ (some 10) rfl rfl Tryd.func30 (by kernel_rfl) rfl #[.agg #[.int .i64 a0_0, .slice A0_1 l0_1.length c0_1, .slice A0_2 l0_2.length c0_2], .string a2] rfl (by (try simp only [List.map_toArray, List.map_cons, List.map_nil]); first | done | rfl | (simp only [List.length_drop, List.length_take]; rfl)) ?_; (with_reducible refine (mortmainref09_Find.calls k a0_0 _ _ l0_1 _ _ l0_2 a2 t164 _ ?side1 ?side2 ?side3 ?side4 A4.out).mono ?_); (case side1 => repeat (first | exact (Kd.C_below HR0_1.out HB.out) | (with_reducible refine Kd.C_alloc ?_ _) | (with_reducible refine Kd.C_drewN ?_ _) | (with_reducible refine Kd.C_drew ?_))); (case side2 => exact HC0_1.out); (case side3 => repeat (first | exact (Kd.C_below HR0_2.out HB.out) | (with_reducible refine Kd.C_alloc ?_ _) | (with_reducible refine Kd.C_drewN ?_ _) | (with_reducible refine Kd.C_drew ?_))); (case side4 => exact HC0_2.out); rintro e w26 ⟨rfl, hb⟩; refine ⟨_, rfl, ?_⟩; have n0_ := Aside0.mk (blk_below (g := gb163) (o := .cells #[.int .i64 a0_0, .slice A0_1 l0_1.length c0_1, .slice A0_2 l0_2.length c0_2] 25 (0, 0)) (by (with_reducible repeat (first | refine blk_drewN ?_ _ | refine blk_drew ?_ | refine blk_alloc ?_ _)); exact BK163.out) hb); have n1_ := Aside0.mk (below_step (by repeat (first | (with_reducible first | exact HB.out | apply below_alloc | apply pw_below_drewN | apply below_drew1 | refine below_set ?_ GE163.out) | exact HB.out)) hb); clear BK163; clear HB; have BK163 := n0_; have HB := n1_; clear n0_ n1_; (try clear hb); (try clear hb2); (try clear hk); (try clear hi)))
    go_ret
    exact ⟨by first | rfl | (simp [errW_none, errW_some] <;> rfl) | (simp [*, errW_none, errW_some] <;> rfl), by repeat (first | (with_reducible first | exact HB.out | apply below_alloc | apply pw_below_drewN | apply below_drew1 | refine below_set ?_ GE163.out) | exact HB.out)⟩

end Go.Proofs.YtefdfgmlmjnmlaaDoor.Rf
end

section
/- The references as plain functions: Name, Good, Find, Owns, Bits: with enough rounds they answer what the program's functions do. -/
namespace Go.Proofs.YtefdfgmlmjnmlaaDoor.My
open Go.RowKit Go.Proofs.YtefdfgmlmjnmlaaDoorW.PrintWords Go.Proofs.YtefdfgmlmjnmlaaDoor.Rf

theorem wrap_next {i n : Nat} (h : i < n) (hn : n ≤ 9223372036854775807) : wrap64 ((i : Int) + 1) = ((i + 1 : Nat) : Int) := by
  unfold wrap64; omega
theorem bt_nat (s : ByteArray) (i : Nat) (h : i < s.size) : bt s (i : Int) = ((s[i]'h).toNat : Int) := by
  simp [bt, h]

/-! Name -/
def okN (s : ByteArray) (i : Nat) : Bool := low (s.data.toList.getD i 0) || (i != 0 && nameByte (s.data.toList.getD i 0))
theorem data_at (s : ByteArray) (i : Nat) (h : i < s.size) : s.data.toList.getD i 0 = s[i]'h := by
  have h' : i < s.data.size := h
  show (s.data.toList[i]?).getD 0 = s.data[i]'h'
  rw [Array.getElem?_toList, Array.getElem?_eq_getElem h']
  rfl
theorem name_l0 (s : ByteArray) (hs : s.size ≤ 9223372036854775807) : ∀ d i k, i + d = s.size → d < k →
    mortmainref09_Name.l0 k s (i : Int) = some ((List.range' i d).all (okN s) && (decide (1 ≤ s.size) && decide (s.size ≤ 12))) := by
  intro d
  induction d with
  | zero =>
    intro i k hi hk
    obtain ⟨k, rfl⟩ : ∃ m, k = m + 1 := ⟨k - 1, by omega⟩
    simp only [mortmainref09_Name.l0]
    rw [if_neg (by omega)]
    by_cases h1 : 1 ≤ s.size
    · rw [if_pos (by omega), decide_eq_true h1]
      simp only [List.range'_zero, List.all_nil, Bool.true_and, Option.some.injEq]
      by_cases h2 : s.size ≤ 12
      · rw [decide_eq_true h2, decide_eq_true (by omega)]
      · rw [decide_eq_false h2, decide_eq_false (by omega)]
    · rw [if_neg (by omega), decide_eq_false h1]
      simp
  | succ d ih =>
    intro i k hi hk
    obtain ⟨k, rfl⟩ : ∃ m, k = m + 1 := ⟨k - 1, by omega⟩
    have hlt : i < s.size := by omega
    have hb := bt_nat s i hlt
    have hd := data_at s i hlt
    have ihn := ih (i + 1) k (by omega) (by omega)
    simp only [mortmainref09_Name.l0]
    rw [if_pos (by omega), if_pos (by omega), wrap_next hlt hs, hb, ihn, List.range'_succ, List.all_cons]
    have ho : okN s i = (low (s[i]'hlt) || (i != 0 && nameByte (s[i]'hlt))) := by rw [okN, hd]
    rw [ho]
    generalize s[i]'hlt = c
    generalize (List.range' (i + 1) d).all (okN s) = q
    generalize (decide (1 ≤ s.size) && decide (s.size ≤ 12)) = r
    cases hc : (low c || (i != 0 && nameByte c)) with
    | true =>
      simp only [Bool.true_and]
      simp [low, nameByte] at hc
      repeat' split
      all_goals first | rfl | (exfalso; omega)
    | false =>
      simp only [Bool.false_and]
      simp [low, nameByte] at hc
      repeat' split
      all_goals first | rfl | (exfalso; omega)

theorem all_range (s : ByteArray) (p : Nat → Bool) (q : UInt8 → Bool) (h : ∀ i, i < s.size → p i = q (s.data.toList.getD i 0)) : (List.range' 0 s.size).all p = s.data.toList.all q := by
  rw [Bool.eq_iff_iff, List.all_eq_true, List.all_eq_true]
  have hl : s.data.toList.length = s.size := Array.length_toList
  constructor
  · intro H x hx
    obtain ⟨i, hi, rfl⟩ := List.getElem_of_mem hx
    have h1 := H i (by rw [List.mem_range'_1]; omega)
    rw [h i (by omega)] at h1
    simpa [List.getD, List.getElem?_eq_getElem hi] using h1
  · intro H i hi
    rw [List.mem_range'_1] at hi
    rw [h i (by omega)]
    have hi' : i < s.data.toList.length := by omega
    simp only [List.getD, List.getElem?_eq_getElem hi', Option.getD_some]
    exact H _ (List.getElem_mem hi')
theorem low_name (c : UInt8) (h : low c = true) : nameByte c = true := by simp [nameByte, h]

theorem name_ev (s : ByteArray) (hs : s.size ≤ 9223372036854775807) : Ev (fun k => mortmainref09_Name.f k s) (isName s) := by
  refine Ev.of (k := s.size + 1) (fun k => mortmainref09_Name.mono _ _) ?_
  have h := name_l0 s hs s.size 0 (s.size + 1) (by omega) (by omega)
  show mortmainref09_Name.l0 (s.size + 1) s 0 = _
  refine h.trans ?_
  congr 1
  unfold isName
  by_cases h0 : 0 < s.size
  · rw [decide_eq_true (show 1 ≤ s.size by omega), decide_eq_true h0]
    cases hl : low (s.data.toList.getD 0 0) with
    | true =>
      rw [all_range s (okN s) nameByte (fun i hi => by
        unfold okN nameByte
        by_cases e : i = 0
        · subst e; rw [hl]; rfl
        · have e' : (i != 0) = true := by simp [e]
          rw [e', Bool.true_and]
          cases low (s.data.toList.getD i 0) <;> rfl)]
      simp [Bool.and_comm]
    | false =>
      have : (List.range' 0 s.size).all (okN s) = false := by
        rw [Bool.eq_false_iff]; intro ha
        rw [List.all_eq_true] at ha
        have := ha 0 (by rw [List.mem_range'_1]; omega)
        simp [okN] at this
        rw [List.getD_eq_getElem?_getD] at hl
        simp [this] at hl
      rw [this]; simp
  · rw [decide_eq_false (show ¬ 1 ≤ s.size by omega), decide_eq_false h0]; simp

/-! Good -/
theorem good_ev (g : S27) (hs : g.f1.size ≤ 9223372036854775807) : Ev (fun k => mortmainref10_Good.f k g.f0 g.f1 g.f2) (goodG g) := by
  have hn := name_ev g.f1 hs
  obtain ⟨K, hK⟩ := hn
  refine ⟨K, fun k hk => ?_⟩
  show mortmainref10_Good.f k g.f0 g.f1 g.f2 = _
  simp only [mortmainref10_Good.f]
  rw [show mortmainref09_Name.f k g.f1 = _ from hK k hk]
  simp only [Option.bind_some, goodG]
  cases isName g.f1 <;> (repeat' split) <;> simp_all <;> omega

/-! Find, Owns -/
theorem rd45_nat (l : List S45) (i : Nat) : rd_T45 l (i : Int) = l.getD i z45 := rfl
theorem rd27_nat (l : List S27) (i : Nat) : rd_T27 l (i : Int) = l.getD i z27 := rfl
theorem find_l0 (l : List S45) (nm : ByteArray) (hl : l.length ≤ 9223372036854775807) : ∀ d i k, i + d = l.length → d < k → (∀ j, j < i → isT nm (l.getD j z45) = false) →
    mortmainref09_Find.l0 k nm l (l.length : Int) (i : Int) = some (findT l nm) := by
  intro d
  induction d with
  | zero =>
    intro i k hi hk ha
    obtain ⟨k, rfl⟩ : ∃ m, k = m + 1 := ⟨k - 1, by omega⟩
    simp only [mortmainref09_Find.l0]
    rw [if_neg (by omega)]
    congr 1
    exact (idx_none _ l z45 (fun j hj => ha j (by omega))).symm
  | succ d ih =>
    intro i k hi hk ha
    obtain ⟨k, rfl⟩ : ∃ m, k = m + 1 := ⟨k - 1, by omega⟩
    have hlt : i < l.length := by omega
    simp only [mortmainref09_Find.l0]
    rw [if_pos (by omega), if_pos (by omega), if_pos (by omega), wrap_next hlt hl, rd45_nat]
    by_cases e : (l.getD i z45).f0.toList = nm.toList
    · rw [if_pos e]
      congr 1
      exact (idx_hit _ l z45 i hlt ha (by simp only [isT]; rw [e]; simp)).symm
    · rw [if_neg e]
      refine ih (i + 1) k (by omega) (by omega) (fun j hj => ?_)
      rcases Nat.lt_or_ge j i with h | h
      · exact ha j h
      · obtain rfl : j = i := by omega
        simp only [isT]; exact beq_eq_false_iff_ne.2 e
theorem find_ev (v : Int) (l : List S45) (gs : List S27) (nm : ByteArray) (hl : l.length ≤ 9223372036854775807) : Ev (fun k => mortmainref09_Find.f k v l gs nm) (findT l nm) :=
  Ev.of (k := l.length + 1) (fun k => mortmainref09_Find.mono _ _ _ _ _) (find_l0 l nm hl l.length 0 (l.length + 1) (by omega) (by omega) (fun j hj => absurd hj (by omega)))
theorem owns_ev (v : Int) (l : List S45) (gs : List S27) (role : Int) (nm : ByteArray) (hl : l.length ≤ 9223372036854775807) : Ev (fun k => mortmainref10_Owns.f k v l gs role nm) (ownsB l role nm) := by
  obtain ⟨K, hK⟩ := find_ev v l gs nm hl
  refine ⟨K, fun k hk => ?_⟩
  have hr := idx_range (isT nm) l
  simp only [mortmainref10_Owns.f]
  rw [show mortmainref09_Find.f k v l gs nm = _ from hK k hk]
  simp only [Option.bind_some, ownsB, roleB]
  have hT : 0 ≤ findT l nm → theT l nm = rd_T45 l (findT l nm) := fun h => by unfold theT rd_T45; rw [if_neg (by omega)]
  by_cases h0 : 0 ≤ findT l nm
  · rw [if_pos h0, hT h0, decide_eq_true h0]
    by_cases h1 : 0 ≤ role
    · rw [if_pos h1, decide_eq_true h1]
      by_cases h2 : role < 8
      · rw [if_pos (by omega), decide_eq_true h2]
        by_cases h3 : role = 0
        · rw [if_pos h3, h3]; rfl
        · rw [if_neg h3, if_pos h0, if_pos (by unfold findT; exact hr.2)]
          have : (role == 0) = false := beq_eq_false_iff_ne.2 h3
          rw [this]; rfl
      · rw [if_neg (by omega), decide_eq_false h2]; rfl
    · rw [if_neg h1, decide_eq_false h1]; rfl
  · rw [if_neg h0, decide_eq_false h0]; rfl
end Go.Proofs.YtefdfgmlmjnmlaaDoor.My
end

section
set_option linter.unusedSimpArgs false
set_option linter.unusedVariables false
/- grant.Sorted: are grants rising, each one good, and not too many? -/
namespace Go.Proofs.YtefdfgmlmjnmlaaDoor.My
open Go.RowKit Go.Proofs.YtefdfgmlmjnmlaaDoorW.PrintWords Go.Proofs.YtefdfgmlmjnmlaaDoorW.PrintLast Go.Proofs.YtefdfgmlmjnmlaaDoorW.PrintMore Go.Proofs.YtefdfgmlmjnmlaaDoor.Rf

theorem Tabs.drew {w : World} (h : Tabs w) : Tabs w.drew := h.below (below_drew1 (Below.refl _ _))
theorem Tabs.drewN {w : World} (h : Tabs w) (n : Nat) : Tabs (w.drewN n) := h.below (pw_below_drewN (Below.refl _ _) n)
theorem dec_cast (n : Nat) : decide ((n : Int) ≤ 64) = decide (n ≤ 64) := by
  by_cases h : n ≤ 64
  · rw [decide_eq_true h, decide_eq_true (by omega)]
  · rw [decide_eq_false h, decide_eq_false (by omega)]
def okAt (l : List S27) (i : Nat) : Bool := goodG (l.getD i z27) && (i == 0 || decide (ord (l.getD (i - 1) z27) (l.getD i z27) < 0))
def sortedB (l : List S27) : Bool := (List.range l.length).all (okAt l) && decide (l.length ≤ 64)
theorem sortedB_no {l : List S27} {k : Nat} (hk : k < l.length) (h : okAt l k = false) : sortedB l = false := by
  unfold sortedB
  have : (List.range l.length).all (okAt l) = false := by
    rw [Bool.eq_false_iff]; intro ha
    rw [List.all_eq_true] at ha
    have := ha k (List.mem_range.2 hk)
    rw [h] at this; exact absurd this (by decide)
  rw [this]; rfl
theorem sortedB_yes {l : List S27} (h : ∀ i, i < l.length → okAt l i = true) : sortedB l = decide (l.length ≤ 64) := by
  unfold sortedB
  have : (List.range l.length).all (okAt l) = true := List.all_eq_true.2 fun i hi => h i (List.mem_range.1 hi)
  rw [this]; rfl
theorem ok_next {l : List S27} {k : Nat} (h : ∀ i, i < k → okAt l i = true) (hk : okAt l k = true) : ∀ i, i < k + 1 → okAt l i = true := fun i hi => by
  rcases Nat.lt_or_ge i k with h1 | h1
  · exact h i h1
  · obtain rfl : i = k := by omega
    exact hk
theorem okS_at {l : List S27} (h : okS l) {k : Nat} (hk : k < l.length) : (l.getD k z27).f1.size ≤ 9223372036854775807 := by
  have : l.getD k z27 = l[k]'hk := by simp [List.getD, List.getElem?_eq_getElem hk]
  rw [this]
  exact h _ (List.getElem_mem hk)

set_option maxHeartbeats 1000000 in
set_option maxRecDepth 100000 in
theorem sorted_calls (l : List S27) (A : Option Addr) (c : Nat) (w : World) (hr : Kd.C k27 w A l.length l) (hs : okS l) (hT : Tabs w) :
    Calls Tryd.prog 15 #[.slice A l.length c] w (BoolPost (sortedB l) w) := by
  have HR := Aside0.mk hr
  have HS := Aside0.mk hs
  have hn : l.length ≤ 9223372036854775807 := hr.2.1
  clear hr hs
  go_enter Tryd.func15, Tryd.ntmps15
  go_wp2
  go_loopw [3, 4, 7] (fun _ _ t7 wr => ∃ k : Nat, t7 = .int .i64 k ∧ k ≤ l.length ∧ Aside0 (∀ i, i < k → okAt l i = true) ∧ Aside0 (Below w.heap.size w wr)) (fun _ _ t7 _ => l.length - (intOf t7).toNat)
  case atStart => exact ⟨0, rfl, Nat.zero_le _, ⟨fun j hj => absurd hj (by omega)⟩, ⟨Below.refl _ _⟩⟩
  case round =>
    obtain ⟨k, rfl, hk, HA, HB⟩ := hrel
    by_cases hlt : k < l.length
    · obtain ⟨ad, e, hc0, hc1, hc2⟩ := at_T27 HR.out (k : Int) (by omega) (by omega)
      subst e
      simp only [Int.toNat_natCast, rd_T27] at hc0 hc1 hc2
      have hsz := okS_at HS.out hlt
      generalize hx : l.getD k z27 = x at hc0 hc1 hc2 hsz
      have HXX := Aside0.mk hx
      have d0 := (HB.out.cell (World.block_lt_of_cell? w _ hc0)).trans hc0
      have d1 := (HB.out.cell (World.block_lt_of_cell? w _ hc1)).trans hc1
      have d2 := (HB.out.cell (World.block_lt_of_cell? w _ hc2)).trans hc2
      clear hc0 hc1 hc2 hx
      have hi0 : (0 : Int) ≤ (k : Int) := by omega
      have hi1 : (k : Int) < (l.length : Int) := by omega
      go_wp2_with fail
      have hb1 := below1 wr (.cells #[.int .i64 x.f0, .string x.f1, .int .i64 x.f2] 27)
      have hk1 := blk_new wr (.cells #[.int .i64 x.f0, .string x.f1, .int .i64 x.f2] 27)
      generalize wr.alloc (.cells #[.int .i64 x.f0, .string x.f1, .int .i64 x.f2] 27) = w1 at hb1 hk1 ⊢
      have HB1 := Aside0.mk (below_step HB.out hb1)
      have HT1 := hT.below HB1.out
      have b0 : w1.cell? ⟨wr.heap.size, 0, none⟩ = some (.int .i64 x.f0) := blk_cell hk1 0
      have b1 : w1.cell? ⟨wr.heap.size, 1, none⟩ = some (.string x.f1) := blk_cell hk1 1
      have b2 : w1.cell? ⟨wr.heap.size, 2, none⟩ = some (.int .i64 x.f2) := blk_cell hk1 2
      clear d0 d1 d2
      cases hg : goodG x with
      | false =>
        have hres : sortedB l = false := sortedB_no hlt (by simp only [okAt, HXX.out, hg]; rfl)
        have HRES := Aside0.mk hres
        clear hres hk1 hb1
        refine start_ (n := 17) (S := (fun w' => w'.cell? ⟨wr.heap.size, 0, none⟩ = some (.int .i64 x.f0) ∧ w'.cell? ⟨wr.heap.size, 1, none⟩ = some (.string x.f1) ∧ w'.cell? ⟨wr.heap.size, 2, none⟩ = some (.int .i64 x.f2))) (ds := []) #[false, false, false, false, false, false, false, false, false, false, false, false, false, false, false, false, false] (by kernel_rfl) rfl rfl ⟨b0, b1, b2⟩ (fun hHeld => ?_)
        refine take_ (i := 0) (N := some 12) (v := ?_) (a' := ?_) #[true, false, false, false, false, false, false, false, false, false, false, false, false, false, false, false, false] rfl rfl (by kernel_rfl) (fun _ _ _ h => h) (Or.inl ⟨by rfl, ?_⟩) hHeld ?_ ?_
        rotate_left
        · rintro w' ⟨s0, s1, s2⟩
          go_simp
          with_reducible rfl
        rotate_left
        · simp only [Act.put, List.setIfInBounds_toArray, List.set_cons_zero, List.set_cons_succ, i64_w, i32_w]
          rfl
        refine one_ (i := 1) (N := some 13) #[true, true, false, false, false, false, false, false, false, false, false, false, false, false, false, false, false] rfl rfl (by kernel_rfl) (by decide) (fun K hK => ?_)
        refine goes_ Tryd.func16 (by kernel_rfl) rfl #[.agg #[.int .i64 x.f0, .string x.f1, .int .i64 x.f2]] (by rfl) rfl rfl (by first | rfl | (simp only [List.map_toArray, List.map_cons, List.map_nil]; rfl)) ?_
        refine (good_calls x _ hsz HT1.drew).mono ?_
        rintro e w2 ⟨rfl, hb2⟩
        rw [hg]
        have hb2 := undrew hb2
        refine ⟨_, rfl, ?_⟩
        refine hK.out _ _ ⟨cell_now hb2 b0, cell_now hb2 b1, cell_now hb2 b2⟩ (fun hHeld => ?_)
        clear hK K
        refine norm_ (a' := ?_) ?_ ?_
        rotate_left
        · show Act.put _ (some 13) _ = _
          simp only [Act.put, List.setIfInBounds_toArray, List.set_cons_zero, List.set_cons_succ, i64_w, i32_w]
          rfl
        refine pure_ (i := 2) (N := some 14) (v := ?_) (a' := ?_) #[true, true, true, false, false, false, false, false, false, false, false, false, false, false, false, false, false] rfl rfl (by kernel_rfl) (fun _ _ _ h => h) (Or.inl ⟨by rfl, ?_⟩) ?_ ?_
        rotate_left
        · intro w'
          go_simp
          with_reducible rfl
        rotate_left
        · simp only [Act.put, List.setIfInBounds_toArray, List.set_cons_zero, List.set_cons_succ, i64_w, i32_w]
          rfl
        refine pure_ (i := 3) (N := some 15) (v := ?_) (a' := ?_) #[true, true, true, true, false, false, false, false, false, false, false, false, false, false, false, false, false] rfl rfl (by kernel_rfl) (fun _ _ _ h => h) (Or.inl ⟨by rfl, ?_⟩) ?_ ?_
        rotate_left
        · intro w'
          go_simp
          with_reducible rfl
        rotate_left
        · simp only [Act.put, List.setIfInBounds_toArray, List.set_cons_zero, List.set_cons_succ, i64_w, i32_w]
          rfl
        refine pure_ (i := 4) (N := some 16) (v := undef) (a' := ?_) #[true, true, true, true, true, false, false, false, false, false, false, false, false, false, false, false, false] rfl rfl (by kernel_rfl) (fun _ _ _ h => h) (Or.inr ⟨by rfl, rfl⟩) ?_ ?_
        rotate_left
        · simp only [Act.put, List.setIfInBounds_toArray, List.set_cons_zero, List.set_cons_succ, i64_w, i32_w]
          rfl
        refine pure_ (i := 5) (N := some 17) (v := undef) (a' := ?_) #[true, true, true, true, true, true, false, false, false, false, false, false, false, false, false, false, false] rfl rfl (by kernel_rfl) (fun _ _ _ h => h) (Or.inr ⟨by rfl, rfl⟩) ?_ ?_
        rotate_left
        · simp only [Act.put, List.setIfInBounds_toArray, List.set_cons_zero, List.set_cons_succ, i64_w, i32_w]
          rfl
        refine pure_ (i := 6) (N := some 18) (v := undef) (a' := ?_) #[true, true, true, true, true, true, true, false, false, false, false, false, false, false, false, false, false] rfl rfl (by kernel_rfl) (fun _ _ _ h => h) (Or.inr ⟨by rfl, rfl⟩) ?_ ?_
        rotate_left
        · simp only [Act.put, List.setIfInBounds_toArray, List.set_cons_zero, List.set_cons_succ, i64_w, i32_w]
          rfl
        refine pure_ (i := 7) (N := some 19) (v := undef) (a' := ?_) #[true, true, true, true, true, true, true, true, false, false, false, false, false, false, false, false, false] rfl rfl (by kernel_rfl) (fun _ _ _ h => h) (Or.inr ⟨by rfl, rfl⟩) ?_ ?_
        rotate_left
        · simp only [Act.put, List.setIfInBounds_toArray, List.set_cons_zero, List.set_cons_succ, i64_w, i32_w]
          rfl
        refine pure_ (i := 8) (N := some 20) (v := undef) (a' := ?_) #[true, true, true, true, true, true, true, true, true, false, false, false, false, false, false, false, false] rfl rfl (by kernel_rfl) (fun _ _ _ h => h) (Or.inr ⟨by rfl, rfl⟩) ?_ ?_
        rotate_left
        · simp only [Act.put, List.setIfInBounds_toArray, List.set_cons_zero, List.set_cons_succ, i64_w, i32_w]
          rfl
        refine pure_ (i := 9) (N := some 21) (v := undef) (a' := ?_) #[true, true, true, true, true, true, true, true, true, true, false, false, false, false, false, false, false] rfl rfl (by kernel_rfl) (fun _ _ _ h => h) (Or.inr ⟨by rfl, rfl⟩) ?_ ?_
        rotate_left
        · simp only [Act.put, List.setIfInBounds_toArray, List.set_cons_zero, List.set_cons_succ, i64_w, i32_w]
          rfl
        refine pure_ (i := 10) (N := some 22) (v := undef) (a' := ?_) #[true, true, true, true, true, true, true, true, true, true, true, false, false, false, false, false, false] rfl rfl (by kernel_rfl) (fun _ _ _ h => h) (Or.inr ⟨by rfl, rfl⟩) ?_ ?_
        rotate_left
        · simp only [Act.put, List.setIfInBounds_toArray, List.set_cons_zero, List.set_cons_succ, i64_w, i32_w]
          rfl
        refine pure_ (i := 11) (N := some 23) (v := undef) (a' := ?_) #[true, true, true, true, true, true, true, true, true, true, true, true, false, false, false, false, false] rfl rfl (by kernel_rfl) (fun _ _ _ h => h) (Or.inr ⟨by rfl, rfl⟩) ?_ ?_
        rotate_left
        · simp only [Act.put, List.setIfInBounds_toArray, List.set_cons_zero, List.set_cons_succ, i64_w, i32_w]
          rfl
        refine pure_ (i := 12) (N := some 24) (v := undef) (a' := ?_) #[true, true, true, true, true, true, true, true, true, true, true, true, true, false, false, false, false] rfl rfl (by kernel_rfl) (fun _ _ _ h => h) (Or.inr ⟨by rfl, rfl⟩) ?_ ?_
        rotate_left
        · simp only [Act.put, List.setIfInBounds_toArray, List.set_cons_zero, List.set_cons_succ, i64_w, i32_w]
          rfl
        refine pure_ (i := 13) (N := some 25) (v := undef) (a' := ?_) #[true, true, true, true, true, true, true, true, true, true, true, true, true, true, false, false, false] rfl rfl (by kernel_rfl) (fun _ _ _ h => h) (Or.inr ⟨by rfl, rfl⟩) ?_ ?_
        rotate_left
        · simp only [Act.put, List.setIfInBounds_toArray, List.set_cons_zero, List.set_cons_succ, i64_w, i32_w]
          rfl
        refine pure_ (i := 14) (N := some 26) (v := undef) (a' := ?_) #[true, true, true, true, true, true, true, true, true, true, true, true, true, true, true, false, false] rfl rfl (by kernel_rfl) (fun _ _ _ h => h) (Or.inr ⟨by rfl, rfl⟩) ?_ ?_
        rotate_left
        · simp only [Act.put, List.setIfInBounds_toArray, List.set_cons_zero, List.set_cons_succ, i64_w, i32_w]
          rfl
        refine pure_ (i := 15) (N := some 27) (v := undef) (a' := ?_) #[true, true, true, true, true, true, true, true, true, true, true, true, true, true, true, true, false] rfl rfl (by kernel_rfl) (fun _ _ _ h => h) (Or.inr ⟨by rfl, rfl⟩) ?_ ?_
        rotate_left
        · simp only [Act.put, List.setIfInBounds_toArray, List.set_cons_zero, List.set_cons_succ, i64_w, i32_w]
          rfl
        refine pure_ (i := 16) (N := some 28) (v := ?_) (a' := ?_) #[true, true, true, true, true, true, true, true, true, true, true, true, true, true, true, true, true] rfl rfl (by kernel_rfl) (fun _ _ _ h => h) (Or.inl ⟨by rfl, ?_⟩) ?_ ?_
        rotate_left
        · intro w'
          go_simp
          with_reducible rfl
        rotate_left
        · simp only [Act.put, List.setIfInBounds_toArray, List.set_cons_zero, List.set_cons_succ, i64_w, i32_w]
          rfl
        refine done_ (by kernel_rfl) ?_
        go_wp2
        go_ret
        exact ⟨by show Ending.returned (.bool false) = _; rw [HRES.out], below_step HB1.out hb2⟩
      | true =>
        by_cases h0 : k = 0
        · subst h0
          have hall := ok_next HA.out (k := 0) (by simp only [okAt, HXX.out, hg]; rfl)
          have HALL := Aside0.mk hall
          clear hall hk1 hb1
          refine start_ (n := 17) (S := (fun w' => w'.cell? ⟨wr.heap.size, 0, none⟩ = some (.int .i64 x.f0) ∧ w'.cell? ⟨wr.heap.size, 1, none⟩ = some (.string x.f1) ∧ w'.cell? ⟨wr.heap.size, 2, none⟩ = some (.int .i64 x.f2))) (ds := []) #[false, false, false, false, false, false, false, false, false, false, false, false, false, false, false, false, false] (by kernel_rfl) rfl rfl ⟨b0, b1, b2⟩ (fun hHeld => ?_)
          refine take_ (i := 0) (N := some 12) (v := ?_) (a' := ?_) #[true, false, false, false, false, false, false, false, false, false, false, false, false, false, false, false, false] rfl rfl (by kernel_rfl) (fun _ _ _ h => h) (Or.inl ⟨by rfl, ?_⟩) hHeld ?_ ?_
          rotate_left
          · rintro w' ⟨s0, s1, s2⟩
            go_simp
            with_reducible rfl
          rotate_left
          · simp only [Act.put, List.setIfInBounds_toArray, List.set_cons_zero, List.set_cons_succ, i64_w, i32_w]
            rfl
          refine one_ (i := 1) (N := some 13) #[true, true, false, false, false, false, false, false, false, false, false, false, false, false, false, false, false] rfl rfl (by kernel_rfl) (by decide) (fun K hK => ?_)
          refine goes_ Tryd.func16 (by kernel_rfl) rfl #[.agg #[.int .i64 x.f0, .string x.f1, .int .i64 x.f2]] (by rfl) rfl rfl (by first | rfl | (simp only [List.map_toArray, List.map_cons, List.map_nil]; rfl)) ?_
          refine (good_calls x _ hsz HT1.drew).mono ?_
          rintro e w2 ⟨rfl, hb2⟩
          rw [hg]
          have hb2 := undrew hb2
          refine ⟨_, rfl, ?_⟩
          refine hK.out _ _ ⟨cell_now hb2 b0, cell_now hb2 b1, cell_now hb2 b2⟩ (fun hHeld => ?_)
          clear hK K
          refine norm_ (a' := ?_) ?_ ?_
          rotate_left
          · show Act.put _ (some 13) _ = _
            simp only [Act.put, List.setIfInBounds_toArray, List.set_cons_zero, List.set_cons_succ, i64_w, i32_w]
            rfl
          refine pure_ (i := 2) (N := some 14) (v := ?_) (a' := ?_) #[true, true, true, false, false, false, false, false, false, false, false, false, false, false, false, false, false] rfl rfl (by kernel_rfl) (fun _ _ _ h => h) (Or.inl ⟨by rfl, ?_⟩) ?_ ?_
          rotate_left
          · intro w'
            go_simp
            with_reducible rfl
          rotate_left
          · simp only [Act.put, List.setIfInBounds_toArray, List.set_cons_zero, List.set_cons_succ, i64_w, i32_w]
            rfl
          refine pure_ (i := 3) (N := some 15) (v := ?_) (a' := ?_) #[true, true, true, true, false, false, false, false, false, false, false, false, false, false, false, false, false] rfl rfl (by kernel_rfl) (fun _ _ _ h => h) (Or.inl ⟨by rfl, ?_⟩) ?_ ?_
          rotate_left
          · intro w'
            go_simp
            with_reducible rfl
          rotate_left
          · simp only [Act.put, List.setIfInBounds_toArray, List.set_cons_zero, List.set_cons_succ, i64_w, i32_w]
            rfl
          refine pure_ (i := 4) (N := some 16) (v := ?_) (a' := ?_) #[true, true, true, true, true, false, false, false, false, false, false, false, false, false, false, false, false] rfl rfl (by kernel_rfl) (fun _ _ _ h => h) (Or.inl ⟨by rfl, ?_⟩) ?_ ?_
          rotate_left
          · intro w'
            go_simp
            with_reducible rfl
          rotate_left
          · simp only [Act.put, List.setIfInBounds_toArray, List.set_cons_zero, List.set_cons_succ, i64_w, i32_w]
            rfl
          refine pure_ (i := 5) (N := some 17) (v := ?_) (a' := ?_) #[true, true, true, true, true, true, false, false, false, false, false, false, false, false, false, false, false] rfl rfl (by kernel_rfl) (fun _ _ _ h => h) (Or.inl ⟨by rfl, ?_⟩) ?_ ?_
          rotate_left
          · intro w'
            go_simp
            with_reducible rfl
          rotate_left
          · simp only [Act.put, List.setIfInBounds_toArray, List.set_cons_zero, List.set_cons_succ, i64_w, i32_w]
            rfl
          refine pure_ (i := 6) (N := some 18) (v := ?_) (a' := ?_) #[true, true, true, true, true, true, true, false, false, false, false, false, false, false, false, false, false] rfl rfl (by kernel_rfl) (fun _ _ _ h => h) (Or.inl ⟨by rfl, ?_⟩) ?_ ?_
          rotate_left
          · intro w'
            go_simp
            with_reducible rfl
          rotate_left
          · simp only [Act.put, List.setIfInBounds_toArray, List.set_cons_zero, List.set_cons_succ, i64_w, i32_w]
            rfl
          refine pure_ (i := 7) (N := some 19) (v := undef) (a' := ?_) #[true, true, true, true, true, true, true, true, false, false, false, false, false, false, false, false, false] rfl rfl (by kernel_rfl) (fun _ _ _ h => h) (Or.inr ⟨by rfl, rfl⟩) ?_ ?_
          rotate_left
          · simp only [Act.put, List.setIfInBounds_toArray, List.set_cons_zero, List.set_cons_succ, i64_w, i32_w]
            rfl
          refine pure_ (i := 8) (N := some 20) (v := undef) (a' := ?_) #[true, true, true, true, true, true, true, true, true, false, false, false, false, false, false, false, false] rfl rfl (by kernel_rfl) (fun _ _ _ h => h) (Or.inr ⟨by rfl, rfl⟩) ?_ ?_
          rotate_left
          · simp only [Act.put, List.setIfInBounds_toArray, List.set_cons_zero, List.set_cons_succ, i64_w, i32_w]
            rfl
          refine pure_ (i := 9) (N := some 21) (v := undef) (a' := ?_) #[true, true, true, true, true, true, true, true, true, true, false, false, false, false, false, false, false] rfl rfl (by kernel_rfl) (fun _ _ _ h => h) (Or.inr ⟨by rfl, rfl⟩) ?_ ?_
          rotate_left
          · simp only [Act.put, List.setIfInBounds_toArray, List.set_cons_zero, List.set_cons_succ, i64_w, i32_w]
            rfl
          refine pure_ (i := 10) (N := some 22) (v := undef) (a' := ?_) #[true, true, true, true, true, true, true, true, true, true, true, false, false, false, false, false, false] rfl rfl (by kernel_rfl) (fun _ _ _ h => h) (Or.inr ⟨by rfl, rfl⟩) ?_ ?_
          rotate_left
          · simp only [Act.put, List.setIfInBounds_toArray, List.set_cons_zero, List.set_cons_succ, i64_w, i32_w]
            rfl
          refine pure_ (i := 11) (N := some 23) (v := undef) (a' := ?_) #[true, true, true, true, true, true, true, true, true, true, true, true, false, false, false, false, false] rfl rfl (by kernel_rfl) (fun _ _ _ h => h) (Or.inr ⟨by rfl, rfl⟩) ?_ ?_
          rotate_left
          · simp only [Act.put, List.setIfInBounds_toArray, List.set_cons_zero, List.set_cons_succ, i64_w, i32_w]
            rfl
          refine pure_ (i := 12) (N := some 24) (v := undef) (a' := ?_) #[true, true, true, true, true, true, true, true, true, true, true, true, true, false, false, false, false] rfl rfl (by kernel_rfl) (fun _ _ _ h => h) (Or.inr ⟨by rfl, rfl⟩) ?_ ?_
          rotate_left
          · simp only [Act.put, List.setIfInBounds_toArray, List.set_cons_zero, List.set_cons_succ, i64_w, i32_w]
            rfl
          refine pure_ (i := 13) (N := some 25) (v := undef) (a' := ?_) #[true, true, true, true, true, true, true, true, true, true, true, true, true, true, false, false, false] rfl rfl (by kernel_rfl) (fun _ _ _ h => h) (Or.inr ⟨by rfl, rfl⟩) ?_ ?_
          rotate_left
          · simp only [Act.put, List.setIfInBounds_toArray, List.set_cons_zero, List.set_cons_succ, i64_w, i32_w]
            rfl
          refine pure_ (i := 14) (N := some 26) (v := undef) (a' := ?_) #[true, true, true, true, true, true, true, true, true, true, true, true, true, true, true, false, false] rfl rfl (by kernel_rfl) (fun _ _ _ h => h) (Or.inr ⟨by rfl, rfl⟩) ?_ ?_
          rotate_left
          · simp only [Act.put, List.setIfInBounds_toArray, List.set_cons_zero, List.set_cons_succ, i64_w, i32_w]
            rfl
          refine pure_ (i := 15) (N := some 27) (v := ?_) (a' := ?_) #[true, true, true, true, true, true, true, true, true, true, true, true, true, true, true, true, false] rfl rfl (by kernel_rfl) (fun _ _ _ h => h) (Or.inl ⟨by rfl, ?_⟩) ?_ ?_
          rotate_left
          · intro w'
            go_simp
            with_reducible rfl
          rotate_left
          · simp only [Act.put, List.setIfInBounds_toArray, List.set_cons_zero, List.set_cons_succ, i64_w, i32_w]
            rfl
          refine pure_ (i := 16) (N := some 28) (v := ?_) (a' := ?_) #[true, true, true, true, true, true, true, true, true, true, true, true, true, true, true, true, true] rfl rfl (by kernel_rfl) (fun _ _ _ h => h) (Or.inl ⟨by rfl, ?_⟩) ?_ ?_
          rotate_left
          · intro w'
            go_simp
            with_reducible rfl
          rotate_left
          · simp only [Act.put, List.setIfInBounds_toArray, List.set_cons_zero, List.set_cons_succ, i64_w, i32_w]
            rfl
          refine done_ (by kernel_rfl) ?_
          go_wp2
          go_roundw
          case rel => exact ⟨1, by go_num, by omega, HALL, ⟨below_step HB1.out hb2⟩⟩
          case measure => simp [intOf]; omega
        · obtain ⟨m, rfl⟩ : ∃ m, k = m + 1 := ⟨k - 1, by omega⟩
          obtain ⟨_, e', hc0, hc1, hc2⟩ := at_T27 HR.out (m : Int) (by omega) (by omega)
          cases e'
          simp only [Int.toNat_natCast, rd_T27] at hc0 hc1 hc2
          generalize hy : l.getD m z27 = y at hc0 hc1 hc2
          have HYY := Aside0.mk hy
          have e0 := cell_now HB1.out hc0
          have e1 := cell_now HB1.out hc1
          have e2 := cell_now HB1.out hc2
          have hs2 : (0 : Int) ≤ (m : Int) := by omega
          have hs3 : (m : Int) < (l.length : Int) := by omega
          have hs4 : m < l.length := by omega
          have hwm : wrap64 (m : Int) = (m : Int) := by unfold wrap64; omega
          clear hc0 hc1 hc2 hy h0
          by_cases ho : ord y x < 0
          · have hall := ok_next HA.out (k := m + 1) (by simp only [okAt, HXX.out, hg]; simp only [Nat.add_sub_cancel, HYY.out, decide_eq_true ho]; simp)
            have HALL := Aside0.mk hall
            have ho' : decide (0 ≤ ord y x) = false := decide_eq_false (by omega)
            clear hall hk1 hb1
            refine start_ (n := 17) (S := (fun w' => w'.cell? ⟨wr.heap.size, 0, none⟩ = some (.int .i64 x.f0) ∧ w'.cell? ⟨wr.heap.size, 1, none⟩ = some (.string x.f1) ∧ w'.cell? ⟨wr.heap.size, 2, none⟩ = some (.int .i64 x.f2) ∧ w'.cell? (ad.add (m * 3)) = some (.int .i64 y.f0) ∧ w'.cell? ⟨(ad.add (m * 3)).block, (ad.add (m * 3)).off + 1, none⟩ = some (.string y.f1) ∧ w'.cell? ⟨(ad.add (m * 3)).block, (ad.add (m * 3)).off + 2, none⟩ = some (.int .i64 y.f2))) (ds := []) #[false, false, false, false, false, false, false, false, false, false, false, false, false, false, false, false, false] (by kernel_rfl) rfl rfl ⟨b0, b1, b2, e0, e1, e2⟩ (fun hHeld => ?_)
            refine take_ (i := 0) (N := some 12) (v := ?_) (a' := ?_) #[true, false, false, false, false, false, false, false, false, false, false, false, false, false, false, false, false] rfl rfl (by kernel_rfl) (fun _ _ _ h => h) (Or.inl ⟨by rfl, ?_⟩) hHeld ?_ ?_
            rotate_left
            · rintro w' ⟨s0, s1, s2, s3, s4, s5⟩
              go_simp
              with_reducible rfl
            rotate_left
            · simp only [Act.put, List.setIfInBounds_toArray, List.set_cons_zero, List.set_cons_succ, i64_w, i32_w]
              rfl
            refine one_ (i := 1) (N := some 13) #[true, true, false, false, false, false, false, false, false, false, false, false, false, false, false, false, false] rfl rfl (by kernel_rfl) (by decide) (fun K hK => ?_)
            refine goes_ Tryd.func16 (by kernel_rfl) rfl #[.agg #[.int .i64 x.f0, .string x.f1, .int .i64 x.f2]] (by rfl) rfl rfl (by first | rfl | (simp only [List.map_toArray, List.map_cons, List.map_nil]; rfl)) ?_
            refine (good_calls x _ hsz HT1.drew).mono ?_
            rintro e w2 ⟨rfl, hb2⟩
            rw [hg]
            have hb2 := undrew hb2
            refine ⟨_, rfl, ?_⟩
            refine hK.out _ _ ⟨cell_now hb2 b0, cell_now hb2 b1, cell_now hb2 b2, cell_now hb2 e0, cell_now hb2 e1, cell_now hb2 e2⟩ (fun hHeld => ?_)
            clear hK K
            refine norm_ (a' := ?_) ?_ ?_
            rotate_left
            · show Act.put _ (some 13) _ = _
              simp only [Act.put, List.setIfInBounds_toArray, List.set_cons_zero, List.set_cons_succ, i64_w, i32_w]
              rfl
            refine pure_ (i := 2) (N := some 14) (v := ?_) (a' := ?_) #[true, true, true, false, false, false, false, false, false, false, false, false, false, false, false, false, false] rfl rfl (by kernel_rfl) (fun _ _ _ h => h) (Or.inl ⟨by rfl, ?_⟩) ?_ ?_
            rotate_left
            · intro w'
              go_simp
              with_reducible rfl
            rotate_left
            · simp only [Act.put, List.setIfInBounds_toArray, List.set_cons_zero, List.set_cons_succ, i64_w, i32_w]
              rfl
            refine pure_ (i := 3) (N := some 15) (v := ?_) (a' := ?_) #[true, true, true, true, false, false, false, false, false, false, false, false, false, false, false, false, false] rfl rfl (by kernel_rfl) (fun _ _ _ h => h) (Or.inl ⟨by rfl, ?_⟩) ?_ ?_
            rotate_left
            · intro w'
              go_simp
              with_reducible rfl
            rotate_left
            · simp only [Act.put, List.setIfInBounds_toArray, List.set_cons_zero, List.set_cons_succ, i64_w, i32_w]
              rfl
            refine pure_ (i := 4) (N := some 16) (v := ?_) (a' := ?_) #[true, true, true, true, true, false, false, false, false, false, false, false, false, false, false, false, false] rfl rfl (by kernel_rfl) (fun _ _ _ h => h) (Or.inl ⟨by rfl, ?_⟩) ?_ ?_
            rotate_left
            · intro w'
              go_simp
              with_reducible rfl
            rotate_left
            · simp only [Act.put, List.setIfInBounds_toArray, List.set_cons_zero, List.set_cons_succ, i64_w, i32_w]
              rfl
            refine pure_ (i := 5) (N := some 17) (v := ?_) (a' := ?_) #[true, true, true, true, true, true, false, false, false, false, false, false, false, false, false, false, false] rfl rfl (by kernel_rfl) (fun _ _ _ h => h) (Or.inl ⟨by rfl, ?_⟩) ?_ ?_
            rotate_left
            · intro w'
              go_simp
              with_reducible rfl
            rotate_left
            · simp only [Act.put, List.setIfInBounds_toArray, List.set_cons_zero, List.set_cons_succ, i64_w, i32_w]
              rfl
            refine pure_ (i := 6) (N := some 18) (v := ?_) (a' := ?_) #[true, true, true, true, true, true, true, false, false, false, false, false, false, false, false, false, false] rfl rfl (by kernel_rfl) (fun _ _ _ h => h) (Or.inl ⟨by rfl, ?_⟩) ?_ ?_
            rotate_left
            · intro w'
              go_simp
              with_reducible rfl
            rotate_left
            · simp only [Act.put, List.setIfInBounds_toArray, List.set_cons_zero, List.set_cons_succ, i64_w, i32_w]
              rfl
            refine pure_ (i := 7) (N := some 19) (v := ?_) (a' := ?_) #[true, true, true, true, true, true, true, true, false, false, false, false, false, false, false, false, false] rfl rfl (by kernel_rfl) (fun _ _ _ h => h) (Or.inl ⟨by rfl, ?_⟩) ?_ ?_
            rotate_left
            · intro w'
              go_simp
              with_reducible rfl
            rotate_left
            · simp only [Act.put, List.setIfInBounds_toArray, List.set_cons_zero, List.set_cons_succ, i64_w, i32_w]
              rfl
            refine pure_ (i := 8) (N := some 20) (v := ?_) (a' := ?_) #[true, true, true, true, true, true, true, true, true, false, false, false, false, false, false, false, false] rfl rfl (by kernel_rfl) (fun _ _ _ h => h) (Or.inl ⟨by rfl, ?_⟩) ?_ ?_
            rotate_left
            · intro w'
              go_simp
              with_reducible rfl
            rotate_left
            · simp only [Act.put, List.setIfInBounds_toArray, List.set_cons_zero, List.set_cons_succ, i64_w, i32_w]
              rfl
            refine pure_ (i := 9) (N := some 21) (v := ?_) (a' := ?_) #[true, true, true, true, true, true, true, true, true, true, false, false, false, false, false, false, false] rfl rfl (by kernel_rfl) (fun _ _ _ h => h) (Or.inl ⟨by rfl, ?_⟩) ?_ ?_
            rotate_left
            · intro w'
              go_simp
              with_reducible rfl
            rotate_left
            · simp only [Act.put, List.setIfInBounds_toArray, List.set_cons_zero, List.set_cons_succ, i64_w, i32_w]
              rfl
            refine pure_ (i := 10) (N := some 22) (v := ?_) (a' := ?_) #[true, true, true, true, true, true, true, true, true, true, true, false, false, false, false, false, false] rfl rfl (by kernel_rfl) (fun _ _ _ h => h) (Or.inl ⟨by rfl, ?_⟩) ?_ ?_
            rotate_left
            · intro w'
              go_simp
              with_reducible rfl
            rotate_left
            · simp only [Act.put, List.setIfInBounds_toArray, List.set_cons_zero, List.set_cons_succ, i64_w, i32_w]
              rfl
            refine take_ (i := 11) (N := some 23) (v := ?_) (a' := ?_) #[true, true, true, true, true, true, true, true, true, true, true, true, false, false, false, false, false] rfl rfl (by kernel_rfl) (fun _ _ _ h => h) (Or.inl ⟨by rfl, ?_⟩) hHeld ?_ ?_
            rotate_left
            · rintro w' ⟨s0, s1, s2, s3, s4, s5⟩
              go_simp
              with_reducible rfl
            rotate_left
            · simp only [Act.put, List.setIfInBounds_toArray, List.set_cons_zero, List.set_cons_succ, i64_w, i32_w]
              rfl
            refine take_ (i := 12) (N := some 24) (v := ?_) (a' := ?_) #[true, true, true, true, true, true, true, true, true, true, true, true, true, false, false, false, false] rfl rfl (by kernel_rfl) (fun _ _ _ h => h) (Or.inl ⟨by rfl, ?_⟩) hHeld ?_ ?_
            rotate_left
            · rintro w' ⟨s0, s1, s2, s3, s4, s5⟩
              go_simp
              with_reducible rfl
            rotate_left
            · simp only [Act.put, List.setIfInBounds_toArray, List.set_cons_zero, List.set_cons_succ, i64_w, i32_w]
              rfl
            refine one_ (i := 13) (N := some 25) #[true, true, true, true, true, true, true, true, true, true, true, true, true, true, false, false, false] rfl rfl (by kernel_rfl) (by decide) (fun K hK => ?_)
            refine goes_ Tryd.func46 (by kernel_rfl) rfl #[.agg #[.int .i64 y.f0, .string y.f1, .int .i64 y.f2], .agg #[.int .i64 x.f0, .string x.f1, .int .i64 x.f2]] (by rfl) rfl rfl (by first | rfl | (simp only [List.map_toArray, List.map_cons, List.map_nil]; rfl)) ?_
            refine (order_calls y x _).mono ?_
            rintro e w3 ⟨rfl, hb3⟩
            refine ⟨_, rfl, ?_⟩
            refine hK.out _ _ ⟨cell_now hb3 (cell_now hb2 b0), cell_now hb3 (cell_now hb2 b1), cell_now hb3 (cell_now hb2 b2), cell_now hb3 (cell_now hb2 e0), cell_now hb3 (cell_now hb2 e1), cell_now hb3 (cell_now hb2 e2)⟩ (fun hHeld => ?_)
            clear hK K
            refine norm_ (a' := ?_) ?_ ?_
            rotate_left
            · show Act.put _ (some 25) _ = _
              simp only [Act.put, List.setIfInBounds_toArray, List.set_cons_zero, List.set_cons_succ, i64_w, i32_w]
              rfl
            refine pure_ (i := 14) (N := some 26) (v := ?_) (a' := ?_) #[true, true, true, true, true, true, true, true, true, true, true, true, true, true, true, false, false] rfl rfl (by kernel_rfl) (fun _ _ _ h => h) (Or.inl ⟨by rfl, ?_⟩) ?_ ?_
            rotate_left
            · intro w'
              go_simp
              with_reducible rfl
            rotate_left
            · simp only [Act.put, List.setIfInBounds_toArray, List.set_cons_zero, List.set_cons_succ, i64_w, i32_w]
              rfl
            refine pure_ (i := 15) (N := some 27) (v := ?_) (a' := ?_) #[true, true, true, true, true, true, true, true, true, true, true, true, true, true, true, true, false] rfl rfl (by kernel_rfl) (fun _ _ _ h => h) (Or.inl ⟨by rfl, ?_⟩) ?_ ?_
            rotate_left
            · intro w'
              go_simp
              with_reducible rfl
            rotate_left
            · simp only [Act.put, List.setIfInBounds_toArray, List.set_cons_zero, List.set_cons_succ, i64_w, i32_w]
              rfl
            refine pure_ (i := 16) (N := some 28) (v := ?_) (a' := ?_) #[true, true, true, true, true, true, true, true, true, true, true, true, true, true, true, true, true] rfl rfl (by kernel_rfl) (fun _ _ _ h => h) (Or.inl ⟨by rfl, ?_⟩) ?_ ?_
            rotate_left
            · intro w'
              go_simp
              with_reducible rfl
            rotate_left
            · simp only [Act.put, List.setIfInBounds_toArray, List.set_cons_zero, List.set_cons_succ, i64_w, i32_w]
              rfl
            refine done_ (by kernel_rfl) ?_
            go_wp2
            go_roundw
            case rel => exact ⟨m + 1 + 1, by go_num, by omega, HALL, ⟨below_step (below_step HB1.out hb2) hb3⟩⟩
            case measure => simp [intOf]; omega
          · have hres : sortedB l = false := sortedB_no hlt (by simp only [okAt, HXX.out, hg]; simp only [Nat.add_sub_cancel, HYY.out, decide_eq_false ho]; simp)
            have HRES := Aside0.mk hres
            have ho' : decide (0 ≤ ord y x) = true := decide_eq_true (by omega)
            clear hres hk1 hb1
            refine start_ (n := 17) (S := (fun w' => w'.cell? ⟨wr.heap.size, 0, none⟩ = some (.int .i64 x.f0) ∧ w'.cell? ⟨wr.heap.size, 1, none⟩ = some (.string x.f1) ∧ w'.cell? ⟨wr.heap.size, 2, none⟩ = some (.int .i64 x.f2) ∧ w'.cell? (ad.add (m * 3)) = some (.int .i64 y.f0) ∧ w'.cell? ⟨(ad.add (m * 3)).block, (ad.add (m * 3)).off + 1, none⟩ = some (.string y.f1) ∧ w'.cell? ⟨(ad.add (m * 3)).block, (ad.add (m * 3)).off + 2, none⟩ = some (.int .i64 y.f2))) (ds := []) #[false, false, false, false, false, false, false, false, false, false, false, false, false, false, false, false, false] (by kernel_rfl) rfl rfl ⟨b0, b1, b2, e0, e1, e2⟩ (fun hHeld => ?_)
            refine take_ (i := 0) (N := some 12) (v := ?_) (a' := ?_) #[true, false, false, false, false, false, false, false, false, false, false, false, false, false, false, false, false] rfl rfl (by kernel_rfl) (fun _ _ _ h => h) (Or.inl ⟨by rfl, ?_⟩) hHeld ?_ ?_
            rotate_left
            · rintro w' ⟨s0, s1, s2, s3, s4, s5⟩
              go_simp
              with_reducible rfl
            rotate_left
            · simp only [Act.put, List.setIfInBounds_toArray, List.set_cons_zero, List.set_cons_succ, i64_w, i32_w]
              rfl
            refine one_ (i := 1) (N := some 13) #[true, true, false, false, false, false, false, false, false, false, false, false, false, false, false, false, false] rfl rfl (by kernel_rfl) (by decide) (fun K hK => ?_)
            refine goes_ Tryd.func16 (by kernel_rfl) rfl #[.agg #[.int .i64 x.f0, .string x.f1, .int .i64 x.f2]] (by rfl) rfl rfl (by first | rfl | (simp only [List.map_toArray, List.map_cons, List.map_nil]; rfl)) ?_
            refine (good_calls x _ hsz HT1.drew).mono ?_
            rintro e w2 ⟨rfl, hb2⟩
            rw [hg]
            have hb2 := undrew hb2
            refine ⟨_, rfl, ?_⟩
            refine hK.out _ _ ⟨cell_now hb2 b0, cell_now hb2 b1, cell_now hb2 b2, cell_now hb2 e0, cell_now hb2 e1, cell_now hb2 e2⟩ (fun hHeld => ?_)
            clear hK K
            refine norm_ (a' := ?_) ?_ ?_
            rotate_left
            · show Act.put _ (some 13) _ = _
              simp only [Act.put, List.setIfInBounds_toArray, List.set_cons_zero, List.set_cons_succ, i64_w, i32_w]
              rfl
            refine pure_ (i := 2) (N := some 14) (v := ?_) (a' := ?_) #[true, true, true, false, false, false, false, false, false, false, false, false, false, false, false, false, false] rfl rfl (by kernel_rfl) (fun _ _ _ h => h) (Or.inl ⟨by rfl, ?_⟩) ?_ ?_
            rotate_left
            · intro w'
              go_simp
              with_reducible rfl
            rotate_left
            · simp only [Act.put, List.setIfInBounds_toArray, List.set_cons_zero, List.set_cons_succ, i64_w, i32_w]
              rfl
            refine pure_ (i := 3) (N := some 15) (v := ?_) (a' := ?_) #[true, true, true, true, false, false, false, false, false, false, false, false, false, false, false, false, false] rfl rfl (by kernel_rfl) (fun _ _ _ h => h) (Or.inl ⟨by rfl, ?_⟩) ?_ ?_
            rotate_left
            · intro w'
              go_simp
              with_reducible rfl
            rotate_left
            · simp only [Act.put, List.setIfInBounds_toArray, List.set_cons_zero, List.set_cons_succ, i64_w, i32_w]
              rfl
            refine pure_ (i := 4) (N := some 16) (v := ?_) (a' := ?_) #[true, true, true, true, true, false, false, false, false, false, false, false, false, false, false, false, false] rfl rfl (by kernel_rfl) (fun _ _ _ h => h) (Or.inl ⟨by rfl, ?_⟩) ?_ ?_
            rotate_left
            · intro w'
              go_simp
              with_reducible rfl
            rotate_left
            · simp only [Act.put, List.setIfInBounds_toArray, List.set_cons_zero, List.set_cons_succ, i64_w, i32_w]
              rfl
            refine pure_ (i := 5) (N := some 17) (v := ?_) (a' := ?_) #[true, true, true, true, true, true, false, false, false, false, false, false, false, false, false, false, false] rfl rfl (by kernel_rfl) (fun _ _ _ h => h) (Or.inl ⟨by rfl, ?_⟩) ?_ ?_
            rotate_left
            · intro w'
              go_simp
              with_reducible rfl
            rotate_left
            · simp only [Act.put, List.setIfInBounds_toArray, List.set_cons_zero, List.set_cons_succ, i64_w, i32_w]
              rfl
            refine pure_ (i := 6) (N := some 18) (v := ?_) (a' := ?_) #[true, true, true, true, true, true, true, false, false, false, false, false, false, false, false, false, false] rfl rfl (by kernel_rfl) (fun _ _ _ h => h) (Or.inl ⟨by rfl, ?_⟩) ?_ ?_
            rotate_left
            · intro w'
              go_simp
              with_reducible rfl
            rotate_left
            · simp only [Act.put, List.setIfInBounds_toArray, List.set_cons_zero, List.set_cons_succ, i64_w, i32_w]
              rfl
            refine pure_ (i := 7) (N := some 19) (v := ?_) (a' := ?_) #[true, true, true, true, true, true, true, true, false, false, false, false, false, false, false, false, false] rfl rfl (by kernel_rfl) (fun _ _ _ h => h) (Or.inl ⟨by rfl, ?_⟩) ?_ ?_
            rotate_left
            · intro w'
              go_simp
              with_reducible rfl
            rotate_left
            · simp only [Act.put, List.setIfInBounds_toArray, List.set_cons_zero, List.set_cons_succ, i64_w, i32_w]
              rfl
            refine pure_ (i := 8) (N := some 20) (v := ?_) (a' := ?_) #[true, true, true, true, true, true, true, true, true, false, false, false, false, false, false, false, false] rfl rfl (by kernel_rfl) (fun _ _ _ h => h) (Or.inl ⟨by rfl, ?_⟩) ?_ ?_
            rotate_left
            · intro w'
              go_simp
              with_reducible rfl
            rotate_left
            · simp only [Act.put, List.setIfInBounds_toArray, List.set_cons_zero, List.set_cons_succ, i64_w, i32_w]
              rfl
            refine pure_ (i := 9) (N := some 21) (v := ?_) (a' := ?_) #[true, true, true, true, true, true, true, true, true, true, false, false, false, false, false, false, false] rfl rfl (by kernel_rfl) (fun _ _ _ h => h) (Or.inl ⟨by rfl, ?_⟩) ?_ ?_
            rotate_left
            · intro w'
              go_simp
              with_reducible rfl
            rotate_left
            · simp only [Act.put, List.setIfInBounds_toArray, List.set_cons_zero, List.set_cons_succ, i64_w, i32_w]
              rfl
            refine pure_ (i := 10) (N := some 22) (v := ?_) (a' := ?_) #[true, true, true, true, true, true, true, true, true, true, true, false, false, false, false, false, false] rfl rfl (by kernel_rfl) (fun _ _ _ h => h) (Or.inl ⟨by rfl, ?_⟩) ?_ ?_
            rotate_left
            · intro w'
              go_simp
              with_reducible rfl
            rotate_left
            · simp only [Act.put, List.setIfInBounds_toArray, List.set_cons_zero, List.set_cons_succ, i64_w, i32_w]
              rfl
            refine take_ (i := 11) (N := some 23) (v := ?_) (a' := ?_) #[true, true, true, true, true, true, true, true, true, true, true, true, false, false, false, false, false] rfl rfl (by kernel_rfl) (fun _ _ _ h => h) (Or.inl ⟨by rfl, ?_⟩) hHeld ?_ ?_
            rotate_left
            · rintro w' ⟨s0, s1, s2, s3, s4, s5⟩
              go_simp
              with_reducible rfl
            rotate_left
            · simp only [Act.put, List.setIfInBounds_toArray, List.set_cons_zero, List.set_cons_succ, i64_w, i32_w]
              rfl
            refine take_ (i := 12) (N := some 24) (v := ?_) (a' := ?_) #[true, true, true, true, true, true, true, true, true, true, true, true, true, false, false, false, false] rfl rfl (by kernel_rfl) (fun _ _ _ h => h) (Or.inl ⟨by rfl, ?_⟩) hHeld ?_ ?_
            rotate_left
            · rintro w' ⟨s0, s1, s2, s3, s4, s5⟩
              go_simp
              with_reducible rfl
            rotate_left
            · simp only [Act.put, List.setIfInBounds_toArray, List.set_cons_zero, List.set_cons_succ, i64_w, i32_w]
              rfl
            refine one_ (i := 13) (N := some 25) #[true, true, true, true, true, true, true, true, true, true, true, true, true, true, false, false, false] rfl rfl (by kernel_rfl) (by decide) (fun K hK => ?_)
            refine goes_ Tryd.func46 (by kernel_rfl) rfl #[.agg #[.int .i64 y.f0, .string y.f1, .int .i64 y.f2], .agg #[.int .i64 x.f0, .string x.f1, .int .i64 x.f2]] (by rfl) rfl rfl (by first | rfl | (simp only [List.map_toArray, List.map_cons, List.map_nil]; rfl)) ?_
            refine (order_calls y x _).mono ?_
            rintro e w3 ⟨rfl, hb3⟩
            refine ⟨_, rfl, ?_⟩
            refine hK.out _ _ ⟨cell_now hb3 (cell_now hb2 b0), cell_now hb3 (cell_now hb2 b1), cell_now hb3 (cell_now hb2 b2), cell_now hb3 (cell_now hb2 e0), cell_now hb3 (cell_now hb2 e1), cell_now hb3 (cell_now hb2 e2)⟩ (fun hHeld => ?_)
            clear hK K
            refine norm_ (a' := ?_) ?_ ?_
            rotate_left
            · show Act.put _ (some 25) _ = _
              simp only [Act.put, List.setIfInBounds_toArray, List.set_cons_zero, List.set_cons_succ, i64_w, i32_w]
              rfl
            refine pure_ (i := 14) (N := some 26) (v := ?_) (a' := ?_) #[true, true, true, true, true, true, true, true, true, true, true, true, true, true, true, false, false] rfl rfl (by kernel_rfl) (fun _ _ _ h => h) (Or.inl ⟨by rfl, ?_⟩) ?_ ?_
            rotate_left
            · intro w'
              go_simp
              with_reducible rfl
            rotate_left
            · simp only [Act.put, List.setIfInBounds_toArray, List.set_cons_zero, List.set_cons_succ, i64_w, i32_w]
              rfl
            refine pure_ (i := 15) (N := some 27) (v := ?_) (a' := ?_) #[true, true, true, true, true, true, true, true, true, true, true, true, true, true, true, true, false] rfl rfl (by kernel_rfl) (fun _ _ _ h => h) (Or.inl ⟨by rfl, ?_⟩) ?_ ?_
            rotate_left
            · intro w'
              go_simp
              with_reducible rfl
            rotate_left
            · simp only [Act.put, List.setIfInBounds_toArray, List.set_cons_zero, List.set_cons_succ, i64_w, i32_w]
              rfl
            refine pure_ (i := 16) (N := some 28) (v := ?_) (a' := ?_) #[true, true, true, true, true, true, true, true, true, true, true, true, true, true, true, true, true] rfl rfl (by kernel_rfl) (fun _ _ _ h => h) (Or.inl ⟨by rfl, ?_⟩) ?_ ?_
            rotate_left
            · intro w'
              go_simp
              with_reducible rfl
            rotate_left
            · simp only [Act.put, List.setIfInBounds_toArray, List.set_cons_zero, List.set_cons_succ, i64_w, i32_w]
              rfl
            refine done_ (by kernel_rfl) ?_
            go_wp2
            go_ret
            exact ⟨by show Ending.returned (.bool false) = _; rw [HRES.out], below_step (below_step HB1.out hb2) hb3⟩
    · have hres := sortedB_yes (l := l) (fun i hi => HA.out i (by omega))
      have HRES := Aside0.mk hres
      clear hres
      go_wp2
      go_ret
      exact ⟨by rw [HRES.out]; refine congrArg (fun b => Ending.returned (.bool b)) ?_; exact dec_cast l.length, HB.out⟩
end Go.Proofs.YtefdfgmlmjnmlaaDoor.My
end

section
set_option linter.unusedVariables false
set_option linter.unusedSimpArgs false
/- What the kit's print.py wrote of one Go function of this seat's translation (run by a program of this session, one function a text): the function as a plain Lean function, and that the call computes it. -/
namespace Go.Proofs.YtefdfgmlmjnmlaaDoor.Rf
open Go.RowKit Go.Proofs.YtefdfgmlmjnmlaaDoorW.PrintWords Go.Proofs.YtefdfgmlmjnmlaaDoorW.PrintLast Go.Proofs.YtefdfgmlmjnmlaaDoorW.PrintMore
attribute [local go_sem] max2_int min2_int max_two min_two max_three min_three max_four min_four   -- for this text's walks alone

/-! ### mortmainref10_Sorted: function 14 -/
mutual
def mortmainref10_Sorted.l0 : Nat → List (S27) → List (S27) → Int → Int → Option (Bool)
  | 0, _, _, _, _ => none
  | k + 1, x0, x7, x8, x9 => if x9 < x8 then (if 0 ≤ x9 then (if x9 < (x7.length : Int) then ((mortmainref10_Good.f k ((rd_T27 x7 x9).f0) ((rd_T27 x7 x9).f1) ((rd_T27 x7 x9).f2)).bind fun t149 => (if t149 = true then (if x9 ≤ (x0.length : Int) then ((some (x0.take (x9 : Int).toNat : List (S27))).bind fun y150 => (mortmainref10_Sorted.l1 k x0 x7 x8 x9 y150 (y150.length : Int) 0 ((rd_T27 x7 x9).f0) ((rd_T27 x7 x9).f1) ((rd_T27 x7 x9).f2))) else (none)) else (some false))) else (none)) else (none)) else (some (decide ((x0.length : Int) ≤ 64)))
def mortmainref10_Sorted.l1 : Nat → List (S27) → List (S27) → Int → Int → List (S27) → Int → Int → Int → ByteArray → Int → Option (Bool)
  | 0, _, _, _, _, _, _, _, _, _, _ => none
  | k + 1, x0, x7, x8, x9, x19, x20, x21, x149000, x149001, x149002 => if x21 < x20 then (if 0 ≤ x21 then (if x21 < (x19.length : Int) then (if ((rd_T27 x19 x21).f0) > x149000 then (some false) else (if ((rd_T27 x19 x21).f0) = x149000 then (if ((Op.bytesLess (((rd_T27 x19 x21).f1).toList) x149001.toList) = true) then (mortmainref10_Sorted.l1 k x0 x7 x8 x9 x19 x20 (wrap64 (x21 + 1)) x149000 x149001 x149002) else (some false)) else (mortmainref10_Sorted.l1 k x0 x7 x8 x9 x19 x20 (wrap64 (x21 + 1)) x149000 x149001 x149002))) else (none)) else (none)) else (mortmainref10_Sorted.l0 k x0 x7 x8 (wrap64 (x9 + 1)))
end
def mortmainref10_Sorted.f (k : Nat) (l0 : List (S27)) : Option (Bool) := mortmainref10_Sorted.l0 k l0 l0 (l0.length : Int) 0
theorem mortmainref10_Sorted.mono_l : ∀ k, (∀ y0 y1 y2 y3, LeO (mortmainref10_Sorted.l0 k y0 y1 y2 y3) (mortmainref10_Sorted.l0 (k + 1) y0 y1 y2 y3)) ∧ (∀ y0 y1 y2 y3 y4 y5 y6 y7 y8 y9, LeO (mortmainref10_Sorted.l1 k y0 y1 y2 y3 y4 y5 y6 y7 y8 y9) (mortmainref10_Sorted.l1 (k + 1) y0 y1 y2 y3 y4 y5 y6 y7 y8 y9))
  | 0 => ⟨fun _ _ _ _ r h => by simp [mortmainref10_Sorted.l0] at h, fun _ _ _ _ _ _ _ _ _ _ r h => by simp [mortmainref10_Sorted.l1] at h⟩
  | k + 1 => by
    obtain ⟨ih0, ih1⟩ := mortmainref10_Sorted.mono_l k
    refine ⟨?_, ?_⟩
    · intro y0 y1 y2 y3
      unfold mortmainref10_Sorted.l0
      repeat' first
      | (with_reducible exact ih0 _ _ _ _)
      | (with_reducible exact ih1 _ _ _ _ _ _ _ _ _ _)
      | (with_reducible exact mortmainref10_Good.mono _ _ _ _)
      | (with_reducible exact LeO.refl _)
      | (with_reducible exact LeO.none _)
      | (with_reducible refine LeO.ite ?_ ?_)
      | (with_reducible refine LeO.bind ?_ (fun _ => ?_))
      | exact ih0 _ _ _ _
      | exact ih1 _ _ _ _ _ _ _ _ _ _
      | exact mortmainref10_Good.mono _ _ _ _
      | exact LeO.none _
      | refine LeO.ite ?_ ?_
      | refine LeO.bind ?_ (fun _ => ?_)
    · intro y0 y1 y2 y3 y4 y5 y6 y7 y8 y9
      unfold mortmainref10_Sorted.l1
      repeat' first
      | (with_reducible exact ih0 _ _ _ _)
      | (with_reducible exact ih1 _ _ _ _ _ _ _ _ _ _)
      | (with_reducible exact mortmainref10_Good.mono _ _ _ _)
      | (with_reducible exact LeO.refl _)
      | (with_reducible exact LeO.none _)
      | (with_reducible refine LeO.ite ?_ ?_)
      | (with_reducible refine LeO.bind ?_ (fun _ => ?_))
      | exact ih0 _ _ _ _
      | exact ih1 _ _ _ _ _ _ _ _ _ _
      | exact mortmainref10_Good.mono _ _ _ _
      | exact LeO.none _
      | refine LeO.ite ?_ ?_
      | refine LeO.bind ?_ (fun _ => ?_)
theorem mortmainref10_Sorted.mono : ∀ a0 k, LeO (mortmainref10_Sorted.f k a0) (mortmainref10_Sorted.f (k + 1) a0) := by
  intro a0 k
  obtain ⟨ih0, ih1⟩ := mortmainref10_Sorted.mono_l k
  unfold mortmainref10_Sorted.f
  repeat' first
      | (with_reducible exact ih0 _ _ _ _)
      | (with_reducible exact ih1 _ _ _ _ _ _ _ _ _ _)
      | (with_reducible exact mortmainref10_Good.mono _ _ _ _)
      | (with_reducible exact LeO.refl _)
      | (with_reducible exact LeO.none _)
      | (with_reducible refine LeO.ite ?_ ?_)
      | (with_reducible refine LeO.bind ?_ (fun _ => ?_))
      | exact ih0 _ _ _ _
      | exact ih1 _ _ _ _ _ _ _ _ _ _
      | exact mortmainref10_Good.mono _ _ _ _
      | exact LeO.none _
      | refine LeO.ite ?_ ?_
      | refine LeO.bind ?_ (fun _ => ?_)
set_option maxHeartbeats 8000000 in
set_option maxRecDepth 100000 in
theorem mortmainref10_Sorted.calls (k : Nat) (A0 : Option Addr) (c0 : Nat) (l0 : List (S27)) (r : Bool) (w : World) (hr0 : Kd.C k27 w A0 l0.length l0) (hc0 : l0.length ≤ c0) (h : mortmainref10_Sorted.f k l0 = some r) :
    Calls Tryd.prog 14 #[.slice A0 l0.length c0] w fun e w' => e = .returned (.bool r) ∧ Below w.heap.size w w' := by
  have hu27 := Tryd.underlying27
  have HR0 := Aside0.mk hr0
  have HC0 := Aside0.mk hc0
  clear hr0 hc0
  have HB := Aside0.mk (Below.refl w.heap.size w)
  have H : (mortmainref10_Sorted.l0 k l0 l0 (l0.length : Int) 0) = some r := h
  clear h
  have H' := Aside0.mk H
  clear H
  go_enter Tryd.func14, Tryd.ntmps14
  go_wp2
  go_loopg [9] k (fun kq v9 w' => ∃ (x9_1 : Int), v9 = .int .i64 x9_1 ∧ Aside0 (mortmainref10_Sorted.l0 kq l0 l0 (l0.length : Int) x9_1 = some r) ∧ Aside0 (kq ≤ k) ∧ Aside0 (Below w.heap.size w w'))
  case atStart => exact ⟨(0), (by first | rfl | (simp; done) | (simp [*]; done)), H', ⟨Nat.le_refl _⟩, ⟨by repeat (first | (with_reducible first | exact HB.out | apply below_alloc | apply pw_below_drewN | apply below_drew1) | exact HB.out)⟩⟩
  case round =>
    clear H'
    try clear c1
    obtain ⟨x9_1, rfl, HA, HK1, HB⟩ := hrel
    cases gk with
    | zero => exact absurd HA.out (by simp [mortmainref10_Sorted.l0])
    | succ k1 =>
      have H := HA.out
      clear HA
      simp only [mortmainref10_Sorted.l0] at H
      by_cases c2 : x9_1 < (l0.length : Int)
      · rw [if_pos c2] at H
        have c2b0 : decide (x9_1 < (l0.length : Int)) = true := decide_eq_true c2
        clear c2
        by_cases c3 : 0 ≤ x9_1
        · rw [if_pos c3] at H
          have c3b0 : decide (0 ≤ x9_1) = true := decide_eq_true c3
          clear c3
          by_cases c4 : x9_1 < (l0.length : Int)
          · rw [if_pos c4] at H
            have c4b0 : decide (x9_1 < (l0.length : Int)) = true := decide_eq_true c4
            clear c4
            replace H := Option.bind_eq_some_iff.mp H
            obtain ⟨t149, A50, H⟩ := H
            replace H : (if t149 = true then (if x9_1 ≤ (l0.length : Int) then ((some (l0.take (x9_1 : Int).toNat : List (S27))).bind fun y150 => (mortmainref10_Sorted.l1 k1 l0 l0 (l0.length : Int) x9_1 y150 (y150.length : Int) 0 ((rd_T27 l0 x9_1).f0) ((rd_T27 l0 x9_1).f1) ((rd_T27 l0 x9_1).f2))) else (none)) else (some false)) = some r := H
            have A5 := Aside0.mk A50
            clear A50
            by_cases c6 : t149 = true
            · subst c6
              have H1 : (if x9_1 ≤ (l0.length : Int) then ((some (l0.take (x9_1 : Int).toNat : List (S27))).bind fun y150 => (mortmainref10_Sorted.l1 k1 l0 l0 (l0.length : Int) x9_1 y150 (y150.length : Int) 0 ((rd_T27 l0 x9_1).f0) ((rd_T27 l0 x9_1).f1) ((rd_T27 l0 x9_1).f2))) else (none)) = some r := by rw [if_pos rfl] at H; exact H
              clear H
              have H := H1
              clear H1
              have c7b0 := eq_true (of_decide_eq_true (by first | (with_reducible assumption) | assumption) : 0 ≤ x9_1)
              by_cases c8 : x9_1 ≤ (l0.length : Int)
              · rw [if_pos c8] at H
                have c8b0 := eq_true c8
                have c8b1 : decide (x9_1 ≤ (l0.length : Int)) = true := decide_eq_true c8
                clear c8
                obtain ⟨y150, hy150⟩ : ∃ y_ : List (S27), y_ = (l0.take (x9_1 : Int).toNat) := ⟨_, rfl⟩
                replace H : (mortmainref10_Sorted.l1 k1 l0 l0 (l0.length : Int) x9_1 y150 (y150.length : Int) 0 ((rd_T27 l0 x9_1).f0) ((rd_T27 l0 x9_1).f1) ((rd_T27 l0 x9_1).f2)) = some r := by first | (rw [hy150]; with_reducible exact H) | (have H2_ := (Option.bind_some _ _).symm.trans H; rw [hy150]; with_reducible exact H2_) | (have H2_ := (Option.bind_some _ _).symm.trans H; with_reducible exact H2_) | with_reducible exact H | (rw [hy150]; exact H) | exact H
                have Ny150 := Aside0.mk hy150
                clear hy150
                have H' := Aside0.mk H
                clear H
                have p147 : 0 ≤ (x9_1 : Int) := of_decide_eq_true (by first | (with_reducible assumption) | assumption)
                have q147 : x9_1 < (l0.length : Int) := of_decide_eq_true (by first | (with_reducible assumption) | assumption)
                obtain ⟨ad147, e147, hx147_0, hx147_1, hx147_2⟩ := at_T27 HR0.out x9_1 p147 q147
                cases e147
                replace hx147_0 := (HB.out.cell (World.block_lt_of_cell? w _ hx147_0)).trans hx147_0
                replace hx147_1 := (HB.out.cell (World.block_lt_of_cell? w _ hx147_1)).trans hx147_1
                replace hx147_2 := (HB.out.cell (World.block_lt_of_cell? w _ hx147_2)).trans hx147_2
                replace p147 := eq_true p147
                replace q147 := eq_true q147
                go_wp2_with (first | ((with_reducible refine gate_dst (N := 4) rfl ?_); refine box_event ?hg (N := 4) ?hd (cs := #[.int .i64 0, .string (⟨#[]⟩ : ByteArray), .int .i64 0]) (t := 27) ?hr ?_; (case hd => rfl); (case hg => rfl); (case hr => first | (go_simp; done) | (go_simp; rfl)); intro gb148 hg w9 hbox hb; have n0_ := Aside0.mk (below_step (by repeat (first | (with_reducible first | exact HB.out | apply below_alloc | apply pw_below_drewN | apply below_drew1) | exact HB.out)) hb); have n1_ := Aside0.mk (hbox); have n2_ := Aside0.mk ((by rw [hg]; exact (below_size (by repeat (first | (with_reducible first | exact HB.out | apply below_alloc | apply pw_below_drewN | apply below_drew1) | exact HB.out))) : w.heap.size ≤ gb148)); have n3_ := Aside0.mk ((by rw [hg]; exact (below_size (by repeat (first | (with_reducible first | exact HB.out | apply below_alloc | apply pw_below_drewN | apply below_drew1) | exact HB.out))) : w.heap.size ≤ gb148)); clear HB; have HB := n0_; have BK148 := n1_; have GW148 := n2_; have GE148 := n3_; clear n0_ n1_ n2_ n3_; clear hb hbox hg; have hcz10_0 : w9.cell? ⟨gb148, 0, none⟩ = some (.int .i64 0) := (blk_cell BK148.out 0).trans rfl; have hcz10_1 : w9.cell? ⟨gb148, 1, none⟩ = some (.string (⟨#[]⟩ : ByteArray)) := (blk_cell BK148.out 1).trans rfl; have hcz10_2 : w9.cell? ⟨gb148, 2, none⟩ = some (.int .i64 0) := (blk_cell BK148.out 2).trans rfl; have hfz10_0 := blk_frozen BK148.out 0; have hfz10_1 := blk_frozen BK148.out 1; have hfz10_2 := blk_frozen BK148.out 2) | ((with_reducible refine gate_callee (f := 17) rfl ?_); refine goesL_ (some 15) rfl rfl Tryd.func17 (by kernel_rfl) rfl #[.agg #[.int .i64 ((rd_T27 l0 x9_1).f0), .string ((rd_T27 l0 x9_1).f1), .int .i64 ((rd_T27 l0 x9_1).f2)]] rfl (by (try simp only [List.map_toArray, List.map_cons, List.map_nil]); first | done | rfl | (simp only [List.length_drop, List.length_take]; rfl)) ?_; (with_reducible refine (mortmainref10_Good.calls k1 ((rd_T27 l0 x9_1).f0) ((rd_T27 l0 x9_1).f1) ((rd_T27 l0 x9_1).f2) true _ A5.out).mono ?_); rintro e w11 ⟨rfl, hb⟩; refine ⟨_, rfl, ?_⟩; have n0_ := Aside0.mk (blk_below (g := gb148) (o := .cells #[.int .i64 ((rd_T27 l0 x9_1).f0), .string ((rd_T27 l0 x9_1).f1), .int .i64 ((rd_T27 l0 x9_1).f2)] 27 (0, 0)) (by (with_reducible repeat (first | refine blk_drewN ?_ _ | refine blk_drew ?_ | refine blk_alloc ?_ _)); refine blk_put (cs := #[.int .i64 ((rd_T27 l0 x9_1).f0), .string ((rd_T27 l0 x9_1).f1), .int .i64 0]) ?_ 2 _ rfl; (with_reducible repeat (first | refine blk_drewN ?_ _ | refine blk_drew ?_ | refine blk_alloc ?_ _)); refine blk_put (cs := #[.int .i64 ((rd_T27 l0 x9_1).f0), .string (⟨#[]⟩ : ByteArray), .int .i64 0]) ?_ 1 _ rfl; (with_reducible repeat (first | refine blk_drewN ?_ _ | refine blk_drew ?_ | refine blk_alloc ?_ _)); refine blk_put (cs := #[.int .i64 0, .string (⟨#[]⟩ : ByteArray), .int .i64 0]) ?_ 0 _ rfl; (with_reducible repeat (first | refine blk_drewN ?_ _ | refine blk_drew ?_ | refine blk_alloc ?_ _)); exact BK148.out) hb); have n1_ := Aside0.mk (below_step (by repeat (first | (with_reducible first | exact HB.out | apply below_alloc | apply pw_below_drewN | apply below_drew1 | refine below_set ?_ GE148.out) | exact HB.out)) hb); clear BK148; clear HB; have BK148 := n0_; have HB := n1_; clear n0_ n1_; (try clear hb); (try clear hb2); (try clear hk); (try clear hi); have q12 : (x9_1 : Int) ≤ ((l0.length : Int) : Int) := of_decide_eq_true (by first | (with_reducible assumption) | assumption); obtain ⟨i012, hi012, _, hsz12, _⟩ := info_parts info27; have hroom12 : l0.length ≤ c0 := HC0.out; have hC12 : Kd.C k27 _ (some ad147) l0.length l0 := HR0.out; have hcut12 := cut_to (P := Tryd.prog) 23 27 .i64 Tryd.underlying23 hi012 (some ad147) l0.length c0 x9_1 (of_decide_eq_true (by first | (with_reducible assumption) | assumption)) q12 hroom12; have hr12 := Kd.C_take (m := (x9_1 : Int).toNat) hC12 (by omega); have hy12 : y150.length = (x9_1 : Int).toNat := (by rw [Ny150.out, List.length_take]; omega); rw [← Ny150.out] at hr12; rw [← hy12] at hcut12; have HR153 := Aside0.mk hr12; have HC153 := Aside0.mk (show y150.length ≤ c0 from by omega); clear hr12 hC12 hroom12 hi012 hsz12; have KY12 := Aside0.mk hy12; clear hy12; replace q12 := eq_true q12))
                go_loopg [21] k1 (fun kq v21 w' => ∃ (x21_2 : Int), v21 = .int .i64 x21_2 ∧ Aside0 (mortmainref10_Sorted.l1 kq l0 l0 (l0.length : Int) x9_1 y150 (y150.length : Int) x21_2 ((rd_T27 l0 x9_1).f0) ((rd_T27 l0 x9_1).f1) ((rd_T27 l0 x9_1).f2) = some r) ∧ Aside0 (kq ≤ k1) ∧ Aside0 (w'.heap[gb148]? = some (.cells #[.int .i64 ((rd_T27 l0 x9_1).f0), .string ((rd_T27 l0 x9_1).f1), .int .i64 ((rd_T27 l0 x9_1).f2)] 27 (0, 0))) ∧ Aside0 (Below w.heap.size w w'))
                case atStart => exact ⟨(0), (by first | rfl | (simp; done) | (simp [*]; done)), H', ⟨Nat.le_refl _⟩, ⟨by (with_reducible repeat (first | refine blk_drewN ?_ _ | refine blk_drew ?_ | refine blk_alloc ?_ _)); exact BK148.out⟩, ⟨by repeat (first | (with_reducible first | exact HB.out | apply below_alloc | apply pw_below_drewN | apply below_drew1 | refine below_set ?_ GE148.out) | exact HB.out)⟩⟩
                case round =>
                  clear H'
                  try clear c1
                  try clear p1
                  try clear q1
                  try clear hx1
                  try clear c2
                  try clear c2b0
                  try clear p2
                  try clear c3
                  try clear c3b0
                  try clear c4
                  try clear c4b0
                  try clear c6
                  try clear c7
                  try clear c7b0
                  try clear c8
                  try clear c8b0
                  try clear c8b1
                  try clear q12
                  try clear hcz10_0
                  try clear hcz10_1
                  try clear hcz10_2
                  try clear hfz10_0
                  try clear hfz10_1
                  try clear hfz10_2
                  try clear hx147_0
                  try clear hx147_1
                  try clear hx147_2
                  try clear p147
                  try clear q12
                  try clear q147
                  obtain ⟨x21_2, rfl, HA, HK2, BK148, HB⟩ := hrel
                  cases gk with
                  | zero => exact absurd HA.out (by simp [mortmainref10_Sorted.l1])
                  | succ k2 =>
                    have H := HA.out
                    clear HA
                    simp only [mortmainref10_Sorted.l1] at H
                    by_cases c13 : x21_2 < (y150.length : Int)
                    · rw [if_pos c13] at H
                      have c13b0 : decide (x21_2 < (y150.length : Int)) = true := decide_eq_true c13
                      clear c13
                      by_cases c14 : 0 ≤ x21_2
                      · rw [if_pos c14] at H
                        have c14b0 : decide (0 ≤ x21_2) = true := decide_eq_true c14
                        clear c14
                        by_cases c15 : x21_2 < (y150.length : Int)
                        · rw [if_pos c15] at H
                          have c15b0 : decide (x21_2 < (y150.length : Int)) = true := decide_eq_true c15
                          clear c15
                          by_cases c16 : ((rd_T27 y150 x21_2).f0) > ((rd_T27 l0 x9_1).f0)
                          · rw [if_pos c16] at H
                            have c16b0 : decide (((rd_T27 l0 x9_1).f0) < ((rd_T27 y150 x21_2).f0)) = true := decide_eq_true c16
                            clear c16
                            obtain rfl := Option.some.inj H
                            have p154 : 0 ≤ (x21_2 : Int) := of_decide_eq_true (by first | (with_reducible assumption) | assumption)
                            have q154 : x21_2 < (y150.length : Int) := of_decide_eq_true (by first | (with_reducible assumption) | assumption)
                            obtain ⟨ad154, e154, hx154_0, hx154_1, hx154_2⟩ := at_T27 HR153.out x21_2 p154 q154
                            obtain rfl : ad147 = ad154 := (by injection e154)
                            replace hx154_0 := (HB.out.cell (World.block_lt_of_cell? w _ hx154_0)).trans hx154_0
                            replace hx154_1 := (HB.out.cell (World.block_lt_of_cell? w _ hx154_1)).trans hx154_1
                            replace hx154_2 := (HB.out.cell (World.block_lt_of_cell? w _ hx154_2)).trans hx154_2
                            replace p154 := eq_true p154
                            replace q154 := eq_true q154
                            go_wp2_with (first | ((with_reducible refine gate_dst (N := 6) rfl ?_); refine box_event ?hg (N := 6) ?hd (cs := #[.int .i64 0, .string (⟨#[]⟩ : ByteArray), .int .i64 0]) (t := 27) ?hr ?_; (case hd => rfl); (case hg => rfl); (case hr => first | (go_simp; done) | (go_simp; rfl)); intro gb155 hg w17 hbox hb; have n0_ := Aside0.mk (blk_below (g := gb148) (o := .cells #[.int .i64 ((rd_T27 l0 x9_1).f0), .string ((rd_T27 l0 x9_1).f1), .int .i64 ((rd_T27 l0 x9_1).f2)] 27 (0, 0)) (by (with_reducible repeat (first | refine blk_drewN ?_ _ | refine blk_drew ?_ | refine blk_alloc ?_ _)); exact BK148.out) hb); have n1_ := Aside0.mk (below_step (by repeat (first | (with_reducible first | exact HB.out | apply below_alloc | apply pw_below_drewN | apply below_drew1 | refine below_set ?_ GE148.out) | exact HB.out)) hb); have n2_ := Aside0.mk (hbox); have n3_ := Aside0.mk ((by rw [hg]; exact (below_size (by repeat (first | (with_reducible first | exact HB.out | apply below_alloc | apply pw_below_drewN | apply below_drew1 | refine below_set ?_ GE148.out) | exact HB.out))) : w.heap.size ≤ gb155)); have n4_ := Aside0.mk ((by rw [hg]; exact (below_size (by repeat (first | (with_reducible first | exact HB.out | apply below_alloc | apply pw_below_drewN | apply below_drew1 | refine below_set ?_ GE148.out) | exact HB.out))) : w.heap.size ≤ gb155)); have n5_ := Aside0.mk ((by rw [hg]; exact Nat.ne_of_lt (blk_lt (g := gb148) (o := .cells #[.int .i64 ((rd_T27 l0 x9_1).f0), .string ((rd_T27 l0 x9_1).f1), .int .i64 ((rd_T27 l0 x9_1).f2)] 27 (0, 0)) (by (with_reducible repeat (first | refine blk_drewN ?_ _ | refine blk_drew ?_ | refine blk_alloc ?_ _)); exact BK148.out)) : gb148 ≠ gb155)); have n6_ := Aside0.mk ((by rw [hg]; exact Nat.ne_of_gt (blk_lt (g := gb148) (o := .cells #[.int .i64 ((rd_T27 l0 x9_1).f0), .string ((rd_T27 l0 x9_1).f1), .int .i64 ((rd_T27 l0 x9_1).f2)] 27 (0, 0)) (by (with_reducible repeat (first | refine blk_drewN ?_ _ | refine blk_drew ?_ | refine blk_alloc ?_ _)); exact BK148.out)) : gb155 ≠ gb148)); clear BK148; clear HB; have BK148 := n0_; have HB := n1_; have BK155 := n2_; have GW155 := n3_; have GE155 := n4_; have NB148_155 := n5_; have NB155_148 := n6_; clear n0_ n1_ n2_ n3_ n4_ n5_ n6_; clear hb hbox hg; have hnb18 := NB155_148.out; have hnc18 := NB148_155.out; have hcz19_0 : w17.cell? ⟨gb155, 0, none⟩ = some (.int .i64 0) := (blk_cell BK155.out 0).trans rfl; have hcz19_1 : w17.cell? ⟨gb155, 1, none⟩ = some (.string (⟨#[]⟩ : ByteArray)) := (blk_cell BK155.out 1).trans rfl; have hcz19_2 : w17.cell? ⟨gb155, 2, none⟩ = some (.int .i64 0) := (blk_cell BK155.out 2).trans rfl; have hfz19_0 := blk_frozen BK155.out 0; have hfz19_1 := blk_frozen BK155.out 1; have hfz19_2 := blk_frozen BK155.out 2; have hcz20_0 : w17.cell? ⟨gb148, 0, none⟩ = some (.int .i64 ((rd_T27 l0 x9_1).f0)) := (blk_cell BK148.out 0).trans rfl; have hcz20_1 : w17.cell? ⟨gb148, 1, none⟩ = some (.string ((rd_T27 l0 x9_1).f1)) := (blk_cell BK148.out 1).trans rfl; have hcz20_2 : w17.cell? ⟨gb148, 2, none⟩ = some (.int .i64 ((rd_T27 l0 x9_1).f2)) := (blk_cell BK148.out 2).trans rfl; have hfz20_0 := blk_frozen BK148.out 0; have hfz20_1 := blk_frozen BK148.out 1; have hfz20_2 := blk_frozen BK148.out 2))
                            go_ret
                            exact ⟨by first | rfl | (simp [errW_none, errW_some] <;> rfl) | (simp [*, errW_none, errW_some] <;> rfl), by repeat (first | (with_reducible first | exact HB.out | apply below_alloc | apply pw_below_drewN | apply below_drew1 | refine below_set ?_ GE148.out | refine below_set ?_ GE155.out) | exact HB.out)⟩
                          · rw [if_neg c16] at H
                            have c16b0 : decide (((rd_T27 l0 x9_1).f0) < ((rd_T27 y150 x21_2).f0)) = false := decide_eq_false c16
                            clear c16
                            by_cases c21 : ((rd_T27 y150 x21_2).f0) = ((rd_T27 l0 x9_1).f0)
                            · rw [if_pos c21] at H
                              have c21b0 : (((rd_T27 y150 x21_2).f0) == ((rd_T27 l0 x9_1).f0)) = true := beq_iff_eq.mpr c21
                              have c21b1 : (((rd_T27 y150 x21_2).f0) != ((rd_T27 l0 x9_1).f0)) = false := bne_eq_false_iff_eq.mpr c21
                              clear c21
                              by_cases c22 : ((Op.bytesLess (((rd_T27 y150 x21_2).f1).toList) ((rd_T27 l0 x9_1).f1).toList) = true)
                              · rw [if_pos c22] at H
                                have c22b0 : (Op.bytesLess (((rd_T27 y150 x21_2).f1).toList) ((rd_T27 l0 x9_1).f1).toList) = true := c22
                                clear c22
                                have H' := Aside0.mk H
                                clear H
                                have p154 : 0 ≤ (x21_2 : Int) := of_decide_eq_true (by first | (with_reducible assumption) | assumption)
                                have q154 : x21_2 < (y150.length : Int) := of_decide_eq_true (by first | (with_reducible assumption) | assumption)
                                obtain ⟨ad154, e154, hx154_0, hx154_1, hx154_2⟩ := at_T27 HR153.out x21_2 p154 q154
                                obtain rfl : ad147 = ad154 := (by injection e154)
                                replace hx154_0 := (HB.out.cell (World.block_lt_of_cell? w _ hx154_0)).trans hx154_0
                                replace hx154_1 := (HB.out.cell (World.block_lt_of_cell? w _ hx154_1)).trans hx154_1
                                replace hx154_2 := (HB.out.cell (World.block_lt_of_cell? w _ hx154_2)).trans hx154_2
                                replace p154 := eq_true p154
                                replace q154 := eq_true q154
                                go_wp2_with (first | ((with_reducible refine gate_dst (N := 6) rfl ?_); refine box_event ?hg (N := 6) ?hd (cs := #[.int .i64 0, .string (⟨#[]⟩ : ByteArray), .int .i64 0]) (t := 27) ?hr ?_; (case hd => rfl); (case hg => rfl); (case hr => first | (go_simp; done) | (go_simp; rfl)); intro gb155 hg w23 hbox hb; have n0_ := Aside0.mk (blk_below (g := gb148) (o := .cells #[.int .i64 ((rd_T27 l0 x9_1).f0), .string ((rd_T27 l0 x9_1).f1), .int .i64 ((rd_T27 l0 x9_1).f2)] 27 (0, 0)) (by (with_reducible repeat (first | refine blk_drewN ?_ _ | refine blk_drew ?_ | refine blk_alloc ?_ _)); exact BK148.out) hb); have n1_ := Aside0.mk (below_step (by repeat (first | (with_reducible first | exact HB.out | apply below_alloc | apply pw_below_drewN | apply below_drew1 | refine below_set ?_ GE148.out) | exact HB.out)) hb); have n2_ := Aside0.mk (hbox); have n3_ := Aside0.mk ((by rw [hg]; exact (below_size (by repeat (first | (with_reducible first | exact HB.out | apply below_alloc | apply pw_below_drewN | apply below_drew1 | refine below_set ?_ GE148.out) | exact HB.out))) : w.heap.size ≤ gb155)); have n4_ := Aside0.mk ((by rw [hg]; exact (below_size (by repeat (first | (with_reducible first | exact HB.out | apply below_alloc | apply pw_below_drewN | apply below_drew1 | refine below_set ?_ GE148.out) | exact HB.out))) : w.heap.size ≤ gb155)); have n5_ := Aside0.mk ((by rw [hg]; exact Nat.ne_of_lt (blk_lt (g := gb148) (o := .cells #[.int .i64 ((rd_T27 l0 x9_1).f0), .string ((rd_T27 l0 x9_1).f1), .int .i64 ((rd_T27 l0 x9_1).f2)] 27 (0, 0)) (by (with_reducible repeat (first | refine blk_drewN ?_ _ | refine blk_drew ?_ | refine blk_alloc ?_ _)); exact BK148.out)) : gb148 ≠ gb155)); have n6_ := Aside0.mk ((by rw [hg]; exact Nat.ne_of_gt (blk_lt (g := gb148) (o := .cells #[.int .i64 ((rd_T27 l0 x9_1).f0), .string ((rd_T27 l0 x9_1).f1), .int .i64 ((rd_T27 l0 x9_1).f2)] 27 (0, 0)) (by (with_reducible repeat (first | refine blk_drewN ?_ _ | refine blk_drew ?_ | refine blk_alloc ?_ _)); exact BK148.out)) : gb155 ≠ gb148)); clear BK148; clear HB; have BK148 := n0_; have HB := n1_; have BK155 := n2_; have GW155 := n3_; have GE155 := n4_; have NB148_155 := n5_; have NB155_148 := n6_; clear n0_ n1_ n2_ n3_ n4_ n5_ n6_; clear hb hbox hg; have hnb24 := NB155_148.out; have hnc24 := NB148_155.out; have hcz25_0 : w23.cell? ⟨gb155, 0, none⟩ = some (.int .i64 0) := (blk_cell BK155.out 0).trans rfl; have hcz25_1 : w23.cell? ⟨gb155, 1, none⟩ = some (.string (⟨#[]⟩ : ByteArray)) := (blk_cell BK155.out 1).trans rfl; have hcz25_2 : w23.cell? ⟨gb155, 2, none⟩ = some (.int .i64 0) := (blk_cell BK155.out 2).trans rfl; have hfz25_0 := blk_frozen BK155.out 0; have hfz25_1 := blk_frozen BK155.out 1; have hfz25_2 := blk_frozen BK155.out 2; have hcz26_0 : w23.cell? ⟨gb148, 0, none⟩ = some (.int .i64 ((rd_T27 l0 x9_1).f0)) := (blk_cell BK148.out 0).trans rfl; have hcz26_1 : w23.cell? ⟨gb148, 1, none⟩ = some (.string ((rd_T27 l0 x9_1).f1)) := (blk_cell BK148.out 1).trans rfl; have hcz26_2 : w23.cell? ⟨gb148, 2, none⟩ = some (.int .i64 ((rd_T27 l0 x9_1).f2)) := (blk_cell BK148.out 2).trans rfl; have hfz26_0 := blk_frozen BK148.out 0; have hfz26_1 := blk_frozen BK148.out 1; have hfz26_2 := blk_frozen BK148.out 2))
                                go_roundg k2
                                case measure => have := HK1.out; have := HK2.out; omega
                                case rel => exact ⟨(wrap64 (x21_2 + 1)), (by first | rfl | (simp; done) | (simp [*]; done)), H', ⟨by have := HK1.out; have := HK2.out; omega⟩, ⟨by (with_reducible repeat (first | refine blk_drewN ?_ _ | refine blk_drew ?_ | refine blk_alloc ?_ _)); refine blk_far ?_ NB148_155.out _; (with_reducible repeat (first | refine blk_drewN ?_ _ | refine blk_drew ?_ | refine blk_alloc ?_ _)); refine blk_far ?_ NB148_155.out _; (with_reducible repeat (first | refine blk_drewN ?_ _ | refine blk_drew ?_ | refine blk_alloc ?_ _)); refine blk_far ?_ NB148_155.out _; (with_reducible repeat (first | refine blk_drewN ?_ _ | refine blk_drew ?_ | refine blk_alloc ?_ _)); exact BK148.out⟩, ⟨by repeat (first | (with_reducible first | exact HB.out | apply below_alloc | apply pw_below_drewN | apply below_drew1 | refine below_set ?_ GE148.out | refine below_set ?_ GE155.out) | exact HB.out)⟩⟩
                              · rw [if_neg c22] at H
                                have c22b0 : (Op.bytesLess (((rd_T27 y150 x21_2).f1).toList) ((rd_T27 l0 x9_1).f1).toList) = false := by simpa using c22
                                clear c22
                                obtain rfl := Option.some.inj H
                                have p154 : 0 ≤ (x21_2 : Int) := of_decide_eq_true (by first | (with_reducible assumption) | assumption)
                                have q154 : x21_2 < (y150.length : Int) := of_decide_eq_true (by first | (with_reducible assumption) | assumption)
                                obtain ⟨ad154, e154, hx154_0, hx154_1, hx154_2⟩ := at_T27 HR153.out x21_2 p154 q154
                                obtain rfl : ad147 = ad154 := (by injection e154)
                                replace hx154_0 := (HB.out.cell (World.block_lt_of_cell? w _ hx154_0)).trans hx154_0
                                replace hx154_1 := (HB.out.cell (World.block_lt_of_cell? w _ hx154_1)).trans hx154_1
                                replace hx154_2 := (HB.out.cell (World.block_lt_of_cell? w _ hx154_2)).trans hx154_2
                                replace p154 := eq_true p154
                                replace q154 := eq_true q154
                                go_wp2_with (first | ((with_reducible refine gate_dst (N := 6) rfl ?_); refine box_event ?hg (N := 6) ?hd (cs := #[.int .i64 0, .string (⟨#[]⟩ : ByteArray), .int .i64 0]) (t := 27) ?hr ?_; (case hd => rfl); (case hg => rfl); (case hr => first | (go_simp; done) | (go_simp; rfl)); intro gb155 hg w27 hbox hb; have n0_ := Aside0.mk (blk_below (g := gb148) (o := .cells #[.int .i64 ((rd_T27 l0 x9_1).f0), .string ((rd_T27 l0 x9_1).f1), .int .i64 ((rd_T27 l0 x9_1).f2)] 27 (0, 0)) (by (with_reducible repeat (first | refine blk_drewN ?_ _ | refine blk_drew ?_ | refine blk_alloc ?_ _)); exact BK148.out) hb); have n1_ := Aside0.mk (below_step (by repeat (first | (with_reducible first | exact HB.out | apply below_alloc | apply pw_below_drewN | apply below_drew1 | refine below_set ?_ GE148.out) | exact HB.out)) hb); have n2_ := Aside0.mk (hbox); have n3_ := Aside0.mk ((by rw [hg]; exact (below_size (by repeat (first | (with_reducible first | exact HB.out | apply below_alloc | apply pw_below_drewN | apply below_drew1 | refine below_set ?_ GE148.out) | exact HB.out))) : w.heap.size ≤ gb155)); have n4_ := Aside0.mk ((by rw [hg]; exact (below_size (by repeat (first | (with_reducible first | exact HB.out | apply below_alloc | apply pw_below_drewN | apply below_drew1 | refine below_set ?_ GE148.out) | exact HB.out))) : w.heap.size ≤ gb155)); have n5_ := Aside0.mk ((by rw [hg]; exact Nat.ne_of_lt (blk_lt (g := gb148) (o := .cells #[.int .i64 ((rd_T27 l0 x9_1).f0), .string ((rd_T27 l0 x9_1).f1), .int .i64 ((rd_T27 l0 x9_1).f2)] 27 (0, 0)) (by (with_reducible repeat (first | refine blk_drewN ?_ _ | refine blk_drew ?_ | refine blk_alloc ?_ _)); exact BK148.out)) : gb148 ≠ gb155)); have n6_ := Aside0.mk ((by rw [hg]; exact Nat.ne_of_gt (blk_lt (g := gb148) (o := .cells #[.int .i64 ((rd_T27 l0 x9_1).f0), .string ((rd_T27 l0 x9_1).f1), .int .i64 ((rd_T27 l0 x9_1).f2)] 27 (0, 0)) (by (with_reducible repeat (first | refine blk_drewN ?_ _ | refine blk_drew ?_ | refine blk_alloc ?_ _)); exact BK148.out)) : gb155 ≠ gb148)); clear BK148; clear HB; have BK148 := n0_; have HB := n1_; have BK155 := n2_; have GW155 := n3_; have GE155 := n4_; have NB148_155 := n5_; have NB155_148 := n6_; clear n0_ n1_ n2_ n3_ n4_ n5_ n6_; clear hb hbox hg; have hnb28 := NB155_148.out; have hnc28 := NB148_155.out; have hcz29_0 : w27.cell? ⟨gb155, 0, none⟩ = some (.int .i64 0) := (blk_cell BK155.out 0).trans rfl; have hcz29_1 : w27.cell? ⟨gb155, 1, none⟩ = some (.string (⟨#[]⟩ : ByteArray)) := (blk_cell BK155.out 1).trans rfl; have hcz29_2 : w27.cell? ⟨gb155, 2, none⟩ = some (.int .i64 0) := (blk_cell BK155.out 2).trans rfl; have hfz29_0 := blk_frozen BK155.out 0; have hfz29_1 := blk_frozen BK155.out 1; have hfz29_2 := blk_frozen BK155.out 2; have hcz30_0 : w27.cell? ⟨gb148, 0, none⟩ = some (.int .i64 ((rd_T27 l0 x9_1).f0)) := (blk_cell BK148.out 0).trans rfl; have hcz30_1 : w27.cell? ⟨gb148, 1, none⟩ = some (.string ((rd_T27 l0 x9_1).f1)) := (blk_cell BK148.out 1).trans rfl; have hcz30_2 : w27.cell? ⟨gb148, 2, none⟩ = some (.int .i64 ((rd_T27 l0 x9_1).f2)) := (blk_cell BK148.out 2).trans rfl; have hfz30_0 := blk_frozen BK148.out 0; have hfz30_1 := blk_frozen BK148.out 1; have hfz30_2 := blk_frozen BK148.out 2))
                                go_ret
                                exact ⟨by first | rfl | (simp [errW_none, errW_some] <;> rfl) | (simp [*, errW_none, errW_some] <;> rfl), by repeat (first | (with_reducible first | exact HB.out | apply below_alloc | apply pw_below_drewN | apply below_drew1 | refine below_set ?_ GE148.out | refine below_set ?_ GE155.out) | exact HB.out)⟩
                            · rw [if_neg c21] at H
                              have c21b0 : (((rd_T27 y150 x21_2).f0) == ((rd_T27 l0 x9_1).f0)) = false := beq_eq_false_iff_ne.mpr c21
                              have c21b1 : (((rd_T27 y150 x21_2).f0) != ((rd_T27 l0 x9_1).f0)) = true := bne_iff_ne.mpr c21
                              have H' := Aside0.mk H
                              clear H
                              have p154 : 0 ≤ (x21_2 : Int) := of_decide_eq_true (by first | (with_reducible assumption) | assumption)
                              have q154 : x21_2 < (y150.length : Int) := of_decide_eq_true (by first | (with_reducible assumption) | assumption)
                              obtain ⟨ad154, e154, hx154_0, hx154_1, hx154_2⟩ := at_T27 HR153.out x21_2 p154 q154
                              obtain rfl : ad147 = ad154 := (by injection e154)
                              replace hx154_0 := (HB.out.cell (World.block_lt_of_cell? w _ hx154_0)).trans hx154_0
                              replace hx154_1 := (HB.out.cell (World.block_lt_of_cell? w _ hx154_1)).trans hx154_1
                              replace hx154_2 := (HB.out.cell (World.block_lt_of_cell? w _ hx154_2)).trans hx154_2
                              replace p154 := eq_true p154
                              replace q154 := eq_true q154
                              go_wp2_with (first | ((with_reducible refine gate_dst (N := 6) rfl ?_); refine box_event ?hg (N := 6) ?hd (cs := #[.int .i64 0, .string (⟨#[]⟩ : ByteArray), .int .i64 0]) (t := 27) ?hr ?_; (case hd => rfl); (case hg => rfl); (case hr => first | (go_simp; done) | (go_simp; rfl)); intro gb155 hg w31 hbox hb; have n0_ := Aside0.mk (blk_below (g := gb148) (o := .cells #[.int .i64 ((rd_T27 l0 x9_1).f0), .string ((rd_T27 l0 x9_1).f1), .int .i64 ((rd_T27 l0 x9_1).f2)] 27 (0, 0)) (by (with_reducible repeat (first | refine blk_drewN ?_ _ | refine blk_drew ?_ | refine blk_alloc ?_ _)); exact BK148.out) hb); have n1_ := Aside0.mk (below_step (by repeat (first | (with_reducible first | exact HB.out | apply below_alloc | apply pw_below_drewN | apply below_drew1 | refine below_set ?_ GE148.out) | exact HB.out)) hb); have n2_ := Aside0.mk (hbox); have n3_ := Aside0.mk ((by rw [hg]; exact (below_size (by repeat (first | (with_reducible first | exact HB.out | apply below_alloc | apply pw_below_drewN | apply below_drew1 | refine below_set ?_ GE148.out) | exact HB.out))) : w.heap.size ≤ gb155)); have n4_ := Aside0.mk ((by rw [hg]; exact (below_size (by repeat (first | (with_reducible first | exact HB.out | apply below_alloc | apply pw_below_drewN | apply below_drew1 | refine below_set ?_ GE148.out) | exact HB.out))) : w.heap.size ≤ gb155)); have n5_ := Aside0.mk ((by rw [hg]; exact Nat.ne_of_lt (blk_lt (g := gb148) (o := .cells #[.int .i64 ((rd_T27 l0 x9_1).f0), .string ((rd_T27 l0 x9_1).f1), .int .i64 ((rd_T27 l0 x9_1).f2)] 27 (0, 0)) (by (with_reducible repeat (first | refine blk_drewN ?_ _ | refine blk_drew ?_ | refine blk_alloc ?_ _)); exact BK148.out)) : gb148 ≠ gb155)); have n6_ := Aside0.mk ((by rw [hg]; exact Nat.ne_of_gt (blk_lt (g := gb148) (o := .cells #[.int .i64 ((rd_T27 l0 x9_1).f0), .string ((rd_T27 l0 x9_1).f1), .int .i64 ((rd_T27 l0 x9_1).f2)] 27 (0, 0)) (by (with_reducible repeat (first | refine blk_drewN ?_ _ | refine blk_drew ?_ | refine blk_alloc ?_ _)); exact BK148.out)) : gb155 ≠ gb148)); clear BK148; clear HB; have BK148 := n0_; have HB := n1_; have BK155 := n2_; have GW155 := n3_; have GE155 := n4_; have NB148_155 := n5_; have NB155_148 := n6_; clear n0_ n1_ n2_ n3_ n4_ n5_ n6_; clear hb hbox hg; have hnb32 := NB155_148.out; have hnc32 := NB148_155.out; have hcz33_0 : w31.cell? ⟨gb155, 0, none⟩ = some (.int .i64 0) := (blk_cell BK155.out 0).trans rfl; have hcz33_1 : w31.cell? ⟨gb155, 1, none⟩ = some (.string (⟨#[]⟩ : ByteArray)) := (blk_cell BK155.out 1).trans rfl; have hcz33_2 : w31.cell? ⟨gb155, 2, none⟩ = some (.int .i64 0) := (blk_cell BK155.out 2).trans rfl; have hfz33_0 := blk_frozen BK155.out 0; have hfz33_1 := blk_frozen BK155.out 1; have hfz33_2 := blk_frozen BK155.out 2; have hcz34_0 : w31.cell? ⟨gb148, 0, none⟩ = some (.int .i64 ((rd_T27 l0 x9_1).f0)) := (blk_cell BK148.out 0).trans rfl; have hcz34_1 : w31.cell? ⟨gb148, 1, none⟩ = some (.string ((rd_T27 l0 x9_1).f1)) := (blk_cell BK148.out 1).trans rfl; have hcz34_2 : w31.cell? ⟨gb148, 2, none⟩ = some (.int .i64 ((rd_T27 l0 x9_1).f2)) := (blk_cell BK148.out 2).trans rfl; have hfz34_0 := blk_frozen BK148.out 0; have hfz34_1 := blk_frozen BK148.out 1; have hfz34_2 := blk_frozen BK148.out 2))
                              go_roundg k2
                              case measure => have := HK1.out; have := HK2.out; omega
                              case rel => exact ⟨(wrap64 (x21_2 + 1)), (by first | rfl | (simp; done) | (simp [*]; done)), H', ⟨by have := HK1.out; have := HK2.out; omega⟩, ⟨by (with_reducible repeat (first | refine blk_drewN ?_ _ | refine blk_drew ?_ | refine blk_alloc ?_ _)); refine blk_far ?_ NB148_155.out _; (with_reducible repeat (first | refine blk_drewN ?_ _ | refine blk_drew ?_ | refine blk_alloc ?_ _)); refine blk_far ?_ NB148_155.out _; (with_reducible repeat (first | refine blk_drewN ?_ _ | refine blk_drew ?_ | refine blk_alloc ?_ _)); refine blk_far ?_ NB148_155.out _; (with_reducible repeat (first | refine blk_drewN ?_ _ | refine blk_drew ?_ | refine blk_alloc ?_ _)); exact BK148.out⟩, ⟨by repeat (first | (with_reducible first | exact HB.out | apply below_alloc | apply pw_below_drewN | apply below_drew1 | refine below_set ?_ GE148.out | refine below_set ?_ GE155.out) | exact HB.out)⟩⟩
                        · rw [if_neg c15] at H
                          exact absurd H (by simp)
                      · rw [if_neg c14] at H
                        exact absurd H (by simp)
                    · rw [if_neg c13] at H
                      have c13b0 : decide (x21_2 < (y150.length : Int)) = false := decide_eq_false c13
                      clear c13
                      have H' := Aside0.mk H
                      clear H
                      go_wp2
                      go_roundg k2
                      case measure => have := HK1.out; have := HK2.out; omega
                      case rel => exact ⟨(wrap64 (x9_1 + 1)), (by first | rfl | (simp; done) | (simp [*]; done)), H', ⟨by have := HK1.out; have := HK2.out; omega⟩, ⟨by repeat (first | (with_reducible first | exact HB.out | apply below_alloc | apply pw_below_drewN | apply below_drew1 | refine below_set ?_ GE148.out) | exact HB.out)⟩⟩
              · rw [if_neg c8] at H
                exact absurd H (by simp)
            · replace c6 := Bool.eq_false_iff.mpr c6
              subst c6
              have H1 : (some false) = some r := by rw [if_neg (show ¬ (false = true) by decide)] at H; exact H
              clear H
              have H := H1
              clear H1
              obtain rfl := Option.some.inj H
              have p147 : 0 ≤ (x9_1 : Int) := of_decide_eq_true (by first | (with_reducible assumption) | assumption)
              have q147 : x9_1 < (l0.length : Int) := of_decide_eq_true (by first | (with_reducible assumption) | assumption)
              obtain ⟨ad147, e147, hx147_0, hx147_1, hx147_2⟩ := at_T27 HR0.out x9_1 p147 q147
              cases e147
              replace hx147_0 := (HB.out.cell (World.block_lt_of_cell? w _ hx147_0)).trans hx147_0
              replace hx147_1 := (HB.out.cell (World.block_lt_of_cell? w _ hx147_1)).trans hx147_1
              replace hx147_2 := (HB.out.cell (World.block_lt_of_cell? w _ hx147_2)).trans hx147_2
              replace p147 := eq_true p147
              replace q147 := eq_true q147
              go_wp2_with (first | ((with_reducible refine gate_dst (N := 4) rfl ?_); refine box_event ?hg (N := 4) ?hd (cs := #[.int .i64 0, .string (⟨#[]⟩ : ByteArray), .int .i64 0]) (t := 27) ?hr ?_; (case hd => rfl); (case hg => rfl); (case hr => first | (go_simp; done) | (go_simp; rfl)); intro gb148 hg w35 hbox hb; have n0_ := Aside0.mk (below_step (by repeat (first | (with_reducible first | exact HB.out | apply below_alloc | apply pw_below_drewN | apply below_drew1) | exact HB.out)) hb); have n1_ := Aside0.mk (hbox); have n2_ := Aside0.mk ((by rw [hg]; exact (below_size (by repeat (first | (with_reducible first | exact HB.out | apply below_alloc | apply pw_below_drewN | apply below_drew1) | exact HB.out))) : w.heap.size ≤ gb148)); have n3_ := Aside0.mk ((by rw [hg]; exact (below_size (by repeat (first | (with_reducible first | exact HB.out | apply below_alloc | apply pw_below_drewN | apply below_drew1) | exact HB.out))) : w.heap.size ≤ gb148)); clear HB; have HB := n0_; have BK148 := n1_; have GW148 := n2_; have GE148 := n3_; clear n0_ n1_ n2_ n3_; clear hb hbox hg; have hcz36_0 : w35.cell? ⟨gb148, 0, none⟩ = some (.int .i64 0) := (blk_cell BK148.out 0).trans rfl; have hcz36_1 : w35.cell? ⟨gb148, 1, none⟩ = some (.string (⟨#[]⟩ : ByteArray)) := (blk_cell BK148.out 1).trans rfl; have hcz36_2 : w35.cell? ⟨gb148, 2, none⟩ = some (.int .i64 0) := (blk_cell BK148.out 2).trans rfl; have hfz36_0 := blk_frozen BK148.out 0; have hfz36_1 := blk_frozen BK148.out 1; have hfz36_2 := blk_frozen BK148.out 2) | ((with_reducible refine gate_callee (f := 17) rfl ?_); refine goesL_ (some 15) rfl rfl Tryd.func17 (by kernel_rfl) rfl #[.agg #[.int .i64 ((rd_T27 l0 x9_1).f0), .string ((rd_T27 l0 x9_1).f1), .int .i64 ((rd_T27 l0 x9_1).f2)]] rfl (by (try simp only [List.map_toArray, List.map_cons, List.map_nil]); first | done | rfl | (simp only [List.length_drop, List.length_take]; rfl)) ?_; (with_reducible refine (mortmainref10_Good.calls k1 ((rd_T27 l0 x9_1).f0) ((rd_T27 l0 x9_1).f1) ((rd_T27 l0 x9_1).f2) false _ A5.out).mono ?_); rintro e w37 ⟨rfl, hb⟩; refine ⟨_, rfl, ?_⟩; have n0_ := Aside0.mk (blk_below (g := gb148) (o := .cells #[.int .i64 ((rd_T27 l0 x9_1).f0), .string ((rd_T27 l0 x9_1).f1), .int .i64 ((rd_T27 l0 x9_1).f2)] 27 (0, 0)) (by (with_reducible repeat (first | refine blk_drewN ?_ _ | refine blk_drew ?_ | refine blk_alloc ?_ _)); refine blk_put (cs := #[.int .i64 ((rd_T27 l0 x9_1).f0), .string ((rd_T27 l0 x9_1).f1), .int .i64 0]) ?_ 2 _ rfl; (with_reducible repeat (first | refine blk_drewN ?_ _ | refine blk_drew ?_ | refine blk_alloc ?_ _)); refine blk_put (cs := #[.int .i64 ((rd_T27 l0 x9_1).f0), .string (⟨#[]⟩ : ByteArray), .int .i64 0]) ?_ 1 _ rfl; (with_reducible repeat (first | refine blk_drewN ?_ _ | refine blk_drew ?_ | refine blk_alloc ?_ _)); refine blk_put (cs := #[.int .i64 0, .string (⟨#[]⟩ : ByteArray), .int .i64 0]) ?_ 0 _ rfl; (with_reducible repeat (first | refine blk_drewN ?_ _ | refine blk_drew ?_ | refine blk_alloc ?_ _)); exact BK148.out) hb); have n1_ := Aside0.mk (below_step (by repeat (first | (with_reducible first | exact HB.out | apply below_alloc | apply pw_below_drewN | apply below_drew1 | refine below_set ?_ GE148.out) | exact HB.out)) hb); clear BK148; clear HB; have BK148 := n0_; have HB := n1_; clear n0_ n1_; (try clear hb); (try clear hb2); (try clear hk); (try clear hi)))
              go_ret
              exact ⟨by first | rfl | (simp [errW_none, errW_some] <;> rfl) | (simp [*, errW_none, errW_some] <;> rfl), by repeat (first | (with_reducible first | exact HB.out | apply below_alloc | apply pw_below_drewN | apply below_drew1 | refine below_set ?_ GE148.out) | exact HB.out)⟩
          · rw [if_neg c4] at H
            exact absurd H (by simp)
        · rw [if_neg c3] at H
          exact absurd H (by simp)
      · rw [if_neg c2] at H
        have c2b0 : decide (x9_1 < (l0.length : Int)) = false := decide_eq_false c2
        clear c2
        obtain rfl := Option.some.inj H
        go_wp2
        go_ret
        exact ⟨by first | rfl | (simp [errW_none, errW_some] <;> rfl) | (simp [*, errW_none, errW_some] <;> rfl), by repeat (first | (with_reducible first | exact HB.out | apply below_alloc | apply pw_below_drewN | apply below_drew1) | exact HB.out)⟩

end Go.Proofs.YtefdfgmlmjnmlaaDoor.Rf
end

section
set_option linter.unusedVariables false
set_option linter.unusedSimpArgs false
/- What the kit's print.py wrote of one Go function of this seat's translation (run by a program of this session, one function a text): the function as a plain Lean function, and that the call computes it. -/
namespace Go.Proofs.YtefdfgmlmjnmlaaDoor.Rf
open Go.RowKit Go.Proofs.YtefdfgmlmjnmlaaDoorW.PrintWords Go.Proofs.YtefdfgmlmjnmlaaDoorW.PrintLast Go.Proofs.YtefdfgmlmjnmlaaDoorW.PrintMore
attribute [local go_sem] max2_int min2_int max_two min_two max_three min_three max_four min_four   -- for this text's walks alone

/-! ### mortmainref10_May: function 22 -/
mutual
def mortmainref10_May.j0 : Nat → Int → ByteArray → Int → Bool → Int → List (S45) → List (S27) → Option (Bool)
  | 0, _, _, _, _, _, _, _ => none
  | k + 1, x1, x2, x3, x22, x167000, x167001, x167002 => if x22 = true then (some false) else (mortmainref10_May.l0 k x1 x2 x3 x167002 (x167002.length : Int) 0 x167000 x167001 x167002)
def mortmainref10_May.l0 : Nat → Int → ByteArray → Int → List (S27) → Int → Int → Int → List (S45) → List (S27) → Option (Bool)
  | 0, _, _, _, _, _, _, _, _, _ => none
  | k + 1, x1, x2, x3, x24, x25, x26, x167000, x167001, x167002 => if x26 < x25 then (if 0 ≤ x26 then (if x26 < (x24.length : Int) then (if ((rd_T27 x24 x26).f0) = x1 then (if ((rd_T27 x24 x26).f1).toList = x2.toList then (if (Go.bits .and .i64 ((rd_T27 x24 x26).f2) x3) = x3 then (some true) else (mortmainref10_May.l0 k x1 x2 x3 x24 x25 (wrap64 (x26 + 1)) x167000 x167001 x167002)) else (mortmainref10_May.l0 k x1 x2 x3 x24 x25 (wrap64 (x26 + 1)) x167000 x167001 x167002)) else (mortmainref10_May.l0 k x1 x2 x3 x24 x25 (wrap64 (x26 + 1)) x167000 x167001 x167002)) else (none)) else (none)) else ((mortmainref10_Owns.f k x167000 x167001 x167002 x1 x2).bind fun t170 => (some t170))
end
def mortmainref10_May.f (k : Nat) (a0_0 : Int) (l0_1 : List (S45)) (l0_2 : List (S27)) (a1 : Int) (a2 : ByteArray) (a3 : Int) : Option (Bool) := (mortmainref09_Find.f k a0_0 l0_1 l0_2 a2).bind fun t167 => (if t167 < 0 then (mortmainref10_May.j0 k a1 a2 a3 true a0_0 l0_1 l0_2) else (if a1 < 0 then (mortmainref10_May.j0 k a1 a2 a3 true a0_0 l0_1 l0_2) else (mortmainref10_May.j0 k a1 a2 a3 (decide (a1 > 7)) a0_0 l0_1 l0_2)))
theorem mortmainref10_May.mono_l : ∀ k, (∀ y0 y1 y2 y3 y4 y5 y6, LeO (mortmainref10_May.j0 k y0 y1 y2 y3 y4 y5 y6) (mortmainref10_May.j0 (k + 1) y0 y1 y2 y3 y4 y5 y6)) ∧ (∀ y0 y1 y2 y3 y4 y5 y6 y7 y8, LeO (mortmainref10_May.l0 k y0 y1 y2 y3 y4 y5 y6 y7 y8) (mortmainref10_May.l0 (k + 1) y0 y1 y2 y3 y4 y5 y6 y7 y8))
  | 0 => ⟨fun _ _ _ _ _ _ _ r h => by simp [mortmainref10_May.j0] at h, fun _ _ _ _ _ _ _ _ _ r h => by simp [mortmainref10_May.l0] at h⟩
  | k + 1 => by
    obtain ⟨ih0, ih1⟩ := mortmainref10_May.mono_l k
    refine ⟨?_, ?_⟩
    · intro y0 y1 y2 y3 y4 y5 y6
      unfold mortmainref10_May.j0
      repeat' first
      | (with_reducible exact ih0 _ _ _ _ _ _ _)
      | (with_reducible exact ih1 _ _ _ _ _ _ _ _ _)
      | (with_reducible exact mortmainref09_Find.mono _ _ _ _ _)
      | (with_reducible exact mortmainref10_Owns.mono _ _ _ _ _ _)
      | (with_reducible exact LeO.refl _)
      | (with_reducible exact LeO.none _)
      | (with_reducible refine LeO.ite ?_ ?_)
      | (with_reducible refine LeO.bind ?_ (fun _ => ?_))
      | exact ih0 _ _ _ _ _ _ _
      | exact ih1 _ _ _ _ _ _ _ _ _
      | exact mortmainref09_Find.mono _ _ _ _ _
      | exact mortmainref10_Owns.mono _ _ _ _ _ _
      | exact LeO.none _
      | refine LeO.ite ?_ ?_
      | refine LeO.bind ?_ (fun _ => ?_)
    · intro y0 y1 y2 y3 y4 y5 y6 y7 y8
      unfold mortmainref10_May.l0
      repeat' first
      | (with_reducible exact ih0 _ _ _ _ _ _ _)
      | (with_reducible exact ih1 _ _ _ _ _ _ _ _ _)
      | (with_reducible exact mortmainref09_Find.mono _ _ _ _ _)
      | (with_reducible exact mortmainref10_Owns.mono _ _ _ _ _ _)
      | (with_reducible exact LeO.refl _)
      | (with_reducible exact LeO.none _)
      | (with_reducible refine LeO.ite ?_ ?_)
      | (with_reducible refine LeO.bind ?_ (fun _ => ?_))
      | exact ih0 _ _ _ _ _ _ _
      | exact ih1 _ _ _ _ _ _ _ _ _
      | exact mortmainref09_Find.mono _ _ _ _ _
      | exact mortmainref10_Owns.mono _ _ _ _ _ _
      | exact LeO.none _
      | refine LeO.ite ?_ ?_
      | refine LeO.bind ?_ (fun _ => ?_)
theorem mortmainref10_May.mono : ∀ a0 a1 a2 a3 a4 a5 k, LeO (mortmainref10_May.f k a0 a1 a2 a3 a4 a5) (mortmainref10_May.f (k + 1) a0 a1 a2 a3 a4 a5) := by
  intro a0 a1 a2 a3 a4 a5 k
  obtain ⟨ih0, ih1⟩ := mortmainref10_May.mono_l k
  unfold mortmainref10_May.f
  repeat' first
      | (with_reducible exact ih0 _ _ _ _ _ _ _)
      | (with_reducible exact ih1 _ _ _ _ _ _ _ _ _)
      | (with_reducible exact mortmainref09_Find.mono _ _ _ _ _)
      | (with_reducible exact mortmainref10_Owns.mono _ _ _ _ _ _)
      | (with_reducible exact LeO.refl _)
      | (with_reducible exact LeO.none _)
      | (with_reducible refine LeO.ite ?_ ?_)
      | (with_reducible refine LeO.bind ?_ (fun _ => ?_))
      | exact ih0 _ _ _ _ _ _ _
      | exact ih1 _ _ _ _ _ _ _ _ _
      | exact mortmainref09_Find.mono _ _ _ _ _
      | exact mortmainref10_Owns.mono _ _ _ _ _ _
      | exact LeO.none _
      | refine LeO.ite ?_ ?_
      | refine LeO.bind ?_ (fun _ => ?_)
set_option maxHeartbeats 8000000 in
set_option maxRecDepth 100000 in
theorem mortmainref10_May.calls (k : Nat) (a0_0 : Int) (A0_1 : Option Addr) (c0_1 : Nat) (l0_1 : List (S45)) (A0_2 : Option Addr) (c0_2 : Nat) (l0_2 : List (S27)) (a1 : Int) (a2 : ByteArray) (a3 : Int) (r : Bool) (w : World) (hr0_1 : Kd.C k45 w A0_1 l0_1.length l0_1) (hc0_1 : l0_1.length ≤ c0_1) (hr0_2 : Kd.C k27 w A0_2 l0_2.length l0_2) (hc0_2 : l0_2.length ≤ c0_2) (h : mortmainref10_May.f k a0_0 l0_1 l0_2 a1 a2 a3 = some r) :
    Calls Tryd.prog 22 #[.agg #[.int .i64 a0_0, .slice A0_1 l0_1.length c0_1, .slice A0_2 l0_2.length c0_2], .int .i64 a1, .string a2, .int .i64 a3] w fun e w' => e = .returned (.bool r) ∧ Below w.heap.size w w' := by
  have hu25 := Tryd.underlying25
  have hu27 := Tryd.underlying27
  have HR0_1 := Aside0.mk hr0_1
  have HC0_1 := Aside0.mk hc0_1
  clear hr0_1 hc0_1
  have HR0_2 := Aside0.mk hr0_2
  have HC0_2 := Aside0.mk hc0_2
  clear hr0_2 hc0_2
  have HB := Aside0.mk (Below.refl w.heap.size w)
  have H : ((mortmainref09_Find.f k a0_0 l0_1 l0_2 a2).bind fun t167 => (if t167 < 0 then (mortmainref10_May.j0 k a1 a2 a3 true a0_0 l0_1 l0_2) else (if a1 < 0 then (mortmainref10_May.j0 k a1 a2 a3 true a0_0 l0_1 l0_2) else (mortmainref10_May.j0 k a1 a2 a3 (decide (a1 > 7)) a0_0 l0_1 l0_2)))) = some r := h
  clear h
  have HC5 := Aside0.mk H
  clear H
  go_enter Tryd.func22, Tryd.ntmps22
  go_upto_region 1 with (first | ((with_reducible refine gate_dst (N := 4) rfl ?_); refine box_event ?hg (N := 4) ?hd (cs := #[.int .i64 a0_0, .slice A0_1 l0_1.length c0_1, .slice A0_2 l0_2.length c0_2]) (t := 25) ?hr ?_; (case hd => rfl); (case hg => rfl); (case hr => first | (go_simp; done) | (go_simp; rfl)); intro gb166 hg w6 hbox hb; have n0_ := Aside0.mk (below_step (by repeat (first | (with_reducible first | exact HB.out | apply below_alloc | apply pw_below_drewN | apply below_drew1) | exact HB.out)) hb); have n1_ := Aside0.mk (hbox); have n2_ := Aside0.mk ((by rw [hg]; exact (below_size (by repeat (first | (with_reducible first | exact HB.out | apply below_alloc | apply pw_below_drewN | apply below_drew1) | exact HB.out))) : w.heap.size ≤ gb166)); have n3_ := Aside0.mk ((by rw [hg]; exact (below_size (by repeat (first | (with_reducible first | exact HB.out | apply below_alloc | apply pw_below_drewN | apply below_drew1) | exact HB.out))) : w.heap.size ≤ gb166)); clear HB; have HB := n0_; have BK166 := n1_; have GW166 := n2_; have GE166 := n3_; clear n0_ n1_ n2_ n3_; clear hb hbox hg))
  (try simp only [Act.put, List.setIfInBounds_toArray, List.set_cons_zero, List.set_cons_succ])
  go_cut [22] (fun v22 wc => ∃ (kq : Nat) (x22_4 : Bool), v22 = .bool x22_4 ∧ Aside0 (mortmainref10_May.j0 kq a1 a2 a3 x22_4 a0_0 l0_1 l0_2 = some r) ∧ Aside0 (kq ≤ k) ∧ Aside0 (wc.heap[gb166]? = some (.cells #[.int .i64 a0_0, (.slice A0_1 l0_1.length c0_1), (.slice A0_2 l0_2.length c0_2)] 25 (0, 0))) ∧ Aside0 (Below w.heap.size w wc))
  case first =>
    have H := HC5.out
    clear HC5
    replace H := Option.bind_eq_some_iff.mp H
    obtain ⟨t167, A70, H⟩ := H
    replace H : (if t167 < 0 then (mortmainref10_May.j0 k a1 a2 a3 true a0_0 l0_1 l0_2) else (if a1 < 0 then (mortmainref10_May.j0 k a1 a2 a3 true a0_0 l0_1 l0_2) else (mortmainref10_May.j0 k a1 a2 a3 (decide (a1 > 7)) a0_0 l0_1 l0_2))) = some r := H
    have A7 := Aside0.mk A70
    clear A70
    by_cases c8 : t167 < 0
    · rw [if_pos c8] at H
      have c8b0 : decide (t167 < 0) = true := decide_eq_true c8
      clear c8
      (first | rw [c8b0] | (simp only [i64_w, i32_w]; rw [c8b0]) | skip)
      have H' := Aside0.mk H
      clear H
      have hcz9_0 : w6.cell? ⟨gb166, 0, none⟩ = some (.int .i64 a0_0) := (blk_cell BK166.out 0).trans rfl
      have hcz9_1 : w6.cell? ⟨gb166, 1, none⟩ = some (.slice A0_1 l0_1.length c0_1) := (blk_cell BK166.out 1).trans rfl
      have hcz9_2 : w6.cell? ⟨gb166, 2, none⟩ = some (.slice A0_2 l0_2.length c0_2) := (blk_cell BK166.out 2).trans rfl
      have hfz9_0 := blk_frozen BK166.out 0
      have hfz9_1 := blk_frozen BK166.out 1
      have hfz9_2 := blk_frozen BK166.out 2
      go_wp2_with (first | ((with_reducible refine gate_callee (f := 30) rfl ?_); refine goesL_ (some 13) rfl rfl Tryd.func30 (by kernel_rfl) rfl #[.agg #[.int .i64 a0_0, .slice A0_1 l0_1.length c0_1, .slice A0_2 l0_2.length c0_2], .string a2] rfl (by (try simp only [List.map_toArray, List.map_cons, List.map_nil]); first | done | rfl | (simp only [List.length_drop, List.length_take]; rfl)) ?_; (with_reducible refine (mortmainref09_Find.calls k a0_0 _ _ l0_1 _ _ l0_2 a2 t167 _ ?side1 ?side2 ?side3 ?side4 A7.out).mono ?_); (case side1 => repeat (first | exact (Kd.C_below HR0_1.out HB.out) | (with_reducible refine Kd.C_alloc ?_ _) | (with_reducible refine Kd.C_drewN ?_ _) | (with_reducible refine Kd.C_drew ?_))); (case side2 => exact HC0_1.out); (case side3 => repeat (first | exact (Kd.C_below HR0_2.out HB.out) | (with_reducible refine Kd.C_alloc ?_ _) | (with_reducible refine Kd.C_drewN ?_ _) | (with_reducible refine Kd.C_drew ?_))); (case side4 => exact HC0_2.out); rintro e w10 ⟨rfl, hb⟩; refine ⟨_, rfl, ?_⟩; have n0_ := Aside0.mk (blk_below (g := gb166) (o := .cells #[.int .i64 a0_0, .slice A0_1 l0_1.length c0_1, .slice A0_2 l0_2.length c0_2] 25 (0, 0)) (by (with_reducible repeat (first | refine blk_drewN ?_ _ | refine blk_drew ?_ | refine blk_alloc ?_ _)); exact BK166.out) hb); have n1_ := Aside0.mk (below_step (by repeat (first | (with_reducible first | exact HB.out | apply below_alloc | apply pw_below_drewN | apply below_drew1 | refine below_set ?_ GE166.out) | exact HB.out)) hb); clear BK166; clear HB; have BK166 := n0_; have HB := n1_; clear n0_ n1_; (try clear hb); (try clear hb2); (try clear hk); (try clear hi)))
      go_meet
      case rel => exact ⟨_, (true), (by first | rfl | (simp; done) | (simp [*]; done)), H', ⟨by first | omega | exact Nat.le_refl _⟩, ⟨by (with_reducible repeat (first | refine blk_drewN ?_ _ | refine blk_drew ?_ | refine blk_alloc ?_ _)); exact BK166.out⟩, ⟨by repeat (first | (with_reducible first | exact HB.out | apply below_alloc | apply pw_below_drewN | apply below_drew1 | refine below_set ?_ GE166.out) | exact HB.out)⟩⟩
    · rw [if_neg c8] at H
      have c8b0 : decide (t167 < 0) = false := decide_eq_false c8
      clear c8
      (first | rw [c8b0] | (simp only [i64_w, i32_w]; rw [c8b0]) | skip)
      by_cases c11 : a1 < 0
      · rw [if_pos c11] at H
        have c11b0 : decide (a1 < 0) = true := decide_eq_true c11
        clear c11
        have H' := Aside0.mk H
        clear H
        have hcz12_0 : w6.cell? ⟨gb166, 0, none⟩ = some (.int .i64 a0_0) := (blk_cell BK166.out 0).trans rfl
        have hcz12_1 : w6.cell? ⟨gb166, 1, none⟩ = some (.slice A0_1 l0_1.length c0_1) := (blk_cell BK166.out 1).trans rfl
        have hcz12_2 : w6.cell? ⟨gb166, 2, none⟩ = some (.slice A0_2 l0_2.length c0_2) := (blk_cell BK166.out 2).trans rfl
        have hfz12_0 := blk_frozen BK166.out 0
        have hfz12_1 := blk_frozen BK166.out 1
        have hfz12_2 := blk_frozen BK166.out 2
        go_wp2_with (first | ((with_reducible refine gate_callee (f := 30) rfl ?_); refine goesL_ (some 13) rfl rfl Tryd.func30 (by kernel_rfl) rfl #[.agg #[.int .i64 a0_0, .slice A0_1 l0_1.length c0_1, .slice A0_2 l0_2.length c0_2], .string a2] rfl (by (try simp only [List.map_toArray, List.map_cons, List.map_nil]); first | done | rfl | (simp only [List.length_drop, List.length_take]; rfl)) ?_; (with_reducible refine (mortmainref09_Find.calls k a0_0 _ _ l0_1 _ _ l0_2 a2 t167 _ ?side1 ?side2 ?side3 ?side4 A7.out).mono ?_); (case side1 => repeat (first | exact (Kd.C_below HR0_1.out HB.out) | (with_reducible refine Kd.C_alloc ?_ _) | (with_reducible refine Kd.C_drewN ?_ _) | (with_reducible refine Kd.C_drew ?_))); (case side2 => exact HC0_1.out); (case side3 => repeat (first | exact (Kd.C_below HR0_2.out HB.out) | (with_reducible refine Kd.C_alloc ?_ _) | (with_reducible refine Kd.C_drewN ?_ _) | (with_reducible refine Kd.C_drew ?_))); (case side4 => exact HC0_2.out); rintro e w13 ⟨rfl, hb⟩; refine ⟨_, rfl, ?_⟩; have n0_ := Aside0.mk (blk_below (g := gb166) (o := .cells #[.int .i64 a0_0, .slice A0_1 l0_1.length c0_1, .slice A0_2 l0_2.length c0_2] 25 (0, 0)) (by (with_reducible repeat (first | refine blk_drewN ?_ _ | refine blk_drew ?_ | refine blk_alloc ?_ _)); exact BK166.out) hb); have n1_ := Aside0.mk (below_step (by repeat (first | (with_reducible first | exact HB.out | apply below_alloc | apply pw_below_drewN | apply below_drew1 | refine below_set ?_ GE166.out) | exact HB.out)) hb); clear BK166; clear HB; have BK166 := n0_; have HB := n1_; clear n0_ n1_; (try clear hb); (try clear hb2); (try clear hk); (try clear hi)))
        go_meet
        case rel => exact ⟨_, (true), (by first | rfl | (simp; done) | (simp [*]; done)), H', ⟨by first | omega | exact Nat.le_refl _⟩, ⟨by (with_reducible repeat (first | refine blk_drewN ?_ _ | refine blk_drew ?_ | refine blk_alloc ?_ _)); exact BK166.out⟩, ⟨by repeat (first | (with_reducible first | exact HB.out | apply below_alloc | apply pw_below_drewN | apply below_drew1 | refine below_set ?_ GE166.out) | exact HB.out)⟩⟩
      · rw [if_neg c11] at H
        have c11b0 : decide (a1 < 0) = false := decide_eq_false c11
        clear c11
        have H' := Aside0.mk H
        clear H
        have hcz14_0 : w6.cell? ⟨gb166, 0, none⟩ = some (.int .i64 a0_0) := (blk_cell BK166.out 0).trans rfl
        have hcz14_1 : w6.cell? ⟨gb166, 1, none⟩ = some (.slice A0_1 l0_1.length c0_1) := (blk_cell BK166.out 1).trans rfl
        have hcz14_2 : w6.cell? ⟨gb166, 2, none⟩ = some (.slice A0_2 l0_2.length c0_2) := (blk_cell BK166.out 2).trans rfl
        have hfz14_0 := blk_frozen BK166.out 0
        have hfz14_1 := blk_frozen BK166.out 1
        have hfz14_2 := blk_frozen BK166.out 2
        go_wp2_with (first | ((with_reducible refine gate_callee (f := 30) rfl ?_); refine goesL_ (some 13) rfl rfl Tryd.func30 (by kernel_rfl) rfl #[.agg #[.int .i64 a0_0, .slice A0_1 l0_1.length c0_1, .slice A0_2 l0_2.length c0_2], .string a2] rfl (by (try simp only [List.map_toArray, List.map_cons, List.map_nil]); first | done | rfl | (simp only [List.length_drop, List.length_take]; rfl)) ?_; (with_reducible refine (mortmainref09_Find.calls k a0_0 _ _ l0_1 _ _ l0_2 a2 t167 _ ?side1 ?side2 ?side3 ?side4 A7.out).mono ?_); (case side1 => repeat (first | exact (Kd.C_below HR0_1.out HB.out) | (with_reducible refine Kd.C_alloc ?_ _) | (with_reducible refine Kd.C_drewN ?_ _) | (with_reducible refine Kd.C_drew ?_))); (case side2 => exact HC0_1.out); (case side3 => repeat (first | exact (Kd.C_below HR0_2.out HB.out) | (with_reducible refine Kd.C_alloc ?_ _) | (with_reducible refine Kd.C_drewN ?_ _) | (with_reducible refine Kd.C_drew ?_))); (case side4 => exact HC0_2.out); rintro e w15 ⟨rfl, hb⟩; refine ⟨_, rfl, ?_⟩; have n0_ := Aside0.mk (blk_below (g := gb166) (o := .cells #[.int .i64 a0_0, .slice A0_1 l0_1.length c0_1, .slice A0_2 l0_2.length c0_2] 25 (0, 0)) (by (with_reducible repeat (first | refine blk_drewN ?_ _ | refine blk_drew ?_ | refine blk_alloc ?_ _)); exact BK166.out) hb); have n1_ := Aside0.mk (below_step (by repeat (first | (with_reducible first | exact HB.out | apply below_alloc | apply pw_below_drewN | apply below_drew1 | refine below_set ?_ GE166.out) | exact HB.out)) hb); clear BK166; clear HB; have BK166 := n0_; have HB := n1_; clear n0_ n1_; (try clear hb); (try clear hb2); (try clear hk); (try clear hi)))
        go_meet
        case rel => exact ⟨_, (decide (a1 > 7)), (by first | rfl | (simp; done) | (simp [*]; done)), H', ⟨by first | omega | exact Nat.le_refl _⟩, ⟨by (with_reducible repeat (first | refine blk_drewN ?_ _ | refine blk_drew ?_ | refine blk_alloc ?_ _)); exact BK166.out⟩, ⟨by repeat (first | (with_reducible first | exact HB.out | apply below_alloc | apply pw_below_drewN | apply below_drew1 | refine below_set ?_ GE166.out) | exact HB.out)⟩⟩
  case rest =>
    clear HC5
    try clear c1
    try clear c2
    try clear p2
    try clear c3
    try clear c8
    try clear c8b0
    try clear c11
    try clear c11b0
    try clear hcz12_0
    try clear hcz12_1
    try clear hcz12_2
    try clear hcz14_0
    try clear hcz14_1
    try clear hcz14_2
    try clear hcz9_0
    try clear hcz9_1
    try clear hcz9_2
    try clear hfz12_0
    try clear hfz12_1
    try clear hfz12_2
    try clear hfz14_0
    try clear hfz14_1
    try clear hfz14_2
    try clear hfz9_0
    try clear hfz9_1
    try clear hfz9_2
    obtain ⟨kq, x22_4, rfl, HA, HJ4, BK166, HB⟩ := hcut
    cases kq with
    | zero => exact absurd HA.out (by simp [mortmainref10_May.j0])
    | succ kj4 =>
      have H := HA.out
      clear HA
      simp only [mortmainref10_May.j0] at H
      by_cases c16 : x22_4 = true
      · subst c16
        have H1 : (some false) = some r := by rw [if_pos rfl] at H; exact H
        clear H
        have H := H1
        clear H1
        obtain rfl := Option.some.inj H
        go_wp2
        go_ret
        exact ⟨by first | rfl | (simp [errW_none, errW_some] <;> rfl) | (simp [*, errW_none, errW_some] <;> rfl), by repeat (first | (with_reducible first | exact HB.out | apply below_alloc | apply pw_below_drewN | apply below_drew1 | refine below_set ?_ GE166.out) | exact HB.out)⟩
      · replace c16 := Bool.eq_false_iff.mpr c16
        subst c16
        have H1 : (mortmainref10_May.l0 kj4 a1 a2 a3 l0_2 (l0_2.length : Int) 0 a0_0 l0_1 l0_2) = some r := by rw [if_neg (show ¬ (false = true) by decide)] at H; exact H
        clear H
        have H := H1
        clear H1
        have H' := Aside0.mk H
        clear H
        have hcz17_0 : wc.cell? ⟨gb166, 0, none⟩ = some (.int .i64 a0_0) := (blk_cell BK166.out 0).trans rfl
        have hcz17_1 : wc.cell? ⟨gb166, 1, none⟩ = some (.slice A0_1 l0_1.length c0_1) := (blk_cell BK166.out 1).trans rfl
        have hcz17_2 : wc.cell? ⟨gb166, 2, none⟩ = some (.slice A0_2 l0_2.length c0_2) := (blk_cell BK166.out 2).trans rfl
        have hfz17_0 := blk_frozen BK166.out 0
        have hfz17_1 := blk_frozen BK166.out 1
        have hfz17_2 := blk_frozen BK166.out 2
        go_wp2
        go_loopg [26] kj4 (fun kq v26 w' => ∃ (x26_2 : Int), v26 = .int .i64 x26_2 ∧ Aside0 (mortmainref10_May.l0 kq a1 a2 a3 l0_2 (l0_2.length : Int) x26_2 a0_0 l0_1 l0_2 = some r) ∧ Aside0 (kq ≤ kj4) ∧ Aside0 (w'.heap[gb166]? = some (.cells #[.int .i64 a0_0, (.slice A0_1 l0_1.length c0_1), (.slice A0_2 l0_2.length c0_2)] 25 (0, 0))) ∧ Aside0 (Below w.heap.size w w'))
        case atStart => exact ⟨(0), (by first | rfl | (simp; done) | (simp [*]; done)), H', ⟨Nat.le_refl _⟩, ⟨by (with_reducible repeat (first | refine blk_drewN ?_ _ | refine blk_drew ?_ | refine blk_alloc ?_ _)); exact BK166.out⟩, ⟨by repeat (first | (with_reducible first | exact HB.out | apply below_alloc | apply pw_below_drewN | apply below_drew1 | refine below_set ?_ GE166.out) | exact HB.out)⟩⟩
        case round =>
          clear H'
          try clear c1
          try clear c2
          try clear p2
          try clear c3
          try clear c8
          try clear c8b0
          try clear c11
          try clear c11b0
          try clear c16
          try clear hcz12_0
          try clear hcz12_1
          try clear hcz12_2
          try clear hcz14_0
          try clear hcz14_1
          try clear hcz14_2
          try clear hcz17_0
          try clear hcz17_1
          try clear hcz17_2
          try clear hcz9_0
          try clear hcz9_1
          try clear hcz9_2
          try clear hfz12_0
          try clear hfz12_1
          try clear hfz12_2
          try clear hfz14_0
          try clear hfz14_1
          try clear hfz14_2
          try clear hfz17_0
          try clear hfz17_1
          try clear hfz17_2
          try clear hfz9_0
          try clear hfz9_1
          try clear hfz9_2
          try clear p2
          obtain ⟨x26_2, rfl, HA, HK2, BK166, HB⟩ := hrel
          cases gk with
          | zero => exact absurd HA.out (by simp [mortmainref10_May.l0])
          | succ k2 =>
            have H := HA.out
            clear HA
            simp only [mortmainref10_May.l0] at H
            by_cases c18 : x26_2 < (l0_2.length : Int)
            · rw [if_pos c18] at H
              have c18b0 : decide (x26_2 < (l0_2.length : Int)) = true := decide_eq_true c18
              clear c18
              by_cases c19 : 0 ≤ x26_2
              · rw [if_pos c19] at H
                have c19b0 : decide (0 ≤ x26_2) = true := decide_eq_true c19
                clear c19
                by_cases c20 : x26_2 < (l0_2.length : Int)
                · rw [if_pos c20] at H
                  have c20b0 : decide (x26_2 < (l0_2.length : Int)) = true := decide_eq_true c20
                  clear c20
                  by_cases c21 : ((rd_T27 l0_2 x26_2).f0) = a1
                  · rw [if_pos c21] at H
                    have c21b0 : (((rd_T27 l0_2 x26_2).f0) == a1) = true := beq_iff_eq.mpr c21
                    have c21b1 : (((rd_T27 l0_2 x26_2).f0) != a1) = false := bne_eq_false_iff_eq.mpr c21
                    clear c21
                    by_cases c22 : ((rd_T27 l0_2 x26_2).f1).toList = a2.toList
                    · rw [if_pos c22] at H
                      have c22b0 : (((rd_T27 l0_2 x26_2).f1).toList == a2.toList) = true := beq_iff_eq.mpr c22
                      have c22b1 : (((rd_T27 l0_2 x26_2).f1).toList != a2.toList) = false := bne_eq_false_iff_eq.mpr c22
                      clear c22
                      by_cases c23 : (Go.bits .and .i64 ((rd_T27 l0_2 x26_2).f2) a3) = a3
                      · rw [if_pos c23] at H
                        have c23b0 : ((Go.bits .and .i64 ((rd_T27 l0_2 x26_2).f2) a3) == a3) = true := beq_iff_eq.mpr c23
                        have c23b1 : ((Go.bits .and .i64 ((rd_T27 l0_2 x26_2).f2) a3) != a3) = false := bne_eq_false_iff_eq.mpr c23
                        clear c23
                        obtain rfl := Option.some.inj H
                        have p168 : 0 ≤ (x26_2 : Int) := of_decide_eq_true (by first | (with_reducible assumption) | assumption)
                        have q168 : x26_2 < (l0_2.length : Int) := of_decide_eq_true (by first | (with_reducible assumption) | assumption)
                        obtain ⟨ad168, e168, hx168_0, hx168_1, hx168_2⟩ := at_T27 HR0_2.out x26_2 p168 q168
                        cases e168
                        replace hx168_0 := (HB.out.cell (World.block_lt_of_cell? w _ hx168_0)).trans hx168_0
                        replace hx168_1 := (HB.out.cell (World.block_lt_of_cell? w _ hx168_1)).trans hx168_1
                        replace hx168_2 := (HB.out.cell (World.block_lt_of_cell? w _ hx168_2)).trans hx168_2
                        replace p168 := eq_true p168
                        replace q168 := eq_true q168
                        go_wp2_with (first | ((with_reducible refine gate_dst (N := 10) rfl ?_); refine box_event ?hg (N := 10) ?hd (cs := #[.int .i64 0, .string (⟨#[]⟩ : ByteArray), .int .i64 0]) (t := 27) ?hr ?_; (case hd => rfl); (case hg => rfl); (case hr => first | (go_simp; done) | (go_simp; rfl)); intro gb169 hg w24 hbox hb; have n0_ := Aside0.mk (blk_below (g := gb166) (o := .cells #[.int .i64 a0_0, .slice A0_1 l0_1.length c0_1, .slice (some ad168) l0_2.length c0_2] 25 (0, 0)) (by (with_reducible repeat (first | refine blk_drewN ?_ _ | refine blk_drew ?_ | refine blk_alloc ?_ _)); exact BK166.out) hb); have n1_ := Aside0.mk (below_step (by repeat (first | (with_reducible first | exact HB.out | apply below_alloc | apply pw_below_drewN | apply below_drew1 | refine below_set ?_ GE166.out) | exact HB.out)) hb); have n2_ := Aside0.mk (hbox); have n3_ := Aside0.mk ((by rw [hg]; exact (below_size (by repeat (first | (with_reducible first | exact HB.out | apply below_alloc | apply pw_below_drewN | apply below_drew1 | refine below_set ?_ GE166.out) | exact HB.out))) : w.heap.size ≤ gb169)); have n4_ := Aside0.mk ((by rw [hg]; exact (below_size (by repeat (first | (with_reducible first | exact HB.out | apply below_alloc | apply pw_below_drewN | apply below_drew1 | refine below_set ?_ GE166.out) | exact HB.out))) : w.heap.size ≤ gb169)); have n5_ := Aside0.mk ((by rw [hg]; exact Nat.ne_of_lt (blk_lt (g := gb166) (o := .cells #[.int .i64 a0_0, .slice A0_1 l0_1.length c0_1, .slice (some ad168) l0_2.length c0_2] 25 (0, 0)) (by (with_reducible repeat (first | refine blk_drewN ?_ _ | refine blk_drew ?_ | refine blk_alloc ?_ _)); exact BK166.out)) : gb166 ≠ gb169)); have n6_ := Aside0.mk ((by rw [hg]; exact Nat.ne_of_gt (blk_lt (g := gb166) (o := .cells #[.int .i64 a0_0, .slice A0_1 l0_1.length c0_1, .slice (some ad168) l0_2.length c0_2] 25 (0, 0)) (by (with_reducible repeat (first | refine blk_drewN ?_ _ | refine blk_drew ?_ | refine blk_alloc ?_ _)); exact BK166.out)) : gb169 ≠ gb166)); clear BK166; clear HB; have BK166 := n0_; have HB := n1_; have BK169 := n2_; have GW169 := n3_; have GE169 := n4_; have NB166_169 := n5_; have NB169_166 := n6_; clear n0_ n1_ n2_ n3_ n4_ n5_ n6_; clear hb hbox hg; have hnb25 := NB169_166.out; have hnc25 := NB166_169.out; have hcz26_0 : w24.cell? ⟨gb169, 0, none⟩ = some (.int .i64 0) := (blk_cell BK169.out 0).trans rfl; have hcz26_1 : w24.cell? ⟨gb169, 1, none⟩ = some (.string (⟨#[]⟩ : ByteArray)) := (blk_cell BK169.out 1).trans rfl; have hcz26_2 : w24.cell? ⟨gb169, 2, none⟩ = some (.int .i64 0) := (blk_cell BK169.out 2).trans rfl; have hfz26_0 := blk_frozen BK169.out 0; have hfz26_1 := blk_frozen BK169.out 1; have hfz26_2 := blk_frozen BK169.out 2))
                        go_ret
                        exact ⟨by first | rfl | (simp [errW_none, errW_some] <;> rfl) | (simp [*, errW_none, errW_some] <;> rfl), by repeat (first | (with_reducible first | exact HB.out | apply below_alloc | apply pw_below_drewN | apply below_drew1 | refine below_set ?_ GE166.out | refine below_set ?_ GE169.out) | exact HB.out)⟩
                      · rw [if_neg c23] at H
                        have c23b0 : ((Go.bits .and .i64 ((rd_T27 l0_2 x26_2).f2) a3) == a3) = false := beq_eq_false_iff_ne.mpr c23
                        have c23b1 : ((Go.bits .and .i64 ((rd_T27 l0_2 x26_2).f2) a3) != a3) = true := bne_iff_ne.mpr c23
                        have H' := Aside0.mk H
                        clear H
                        have p168 : 0 ≤ (x26_2 : Int) := of_decide_eq_true (by first | (with_reducible assumption) | assumption)
                        have q168 : x26_2 < (l0_2.length : Int) := of_decide_eq_true (by first | (with_reducible assumption) | assumption)
                        obtain ⟨ad168, e168, hx168_0, hx168_1, hx168_2⟩ := at_T27 HR0_2.out x26_2 p168 q168
                        cases e168
                        replace hx168_0 := (HB.out.cell (World.block_lt_of_cell? w _ hx168_0)).trans hx168_0
                        replace hx168_1 := (HB.out.cell (World.block_lt_of_cell? w _ hx168_1)).trans hx168_1
                        replace hx168_2 := (HB.out.cell (World.block_lt_of_cell? w _ hx168_2)).trans hx168_2
                        replace p168 := eq_true p168
                        replace q168 := eq_true q168
                        go_wp2_with (first | ((with_reducible refine gate_dst (N := 10) rfl ?_); refine box_event ?hg (N := 10) ?hd (cs := #[.int .i64 0, .string (⟨#[]⟩ : ByteArray), .int .i64 0]) (t := 27) ?hr ?_; (case hd => rfl); (case hg => rfl); (case hr => first | (go_simp; done) | (go_simp; rfl)); intro gb169 hg w27 hbox hb; have n0_ := Aside0.mk (blk_below (g := gb166) (o := .cells #[.int .i64 a0_0, .slice A0_1 l0_1.length c0_1, .slice (some ad168) l0_2.length c0_2] 25 (0, 0)) (by (with_reducible repeat (first | refine blk_drewN ?_ _ | refine blk_drew ?_ | refine blk_alloc ?_ _)); exact BK166.out) hb); have n1_ := Aside0.mk (below_step (by repeat (first | (with_reducible first | exact HB.out | apply below_alloc | apply pw_below_drewN | apply below_drew1 | refine below_set ?_ GE166.out) | exact HB.out)) hb); have n2_ := Aside0.mk (hbox); have n3_ := Aside0.mk ((by rw [hg]; exact (below_size (by repeat (first | (with_reducible first | exact HB.out | apply below_alloc | apply pw_below_drewN | apply below_drew1 | refine below_set ?_ GE166.out) | exact HB.out))) : w.heap.size ≤ gb169)); have n4_ := Aside0.mk ((by rw [hg]; exact (below_size (by repeat (first | (with_reducible first | exact HB.out | apply below_alloc | apply pw_below_drewN | apply below_drew1 | refine below_set ?_ GE166.out) | exact HB.out))) : w.heap.size ≤ gb169)); have n5_ := Aside0.mk ((by rw [hg]; exact Nat.ne_of_lt (blk_lt (g := gb166) (o := .cells #[.int .i64 a0_0, .slice A0_1 l0_1.length c0_1, .slice (some ad168) l0_2.length c0_2] 25 (0, 0)) (by (with_reducible repeat (first | refine blk_drewN ?_ _ | refine blk_drew ?_ | refine blk_alloc ?_ _)); exact BK166.out)) : gb166 ≠ gb169)); have n6_ := Aside0.mk ((by rw [hg]; exact Nat.ne_of_gt (blk_lt (g := gb166) (o := .cells #[.int .i64 a0_0, .slice A0_1 l0_1.length c0_1, .slice (some ad168) l0_2.length c0_2] 25 (0, 0)) (by (with_reducible repeat (first | refine blk_drewN ?_ _ | refine blk_drew ?_ | refine blk_alloc ?_ _)); exact BK166.out)) : gb169 ≠ gb166)); clear BK166; clear HB; have BK166 := n0_; have HB := n1_; have BK169 := n2_; have GW169 := n3_; have GE169 := n4_; have NB166_169 := n5_; have NB169_166 := n6_; clear n0_ n1_ n2_ n3_ n4_ n5_ n6_; clear hb hbox hg; have hnb28 := NB169_166.out; have hnc28 := NB166_169.out; have hcz29_0 : w27.cell? ⟨gb169, 0, none⟩ = some (.int .i64 0) := (blk_cell BK169.out 0).trans rfl; have hcz29_1 : w27.cell? ⟨gb169, 1, none⟩ = some (.string (⟨#[]⟩ : ByteArray)) := (blk_cell BK169.out 1).trans rfl; have hcz29_2 : w27.cell? ⟨gb169, 2, none⟩ = some (.int .i64 0) := (blk_cell BK169.out 2).trans rfl; have hfz29_0 := blk_frozen BK169.out 0; have hfz29_1 := blk_frozen BK169.out 1; have hfz29_2 := blk_frozen BK169.out 2))
                        go_roundg k2
                        case measure => have := HJ4.out; have := HK2.out; omega
                        case rel => exact ⟨(wrap64 (x26_2 + 1)), (by first | rfl | (simp; done) | (simp [*]; done)), H', ⟨by have := HJ4.out; have := HK2.out; omega⟩, ⟨by (with_reducible repeat (first | refine blk_drewN ?_ _ | refine blk_drew ?_ | refine blk_alloc ?_ _)); refine blk_far ?_ NB166_169.out _; (with_reducible repeat (first | refine blk_drewN ?_ _ | refine blk_drew ?_ | refine blk_alloc ?_ _)); refine blk_far ?_ NB166_169.out _; (with_reducible repeat (first | refine blk_drewN ?_ _ | refine blk_drew ?_ | refine blk_alloc ?_ _)); refine blk_far ?_ NB166_169.out _; (with_reducible repeat (first | refine blk_drewN ?_ _ | refine blk_drew ?_ | refine blk_alloc ?_ _)); exact BK166.out⟩, ⟨by repeat (first | (with_reducible first | exact HB.out | apply below_alloc | apply pw_below_drewN | apply below_drew1 | refine below_set ?_ GE166.out | refine below_set ?_ GE169.out) | exact HB.out)⟩⟩
                    · rw [if_neg c22] at H
                      have c22b0 : (((rd_T27 l0_2 x26_2).f1).toList == a2.toList) = false := beq_eq_false_iff_ne.mpr c22
                      have c22b1 : (((rd_T27 l0_2 x26_2).f1).toList != a2.toList) = true := bne_iff_ne.mpr c22
                      have H' := Aside0.mk H
                      clear H
                      have p168 : 0 ≤ (x26_2 : Int) := of_decide_eq_true (by first | (with_reducible assumption) | assumption)
                      have q168 : x26_2 < (l0_2.length : Int) := of_decide_eq_true (by first | (with_reducible assumption) | assumption)
                      obtain ⟨ad168, e168, hx168_0, hx168_1, hx168_2⟩ := at_T27 HR0_2.out x26_2 p168 q168
                      cases e168
                      replace hx168_0 := (HB.out.cell (World.block_lt_of_cell? w _ hx168_0)).trans hx168_0
                      replace hx168_1 := (HB.out.cell (World.block_lt_of_cell? w _ hx168_1)).trans hx168_1
                      replace hx168_2 := (HB.out.cell (World.block_lt_of_cell? w _ hx168_2)).trans hx168_2
                      replace p168 := eq_true p168
                      replace q168 := eq_true q168
                      go_wp2_with (first | ((with_reducible refine gate_dst (N := 10) rfl ?_); refine box_event ?hg (N := 10) ?hd (cs := #[.int .i64 0, .string (⟨#[]⟩ : ByteArray), .int .i64 0]) (t := 27) ?hr ?_; (case hd => rfl); (case hg => rfl); (case hr => first | (go_simp; done) | (go_simp; rfl)); intro gb169 hg w30 hbox hb; have n0_ := Aside0.mk (blk_below (g := gb166) (o := .cells #[.int .i64 a0_0, .slice A0_1 l0_1.length c0_1, .slice (some ad168) l0_2.length c0_2] 25 (0, 0)) (by (with_reducible repeat (first | refine blk_drewN ?_ _ | refine blk_drew ?_ | refine blk_alloc ?_ _)); exact BK166.out) hb); have n1_ := Aside0.mk (below_step (by repeat (first | (with_reducible first | exact HB.out | apply below_alloc | apply pw_below_drewN | apply below_drew1 | refine below_set ?_ GE166.out) | exact HB.out)) hb); have n2_ := Aside0.mk (hbox); have n3_ := Aside0.mk ((by rw [hg]; exact (below_size (by repeat (first | (with_reducible first | exact HB.out | apply below_alloc | apply pw_below_drewN | apply below_drew1 | refine below_set ?_ GE166.out) | exact HB.out))) : w.heap.size ≤ gb169)); have n4_ := Aside0.mk ((by rw [hg]; exact (below_size (by repeat (first | (with_reducible first | exact HB.out | apply below_alloc | apply pw_below_drewN | apply below_drew1 | refine below_set ?_ GE166.out) | exact HB.out))) : w.heap.size ≤ gb169)); have n5_ := Aside0.mk ((by rw [hg]; exact Nat.ne_of_lt (blk_lt (g := gb166) (o := .cells #[.int .i64 a0_0, .slice A0_1 l0_1.length c0_1, .slice (some ad168) l0_2.length c0_2] 25 (0, 0)) (by (with_reducible repeat (first | refine blk_drewN ?_ _ | refine blk_drew ?_ | refine blk_alloc ?_ _)); exact BK166.out)) : gb166 ≠ gb169)); have n6_ := Aside0.mk ((by rw [hg]; exact Nat.ne_of_gt (blk_lt (g := gb166) (o := .cells #[.int .i64 a0_0, .slice A0_1 l0_1.length c0_1, .slice (some ad168) l0_2.length c0_2] 25 (0, 0)) (by (with_reducible repeat (first | refine blk_drewN ?_ _ | refine blk_drew ?_ | refine blk_alloc ?_ _)); exact BK166.out)) : gb169 ≠ gb166)); clear BK166; clear HB; have BK166 := n0_; have HB := n1_; have BK169 := n2_; have GW169 := n3_; have GE169 := n4_; have NB166_169 := n5_; have NB169_166 := n6_; clear n0_ n1_ n2_ n3_ n4_ n5_ n6_; clear hb hbox hg; have hnb31 := NB169_166.out; have hnc31 := NB166_169.out; have hcz32_0 : w30.cell? ⟨gb169, 0, none⟩ = some (.int .i64 0) := (blk_cell BK169.out 0).trans rfl; have hcz32_1 : w30.cell? ⟨gb169, 1, none⟩ = some (.string (⟨#[]⟩ : ByteArray)) := (blk_cell BK169.out 1).trans rfl; have hcz32_2 : w30.cell? ⟨gb169, 2, none⟩ = some (.int .i64 0) := (blk_cell BK169.out 2).trans rfl; have hfz32_0 := blk_frozen BK169.out 0; have hfz32_1 := blk_frozen BK169.out 1; have hfz32_2 := blk_frozen BK169.out 2))
                      go_roundg k2
                      case measure => have := HJ4.out; have := HK2.out; omega
                      case rel => exact ⟨(wrap64 (x26_2 + 1)), (by first | rfl | (simp; done) | (simp [*]; done)), H', ⟨by have := HJ4.out; have := HK2.out; omega⟩, ⟨by (with_reducible repeat (first | refine blk_drewN ?_ _ | refine blk_drew ?_ | refine blk_alloc ?_ _)); refine blk_far ?_ NB166_169.out _; (with_reducible repeat (first | refine blk_drewN ?_ _ | refine blk_drew ?_ | refine blk_alloc ?_ _)); refine blk_far ?_ NB166_169.out _; (with_reducible repeat (first | refine blk_drewN ?_ _ | refine blk_drew ?_ | refine blk_alloc ?_ _)); refine blk_far ?_ NB166_169.out _; (with_reducible repeat (first | refine blk_drewN ?_ _ | refine blk_drew ?_ | refine blk_alloc ?_ _)); exact BK166.out⟩, ⟨by repeat (first | (with_reducible first | exact HB.out | apply below_alloc | apply pw_below_drewN | apply below_drew1 | refine below_set ?_ GE166.out | refine below_set ?_ GE169.out) | exact HB.out)⟩⟩
                  · rw [if_neg c21] at H
                    have c21b0 : (((rd_T27 l0_2 x26_2).f0) == a1) = false := beq_eq_false_iff_ne.mpr c21
                    have c21b1 : (((rd_T27 l0_2 x26_2).f0) != a1) = true := bne_iff_ne.mpr c21
                    have H' := Aside0.mk H
                    clear H
                    have p168 : 0 ≤ (x26_2 : Int) := of_decide_eq_true (by first | (with_reducible assumption) | assumption)
                    have q168 : x26_2 < (l0_2.length : Int) := of_decide_eq_true (by first | (with_reducible assumption) | assumption)
                    obtain ⟨ad168, e168, hx168_0, hx168_1, hx168_2⟩ := at_T27 HR0_2.out x26_2 p168 q168
                    cases e168
                    replace hx168_0 := (HB.out.cell (World.block_lt_of_cell? w _ hx168_0)).trans hx168_0
                    replace hx168_1 := (HB.out.cell (World.block_lt_of_cell? w _ hx168_1)).trans hx168_1
                    replace hx168_2 := (HB.out.cell (World.block_lt_of_cell? w _ hx168_2)).trans hx168_2
                    replace p168 := eq_true p168
                    replace q168 := eq_true q168
                    go_wp2_with (first | ((with_reducible refine gate_dst (N := 10) rfl ?_); refine box_event ?hg (N := 10) ?hd (cs := #[.int .i64 0, .string (⟨#[]⟩ : ByteArray), .int .i64 0]) (t := 27) ?hr ?_; (case hd => rfl); (case hg => rfl); (case hr => first | (go_simp; done) | (go_simp; rfl)); intro gb169 hg w33 hbox hb; have n0_ := Aside0.mk (blk_below (g := gb166) (o := .cells #[.int .i64 a0_0, .slice A0_1 l0_1.length c0_1, .slice (some ad168) l0_2.length c0_2] 25 (0, 0)) (by (with_reducible repeat (first | refine blk_drewN ?_ _ | refine blk_drew ?_ | refine blk_alloc ?_ _)); exact BK166.out) hb); have n1_ := Aside0.mk (below_step (by repeat (first | (with_reducible first | exact HB.out | apply below_alloc | apply pw_below_drewN | apply below_drew1 | refine below_set ?_ GE166.out) | exact HB.out)) hb); have n2_ := Aside0.mk (hbox); have n3_ := Aside0.mk ((by rw [hg]; exact (below_size (by repeat (first | (with_reducible first | exact HB.out | apply below_alloc | apply pw_below_drewN | apply below_drew1 | refine below_set ?_ GE166.out) | exact HB.out))) : w.heap.size ≤ gb169)); have n4_ := Aside0.mk ((by rw [hg]; exact (below_size (by repeat (first | (with_reducible first | exact HB.out | apply below_alloc | apply pw_below_drewN | apply below_drew1 | refine below_set ?_ GE166.out) | exact HB.out))) : w.heap.size ≤ gb169)); have n5_ := Aside0.mk ((by rw [hg]; exact Nat.ne_of_lt (blk_lt (g := gb166) (o := .cells #[.int .i64 a0_0, .slice A0_1 l0_1.length c0_1, .slice (some ad168) l0_2.length c0_2] 25 (0, 0)) (by (with_reducible repeat (first | refine blk_drewN ?_ _ | refine blk_drew ?_ | refine blk_alloc ?_ _)); exact BK166.out)) : gb166 ≠ gb169)); have n6_ := Aside0.mk ((by rw [hg]; exact Nat.ne_of_gt (blk_lt (g := gb166) (o := .cells #[.int .i64 a0_0, .slice A0_1 l0_1.length c0_1, .slice (some ad168) l0_2.length c0_2] 25 (0, 0)) (by (with_reducible repeat (first | refine blk_drewN ?_ _ | refine blk_drew ?_ | refine blk_alloc ?_ _)); exact BK166.out)) : gb169 ≠ gb166)); clear BK166; clear HB; have BK166 := n0_; have HB := n1_; have BK169 := n2_; have GW169 := n3_; have GE169 := n4_; have NB166_169 := n5_; have NB169_166 := n6_; clear n0_ n1_ n2_ n3_ n4_ n5_ n6_; clear hb hbox hg; have hnb34 := NB169_166.out; have hnc34 := NB166_169.out; have hcz35_0 : w33.cell? ⟨gb169, 0, none⟩ = some (.int .i64 0) := (blk_cell BK169.out 0).trans rfl; have hcz35_1 : w33.cell? ⟨gb169, 1, none⟩ = some (.string (⟨#[]⟩ : ByteArray)) := (blk_cell BK169.out 1).trans rfl; have hcz35_2 : w33.cell? ⟨gb169, 2, none⟩ = some (.int .i64 0) := (blk_cell BK169.out 2).trans rfl; have hfz35_0 := blk_frozen BK169.out 0; have hfz35_1 := blk_frozen BK169.out 1; have hfz35_2 := blk_frozen BK169.out 2))
                    go_roundg k2
                    case measure => have := HJ4.out; have := HK2.out; omega
                    case rel => exact ⟨(wrap64 (x26_2 + 1)), (by first | rfl | (simp; done) | (simp [*]; done)), H', ⟨by have := HJ4.out; have := HK2.out; omega⟩, ⟨by (with_reducible repeat (first | refine blk_drewN ?_ _ | refine blk_drew ?_ | refine blk_alloc ?_ _)); refine blk_far ?_ NB166_169.out _; (with_reducible repeat (first | refine blk_drewN ?_ _ | refine blk_drew ?_ | refine blk_alloc ?_ _)); refine blk_far ?_ NB166_169.out _; (with_reducible repeat (first | refine blk_drewN ?_ _ | refine blk_drew ?_ | refine blk_alloc ?_ _)); refine blk_far ?_ NB166_169.out _; (with_reducible repeat (first | refine blk_drewN ?_ _ | refine blk_drew ?_ | refine blk_alloc ?_ _)); exact BK166.out⟩, ⟨by repeat (first | (with_reducible first | exact HB.out | apply below_alloc | apply pw_below_drewN | apply below_drew1 | refine below_set ?_ GE166.out | refine below_set ?_ GE169.out) | exact HB.out)⟩⟩
                · rw [if_neg c20] at H
                  exact absurd H (by simp)
              · rw [if_neg c19] at H
                exact absurd H (by simp)
            · rw [if_neg c18] at H
              have c18b0 : decide (x26_2 < (l0_2.length : Int)) = false := decide_eq_false c18
              clear c18
              replace H := Option.bind_eq_some_iff.mp H
              obtain ⟨t170, A360, H⟩ := H
              replace H : (some t170) = some r := H
              have A36 := Aside0.mk A360
              clear A360
              obtain rfl := Option.some.inj H
              have hcz37_0 : wr.cell? ⟨gb166, 0, none⟩ = some (.int .i64 a0_0) := (blk_cell BK166.out 0).trans rfl
              have hcz37_1 : wr.cell? ⟨gb166, 1, none⟩ = some (.slice A0_1 l0_1.length c0_1) := (blk_cell BK166.out 1).trans rfl
              have hcz37_2 : wr.cell? ⟨gb166, 2, none⟩ = some (.slice A0_2 l0_2.length c0_2) := (blk_cell BK166.out 2).trans rfl
              have hfz37_0 := blk_frozen BK166.out 0
              have hfz37_1 := blk_frozen BK166.out 1
              have hfz37_2 := blk_frozen BK166.out 2
              go_wp2_with (first | ((with_reducible refine gate_callee (f := 20) rfl ?_); refine goesL_ (some 52) rfl rfl Tryd.func20 (by kernel_rfl) rfl #[.agg #[.int .i64 a0_0, .slice A0_1 l0_1.length c0_1, .slice A0_2 l0_2.length c0_2], .int .i64 a1, .string a2] rfl (by (try simp only [List.map_toArray, List.map_cons, List.map_nil]); first | done | rfl | (simp only [List.length_drop, List.length_take]; rfl)) ?_; (with_reducible refine (mortmainref10_Owns.calls k2 a0_0 _ _ l0_1 _ _ l0_2 a1 a2 t170 _ ?side1 ?side2 ?side3 ?side4 A36.out).mono ?_); (case side1 => repeat (first | exact (Kd.C_below HR0_1.out HB.out) | (with_reducible refine Kd.C_alloc ?_ _) | (with_reducible refine Kd.C_drewN ?_ _) | (with_reducible refine Kd.C_drew ?_))); (case side2 => exact HC0_1.out); (case side3 => repeat (first | exact (Kd.C_below HR0_2.out HB.out) | (with_reducible refine Kd.C_alloc ?_ _) | (with_reducible refine Kd.C_drewN ?_ _) | (with_reducible refine Kd.C_drew ?_))); (case side4 => exact HC0_2.out); rintro e w38 ⟨rfl, hb⟩; refine ⟨_, rfl, ?_⟩; have n0_ := Aside0.mk (blk_below (g := gb166) (o := .cells #[.int .i64 a0_0, .slice A0_1 l0_1.length c0_1, .slice A0_2 l0_2.length c0_2] 25 (0, 0)) (by (with_reducible repeat (first | refine blk_drewN ?_ _ | refine blk_drew ?_ | refine blk_alloc ?_ _)); exact BK166.out) hb); have n1_ := Aside0.mk (below_step (by repeat (first | (with_reducible first | exact HB.out | apply below_alloc | apply pw_below_drewN | apply below_drew1 | refine below_set ?_ GE166.out) | exact HB.out)) hb); clear BK166; clear HB; have BK166 := n0_; have HB := n1_; clear n0_ n1_; (try clear hb); (try clear hb2); (try clear hk); (try clear hi)))
              go_ret
              exact ⟨by first | rfl | (simp [errW_none, errW_some] <;> rfl) | (simp [*, errW_none, errW_some] <;> rfl), by repeat (first | (with_reducible first | exact HB.out | apply below_alloc | apply pw_below_drewN | apply below_drew1 | refine below_set ?_ GE166.out) | exact HB.out)⟩

end Go.Proofs.YtefdfgmlmjnmlaaDoor.Rf
end

section
/- The references Sorted and May, and what rising grants are: the reference's and the program's are one. -/
namespace Go.Proofs.YtefdfgmlmjnmlaaDoor.My
open Go.RowKit Go.Proofs.YtefdfgmlmjnmlaaDoorW.PrintWords Go.Proofs.YtefdfgmlmjnmlaaDoor.Rf

def bl (a b : ByteArray) : Bool := Op.bytesLess a.toList b.toList
theorem ord_neg (g h : S27) : ord g h < 0 ↔ g.f0 < h.f0 ∨ (g.f0 = h.f0 ∧ bl g.f1 h.f1 = true) := by
  unfold ord cmpI cmpS bl
  repeat' split
  all_goals simp_all
  all_goals try omega
theorem ord_lt_trans {a b c : S27} (h1 : ord a b < 0) (h2 : ord b c < 0) : ord a c < 0 := by
  rw [ord_neg] at *
  rcases h1 with h1 | ⟨h1, h1'⟩ <;> rcases h2 with h2 | ⟨h2, h2'⟩
  · exact .inl (by omega)
  · exact .inl (by omega)
  · exact .inl (by omega)
  · exact .inr ⟨by omega, bl_trans h1' h2'⟩

def pairOk (l : List S27) (i : Nat) : Bool := (List.range i).all fun j => decide (ord (l.getD j z27) (l.getD i z27) < 0)
def okR (l : List S27) (i : Nat) : Bool := goodG (l.getD i z27) && pairOk l i
def refS (l : List S27) (i d : Nat) : Bool := (List.range' i d).all (okR l) && decide (l.length ≤ 64)

theorem sorted_l1 (l : List S27) (i d : Nat) (hi : i < l.length) (hl : l.length ≤ 9223372036854775807)
    (hnext : Ev (fun k => mortmainref10_Sorted.l0 k l l (l.length : Int) ((i + 1 : Nat) : Int)) (refS l (i + 1) d)) :
    ∀ e j, j + e = i → (∀ q, q < j → ord (l.getD q z27) (l.getD i z27) < 0) →
    Ev (fun k => mortmainref10_Sorted.l1 k l l (l.length : Int) (i : Int) (l.take i) ((l.take i).length : Int) (j : Int) (l.getD i z27).f0 (l.getD i z27).f1 (l.getD i z27).f2) (pairOk l i && refS l (i + 1) d) := by
  have htl : (l.take i).length = i := by simp; omega
  intro e
  induction e with
  | zero =>
    intro j hj ha
    refine Ev.step (f := fun k => mortmainref10_Sorted.l0 k l l (l.length : Int) ((i + 1 : Nat) : Int)) (fun k => ?_) ?_
    · simp only [mortmainref10_Sorted.l1]
      rw [if_neg (by omega), wrap_next hi hl]
    · have : pairOk l i = true := by
        unfold pairOk
        rw [List.all_eq_true]
        intro q hq
        exact decide_eq_true (ha q (by have := List.mem_range.1 hq; omega))
      rw [this, Bool.true_and]
      exact hnext
  | succ e ih =>
    intro j hj ha
    have hjt : (l.take i).getD j z27 = l.getD j z27 := by
      simp [List.getD, show j < i by omega]
    by_cases hlt : ord (l.getD j z27) (l.getD i z27) < 0
    · refine Ev.step (fun k => ?_) (ih (j + 1) (by omega) (fun q hq => ?_))
      · simp only [mortmainref10_Sorted.l1]
        rw [if_pos (by omega), if_pos (by omega), if_pos (by omega), wrap_next (show j < i by omega) (by omega), rd27_nat, hjt]
        rw [ord_neg] at hlt
        rcases hlt with h | ⟨h, h'⟩
        · rw [if_neg (by omega), if_neg (by omega)]
        · rw [if_neg (by omega), if_pos h]
          unfold bl at h'
          rw [if_pos h']
      · rcases Nat.lt_or_ge q j with h | h
        · exact ha q h
        · obtain rfl : q = j := by omega
          exact hlt
    · have : pairOk l i = false := by
        unfold pairOk
        rw [Bool.eq_false_iff]; intro hA
        rw [List.all_eq_true] at hA
        exact hlt (of_decide_eq_true (hA j (List.mem_range.2 (by omega))))
      rw [this, Bool.false_and]
      refine Ev.step (f := fun _ => some false) (fun k => ?_) (Ev.now _)
      simp only [mortmainref10_Sorted.l1]
      rw [if_pos (by omega), if_pos (by omega), if_pos (by omega), rd27_nat, hjt]
      rw [ord_neg] at hlt
      by_cases h1 : (l.getD j z27).f0 > (l.getD i z27).f0
      · rw [if_pos h1]
      · rw [if_neg h1]
        have h2 : (l.getD j z27).f0 = (l.getD i z27).f0 := by
          rcases Int.lt_or_eq_of_le (Int.not_lt.1 h1) with h | h
          · exact absurd (.inl h) hlt
          · exact h
        rw [if_pos h2, if_neg]
        intro h3
        exact hlt (.inr ⟨h2, h3⟩)

theorem sorted_l0 (l : List S27) (hs : okS l) (hl : l.length ≤ 9223372036854775807) : ∀ d i, i + d = l.length →
    Ev (fun k => mortmainref10_Sorted.l0 k l l (l.length : Int) (i : Int)) (refS l i d) := by
  intro d
  induction d with
  | zero =>
    intro i hi
    refine Ev.step (f := fun _ => some (refS l i 0)) (fun k => ?_) (Ev.now _)
    simp only [mortmainref10_Sorted.l0]
    rw [if_neg (by omega)]
    simp only [refS, List.range'_zero, List.all_nil, Bool.true_and, Option.some.injEq]
    exact dec_cast _
  | succ d ih =>
    intro i hi
    have hlt : i < l.length := by omega
    have h1 := sorted_l1 l i d hlt hl (ih (i + 1) (by omega)) i 0 (by omega) (fun q hq => absurd hq (by omega))
    refine Ev.step (f := fun k => (mortmainref10_Good.f k (l.getD i z27).f0 (l.getD i z27).f1 (l.getD i z27).f2).bind fun t => if t = true then mortmainref10_Sorted.l1 k l l (l.length : Int) (i : Int) (l.take i) ((l.take i).length : Int) 0 (l.getD i z27).f0 (l.getD i z27).f1 (l.getD i z27).f2 else some false) (fun k => ?_) ?_
    · simp only [mortmainref10_Sorted.l0]
      rw [if_pos (by omega), if_pos (by omega), if_pos (by omega), rd27_nat]
      simp only [if_pos (show (i : Int) ≤ (l.length : Int) by omega), Option.bind_some, Int.toNat_natCast]
    · refine Ev.bind (good_ev (l.getD i z27) (okS_at hs hlt)) ?_
      have hr : refS l i (d + 1) = (goodG (l.getD i z27) && (pairOk l i && refS l (i + 1) d)) := by
        simp only [refS, List.range'_succ, List.all_cons, okR, Bool.and_assoc]
      rw [hr]
      cases goodG (l.getD i z27) with
      | true => simpa using h1
      | false => simpa using Ev.now false

theorem sorted_ev (l : List S27) (hs : okS l) (hl : l.length ≤ 9223372036854775807) : Ev (fun k => mortmainref10_Sorted.f k l) (refS l 0 l.length) :=
  sorted_l0 l hs hl l.length 0 (by omega)

/-- Next to each other rising is all rising. -/
theorem rising {l : List S27} {n : Nat} (h : ∀ i, i < n → okAt l i = true) : ∀ i, i < n → ∀ j, j < i → ord (l.getD j z27) (l.getD i z27) < 0 := by
  intro i
  induction i with
  | zero => intro _ j hj; omega
  | succ i ih =>
    intro hi j hj
    have h1 := h (i + 1) hi
    simp [okAt] at h1
    have hlast : ord (l.getD i z27) (l.getD (i + 1) z27) < 0 := by simpa [List.getD] using h1.2
    rcases Nat.lt_or_ge j i with h2 | h2
    · exact ord_lt_trans (ih (by omega) j h2) hlast
    · obtain rfl : j = i := by omega
      exact hlast
theorem sorted_same (l : List S27) : sortedB l = refS l 0 l.length := by
  unfold sortedB refS
  congr 1
  rw [Bool.eq_iff_iff, List.all_eq_true, List.all_eq_true]
  constructor
  · intro h i hi
    have hi' : i < l.length := by have := (List.mem_range'_1.1 hi).2; omega
    have h' : ∀ i, i < l.length → okAt l i = true := fun i hi => h i (List.mem_range.2 hi)
    have hg := h' i hi'
    simp only [okAt, Bool.and_eq_true] at hg
    simp only [okR, Bool.and_eq_true, pairOk, List.all_eq_true]
    exact ⟨hg.1, fun j hj => decide_eq_true (rising h' i hi' j (List.mem_range.1 hj))⟩
  · intro h i hi
    have hi' := List.mem_range.1 hi
    have hg := h i (by rw [List.mem_range'_1]; omega)
    simp only [okR, Bool.and_eq_true, pairOk, List.all_eq_true] at hg
    simp only [okAt, Bool.and_eq_true, Bool.or_eq_true]
    refine ⟨hg.1, ?_⟩
    by_cases e : i = 0
    · exact .inl (by simp [e])
    · exact .inr (hg.2 (i - 1) (List.mem_range.2 (by omega)))
end Go.Proofs.YtefdfgmlmjnmlaaDoor.My
end

section
/- The search among rising grants; the reference May is the program's. -/
namespace Go.Proofs.YtefdfgmlmjnmlaaDoor.My
open Go.RowKit Go.Proofs.YtefdfgmlmjnmlaaDoorW.PrintWords Go.Proofs.YtefdfgmlmjnmlaaDoor.Rf

theorem ord_zero (g h : S27) : ord g h = 0 ↔ g.f0 = h.f0 ∧ g.f1.toList = h.f1.toList := by
  unfold ord cmpI cmpS
  constructor
  · intro e
    by_cases h1 : g.f0 < h.f0
    · simp [h1] at e
    · by_cases h2 : g.f0 > h.f0
      · simp [h1, h2] at e
      · simp only [h1, h2, if_false, if_true] at e
        refine ⟨by omega, ?_⟩
        cases h3 : Op.bytesLess g.f1.toList h.f1.toList with
        | true => simp [h3] at e
        | false =>
          cases h4 : Op.bytesLess h.f1.toList g.f1.toList with
          | true => simp [h3, h4] at e
          | false => exact bl_total h3 h4
  · rintro ⟨e1, e2⟩
    rw [e1, e2]
    simp [bl_irrefl]
theorem ord_cong {a b g : S27} (h : ord b g = 0) : ord a b < 0 ↔ ord a g < 0 := by
  obtain ⟨h1, h2⟩ := (ord_zero b g).1 h
  rw [ord_neg, ord_neg]
  unfold bl
  rw [h1, h2]
/-- Each one below all behind it. -/
def Rise (l : List S27) : Prop := ∀ i, i < l.length → ∀ j, j < i → ord (l.getD j z27) (l.getD i z27) < 0
theorem rise_of {l : List S27} (h : refS l 0 l.length = true) : Rise l := by
  intro i hi j hj
  rw [← sorted_same] at h
  simp only [sortedB, Bool.and_eq_true, List.all_eq_true] at h
  exact rising (n := l.length) (fun i hi => h.1 i (List.mem_range.2 hi)) i hi j hj

theorem bs_spec (l : List S27) (g : S27) (hr : Rise l) : ∀ f i j, i ≤ j → j ≤ l.length → j ≤ i + f → (∀ q, q < i → ord (l.getD q z27) g < 0) → (∀ q, j ≤ q → q < l.length → ¬ ord (l.getD q z27) g < 0) →
    bs l g f i j ≤ l.length ∧ (∀ q, q < bs l g f i j → ord (l.getD q z27) g < 0) ∧ (∀ q, bs l g f i j ≤ q → q < l.length → ¬ ord (l.getD q z27) g < 0) := by
  intro f
  induction f with
  | zero =>
    intro i j h1 h2 h3 ha hb
    obtain rfl : i = j := by omega
    exact ⟨h2, ha, hb⟩
  | succ f ih =>
    intro i j h1 h2 h3 ha hb
    rw [bs]
    by_cases hlt : i < j
    · rw [if_pos hlt]
      by_cases ho : ord (l.getD ((i + j) / 2) z27) g < 0
      · rw [if_pos ho]
        refine ih _ _ (by omega) h2 (by omega) (fun q hq => ?_) hb
        rcases Nat.lt_or_ge q ((i + j) / 2) with h | h
        · exact ord_lt_trans (hr ((i + j) / 2) (by omega) q h) ho
        · obtain rfl : q = (i + j) / 2 := by omega
          exact ho
      · rw [if_neg ho]
        refine ih _ _ (by omega) (by omega) (by omega) ha (fun q hq hql hn => ?_)
        rcases Nat.lt_or_ge ((i + j) / 2) q with h | h
        · exact ho (ord_lt_trans (hr q hql ((i + j) / 2) h) hn)
        · obtain rfl : q = (i + j) / 2 := by omega
          exact ho hn
    · rw [if_neg hlt]
      obtain rfl : i = j := by omega
      exact ⟨h2, ha, hb⟩
theorem search_spec (l : List S27) (g : S27) (hr : Rise l) : searchAt l g ≤ l.length ∧ (∀ q, q < searchAt l g → ord (l.getD q z27) g < 0) ∧ (∀ q, searchAt l g ≤ q → q < l.length → ¬ ord (l.getD q z27) g < 0) :=
  bs_spec l g hr l.length 0 l.length (by omega) (by omega) (by omega) (fun q hq => absurd hq (by omega)) (fun q h1 h2 => absurd h1 (by omega))
/-- Where one is that is neither below nor above, there the search comes to. -/
theorem search_hit (l : List S27) (g : S27) (hr : Rise l) (m : Nat) (hm : m < l.length) (h0 : ord (l.getD m z27) g = 0) : searchAt l g = m ∧ searchIs l g = true := by
  obtain ⟨h1, h2, h3⟩ := search_spec l g hr
  have e : searchAt l g = m := by
    rcases Nat.lt_trichotomy (searchAt l g) m with h | h | h
    · exact absurd ((ord_cong h0).1 (hr m hm _ h)) (h3 _ (Nat.le_refl _) (by omega))
    · exact h
    · have := h2 m h; omega
  refine ⟨e, ?_⟩
  unfold searchIs
  rw [e, decide_eq_true hm, h0]
  rfl
theorem search_at {l : List S27} {g : S27} (h : searchIs l g = true) : searchAt l g < l.length ∧ ord (l.getD (searchAt l g) z27) g = 0 := by
  unfold searchIs at h
  simp only [Bool.and_eq_true, decide_eq_true_eq, beq_iff_eq] at h
  exact h

/-! May -/
def fitG (role : Int) (nm : ByteArray) (bits : Int) (g : S27) : Bool := g.f0 == role && (g.f1.toList == nm.toList && Go.bits .and .i64 g.f2 bits == bits)
def mayR (l : List S45) (gs : List S27) (role : Int) (nm : ByteArray) (bits : Int) : Bool := decide (0 ≤ findT l nm) && roleB role && (gs.any (fitG role nm bits) || ownsB l role nm)
theorem may_same (l : List S45) (gs : List S27) (role : Int) (nm : ByteArray) (bits : Int) (h : refS gs 0 gs.length = true) : mayB l gs role nm bits = mayR l gs role nm bits := by
  unfold mayB mayR
  congr 1
  rw [Bool.or_comm]
  congr 1
  have hr := rise_of h
  rw [Bool.eq_iff_iff, List.any_eq_true]
  constructor
  · intro h1
    simp only [Bool.and_eq_true, beq_iff_eq] at h1
    obtain ⟨h2, h3⟩ := search_at h1.1
    obtain ⟨h4, h5⟩ := (ord_zero _ _).1 h3
    refine ⟨gs.getD (searchAt gs ⟨role, nm, 0⟩) z27, ?_, ?_⟩
    · rw [show gs.getD (searchAt gs ⟨role, nm, 0⟩) z27 = gs[searchAt gs ⟨role, nm, 0⟩]'h2 by simp [List.getD, List.getElem?_eq_getElem h2]]
      exact List.getElem_mem h2
    · simp only [fitG, Bool.and_eq_true, beq_iff_eq]
      exact ⟨h4, h5, h1.2⟩
  · rintro ⟨g, hg, hf⟩
    obtain ⟨m, hm, rfl⟩ := List.getElem_of_mem hg
    have hgd : gs.getD m z27 = gs[m] := by simp [List.getD, List.getElem?_eq_getElem hm]
    simp only [fitG, Bool.and_eq_true, beq_iff_eq] at hf
    obtain ⟨h1, h2⟩ := search_hit gs ⟨role, nm, 0⟩ hr m hm ((ord_zero _ _).2 ⟨by rw [hgd]; exact hf.1, by rw [hgd]; exact hf.2.1⟩)
    simp only [Bool.and_eq_true, beq_iff_eq]
    exact ⟨h2, by rw [h1, hgd]; exact hf.2.2⟩

theorem may_l0 (v : Int) (l : List S45) (gs : List S27) (role : Int) (nm : ByteArray) (bits : Int) (hl : l.length ≤ 9223372036854775807) (hg : gs.length ≤ 9223372036854775807) : ∀ d i, i + d = gs.length →
    Ev (fun k => mortmainref10_May.l0 k role nm bits gs (gs.length : Int) (i : Int) v l gs) ((gs.drop i).any (fitG role nm bits) || ownsB l role nm) := by
  intro d
  induction d with
  | zero =>
    intro i hi
    refine Ev.step (f := fun k => (mortmainref10_Owns.f k v l gs role nm).bind fun t => some t) (fun k => ?_) ?_
    · simp only [mortmainref10_May.l0]
      rw [if_neg (by omega)]
    · rw [List.drop_eq_nil_of_le (by omega), List.any_nil, Bool.false_or]
      exact Ev.bind (owns_ev v l gs role nm hl) (Ev.now _)
  | succ d ih =>
    intro i hi
    have hlt : i < gs.length := by omega
    have hd : gs.drop i = gs.getD i z27 :: gs.drop (i + 1) := by
      rw [List.drop_eq_getElem_cons hlt]
      simp [List.getD, List.getElem?_eq_getElem hlt]
    have ihn := ih (i + 1) (by omega)
    rw [hd, List.any_cons]
    have step : ∀ k, mortmainref10_May.l0 (k + 1) role nm bits gs (gs.length : Int) (i : Int) v l gs = if fitG role nm bits (gs.getD i z27) = true then some true else mortmainref10_May.l0 k role nm bits gs (gs.length : Int) ((i + 1 : Nat) : Int) v l gs := by
      intro k
      simp only [mortmainref10_May.l0]
      rw [if_pos (by omega), if_pos (by omega), if_pos (by omega), wrap_next hlt hg, rd27_nat]
      simp only [fitG, Bool.and_eq_true, beq_iff_eq]
      by_cases h1 : (gs.getD i z27).f0 = role
      · by_cases h2 : (gs.getD i z27).f1.toList = nm.toList
        · by_cases h3 : Go.bits .and .i64 (gs.getD i z27).f2 bits = bits
          · simp only [h1, h2, h3, if_true, and_self]
          · simp only [h1, h2, h3, if_true, if_false, and_false]
        · simp only [h1, h2, if_true, if_false, false_and, and_false]
      · simp only [h1, if_false, false_and]
    cases hf : fitG role nm bits (gs.getD i z27) with
    | true =>
      refine Ev.step (f := fun _ => some true) (fun k => ?_) (Ev.now _)
      rw [step k, hf, if_pos rfl]
    | false =>
      rw [Bool.false_or]
      refine Ev.step (fun k => ?_) ihn
      rw [step k, hf, if_neg (by decide)]
theorem may_ev (v : Int) (l : List S45) (gs : List S27) (role : Int) (nm : ByteArray) (bits : Int) (hl : l.length ≤ 9223372036854775807) (hg : gs.length ≤ 9223372036854775807) : Ev (fun k => mortmainref10_May.f k v l gs role nm bits) (mayR l gs role nm bits) := by
  have h0 := may_l0 v l gs role nm bits hl hg gs.length 0 (by omega)
  rw [List.drop_zero] at h0
  have hj : ∀ b : Bool, Ev (fun k => mortmainref10_May.j0 k role nm bits b v l gs) (!b && (gs.any (fitG role nm bits) || ownsB l role nm)) := by
    intro b
    cases b with
    | true => exact Ev.step (f := fun _ => some false) (fun k => by simp [mortmainref10_May.j0]) (Ev.now _)
    | false => exact Ev.step (f := fun k => mortmainref10_May.l0 k role nm bits gs (gs.length : Int) ((0 : Nat) : Int) v l gs) (fun k => by simp [mortmainref10_May.j0]) (by simpa using h0)
  refine Ev.bind (find_ev v l gs nm hl) ?_
  unfold mayR roleB
  by_cases h1 : findT l nm < 0
  · rw [decide_eq_false (show ¬ 0 ≤ findT l nm by omega)]
    simp only [if_pos h1]
    exact hj true
  · rw [decide_eq_true (show 0 ≤ findT l nm by omega)]
    simp only [if_neg h1]
    by_cases h2 : role < 0
    · rw [decide_eq_false (show ¬ 0 ≤ role by omega)]
      simp only [if_pos h2]
      exact hj true
    · rw [decide_eq_true (show 0 ≤ role by omega)]
      simp only [if_neg h2]
      have := hj (decide (role > 7))
      by_cases h3 : role > 7
      · rw [decide_eq_false (show ¬ role < 8 by omega)]
        rw [decide_eq_true h3] at this ⊢
        exact this
      · rw [decide_eq_true (show role < 8 by omega)]
        rw [decide_eq_false h3] at this ⊢
        exact this
end Go.Proofs.YtefdfgmlmjnmlaaDoor.My
end

section
set_option linter.unusedSimpArgs false
set_option linter.unusedVariables false
/- slices.Delete of one grant out of an own row. -/
namespace Go.Proofs.YtefdfgmlmjnmlaaDoor.My
open Go.RowKit Go.Proofs.YtefdfgmlmjnmlaaDoorW.PrintWords Go.Proofs.YtefdfgmlmjnmlaaDoor.Rf
open Go.Proofs.YtefdfgmlmjnmlaaDoorW.PrintLast Go.Proofs.YtefdfgmlmjnmlaaDoorW.PrintMore

set_option maxHeartbeats 4000000 in
set_option maxRecDepth 100000 in
theorem delete_calls (l : List S27) (g cap i : Nat) (w : World) (h : OwnG w g cap l) (hi : i < l.length) :
    Calls Tryd.prog 49 #[.slice (some ⟨g, 0, none⟩) l.length cap, .int .i64 i, .int .i64 ((i : Int) + 1)] w fun e w' => e = .returned (.slice (some ⟨g, 0, none⟩) (l.length - 1) cap) ∧ OwnG w' g cap (l.eraseIdx i) ∧ Below g w w' := by
  have HO := Aside0.mk h
  have hlc : l.length ≤ cap := by obtain ⟨_, _, h, _⟩ := h.out; exact h
  have hcm : cap ≤ 9223372036854775807 := by obtain ⟨_, _, _, h, _⟩ := h.out; exact h
  clear h
  have hi0 : (0 : Int) ≤ (i : Int) := by omega
  have hi1 : (i : Int) < (l.length : Int) := by omega
  have hi2 : ((i : Int) + 1) ≤ (l.length : Int) := by omega
  have hi3 : (l.length : Int) ≤ (cap : Int) := by omega
  have hi4 : (0 : Int) ≤ (i : Int) + 1 := by omega
  have hsum : i + (l.length - (i + 1)) = l.length - 1 := by omega
  have hcap2 : ¬ cap = l.length - 1 := by omega
  have hi7 : l.length - 1 ≤ l.length := by omega
  have hi8 : l.length - (l.length - 1) = 1 := by omega
  have hllen : (l.take i ++ l.drop (i + 1)).length = l.length - 1 := by rw [List.length_append, List.length_take, List.length_drop]; omega
  have hi5 : i ≤ cap := by omega
  have hi6 : i + 1 ≤ l.length := by omega
  have hadd : ∀ q, (⟨g, 0, none⟩ : Addr).add q = ⟨g, q, none⟩ := fun q => by cases q <;> simp [Addr.add]
  obtain ⟨aX, hX0, hY0⟩ : ∃ aX : Addr, (if cap = i + 1 then some (⟨g, 0, none⟩ : Addr) else some ⟨g, (i + 1) * 3, none⟩) = some aX ∧ ∀ w1, OwnG w1 g cap l → Kd.C k27 w1 (some aX) (l.drop (i + 1)).length (l.drop (i + 1)) := by
    by_cases hcap : cap = i + 1
    · refine ⟨⟨g, 0, none⟩, by rw [if_pos hcap], fun w1 h1 => ?_⟩
      have h2 := Kd.C_drop (c := cap) (own_C h1) hi6 hlc
      rw [if_pos hcap] at h2
      exact h2
    · refine ⟨⟨g, (i + 1) * 3, none⟩, by rw [if_neg hcap], fun w1 h1 => ?_⟩
      have h2 := Kd.C_drop (c := cap) (own_C h1) hi6 hlc
      rw [if_neg hcap] at h2
      have h3 : (some (⟨g, 0, none⟩ : Addr)).map (·.add ((i + 1) * k27.sz)) = some ⟨g, (i + 1) * 3, none⟩ := congrArg some (hadd _)
      rw [h3] at h2
      exact h2
  have hX := Aside0.mk hX0
  have HY := Aside0.mk hY0
  clear hX0 hY0
  have hne : ((i : Int) == (i : Int) + 1) = false := by simp; omega
  go_enter Tryd.func49, Tryd.ntmps49
  go_wp2_with (fail)
  refine start_ (n := 8) (S := (fun _ => True)) (ds := []) #[false, false, false, false, false, false, false, false] (by kernel_rfl) rfl rfl trivial (fun hHeld => ?_)
  refine pure_ (i := 0) (N := some 20) (v := ?_) (a' := ?_) #[true, false, false, false, false, false, false, false] rfl rfl (by kernel_rfl) (fun _ _ _ h => h) (Or.inl ⟨by rfl, ?_⟩) ?_ ?_
  rotate_left
  · intro w'
    go_simp
    with_reducible rfl
  rotate_left
  · simp only [Act.put, List.setIfInBounds_toArray, List.set_cons_zero, List.set_cons_succ, i64_w, i32_w]
    rfl
  refine pure_ (i := 1) (N := some 21) (v := ?_) (a' := ?_) #[true, true, false, false, false, false, false, false] rfl rfl (by kernel_rfl) (fun _ _ _ h => h) (Or.inl ⟨by rfl, ?_⟩) ?_ ?_
  rotate_left
  · intro w'
    go_simp
    with_reducible rfl
  rotate_left
  · simp only [Act.put, List.setIfInBounds_toArray, List.set_cons_zero, List.set_cons_succ, i64_w, i32_w]
    rfl
  refine pure_ (i := 2) (N := some 22) (v := ?_) (a' := ?_) #[true, true, true, false, false, false, false, false] rfl rfl (by kernel_rfl) (fun _ _ _ h => h) (Or.inl ⟨by rfl, ?_⟩) ?_ ?_
  rotate_left
  · intro w'
    go_simp
    with_reducible rfl
  rotate_left
  · simp only [Act.put, List.setIfInBounds_toArray, List.set_cons_zero, List.set_cons_succ, i64_w, i32_w]
    rfl
  refine pure_ (i := 3) (N := some 23) (v := ?_) (a' := ?_) #[true, true, true, true, false, false, false, false] rfl rfl (by kernel_rfl) (fun _ _ _ h => h) (Or.inl ⟨by rfl, ?_⟩) ?_ ?_
  rotate_left
  · intro w'
    go_simp
    with_reducible rfl
  rotate_left
  · simp only [Act.put, List.setIfInBounds_toArray, List.set_cons_zero, List.set_cons_succ, i64_w, i32_w]
    rfl
  refine pure_ (i := 4) (N := some 24) (v := ?_) (a' := ?_) #[true, true, true, true, true, false, false, false] rfl rfl (by kernel_rfl) (fun _ _ _ h => h) (Or.inl ⟨by rfl, ?_⟩) ?_ ?_
  rotate_left
  · intro w'
    go_simp
    with_reducible rfl
  rotate_left
  · simp only [Act.put, List.setIfInBounds_toArray, List.set_cons_zero, List.set_cons_succ, i64_w, i32_w]
    rfl
  refine pure_ (i := 5) (N := some 25) (v := ?_) (a' := ?_) #[true, true, true, true, true, true, false, false] rfl rfl (by kernel_rfl) (fun _ _ _ h => h) (Or.inl ⟨by rfl, ?_⟩) ?_ ?_
  rotate_left
  · intro w'
    go_simp
    with_reducible rfl
  rotate_left
  · simp only [Act.put, List.setIfInBounds_toArray, List.set_cons_zero, List.set_cons_succ, i64_w, i32_w]
    rfl
  obtain ⟨cs, hrun, hown⟩ := app_in (own_below HO.out (below_drew (Below.refl _ _))) i (by omega) aX (cap - (i + 1)) (l.drop (i + 1)) (HY.out _ (own_below HO.out (below_drew (Below.refl _ _)))) (by rw [List.length_drop]; omega) 23
  rw [List.length_drop, ← hX.out, hsum] at hrun
  have HOWN := Aside0.mk hown
  have HRUN := Aside0.mk hrun
  clear hown hrun
  refine one_ (i := 6) (N := some 26) #[true, true, true, true, true, true, true, false] rfl rfl (by kernel_rfl) (by decide) (fun K hK => ?_)
  refine appends_ (.tmp 22) (.tmp 25) 23 rfl (by rfl) rfl (.slice (some ⟨g, 0, none⟩) i cap) (.slice (if cap = i + 1 then some ⟨g, 0, none⟩ else some ⟨g, (i + 1) * 3, none⟩) (l.length - (i + 1)) (cap - (i + 1))) rfl rfl HRUN.out ?_
  refine hK.out _ _ trivial (fun hHeld => ?_)
  clear hK K
  refine norm_ (a' := ?_) ?_ ?_
  rotate_left
  · show Act.put _ (some 26) _ = _
    simp only [Act.put, List.setIfInBounds_toArray, List.set_cons_zero, List.set_cons_succ, i64_w, i32_w]
    rfl
  refine pure_ (i := 7) (N := some 0) (v := ?_) (a' := ?_) #[true, true, true, true, true, true, true, true] rfl rfl (by kernel_rfl) (fun _ _ _ h => h) (Or.inl ⟨by rfl, ?_⟩) ?_ ?_
  rotate_left
  · intro w'
    go_simp
    with_reducible rfl
  rotate_left
  · simp only [Act.put, List.setIfInBounds_toArray, List.set_cons_zero, List.set_cons_succ, i64_w, i32_w]
    rfl
  refine done_ (by kernel_rfl) ?_
  obtain ⟨cs2, hrun2, hown2⟩ := clear_tail HOWN.out 1 (cap - (l.length - 1)) (by decide) (by rw [hllen]; omega) 0
  rw [hllen] at hrun2
  have HRUN2 := Aside0.mk hrun2
  have HOWN2 := Aside0.mk hown2
  clear hrun2 hown2
  go_wp2_with (first | (refine clearL_ rfl (.tmp 31) 23 rfl (.slice (some ⟨g, (l.length - 1) * 3, none⟩) 1 (cap - (l.length - 1))) ?_ HRUN2.out ?_; (first | rfl | (simp; done))))
  all_goals (go_ret; refine ⟨rfl, ?_, ?_⟩)
  all_goals (first | (rw [List.eraseIdx_eq_take_drop_succ]; exact HOWN2.out) | (have h5 := HOWN2.out; rw [List.eraseIdx_eq_take_drop_succ]; simp only [‹cap = i + 1›] at h5; exact h5) | (exact ⟨rfl, rfl, rfl, (by simp), fun k hk => (by rw [setRow_other _ _ _ _ (by omega), setRow_other _ _ _ _ (by omega)]; rfl)⟩))
end Go.Proofs.YtefdfgmlmjnmlaaDoor.My
end

section
set_option linter.unusedSimpArgs false
set_option linter.unusedVariables false
/- grant.Take: grants without what one gives. -/
namespace Go.Proofs.YtefdfgmlmjnmlaaDoor.My
open Go.RowKit Go.Proofs.YtefdfgmlmjnmlaaDoorW.PrintWords Go.Proofs.YtefdfgmlmjnmlaaDoor.Rf
open Go.Proofs.YtefdfgmlmjnmlaaDoorW.PrintLast Go.Proofs.YtefdfgmlmjnmlaaDoorW.PrintMore

def takeL (l : List S27) (g : S27) : List S27 :=
  if searchIs l g then
    if Go.bits .andNot .i64 (l.getD (searchAt l g) z27).f2 g.f2 = 0 then l.eraseIdx (searchAt l g)
    else setB l (searchAt l g) (Go.bits .andNot .i64 (l.getD (searchAt l g) z27).f2 g.f2)
  else l
structure TakePost (l : List S27) (g : S27) (w : World) (e : Ending) (w' : World) : Prop where
  bad : goodG g = false → e = .returned (.tuple #[.slice none 0 0, .int .i64 1])
  good : goodG g = true → ∃ A c, e = .returned (.tuple #[.slice A (takeL l g).length c, .int .i64 0]) ∧ (takeL l g).length ≤ c ∧ Kd.C k27 w' A (takeL l g).length (takeL l g)
  below : Below w.heap.size w w'

set_option maxHeartbeats 4000000 in
set_option maxRecDepth 100000 in
theorem take_bad (l : List S27) (A : Option Addr) (c : Nat) (g : S27) (w : World) (hg : goodG g = false) (hgs : g.f1.size ≤ 9223372036854775807) (hT : Tabs w) :
    Calls Tryd.prog 24 #[.slice A l.length c, .agg #[.int .i64 g.f0, .string g.f1, .int .i64 g.f2]] w (TakePost l g w) := by
  have HT := Aside0.mk (hT.below (below1 w (.cells #[.int .i64 g.f0, .string g.f1, .int .i64 g.f2] 27)))
  have HB := Aside0.mk (below1 w (.cells #[.int .i64 g.f0, .string g.f1, .int .i64 g.f2] 27))
  clear hT
  go_enter Tryd.func24, Tryd.ntmps24
  go_wp2_with (first | (go_at_call 16; refine (good_calls g _ hgs HT.out).mono ?_; rintro e w2 ⟨rfl, hb2⟩; rw [hg]))
  go_ret2
  exact ⟨fun _ => rfl, fun h => (by rw [hg] at h; cases h), below_step HB.out hb2⟩

set_option maxHeartbeats 4000000 in
set_option maxRecDepth 100000 in
theorem take_miss (l : List S27) (A : Option Addr) (c : Nat) (g : S27) (w : World) (hr : Kd.C k27 w A l.length l) (hl : l.length * 32 ≤ 140737488355328) (hg : goodG g = true) (hs : searchIs l g = false) (hgs : g.f1.size ≤ 9223372036854775807) (hT : Tabs w) :
    Calls Tryd.prog 24 #[.slice A l.length c, .agg #[.int .i64 g.f0, .string g.f1, .int .i64 g.f2]] w (TakePost l g w) := by
  have HT := Aside0.mk (hT.below (below1 w (.cells #[.int .i64 g.f0, .string g.f1, .int .i64 g.f2] 27)))
  have HB := Aside0.mk (below1 w (.cells #[.int .i64 g.f0, .string g.f1, .int .i64 g.f2] 27))
  have HR := Aside0.mk (Kd.C_below hr (below1 w (.cells #[.int .i64 g.f0, .string g.f1, .int .i64 g.f2] 27)))
  have HK := Aside0.mk (blk_new w (.cells #[.int .i64 g.f0, .string g.f1, .int .i64 g.f2] 27))
  have hres : takeL l g = l := by unfold takeL; rw [hs]; rfl
  clear hT hr
  go_enter Tryd.func24, Tryd.ntmps24
  go_wp2_with (first
    | (go_at_call 16; refine (good_calls g _ hgs HT.out).mono ?_; rintro e w2 ⟨rfl, hb2⟩; rw [hg]; have HK2 := Aside0.mk (blk_below HK.out hb2); have HR2 := Aside0.mk (Kd.C_below HR.out hb2); have HB2 := Aside0.mk (below_step HB.out hb2))
    | (go_at_call 48; refine (clone_calls l A c _ HR2.out hl).mono ?_; rintro e w3 ⟨v, rfl, hv, hb3⟩; obtain ⟨A3, c3, hv3, hc3, hC3⟩ := Kd.R_reads hv; subst hv3; have HC3 := Aside0.mk hC3; have HK3 := Aside0.mk (blk_below HK2.out hb3); have HB3 := Aside0.mk (below_step HB2.out hb3); have a0 := blk_cell HK3.out 0; have a1 := blk_cell HK3.out 1; have a2 := blk_cell HK3.out 2; clear hv hC3)
    | (go_at_call 47; refine (find47_calls l A3 c3 g _ HC3.out).mono ?_; rintro e w4 ⟨rfl, hb4⟩; rw [hs]))
  go_ret2
  exact ⟨fun h => (by rw [hg] at h; cases h), fun _ => ⟨A3, c3, by rw [hres]; rfl, by rw [hres]; exact hc3, by rw [hres]; exact Kd.C_below HC3.out hb4⟩, below_step HB3.out hb4⟩
end Go.Proofs.YtefdfgmlmjnmlaaDoor.My
end

section
set_option linter.unusedSimpArgs false
set_option linter.unusedVariables false
/- What a role has of a table, by rising grants; what Take and Put make of it. -/
namespace Go.Proofs.YtefdfgmlmjnmlaaDoor.My
open Go.RowKit Go.Proofs.YtefdfgmlmjnmlaaDoorW.PrintWords Go.Proofs.YtefdfgmlmjnmlaaDoor.Rf

abbrev Lt (a b : S27) : Prop := ord a b < 0
def same (r : Int) (t : ByteArray) (x : S27) : Bool := x.f0 == r && x.f1.toList == t.toList
def bitsR (r : Int) (t : ByteArray) : List S27 → Int
  | [] => 0
  | x :: l => if same r t x = true then x.f2 else bitsR r t l
theorem same_ord (x g : S27) : same g.f0 g.f1 x = true ↔ ord x g = 0 := by
  rw [ord_zero]; simp [same]
theorem same_self (x : S27) : same x.f0 x.f1 x = true := by simp [same]
theorem ord_zero_symm {a b : S27} (h : ord a b = 0) : ord b a = 0 := by
  rw [ord_zero] at *; exact ⟨h.1.symm, h.2.symm⟩
theorem ord_cong2 {a b g : S27} (h : ord a b = 0) : ord a g < 0 ↔ ord b g < 0 := by
  obtain ⟨h1, h2⟩ := (ord_zero a b).1 h
  rw [ord_neg, ord_neg]
  unfold bl
  rw [h1, h2]
theorem ord_flip {a b : S27} (h1 : ¬ ord a b < 0) (h2 : ord a b ≠ 0) : ord b a < 0 := by
  rw [ord_neg] at *
  rw [Ne, ord_zero] at h2
  by_cases e : a.f0 = b.f0
  · refine .inr ⟨e.symm, ?_⟩
    unfold bl
    cases h3 : Op.bytesLess b.f1.toList a.f1.toList with
    | true => rfl
    | false =>
      cases h4 : Op.bytesLess a.f1.toList b.f1.toList with
      | true => exact absurd (.inr ⟨e, h4⟩) h1
      | false => exact absurd ⟨e, bl_total h4 h3⟩ h2
  · refine .inl ?_
    have : ¬ a.f0 < b.f0 := fun h => h1 (.inl h)
    omega
theorem lt_irrefl {a : S27} (h : ord a a < 0) : False := by
  have : ord a a = 0 := by rw [ord_zero]; exact ⟨rfl, rfl⟩
  omega
theorem lt_asymm {a b : S27} (h : ord a b < 0) (h2 : ord b a < 0) : False := lt_irrefl (ord_lt_trans h h2)

theorem bits_skip {r : Int} {t : ByteArray} {a b : List S27} (h : ∀ x, x ∈ a → same r t x = false) : bitsR r t (a ++ b) = bitsR r t b := by
  induction a with
  | nil => rfl
  | cons x a ih =>
    rw [List.cons_append, bitsR, if_neg (by rw [h x (by simp)]; decide)]
    exact ih fun y hy => h y (List.mem_cons_of_mem _ hy)
theorem bits_none {r : Int} {t : ByteArray} {a : List S27} (h : ∀ x, x ∈ a → same r t x = false) : bitsR r t a = 0 := by
  have := bits_skip (b := []) h
  rwa [List.append_nil] at this
theorem bits_mid {r : Int} {t : ByteArray} {a b : List S27} {x : S27} (h : same r t x = false) : bitsR r t (a ++ x :: b) = bitsR r t (a ++ b) := by
  induction a with
  | nil => rw [List.nil_append, List.nil_append, bitsR, if_neg (by rw [h]; decide)]
  | cons y a ih => rw [List.cons_append, List.cons_append, bitsR, bitsR, ih]
theorem bits_hit {r : Int} {t : ByteArray} {a b : List S27} {x : S27} (ha : ∀ y, y ∈ a → same r t y = false) (h : same r t x = true) : bitsR r t (a ++ x :: b) = x.f2 := by
  rw [bits_skip ha, bitsR, if_pos h]
theorem bits_cong {r r' : Int} {t t' : ByteArray} (h1 : r = r') (h2 : t.toList = t'.toList) (l : List S27) : bitsR r t l = bitsR r' t' l := by
  have : ∀ x, same r t x = same r' t' x := fun x => by simp only [same, h1, h2]
  induction l with
  | nil => rfl
  | cons x l ih => rw [bitsR, bitsR, this x, ih]

/-- Rising, good, not too many. -/
structure Good64 (l : List S27) : Prop where
  good : ∀ x, x ∈ l → goodG x = true
  rise : l.Pairwise Lt
  len : l.length ≤ 64
theorem refS_iff (l : List S27) : refS l 0 l.length = true ↔ Good64 l := by
  constructor
  · intro h
    have hr := rise_of h
    simp only [refS, Bool.and_eq_true, List.all_eq_true, okR] at h
    refine ⟨fun x hx => ?_, ?_, of_decide_eq_true h.2⟩
    · obtain ⟨i, hi, rfl⟩ := List.getElem_of_mem hx
      have := (h.1 i (by rw [List.mem_range'_1]; omega)).1
      simpa [List.getD, List.getElem?_eq_getElem hi] using this
    · rw [List.pairwise_iff_getElem]
      intro i j hi hj hij
      have := hr j hj i hij
      simpa [List.getD, List.getElem?_eq_getElem hi, List.getElem?_eq_getElem hj] using this
  · rintro ⟨h1, h2, h3⟩
    simp only [refS, Bool.and_eq_true, List.all_eq_true, okR, pairOk]
    refine ⟨fun i hi => ⟨?_, fun j hj => ?_⟩, decide_eq_true h3⟩
    · have hi : i < l.length := by have := (List.mem_range'_1.1 hi).2; omega
      rw [show l.getD i z27 = l[i] by simp [List.getD, List.getElem?_eq_getElem hi]]
      exact h1 _ (List.getElem_mem hi)
    · have hi : i < l.length := by have := (List.mem_range'_1.1 hi).2; omega
      have hj := List.mem_range.1 hj
      rw [List.pairwise_iff_getElem] at h2
      rw [show l.getD i z27 = l[i] by simp [List.getD, List.getElem?_eq_getElem hi], show l.getD j z27 = l[j] by simp [List.getD, List.getElem?_eq_getElem (show j < l.length by omega)]]
      exact decide_eq_true (h2 j i (by omega) hi hj)
theorem rise_iff {l : List S27} (h : l.Pairwise Lt) : Rise l := by
  intro i hi j hj
  rw [List.pairwise_iff_getElem] at h
  rw [show l.getD i z27 = l[i] by simp [List.getD, List.getElem?_eq_getElem hi], show l.getD j z27 = l[j] by simp [List.getD, List.getElem?_eq_getElem (show j < l.length by omega)]]
  exact h j i (by omega) hi hj

/-- Where a grant stands among rising ones. -/
structure Cut (l : List S27) (g : S27) (a b : List S27) : Prop where
  eq : l = a ++ b
  at' : searchAt l g = a.length
  lo : ∀ x, x ∈ a → ord x g < 0
inductive CutAt (l : List S27) (g : S27) : Prop
  | hit (a b : List S27) (x : S27) (h : Cut l g a (x :: b)) (hx : ord x g = 0) (hb : ∀ y, y ∈ b → ord g y < 0) (his : searchIs l g = true)
  | miss (a b : List S27) (h : Cut l g a b) (hb : ∀ y, y ∈ b → ord g y < 0) (his : searchIs l g = false)
theorem cut {l : List S27} (hp : l.Pairwise Lt) (g : S27) : CutAt l g := by
  have hr := rise_iff hp
  obtain ⟨h1, h2, h3⟩ := search_spec l g hr
  have hc : ∀ b, l.drop (searchAt l g) = b → Cut l g (l.take (searchAt l g)) b := fun b hb => by
    subst hb
    refine ⟨(List.take_append_drop _ _).symm, by rw [List.length_take]; omega, fun x hx => ?_⟩
    obtain ⟨i, hi, rfl⟩ := List.getElem_of_mem hx
    rw [List.length_take] at hi
    have := h2 i (by omega)
    rw [List.getElem_take]
    simpa [List.getD, List.getElem?_eq_getElem (show i < l.length by omega)] using this
  have hd : (l.drop (searchAt l g)).Pairwise Lt := List.Pairwise.sublist (List.drop_sublist _ _) hp
  cases hb : l.drop (searchAt l g) with
  | nil =>
    refine .miss _ _ (hc _ hb) (fun y hy => by cases hy) ?_
    have := congrArg List.length hb
    rw [List.length_drop] at this
    simp only [List.length_nil] at this
    unfold searchIs
    rw [decide_eq_false (by omega)]; rfl
  | cons x b =>
    have hlt : searchAt l g < l.length := by
      have := congrArg List.length hb
      rw [List.length_drop] at this
      simp only [List.length_cons] at this
      omega
    have hx : l.getD (searchAt l g) z27 = x := by
      have := List.drop_eq_getElem_cons hlt
      rw [hb] at this
      injection this with e1 e2
      rw [e1]; simp [List.getD, List.getElem?_eq_getElem hlt]
    rw [hb] at hd
    have hn := h3 _ (Nat.le_refl _) hlt
    rw [hx] at hn
    have hxb := (List.pairwise_cons.1 hd).1
    by_cases h0 : ord x g = 0
    · refine .hit _ b x (hc _ hb) h0 (fun y hy => (ord_cong2 h0).1 (hxb y hy)) ?_
      unfold searchIs
      rw [decide_eq_true hlt, hx, h0]; rfl
    · have hgx := ord_flip hn h0
      refine .miss _ _ (hc _ hb) (fun y hy => ?_) ?_
      · rcases List.mem_cons.1 hy with rfl | hy
        · exact hgx
        · exact ord_lt_trans hgx (hxb y hy)
      · unfold searchIs
        rw [decide_eq_true hlt, hx, beq_eq_false_iff_ne.2 h0]; rfl
theorem Cut.get {l a b : List S27} {g x : S27} (h : Cut l g a (x :: b)) : l.getD (searchAt l g) z27 = x := by
  rw [h.at', h.eq]; simp [List.getD]
theorem Cut.erase {l a b : List S27} {g x : S27} (h : Cut l g a (x :: b)) : l.eraseIdx (searchAt l g) = a ++ b := by
  rw [h.at', h.eq, List.eraseIdx_append_of_length_le (Nat.le_refl _)]; simp
theorem Cut.set {l a b : List S27} {g x : S27} (h : Cut l g a (x :: b)) (v : Int) : setB l (searchAt l g) v = a ++ ⟨x.f0, x.f1, v⟩ :: b := by
  unfold setB
  rw [h.get, h.at', h.eq, List.set_append_right _ _ (Nat.le_refl _)]; simp
theorem lt_same {x g : S27} (h : ord x g < 0) : same g.f0 g.f1 x = false := by
  cases e : same g.f0 g.f1 x with
  | false => rfl
  | true => rw [same_ord] at e; omega
theorem gt_same {x g : S27} (h : ord g x < 0) : same g.f0 g.f1 x = false := by
  cases e : same g.f0 g.f1 x with
  | false => rfl
  | true =>
    rw [same_ord] at e
    have := ord_zero_symm e
    omega
theorem not_same {r : Int} {t : ByteArray} {x g : S27} (h0 : ord x g = 0) (h : same r t g = false) : same r t x = false := by
  obtain ⟨e1, e2⟩ := (ord_zero x g).1 h0
  simpa only [same, e1, e2] using h
end Go.Proofs.YtefdfgmlmjnmlaaDoor.My
end

section
set_option linter.unusedSimpArgs false
set_option linter.unusedVariables false
/- Take and Put on rising grants: they stay rising, and what they turn. -/
namespace Go.Proofs.YtefdfgmlmjnmlaaDoor.My
open Go.RowKit Go.Proofs.YtefdfgmlmjnmlaaDoorW.PrintWords Go.Proofs.YtefdfgmlmjnmlaaDoor.Rf

theorem good_parts {x : S27} (h : goodG x = true) : 0 < x.f0 ∧ x.f0 < 8 ∧ isName x.f1 = true ∧ 0 < x.f2 ∧ x.f2 ≤ 31 := by
  simp only [goodG, Bool.and_eq_true, decide_eq_true_eq] at h
  exact ⟨h.1.1.1.1, h.1.1.1.2, h.1.1.2, h.1.2, h.2⟩
theorem good_mk {x : S27} (h : goodG x = true) {v : Int} (h0 : 0 < v) (h1 : v ≤ 31) : goodG ⟨x.f0, x.f1, v⟩ = true := by
  obtain ⟨a, b, c, _, _⟩ := good_parts h
  simp only [goodG, Bool.and_eq_true, decide_eq_true_eq]
  exact ⟨⟨⟨⟨a, b⟩, c⟩, h0⟩, h1⟩
set_option maxRecDepth 100000 in
theorem andNot32 : ∀ n : Fin 32, ∀ m : Fin 32, 0 ≤ Go.bits .andNot .i64 (n.val : Int) (m.val : Int) ∧ Go.bits .andNot .i64 (n.val : Int) (m.val : Int) ≤ 31 := by decide +kernel
set_option maxRecDepth 100000 in
theorem or32 : ∀ n : Fin 32, ∀ m : Fin 32, (n.val : Int) ≤ Go.bits .or .i64 (n.val : Int) (m.val : Int) ∧ Go.bits .or .i64 (n.val : Int) (m.val : Int) ≤ 31 := by decide +kernel
set_option maxRecDepth 100000 in
theorem zero32 : ∀ m : Fin 32, Go.bits .andNot .i64 0 (m.val : Int) = 0 ∧ Go.bits .or .i64 0 (m.val : Int) = (m.val : Int) := by decide +kernel
theorem andNot_range {a b : Int} (h0 : 0 ≤ a) (h1 : a ≤ 31) (h2 : 0 ≤ b) (h3 : b ≤ 31) : 0 ≤ Go.bits .andNot .i64 a b ∧ Go.bits .andNot .i64 a b ≤ 31 := by
  obtain ⟨n, rfl⟩ := Int.eq_ofNat_of_zero_le h0
  obtain ⟨m, rfl⟩ := Int.eq_ofNat_of_zero_le h2
  exact andNot32 ⟨n, by omega⟩ ⟨m, by omega⟩
theorem or_range {a b : Int} (h0 : 0 ≤ a) (h1 : a ≤ 31) (h2 : 0 ≤ b) (h3 : b ≤ 31) : a ≤ Go.bits .or .i64 a b ∧ Go.bits .or .i64 a b ≤ 31 := by
  obtain ⟨n, rfl⟩ := Int.eq_ofNat_of_zero_le h0
  obtain ⟨m, rfl⟩ := Int.eq_ofNat_of_zero_le h2
  exact or32 ⟨n, by omega⟩ ⟨m, by omega⟩
theorem zero_bits {b : Int} (h2 : 0 ≤ b) (h3 : b ≤ 31) : Go.bits .andNot .i64 0 b = 0 ∧ Go.bits .or .i64 0 b = b := by
  obtain ⟨m, rfl⟩ := Int.eq_ofNat_of_zero_le h2
  exact zero32 ⟨m, by omega⟩

def putL (l : List S27) (g : S27) : List S27 :=
  if searchIs l g = true then setB l (searchAt l g) (Go.bits .or .i64 (l.getD (searchAt l g) z27).f2 g.f2)
  else l.take (searchAt l g) ++ g :: l.drop (searchAt l g)

/-- What a turn of one grant keeps. -/
theorem pair_mid {a b : List S27} {x g : S27} (ha : ∀ y, y ∈ a → ord y g < 0) (hb : ∀ y, y ∈ b → ord g y < 0) (h0 : ord x g = 0) (h : (a ++ b).Pairwise Lt) : (a ++ x :: b).Pairwise Lt := by
  rw [List.pairwise_append] at h ⊢
  refine ⟨h.1, List.pairwise_cons.2 ⟨fun y hy => (ord_cong2 h0).2 (hb y hy), h.2.1⟩, fun u hu v hv => ?_⟩
  rcases List.mem_cons.1 hv with rfl | hv
  · exact (ord_cong h0).2 (ha u hu)
  · exact h.2.2 u hu v hv
theorem key_ord (x : S27) (v : Int) (g : S27) (h : ord x g = 0) : ord ⟨x.f0, x.f1, v⟩ g = 0 := by
  rw [ord_zero] at *; exact h
theorem pair_drop {a b : List S27} {x : S27} (h : (a ++ x :: b).Pairwise Lt) : (a ++ b).Pairwise Lt :=
  List.Pairwise.sublist (List.Sublist.append_left (List.sublist_cons_self _ _) _) h

theorem take_len {l : List S27} (g : S27) (hp : l.Pairwise Lt) : (takeL l g).length ≤ l.length := by
  unfold takeL
  split
  · split
    · rw [List.length_eraseIdx]; split <;> omega
    · rw [setB_len]; omega
  · omega
theorem take_good {l : List S27} {g : S27} (h : Good64 l) (hg : goodG g = true) : Good64 (takeL l g) := by
  have hlen := take_len g h.rise
  obtain ⟨_, _, _, hg0, hg1⟩ := good_parts hg
  cases cut h.rise g with
  | miss a b hc hb his =>
    have : takeL l g = l := by unfold takeL; rw [his]; rfl
    rw [this]; exact h
  | hit a b x hc hx hb his =>
    have hxl : x ∈ l := by rw [hc.eq]; simp
    have hgx := h.good x hxl
    obtain ⟨_, _, _, hx0, hx1⟩ := good_parts hgx
    obtain ⟨r0, r1⟩ := andNot_range (Int.le_of_lt hx0) hx1 (Int.le_of_lt hg0) hg1
    have hp := h.rise
    rw [hc.eq] at hp
    have hsub : ∀ y, y ∈ a ++ b → goodG y = true := fun y hy => h.good y (by rw [hc.eq]; simp only [List.mem_append, List.mem_cons] at hy ⊢; rcases hy with hy | hy <;> simp [hy])
    refine ⟨?_, ?_, Nat.le_trans hlen h.len⟩
    · unfold takeL
      rw [his, if_pos rfl, hc.get]
      split
      · rw [hc.erase]; exact hsub
      · rename_i hv
        rw [hc.set]
        intro y hy
        simp only [List.mem_append, List.mem_cons] at hy
        rcases hy with hy | rfl | hy
        · exact hsub y (by simp [hy])
        · exact good_mk hgx (by omega) r1
        · exact hsub y (by simp [hy])
    · unfold takeL
      rw [his, if_pos rfl, hc.get]
      split
      · rw [hc.erase]; exact pair_drop hp
      · rw [hc.set]; exact pair_mid hc.lo hb (key_ord x _ g hx) (pair_drop hp)
theorem take_bits {l : List S27} {g : S27} (h : Good64 l) (hg : goodG g = true) (r : Int) (t : ByteArray) :
    bitsR r t (takeL l g) = if same r t g = true then Go.bits .andNot .i64 (bitsR r t l) g.f2 else bitsR r t l := by
  obtain ⟨_, _, _, hg0, hg1⟩ := good_parts hg
  cases hs : same r t g with
  | false =>
    rw [if_neg (by decide)]
    unfold takeL
    cases cut h.rise g with
    | miss a b hc hb his => rw [his]; rfl
    | hit a b x hc hx hb his =>
      rw [his, if_pos rfl, hc.get]
      have hn := not_same hx hs
      have hl : bitsR r t l = bitsR r t (a ++ b) := by rw [hc.eq]; exact bits_mid hn
      split
      · rw [hc.erase, hl]
      · rw [hc.set, hl]; exact bits_mid (by simpa only [same] using hn)
  | true =>
    rw [if_pos rfl]
    have hk : ∀ m, bitsR r t m = bitsR g.f0 g.f1 m := fun m => by
      simp only [same, Bool.and_eq_true, beq_iff_eq] at hs
      exact bits_cong hs.1.symm hs.2.symm m
    rw [hk, hk]
    unfold takeL
    cases cut h.rise g with
    | miss a b hc hb his =>
      have : bitsR g.f0 g.f1 l = 0 := by
        rw [hc.eq]
        refine bits_none fun x hx => ?_
        rcases List.mem_append.1 hx with hx | hx
        · exact lt_same (hc.lo x hx)
        · exact gt_same (hb x hx)
      rw [his, this, (zero_bits (Int.le_of_lt hg0) hg1).1, if_neg (by decide), this]
    | hit a b x hc hx hb his =>
      have ha : ∀ y, y ∈ a → same g.f0 g.f1 y = false := fun y hy => lt_same (hc.lo y hy)
      have hsx : same g.f0 g.f1 x = true := (same_ord x g).2 hx
      have hl : bitsR g.f0 g.f1 l = x.f2 := by rw [hc.eq]; exact bits_hit ha hsx
      rw [his, if_pos rfl, hc.get, hl]
      split
      · rename_i h0
        rw [hc.erase, h0]
        refine bits_none fun y hy => ?_
        rcases List.mem_append.1 hy with hy | hy
        · exact ha y hy
        · exact gt_same (hb y hy)
      · rw [hc.set]; exact bits_hit ha (by simpa only [same] using hsx)
theorem bits_own {l : List S27} (hp : l.Pairwise Lt) {x : S27} (hx : x ∈ l) : bitsR x.f0 x.f1 l = x.f2 := by
  obtain ⟨a, b, rfl⟩ := List.append_of_mem hx
  rw [List.pairwise_append] at hp
  exact bits_hit (fun y hy => lt_same (hp.2.2 y hy x (by simp))) (same_self x)

theorem put_bits {l : List S27} {g : S27} (h : Good64 l) (hg : goodG g = true) (r : Int) (t : ByteArray) :
    bitsR r t (putL l g) = if same r t g = true then Go.bits .or .i64 (bitsR r t l) g.f2 else bitsR r t l := by
  obtain ⟨_, _, _, hg0, hg1⟩ := good_parts hg
  cases hs : same r t g with
  | false =>
    rw [if_neg (by decide)]
    unfold putL
    cases cut h.rise g with
    | miss a b hc hb his =>
      rw [his, if_neg (by decide), bits_mid hs, List.take_append_drop]
    | hit a b x hc hx hb his =>
      rw [his, if_pos rfl, hc.get]
      have hn := not_same hx hs
      have hl : bitsR r t l = bitsR r t (a ++ b) := by rw [hc.eq]; exact bits_mid hn
      rw [hc.set, hl]; exact bits_mid (by simpa only [same] using hn)
  | true =>
    rw [if_pos rfl]
    have hk : ∀ m, bitsR r t m = bitsR g.f0 g.f1 m := fun m => by
      simp only [same, Bool.and_eq_true, beq_iff_eq] at hs
      exact bits_cong hs.1.symm hs.2.symm m
    rw [hk, hk]
    unfold putL
    cases cut h.rise g with
    | miss a b hc hb his =>
      have : bitsR g.f0 g.f1 l = 0 := by
        rw [hc.eq]
        refine bits_none fun x hx => ?_
        rcases List.mem_append.1 hx with hx | hx
        · exact lt_same (hc.lo x hx)
        · exact gt_same (hb x hx)
      rw [his, this, (zero_bits (Int.le_of_lt hg0) hg1).2, if_neg (by decide), hc.at', hc.eq, List.take_left, List.drop_left]
      exact bits_hit (fun y hy => lt_same (hc.lo y hy)) (same_self g)
    | hit a b x hc hx hb his =>
      have ha : ∀ y, y ∈ a → same g.f0 g.f1 y = false := fun y hy => lt_same (hc.lo y hy)
      have hsx : same g.f0 g.f1 x = true := (same_ord x g).2 hx
      have hl : bitsR g.f0 g.f1 l = x.f2 := by rw [hc.eq]; exact bits_hit ha hsx
      rw [his, if_pos rfl, hc.get, hl, hc.set]
      exact bits_hit ha (by simpa only [same] using hsx)
theorem bits_zero {l : List S27} {g : S27} (h : Good64 l) : searchIs l g = false ↔ bitsR g.f0 g.f1 l = 0 := by
  cases cut h.rise g with
  | miss a b hc hb his =>
    refine ⟨fun _ => ?_, fun _ => his⟩
    rw [hc.eq]
    refine bits_none fun x hx => ?_
    rcases List.mem_append.1 hx with hx | hx
    · exact lt_same (hc.lo x hx)
    · exact gt_same (hb x hx)
  | hit a b x hc hx hb his =>
    have hxl : x ∈ l := by rw [hc.eq]; simp
    obtain ⟨_, _, _, hx0, _⟩ := good_parts (h.good x hxl)
    have hl : bitsR g.f0 g.f1 l = x.f2 := by rw [hc.eq]; exact bits_hit (fun y hy => lt_same (hc.lo y hy)) ((same_ord x g).2 hx)
    rw [his, hl]
    constructor
    · intro h; cases h
    · intro h; omega
theorem put_good {l : List S27} {g : S27} (h : Good64 l) (hg : goodG g = true) (hn : searchIs l g = true ∨ l.length < 64) : Good64 (putL l g) := by
  obtain ⟨_, _, _, hg0, hg1⟩ := good_parts hg
  cases cut h.rise g with
  | miss a b hc hb his =>
    have hl : putL l g = a ++ g :: b := by
      unfold putL
      rw [his, if_neg (by decide), hc.at', hc.eq, List.take_left, List.drop_left]
    have h64 : l.length < 64 := by
      rcases hn with hn | hn
      · rw [his] at hn; cases hn
      · exact hn
    rw [hc.eq] at h64
    have hp := h.rise
    rw [hc.eq] at hp
    rw [hl]
    refine ⟨fun y hy => ?_, pair_mid hc.lo hb (by rw [ord_zero]; exact ⟨rfl, rfl⟩) hp, by simp only [List.length_append, List.length_cons] at h64 ⊢; omega⟩
    simp only [List.mem_append, List.mem_cons] at hy
    rcases hy with hy | rfl | hy
    · exact h.good y (by rw [hc.eq]; simp [hy])
    · exact hg
    · exact h.good y (by rw [hc.eq]; simp [hy])
  | hit a b x hc hx hb his =>
    have hxl : x ∈ l := by rw [hc.eq]; simp
    have hgx := h.good x hxl
    obtain ⟨_, _, _, hx0, hx1⟩ := good_parts hgx
    obtain ⟨r0, r1⟩ := or_range (Int.le_of_lt hx0) hx1 (Int.le_of_lt hg0) hg1
    have hl : putL l g = a ++ ⟨x.f0, x.f1, Go.bits .or .i64 x.f2 g.f2⟩ :: b := by
      unfold putL
      rw [his, if_pos rfl, hc.get, hc.set]
    have hp := h.rise
    have hlen := h.len
    rw [hc.eq] at hp hlen
    rw [hl]
    refine ⟨fun y hy => ?_, pair_mid hc.lo hb (key_ord x _ g hx) (pair_drop hp), by simpa using hlen⟩
    simp only [List.mem_append, List.mem_cons] at hy
    rcases hy with hy | rfl | hy
    · exact h.good y (by rw [hc.eq]; simp [hy])
    · exact good_mk hgx (by omega) r1
    · exact h.good y (by rw [hc.eq]; simp [hy])

/-- Rising grants are told by what they give. -/
theorem same_bits {l : List S27} (hl : l.Pairwise Lt) (gl : ∀ x, x ∈ l → goodG x = true) : ∀ {m : List S27}, m.Pairwise Lt → (∀ x, x ∈ m → goodG x = true) → (∀ r t, bitsR r t l = bitsR r t m) → l = m := by
  induction l with
  | nil =>
    intro m hm gm hb
    cases m with
    | nil => rfl
    | cons y m =>
      have := hb y.f0 y.f1
      rw [bits_own hm (by simp)] at this
      obtain ⟨_, _, _, h0, _⟩ := good_parts (gm y (by simp))
      simp only [bitsR] at this
      omega
  | cons x l ih =>
    intro m hm gm hb
    obtain ⟨_, _, _, x0, _⟩ := good_parts (gl x (by simp))
    have hxo := bits_own hl (List.mem_cons_self : x ∈ x :: l)
    obtain ⟨hxl, hl'⟩ := List.pairwise_cons.1 hl
    cases m with
    | nil =>
      have := hb x.f0 x.f1
      rw [hxo] at this
      simp only [bitsR] at this
      omega
    | cons y m =>
      obtain ⟨_, _, _, y0, _⟩ := good_parts (gm y (by simp))
      have hyo := bits_own hm (List.mem_cons_self : y ∈ y :: m)
      obtain ⟨hym, hm'⟩ := List.pairwise_cons.1 hm
      by_cases h1 : ord x y < 0
      · exfalso
        have := hb x.f0 x.f1
        rw [hxo, bits_none (a := y :: m) (fun z hz => ?_)] at this
        · omega
        · rcases List.mem_cons.1 hz with rfl | hz
          · exact gt_same h1
          · exact gt_same (ord_lt_trans h1 (hym z hz))
      · by_cases h2 : ord x y = 0
        · have hbx := hb x.f0 x.f1
          obtain ⟨e0, e1⟩ := (ord_zero x y).1 h2
          rw [hxo, bits_cong e0 e1, hyo] at hbx
          have e1' : x.f1 = y.f1 := by
            rw [ByteArray.toList_eq, ByteArray.toList_eq] at e1
            exact ByteArray.ext (Array.toList_inj.mp e1)
          have hxy : x = y := by
            cases x; cases y
            simp only at e0 e1' hbx
            rw [e0, e1', hbx]
          subst hxy
          congr 1
          refine ih hl' (fun z hz => gl z (by simp [hz])) hm' (fun z hz => gm z (by simp [hz])) (fun r t => ?_)
          have := hb r t
          cases hs : same r t x with
          | false =>
            rw [bitsR, bitsR, hs] at this
            simpa using this
          | true =>
            have hk : ∀ n, bitsR r t n = bitsR x.f0 x.f1 n := fun n => by
              simp only [same, Bool.and_eq_true, beq_iff_eq] at hs
              exact bits_cong hs.1.symm hs.2.symm n
            rw [hk, hk, bits_none fun z hz => gt_same (hxl z hz), bits_none fun z hz => gt_same (hym z hz)]
        · exfalso
          have h3 := ord_flip h1 h2
          have := hb y.f0 y.f1
          rw [hyo, bits_none (a := x :: l) (fun z hz => ?_)] at this
          · omega
          · rcases List.mem_cons.1 hz with rfl | hz
            · exact gt_same h3
            · exact gt_same (ord_lt_trans h3 (hxl z hz))
end Go.Proofs.YtefdfgmlmjnmlaaDoor.My
end

section
set_option linter.unusedSimpArgs false
set_option linter.unusedVariables false
/- grant.Put: grants with one more. -/
namespace Go.Proofs.YtefdfgmlmjnmlaaDoor.My
open Go.RowKit Go.Proofs.YtefdfgmlmjnmlaaDoorW.PrintWords Go.Proofs.YtefdfgmlmjnmlaaDoor.Rf
open Go.Proofs.YtefdfgmlmjnmlaaDoorW.PrintLast Go.Proofs.YtefdfgmlmjnmlaaDoorW.PrintMore

structure PutPost (l : List S27) (g : S27) (w : World) (e : Ending) (w' : World) : Prop where
  out : ∃ (A : Option Addr) (n c : Nat) (er : Int), e = .returned (.tuple #[.slice A n c, .int .i64 er])
    ∧ (goodG g = false → n = 0 ∧ er = 1) ∧ (goodG g = true → searchIs l g = false → 64 ≤ l.length → n = 0 ∧ er = 3)
    ∧ (goodG g = true → (searchIs l g = true ∨ l.length < 64) → n = (putL l g).length ∧ er = 0 ∧ n ≤ c ∧ Kd.C k27 w' A (putL l g).length (putL l g))
  below : Below w.heap.size w w'
theorem row_below {w w1 : World} {b : Nat} {v : Value} {l : List S27} (h : RowG w b v l) (hb : Below w.heap.size w w1) : RowG w1 b v l := by
  cases h with
  | nil hv hl => exact .nil hv hl
  | own q cap hv hbq h => exact .own q cap hv hbq (own_below h hb)
theorem row_ne {w : World} {b : Nat} {v : Value} {l : List S27} (h : RowG w b v l) {q cap : Nat} (hv : v = .slice (some ⟨q, 0, none⟩) l.length cap) : w.heap.size ≠ q := by
  cases h with
  | nil hv2 _ => rw [hv] at hv2; cases hv2
  | own q2 cap2 hv2 _ h =>
    rw [hv] at hv2
    cases hv2
    have := h.lt
    omega
theorem own_one {w : World} {y : Nat} {g : S27} (h : w.heap[y]? = some (.cells #[.int .i64 g.f0, .string g.f1, .int .i64 g.f2] 27 (0, 0))) : OwnG w y 1 [g] :=
  ⟨_, h, Nat.le_refl _, by decide, rfl, rfl⟩

set_option maxHeartbeats 4000000 in
set_option maxRecDepth 100000 in
theorem put_bad (l : List S27) (A : Option Addr) (c : Nat) (g : S27) (w : World) (hg : goodG g = false) (hgs : g.f1.size ≤ 9223372036854775807) (hT : Tabs w) :
    Calls Tryd.prog 39 #[.slice A l.length c, .agg #[.int .i64 g.f0, .string g.f1, .int .i64 g.f2]] w (PutPost l g w) := by
  have HT := Aside0.mk (hT.below (below1 w (.cells #[.int .i64 g.f0, .string g.f1, .int .i64 g.f2] 27)))
  have HB := Aside0.mk (below1 w (.cells #[.int .i64 g.f0, .string g.f1, .int .i64 g.f2] 27))
  clear hT
  go_enter Tryd.func39, Tryd.ntmps39
  go_wp2_with (first | (go_at_call 16; refine (good_calls g _ hgs HT.out).mono ?_; rintro e w2 ⟨rfl, hb2⟩; rw [hg]))
  go_ret2
  exact ⟨⟨none, 0, 0, 1, rfl, fun _ => ⟨rfl, rfl⟩, fun h => (by rw [hg] at h; cases h), fun h => (by rw [hg] at h; cases h)⟩, below_step HB.out hb2⟩

set_option maxHeartbeats 4000000 in
set_option maxRecDepth 100000 in
theorem put_full (l : List S27) (A : Option Addr) (c : Nat) (g : S27) (w : World) (hr : Kd.C k27 w A l.length l) (hl : l.length * 32 ≤ 140737488355328) (hg : goodG g = true) (hs : searchIs l g = false) (h64 : 64 ≤ l.length) (hgs : g.f1.size ≤ 9223372036854775807) (hT : Tabs w) :
    Calls Tryd.prog 39 #[.slice A l.length c, .agg #[.int .i64 g.f0, .string g.f1, .int .i64 g.f2]] w (PutPost l g w) := by
  have HT := Aside0.mk (hT.below (below1 w (.cells #[.int .i64 g.f0, .string g.f1, .int .i64 g.f2] 27)))
  have HB := Aside0.mk (below1 w (.cells #[.int .i64 g.f0, .string g.f1, .int .i64 g.f2] 27))
  have HR := Aside0.mk (Kd.C_below hr (below1 w (.cells #[.int .i64 g.f0, .string g.f1, .int .i64 g.f2] 27)))
  have HK := Aside0.mk (blk_new w (.cells #[.int .i64 g.f0, .string g.f1, .int .i64 g.f2] 27))
  have h64' : decide ((64 : Int) ≤ (l.length : Int)) = true := decide_eq_true (by omega)
  clear hT hr
  go_enter Tryd.func39, Tryd.ntmps39
  go_wp2_with (first
    | (go_at_call 16; refine (good_calls g _ hgs HT.out).mono ?_; rintro e w2 ⟨rfl, hb2⟩; rw [hg]; have HK2 := Aside0.mk (blk_below HK.out hb2); have HR2 := Aside0.mk (Kd.C_below HR.out hb2); have HB2 := Aside0.mk (below_step HB.out hb2))
    | (go_at_call 48; refine (clone_calls l A c _ HR2.out hl).mono ?_; rintro e w3 ⟨v, rfl, hv, hb3⟩; obtain ⟨q, cap, hv3, hq, hO⟩ := own_of_R hv (by omega); subst hv3; have HO := Aside0.mk hO; have HQ := Aside0.mk hq; have HK3 := Aside0.mk (blk_below HK2.out hb3); have HB3 := Aside0.mk (below_step HB2.out hb3); have a0 := blk_cell HK3.out 0; have a1 := blk_cell HK3.out 1; have a2 := blk_cell HK3.out 2; clear hv hO hq)
    | (go_at_call 47; refine (find47_calls l (some ⟨q, 0, none⟩) cap g _ (own_C HO.out)).mono ?_; rintro e w4 ⟨rfl, hb4⟩; rw [hs]; have HO4 := Aside0.mk (own_below HO.out hb4); have HK4 := Aside0.mk (blk_below HK3.out hb4); have HB4 := Aside0.mk (below_step HB3.out hb4)))
  go_ret2
  exact ⟨⟨none, 0, 0, 3, rfl, fun h => (by rw [hg] at h; cases h), fun _ _ _ => ⟨rfl, rfl⟩, fun _ h => (by rw [hs] at h; exact absurd h (by simp; omega))⟩, HB4.out⟩

set_option maxHeartbeats 4000000 in
set_option maxRecDepth 100000 in
theorem put_hit (l : List S27) (A : Option Addr) (c : Nat) (g : S27) (w : World) (hr : Kd.C k27 w A l.length l) (hl : l.length * 32 ≤ 140737488355328) (hg : goodG g = true) (hs : searchIs l g = true) (hgs : g.f1.size ≤ 9223372036854775807) (hT : Tabs w) :
    Calls Tryd.prog 39 #[.slice A l.length c, .agg #[.int .i64 g.f0, .string g.f1, .int .i64 g.f2]] w (PutPost l g w) := by
  have HT := Aside0.mk (hT.below (below1 w (.cells #[.int .i64 g.f0, .string g.f1, .int .i64 g.f2] 27)))
  have HB := Aside0.mk (below1 w (.cells #[.int .i64 g.f0, .string g.f1, .int .i64 g.f2] 27))
  have HR := Aside0.mk (Kd.C_below hr (below1 w (.cells #[.int .i64 g.f0, .string g.f1, .int .i64 g.f2] 27)))
  have HK := Aside0.mk (blk_new w (.cells #[.int .i64 g.f0, .string g.f1, .int .i64 g.f2] 27))
  have hi := searchIs_lt hs
  have hi0 : (0 : Int) ≤ (searchAt l g : Int) := by omega
  have hi1 : (searchAt l g : Int) < (l.length : Int) := by omega
  clear hT hr
  go_enter Tryd.func39, Tryd.ntmps39
  go_wp2_with (first
    | (go_at_call 16; refine (good_calls g _ hgs HT.out).mono ?_; rintro e w2 ⟨rfl, hb2⟩; rw [hg]; have HK2 := Aside0.mk (blk_below HK.out hb2); have HR2 := Aside0.mk (Kd.C_below HR.out hb2); have HB2 := Aside0.mk (below_step HB.out hb2))
    | (go_at_call 48; refine (clone_calls l A c _ HR2.out hl).mono ?_; rintro e w3 ⟨v, rfl, hv, hb3⟩; obtain ⟨q, cap, hv3, hq, hO⟩ := own_of_R hv (by omega); subst hv3; have HO := Aside0.mk hO; have HQ := Aside0.mk hq; have HK3 := Aside0.mk (blk_below HK2.out hb3); have HB3 := Aside0.mk (below_step HB2.out hb3); have a0 := blk_cell HK3.out 0; have a1 := blk_cell HK3.out 1; have a2 := blk_cell HK3.out 2; clear hv hO hq)
    | (go_at_call 47; refine (find47_calls l (some ⟨q, 0, none⟩) cap g _ (own_C HO.out)).mono ?_; rintro e w4 ⟨rfl, hb4⟩; rw [hs]; have HO4 := Aside0.mk (own_below HO.out hb4); have HK4 := Aside0.mk (blk_below HK3.out hb4); have HB4 := Aside0.mk (below_step HB3.out hb4)))
  obtain ⟨i, hI⟩ : ∃ i, searchAt l g = i := ⟨_, rfl⟩
  rw [hI] at hi hi0 hi1 ⊢
  obtain ⟨hx0, hx1, hx2⟩ := own_at HO4.out i hi
  obtain ⟨x, hX⟩ : ∃ x, l.getD i z27 = x := ⟨_, rfl⟩
  rw [hX] at hx0 hx1 hx2
  have hfz := own_frozen HO4.out (i * 3 + 2)
  have HI := Aside0.mk hI
  have HX := Aside0.mk hX
  clear hI hX
  have a0 := blk_cell HK4.out 0
  have a1 := blk_cell HK4.out 1
  have a2 := blk_cell HK4.out 2
  refine start_ (n := 11) (S := (fun w' => w'.cell? ⟨q, i * 3 + 2, none⟩ = some (.int .i64 x.f2) ∧ w'.cell? ⟨w.heap.size, 2, none⟩ = some (.int .i64 g.f2))) (ds := [10]) #[false, false, false, false, false, false, false, false, false, false, false] (by kernel_rfl) rfl rfl ⟨hx2, a2⟩ (fun hHeld => ?_)
  refine pure_ (i := 0) (N := some 27) (v := ?_) (a' := ?_) #[true, false, false, false, false, false, false, false, false, false, false] rfl rfl (by kernel_rfl) (fun _ _ _ h => h) (Or.inl ⟨by rfl, ?_⟩) ?_ ?_
  rotate_left
  · intro w'
    go_simp
    with_reducible rfl
  rotate_left
  · simp only [Act.put, List.setIfInBounds_toArray, List.set_cons_zero, List.set_cons_succ, i64_w, i32_w]
    rfl
  refine pure_ (i := 1) (N := some 28) (v := ?_) (a' := ?_) #[true, true, false, false, false, false, false, false, false, false, false] rfl rfl (by kernel_rfl) (fun _ _ _ h => h) (Or.inl ⟨by rfl, ?_⟩) ?_ ?_
  rotate_left
  · intro w'
    go_simp
    with_reducible rfl
  rotate_left
  · simp only [Act.put, List.setIfInBounds_toArray, List.set_cons_zero, List.set_cons_succ, i64_w, i32_w]
    rfl
  refine pure_ (i := 2) (N := some 29) (v := ?_) (a' := ?_) #[true, true, true, false, false, false, false, false, false, false, false] rfl rfl (by kernel_rfl) (fun _ _ _ h => h) (Or.inl ⟨by rfl, ?_⟩) ?_ ?_
  rotate_left
  · intro w'
    go_simp
    with_reducible rfl
  rotate_left
  · simp only [Act.put, List.setIfInBounds_toArray, List.set_cons_zero, List.set_cons_succ, i64_w, i32_w]
    rfl
  refine pure_ (i := 3) (N := some 30) (v := ?_) (a' := ?_) #[true, true, true, true, false, false, false, false, false, false, false] rfl rfl (by kernel_rfl) (fun _ _ _ h => h) (Or.inl ⟨by rfl, ?_⟩) ?_ ?_
  rotate_left
  · intro w'
    go_simp
    with_reducible rfl
  rotate_left
  · simp only [Act.put, List.setIfInBounds_toArray, List.set_cons_zero, List.set_cons_succ, i64_w, i32_w]
    rfl
  refine pure_ (i := 5) (N := some 32) (v := ?_) (a' := ?_) #[true, true, true, true, false, true, false, false, false, false, false] rfl rfl (by kernel_rfl) (fun _ _ _ h => h) (Or.inl ⟨by rfl, ?_⟩) ?_ ?_
  rotate_left
  · intro w'
    go_simp
    with_reducible rfl
  rotate_left
  · simp only [Act.put, List.setIfInBounds_toArray, List.set_cons_zero, List.set_cons_succ, i64_w, i32_w]
    rfl
  refine take_ (i := 4) (N := some 31) (v := ?_) (a' := ?_) #[true, true, true, true, true, true, false, false, false, false, false] rfl rfl (by kernel_rfl) (fun _ _ _ h => h) (Or.inl ⟨by rfl, ?_⟩) hHeld ?_ ?_
  rotate_left
  · rintro w' ⟨s0, s1⟩
    go_simp
    with_reducible rfl
  rotate_left
  · simp only [Act.put, List.setIfInBounds_toArray, List.set_cons_zero, List.set_cons_succ, i64_w, i32_w]
    rfl
  refine take_ (i := 6) (N := some 33) (v := ?_) (a' := ?_) #[true, true, true, true, true, true, true, false, false, false, false] rfl rfl (by kernel_rfl) (fun _ _ _ h => h) (Or.inl ⟨by rfl, ?_⟩) hHeld ?_ ?_
  rotate_left
  · rintro w' ⟨s0, s1⟩
    go_simp
    with_reducible rfl
  rotate_left
  · simp only [Act.put, List.setIfInBounds_toArray, List.set_cons_zero, List.set_cons_succ, i64_w, i32_w]
    rfl
  refine pure_ (i := 7) (N := some 34) (v := ?_) (a' := ?_) #[true, true, true, true, true, true, true, true, false, false, false] rfl rfl (by kernel_rfl) (fun _ _ _ h => h) (Or.inl ⟨by rfl, ?_⟩) ?_ ?_
  rotate_left
  · intro w'
    go_simp
    with_reducible rfl
  rotate_left
  · simp only [Act.put, List.setIfInBounds_toArray, List.set_cons_zero, List.set_cons_succ, i64_w, i32_w]
    rfl
  refine pure_ (i := 8) (N := some 35) (v := ?_) (a' := ?_) #[true, true, true, true, true, true, true, true, true, false, false] rfl rfl (by kernel_rfl) (fun _ _ _ h => h) (Or.inl ⟨by rfl, ?_⟩) ?_ ?_
  rotate_left
  · intro w'
    go_simp
    with_reducible rfl
  rotate_left
  · simp only [Act.put, List.setIfInBounds_toArray, List.set_cons_zero, List.set_cons_succ, i64_w, i32_w]
    rfl
  refine pure_ (i := 9) (N := some 36) (v := ?_) (a' := ?_) #[true, true, true, true, true, true, true, true, true, true, false] rfl rfl (by kernel_rfl) (fun _ _ _ h => h) (Or.inl ⟨by rfl, ?_⟩) ?_ ?_
  rotate_left
  · intro w'
    go_simp
    with_reducible rfl
  rotate_left
  · simp only [Act.put, List.setIfInBounds_toArray, List.set_cons_zero, List.set_cons_succ, i64_w, i32_w]
    rfl
  refine last_ (i := 10) (N := none) #[true, true, true, true, true, true, true, true, true, true, true] rfl rfl (by kernel_rfl) (by decide) (fun K hK => ?_)
  go_simp
  refine hK.out _ _ ?_
  clear hK K
  refine done_ (by kernel_rfl) ?_
  have hqs : w.heap.size ≤ q := Nat.le_trans HB2.out.size HQ.out
  obtain ⟨v, hv⟩ : ∃ v, Go.bits .or .i64 x.f2 g.f2 = v := ⟨_, rfl⟩
  rw [hv]
  have HO5 := Aside0.mk (own_setB HO4.out i hi v)
  have HB5 := Aside0.mk (below_set (g := q) (j := i * 3 + 2) (v := .int .i64 v) HB4.out hqs)
  generalize w4.setCell ⟨q, i * 3 + 2, none⟩ (.int .i64 v) = w5 at HO5 HB5 ⊢
  clear hHeld hx0 hx1 hx2 hfz a0 a1 a2
  have hres : putL l g = setB l i v := by
    unfold putL
    rw [hs, if_pos rfl, HI.out, HX.out, hv]
  have HRES := Aside0.mk hres
  clear hres hv
  go_wp2_with (fail)
  go_ret2
  have hcl : l.length ≤ cap := HO4.out.le
  have hr := HRES.out
  refine ⟨⟨some ⟨q, 0, none⟩, l.length, cap, 0, rfl, fun h => (by rw [hg] at h; cases h), fun _ h => (by rw [hs] at h; cases h), fun _ _ => ⟨by rw [hr, setB_len], rfl, hcl, by rw [hr]; exact own_C (own_drew HO5.out)⟩⟩, ?_⟩
  exact HB5.out.trans (below_drew (Below.refl _ _))

set_option maxHeartbeats 4000000 in
set_option maxRecDepth 100000 in
theorem put_ins (l : List S27) (A : Option Addr) (c : Nat) (g : S27) (w : World) (hr : Kd.C k27 w A l.length l) (hl : l.length * 32 ≤ 140737488355328) (hg : goodG g = true) (hs : searchIs l g = false) (h64 : l.length < 64) (hat : searchAt l g ≤ l.length) (hgs : g.f1.size ≤ 9223372036854775807) (hT : Tabs w) :
    Calls Tryd.prog 39 #[.slice A l.length c, .agg #[.int .i64 g.f0, .string g.f1, .int .i64 g.f2]] w (PutPost l g w) := by
  have HT := Aside0.mk (hT.below (below1 w (.cells #[.int .i64 g.f0, .string g.f1, .int .i64 g.f2] 27)))
  have HB := Aside0.mk (below1 w (.cells #[.int .i64 g.f0, .string g.f1, .int .i64 g.f2] 27))
  have HR := Aside0.mk (Kd.C_below hr (below1 w (.cells #[.int .i64 g.f0, .string g.f1, .int .i64 g.f2] 27)))
  have HK := Aside0.mk (blk_new w (.cells #[.int .i64 g.f0, .string g.f1, .int .i64 g.f2] 27))
  have h64' : decide ((64 : Int) ≤ (l.length : Int)) = false := decide_eq_false (by omega)
  have hres : putL l g = l.take (searchAt l g) ++ g :: l.drop (searchAt l g) := by unfold putL; rw [hs, if_neg (by decide)]
  have HRES := Aside0.mk hres
  have hlen : (l.take (searchAt l g) ++ g :: l.drop (searchAt l g)).length = l.length + 1 := by
    rw [List.length_append, List.length_cons, List.length_take, List.length_drop]; omega
  have HLEN := Aside0.mk hlen
  clear hT hr hres hlen
  go_enter Tryd.func39, Tryd.ntmps39
  go_wp2_with (first
    | (go_at_call 16; refine (good_calls g _ hgs HT.out).mono ?_; rintro e w2 ⟨rfl, hb2⟩; rw [hg]; have HK2 := Aside0.mk (blk_below HK.out hb2); have HR2 := Aside0.mk (Kd.C_below HR.out hb2); have HB2 := Aside0.mk (below_step HB.out hb2))
    | (go_at_call 48; refine (clone_calls l A c _ HR2.out hl).mono ?_; rintro e w3 ⟨v, rfl, hv, hb3⟩; have HW := Aside0.mk (row_of_R hv); obtain ⟨A3, c3, hv3, hc3, hC3⟩ := Kd.R_reads hv; subst hv3; have HC3 := Aside0.mk hC3; have HK3 := Aside0.mk (blk_below HK2.out hb3); have HB3 := Aside0.mk (below_step HB2.out hb3); have a0 := blk_cell HK3.out 0; have a1 := blk_cell HK3.out 1; have a2 := blk_cell HK3.out 2; clear hv hC3 hc3)
    | (go_at_call 47; refine (find47_calls l A3 c3 g _ HC3.out).mono ?_; rintro e w4 ⟨rfl, hb4⟩; rw [hs]; have HK4 := Aside0.mk (blk_below HK3.out hb4); have HB4 := Aside0.mk (below_step HB3.out hb4); have HB34 := Aside0.mk hb4; clear a0 a1 a2; have a0 := blk_cell HK4.out 0; have a1 := blk_cell HK4.out 1; have a2 := blk_cell HK4.out 2; have HW4 := Aside0.mk (row_below HW.out hb4); clear hb4)
    | (go_at_call 63; refine (insert_calls l (.slice A3 l.length c3) g w4.heap.size w2.heap.size (searchAt l g) _ (row_below HW4.out (below1 w4 _)) (own_one (blk_new w4 _)) (fun q cap _ hv => row_ne HW4.out hv) (Nat.le_trans (Nat.le_trans hb3.size HB34.out.size) (below1 w4 _).size) hat (by omega)).mono ?_; rintro e w5 ⟨⟨q5, cap5, rfl, hq5, ho5⟩, hb5⟩; have HO5 := Aside0.mk ho5; have HB5 := Aside0.mk ((below_alloc HB4.out (.cells #[.int .i64 g.f0, .string g.f1, .int .i64 g.f2] 27)).trans (hb5.mono HB2.out.size)); clear ho5 hb5))
  all_goals (go_ret2; exact ⟨⟨some ⟨q5, 0, none⟩, l.length + 1, cap5, 0, rfl, fun h => (by rw [hg] at h; cases h), fun _ _ h => absurd h (by omega), fun _ _ => ⟨by rw [HRES.out, HLEN.out], rfl, by have := HO5.out.le; rw [HLEN.out] at this; exact this, by rw [HRES.out]; exact own_C HO5.out⟩⟩, HB5.out⟩)
theorem put_calls (l : List S27) (A : Option Addr) (c : Nat) (g : S27) (w : World) (hr : Kd.C k27 w A l.length l) (hl : l.length * 32 ≤ 140737488355328) (hat : searchAt l g ≤ l.length) (hgs : g.f1.size ≤ 9223372036854775807) (hT : Tabs w) :
    Calls Tryd.prog 39 #[.slice A l.length c, .agg #[.int .i64 g.f0, .string g.f1, .int .i64 g.f2]] w (PutPost l g w) := by
  cases hg : goodG g with
  | false => exact put_bad l A c g w hg hgs hT
  | true =>
    cases hs : searchIs l g with
    | true => exact put_hit l A c g w hr hl hg hs hgs hT
    | false =>
      by_cases h64 : 64 ≤ l.length
      · exact put_full l A c g w hr hl hg hs h64 hgs hT
      · exact put_ins l A c g w hr hl hg hs (by omega) hat hgs hT
end Go.Proofs.YtefdfgmlmjnmlaaDoor.My
end

section
set_option linter.unusedSimpArgs false
set_option linter.unusedVariables false
/- Grants that are good are short; two grants compared. -/
namespace Go.Proofs.YtefdfgmlmjnmlaaDoor.My
open Go.RowKit Go.Proofs.YtefdfgmlmjnmlaaDoorW.PrintWords Go.Proofs.YtefdfgmlmjnmlaaDoor.Rf
open Go.Proofs.YtefdfgmlmjnmlaaDoorW.PrintLast Go.Proofs.YtefdfgmlmjnmlaaDoorW.PrintMore

theorem eqA27 (d : Nat) (w : World) (x0 y0 : Int) (x1 y1 : ByteArray) (x2 y2 : Int) :
    (Op.equalIn (d + 2) 27 (.agg #[.int .i64 x0, .string x1, .int .i64 x2]) (.agg #[.int .i64 y0, .string y1, .int .i64 y2])).run Tryd.prog w = .ok (x0 == y0 && (x1.toList == y1.toList && (x2 == y2))) w := by
  refine eqA_of Tryd.underlying27 (by kernel_rfl) ?_
  refine eqf_cons (by rfl) (by go_simp; rfl) (by go_simp; rfl) (by go_simp) ?_
  refine eqf_cons (by rfl) (by go_simp; rfl) (by go_simp; rfl) (by go_simp) ?_
  exact eqf_last (by rfl) (by go_simp; rfl) (by go_simp; rfl) (by go_simp)
theorem good_size {x : S27} (h : goodG x = true) : x.f1.size ≤ 9223372036854775807 := by
  obtain ⟨_, _, h, _, _⟩ := good_parts h
  simp only [isName, Bool.and_eq_true, decide_eq_true_eq] at h
  omega
theorem okS_good {l : List S27} (h : Good64 l) : okS l := fun x hx => good_size (h.good x hx)
end Go.Proofs.YtefdfgmlmjnmlaaDoor.My
end

section
set_option linter.unusedSimpArgs false
set_option linter.unusedVariables false
/- grant.Take: a grant that is there. -/
namespace Go.Proofs.YtefdfgmlmjnmlaaDoor.My
open Go.RowKit Go.Proofs.YtefdfgmlmjnmlaaDoorW.PrintWords Go.Proofs.YtefdfgmlmjnmlaaDoor.Rf
open Go.Proofs.YtefdfgmlmjnmlaaDoorW.PrintLast Go.Proofs.YtefdfgmlmjnmlaaDoorW.PrintMore

set_option maxHeartbeats 4000000 in
set_option maxRecDepth 100000 in
theorem take_hit (l : List S27) (A : Option Addr) (c : Nat) (g : S27) (w : World) (hr : Kd.C k27 w A l.length l) (hl : l.length * 32 ≤ 140737488355328) (hg : goodG g = true) (hs : searchIs l g = true) (hgs : g.f1.size ≤ 9223372036854775807) (hT : Tabs w) :
    Calls Tryd.prog 24 #[.slice A l.length c, .agg #[.int .i64 g.f0, .string g.f1, .int .i64 g.f2]] w (TakePost l g w) := by
  have HT := Aside0.mk (hT.below (below1 w (.cells #[.int .i64 g.f0, .string g.f1, .int .i64 g.f2] 27)))
  have HB := Aside0.mk (below1 w (.cells #[.int .i64 g.f0, .string g.f1, .int .i64 g.f2] 27))
  have HR := Aside0.mk (Kd.C_below hr (below1 w (.cells #[.int .i64 g.f0, .string g.f1, .int .i64 g.f2] 27)))
  have HK := Aside0.mk (blk_new w (.cells #[.int .i64 g.f0, .string g.f1, .int .i64 g.f2] 27))
  have hi := searchIs_lt hs
  have hi0 : (0 : Int) ≤ (searchAt l g : Int) := by omega
  have hi1 : (searchAt l g : Int) < (l.length : Int) := by omega
  clear hT hr
  go_enter Tryd.func24, Tryd.ntmps24
  go_wp2_with (first
    | (go_at_call 16; refine (good_calls g _ hgs HT.out).mono ?_; rintro e w2 ⟨rfl, hb2⟩; rw [hg]; have HK2 := Aside0.mk (blk_below HK.out hb2); have HR2 := Aside0.mk (Kd.C_below HR.out hb2); have HB2 := Aside0.mk (below_step HB.out hb2))
    | (go_at_call 48; refine (clone_calls l A c _ HR2.out hl).mono ?_; rintro e w3 ⟨v, rfl, hv, hb3⟩; obtain ⟨q, cap, hv3, hq, hO⟩ := own_of_R hv (by omega); subst hv3; have HO := Aside0.mk hO; have HQ := Aside0.mk hq; have HK3 := Aside0.mk (blk_below HK2.out hb3); have HB3 := Aside0.mk (below_step HB2.out hb3); have a0 := blk_cell HK3.out 0; have a1 := blk_cell HK3.out 1; have a2 := blk_cell HK3.out 2; clear hv hO hq)
    | (go_at_call 47; refine (find47_calls l (some ⟨q, 0, none⟩) cap g _ (own_C HO.out)).mono ?_; rintro e w4 ⟨rfl, hb4⟩; rw [hs]; have HO4 := Aside0.mk (own_below HO.out hb4); have HK4 := Aside0.mk (blk_below HK3.out hb4); have HB4 := Aside0.mk (below_step HB3.out hb4)))
  obtain ⟨i, hI⟩ : ∃ i, searchAt l g = i := ⟨_, rfl⟩
  rw [hI] at hi hi0 hi1 ⊢
  obtain ⟨hx0, hx1, hx2⟩ := own_at HO4.out i hi
  obtain ⟨x, hX⟩ : ∃ x, l.getD i z27 = x := ⟨_, rfl⟩
  rw [hX] at hx0 hx1 hx2
  have hfz := own_frozen HO4.out (i * 3 + 2)
  have HI := Aside0.mk hI
  have HX := Aside0.mk hX
  clear hI hX
  have a0 := blk_cell HK4.out 0
  have a1 := blk_cell HK4.out 1
  have a2 := blk_cell HK4.out 2
  refine start_ (n := 11) (S := (fun w' => w'.cell? ⟨q, i * 3 + 2, none⟩ = some (.int .i64 x.f2) ∧ w'.cell? ⟨w.heap.size, 2, none⟩ = some (.int .i64 g.f2))) (ds := [10]) #[false, false, false, false, false, false, false, false, false, false, false] (by kernel_rfl) rfl rfl ⟨hx2, a2⟩ (fun hHeld => ?_)
  refine pure_ (i := 0) (N := some 21) (v := ?_) (a' := ?_) #[true, false, false, false, false, false, false, false, false, false, false] rfl rfl (by kernel_rfl) (fun _ _ _ h => h) (Or.inl ⟨by rfl, ?_⟩) ?_ ?_
  rotate_left
  · intro w'
    go_simp
    with_reducible rfl
  rotate_left
  · simp only [Act.put, List.setIfInBounds_toArray, List.set_cons_zero, List.set_cons_succ, i64_w, i32_w]
    rfl
  refine pure_ (i := 1) (N := some 22) (v := ?_) (a' := ?_) #[true, true, false, false, false, false, false, false, false, false, false] rfl rfl (by kernel_rfl) (fun _ _ _ h => h) (Or.inl ⟨by rfl, ?_⟩) ?_ ?_
  rotate_left
  · intro w'
    go_simp
    with_reducible rfl
  rotate_left
  · simp only [Act.put, List.setIfInBounds_toArray, List.set_cons_zero, List.set_cons_succ, i64_w, i32_w]
    rfl
  refine pure_ (i := 2) (N := some 23) (v := ?_) (a' := ?_) #[true, true, true, false, false, false, false, false, false, false, false] rfl rfl (by kernel_rfl) (fun _ _ _ h => h) (Or.inl ⟨by rfl, ?_⟩) ?_ ?_
  rotate_left
  · intro w'
    go_simp
    with_reducible rfl
  rotate_left
  · simp only [Act.put, List.setIfInBounds_toArray, List.set_cons_zero, List.set_cons_succ, i64_w, i32_w]
    rfl
  refine pure_ (i := 3) (N := some 24) (v := ?_) (a' := ?_) #[true, true, true, true, false, false, false, false, false, false, false] rfl rfl (by kernel_rfl) (fun _ _ _ h => h) (Or.inl ⟨by rfl, ?_⟩) ?_ ?_
  rotate_left
  · intro w'
    go_simp
    with_reducible rfl
  rotate_left
  · simp only [Act.put, List.setIfInBounds_toArray, List.set_cons_zero, List.set_cons_succ, i64_w, i32_w]
    rfl
  refine pure_ (i := 5) (N := some 26) (v := ?_) (a' := ?_) #[true, true, true, true, false, true, false, false, false, false, false] rfl rfl (by kernel_rfl) (fun _ _ _ h => h) (Or.inl ⟨by rfl, ?_⟩) ?_ ?_
  rotate_left
  · intro w'
    go_simp
    with_reducible rfl
  rotate_left
  · simp only [Act.put, List.setIfInBounds_toArray, List.set_cons_zero, List.set_cons_succ, i64_w, i32_w]
    rfl
  refine take_ (i := 4) (N := some 25) (v := ?_) (a' := ?_) #[true, true, true, true, true, true, false, false, false, false, false] rfl rfl (by kernel_rfl) (fun _ _ _ h => h) (Or.inl ⟨by rfl, ?_⟩) hHeld ?_ ?_
  rotate_left
  · rintro w' ⟨s0, s1⟩
    go_simp
    with_reducible rfl
  rotate_left
  · simp only [Act.put, List.setIfInBounds_toArray, List.set_cons_zero, List.set_cons_succ, i64_w, i32_w]
    rfl
  refine take_ (i := 6) (N := some 27) (v := ?_) (a' := ?_) #[true, true, true, true, true, true, true, false, false, false, false] rfl rfl (by kernel_rfl) (fun _ _ _ h => h) (Or.inl ⟨by rfl, ?_⟩) hHeld ?_ ?_
  rotate_left
  · rintro w' ⟨s0, s1⟩
    go_simp
    with_reducible rfl
  rotate_left
  · simp only [Act.put, List.setIfInBounds_toArray, List.set_cons_zero, List.set_cons_succ, i64_w, i32_w]
    rfl
  refine pure_ (i := 7) (N := some 28) (v := ?_) (a' := ?_) #[true, true, true, true, true, true, true, true, false, false, false] rfl rfl (by kernel_rfl) (fun _ _ _ h => h) (Or.inl ⟨by rfl, ?_⟩) ?_ ?_
  rotate_left
  · intro w'
    go_simp
    with_reducible rfl
  rotate_left
  · simp only [Act.put, List.setIfInBounds_toArray, List.set_cons_zero, List.set_cons_succ, i64_w, i32_w]
    rfl
  refine pure_ (i := 8) (N := some 29) (v := ?_) (a' := ?_) #[true, true, true, true, true, true, true, true, true, false, false] rfl rfl (by kernel_rfl) (fun _ _ _ h => h) (Or.inl ⟨by rfl, ?_⟩) ?_ ?_
  rotate_left
  · intro w'
    go_simp
    with_reducible rfl
  rotate_left
  · simp only [Act.put, List.setIfInBounds_toArray, List.set_cons_zero, List.set_cons_succ, i64_w, i32_w]
    rfl
  refine pure_ (i := 9) (N := some 30) (v := ?_) (a' := ?_) #[true, true, true, true, true, true, true, true, true, true, false] rfl rfl (by kernel_rfl) (fun _ _ _ h => h) (Or.inl ⟨by rfl, ?_⟩) ?_ ?_
  rotate_left
  · intro w'
    go_simp
    with_reducible rfl
  rotate_left
  · simp only [Act.put, List.setIfInBounds_toArray, List.set_cons_zero, List.set_cons_succ, i64_w, i32_w]
    rfl
  refine last_ (i := 10) (N := none) #[true, true, true, true, true, true, true, true, true, true, true] rfl rfl (by kernel_rfl) (by decide) (fun K hK => ?_)
  go_simp
  refine hK.out _ _ ?_
  clear hK K
  refine done_ (by kernel_rfl) ?_
  have hqs : w.heap.size ≤ q := Nat.le_trans HB2.out.size HQ.out
  obtain ⟨v, hv⟩ : ∃ v, Go.bits .andNot .i64 x.f2 g.f2 = v := ⟨_, rfl⟩
  rw [hv]
  have HO5 := Aside0.mk (own_setB HO4.out i hi v)
  have HB5 := Aside0.mk (below_set (g := q) (j := i * 3 + 2) (v := .int .i64 v) HB4.out hqs)
  generalize w4.setCell ⟨q, i * 3 + 2, none⟩ (.int .i64 v) = w5 at HO5 HB5 ⊢
  obtain ⟨_, _, b2⟩ := own_at (own_below HO5.out (below_drew (Below.refl _ _))) i (by rw [setB_len]; exact hi)
  have b2' : w5.drew.cell? ⟨q, i * 3 + 2, none⟩ = some (.int .i64 v) := by
    rw [b2]; simp [setB, List.getD, List.getElem?_set, hi]
  clear b2 hHeld hx0 hx1 hx2 hfz a0 a1 a2
  have HV := Aside0.mk hv
  have hres : takeL l g = if v = 0 then l.eraseIdx i else setB l i v := by
    unfold takeL
    rw [hs, if_pos rfl, HI.out, HX.out, hv]
  have HRES := Aside0.mk hres
  clear hres hv
  by_cases h0 : v = 0
  · have hdel : ∀ w1, OwnG w1 q cap (setB l i v) → _ := fun w1 h1 => delete_calls (setB l i v) q cap i w1 h1 (by rw [setB_len]; exact hi)
    simp only [setB_len] at hdel
    have HDEL := Aside0.mk hdel
    have HH0 := Aside0.mk h0
    have h0' : (v == 0) = true := by rw [h0]; rfl
    clear hdel h0
    go_wp2_with (first
      | (go_at_call 49; refine (HDEL.out _ (own_below HO5.out (below_drew (Below.refl _ _)))).mono ?_; rintro e w6 ⟨rfl, ho6, hb6⟩; have HO6 := Aside0.mk ho6; have HB6 := Aside0.mk hb6; clear ho6 hb6))
    go_ret2
    have hle : (l.eraseIdx i).length = l.length - 1 := by rw [List.length_eraseIdx, if_pos hi]
    have hcl : l.length ≤ cap := by obtain ⟨_, _, h, _⟩ := HO4.out.out; exact h
    have he : (setB l i v).eraseIdx i = l.eraseIdx i := by unfold setB; exact List.eraseIdx_set_eq
    have ho := HO6.out
    rw [he] at ho
    have hr := HRES.out
    rw [if_pos HH0.out] at hr
    refine ⟨fun h => (by rw [hg] at h; cases h), fun _ => ⟨some ⟨q, 0, none⟩, cap, by rw [hr, hle]; rfl, by rw [hr, hle]; omega, by rw [hr]; exact own_C ho⟩, ?_⟩
    exact HB5.out.trans ((below_drew (Below.refl _ _)).trans (HB6.out.mono hqs))
  · have h0' : (v == 0) = false := by simp [h0]
    go_wp2_with (fail)
    go_ret2
    have hcl : l.length ≤ cap := by obtain ⟨_, _, h, _⟩ := HO4.out.out; exact h
    have hr := HRES.out
    rw [if_neg h0] at hr
    refine ⟨fun h => (by rw [hg] at h; cases h), fun _ => ⟨some ⟨q, 0, none⟩, cap, by rw [hr, setB_len]; rfl, by rw [hr, setB_len]; omega, by rw [hr]; exact own_C (own_below HO5.out (below_drew (Below.refl _ _)))⟩, ?_⟩
    exact HB5.out.trans (below_drew (Below.refl _ _))
theorem take_calls (l : List S27) (A : Option Addr) (c : Nat) (g : S27) (w : World) (hr : Kd.C k27 w A l.length l) (hl : l.length * 32 ≤ 140737488355328) (hgs : g.f1.size ≤ 9223372036854775807) (hT : Tabs w) :
    Calls Tryd.prog 24 #[.slice A l.length c, .agg #[.int .i64 g.f0, .string g.f1, .int .i64 g.f2]] w (TakePost l g w) := by
  cases hg : goodG g with
  | false => exact take_bad l A c g w hg hgs hT
  | true =>
    cases hs : searchIs l g with
    | false => exact take_miss l A c g w hr hl hg hs hgs hT
    | true => exact take_hit l A c g w hr hl hg hs hgs hT
end Go.Proofs.YtefdfgmlmjnmlaaDoor.My
end

section
set_option linter.unusedSimpArgs false
set_option linter.unusedVariables false
/- What is put may be done; what is taken may not; the rest stays. -/
namespace Go.Proofs.YtefdfgmlmjnmlaaDoor.My
open Go.RowKit Go.Proofs.YtefdfgmlmjnmlaaDoorW.PrintWords Go.Proofs.YtefdfgmlmjnmlaaDoor.Rf

theorem bits_of {L : List S27} (h : L.Pairwise Lt) {y : S27} (hy : y ∈ L) {r : Int} {t : ByteArray} (hs : same r t y = true) : bitsR r t L = y.f2 := by
  simp only [same, Bool.and_eq_true, beq_iff_eq] at hs
  rw [bits_cong hs.1.symm hs.2.symm, bits_own h hy]
theorem any_bits {L : List S27} (h : Good64 L) (r : Int) (t : ByteArray) (bits : Int) : L.any (fitG r t bits) = (bitsR r t L != 0 && Go.bits .and .i64 (bitsR r t L) bits == bits) := by
  rw [Bool.eq_iff_iff, List.any_eq_true]
  simp only [Bool.and_eq_true, bne_iff_ne, beq_iff_eq]
  constructor
  · rintro ⟨y, hy, hf⟩
    simp only [fitG, Bool.and_eq_true, beq_iff_eq] at hf
    have hs : same r t y = true := by simp only [same, Bool.and_eq_true, beq_iff_eq]; exact ⟨hf.1, hf.2.1⟩
    obtain ⟨_, _, _, h0, _⟩ := good_parts (h.good y hy)
    rw [bits_of h.rise hy hs]
    exact ⟨by omega, hf.2.2⟩
  · rintro ⟨h0, h1⟩
    have : ∃ y, y ∈ L ∧ same r t y = true := by
      apply Classical.byContradiction
      intro hn
      refine h0 (bits_none fun x hx => ?_)
      cases hs : same r t x with
      | false => rfl
      | true => exact absurd ⟨x, hx, hs⟩ hn
    obtain ⟨y, hy, hs⟩ := this
    rw [bits_of h.rise hy hs] at h1
    refine ⟨y, hy, ?_⟩
    simp only [same, Bool.and_eq_true, beq_iff_eq] at hs
    simp only [fitG, Bool.and_eq_true, beq_iff_eq]
    exact ⟨hs.1, hs.2, h1⟩
theorem may_bits (ts : List S45) {L : List S27} (h : Good64 L) (r : Int) (t : ByteArray) (bits : Int) :
    mayB ts L r t bits = (decide (0 ≤ findT ts t) && roleB r && ((bitsR r t L != 0 && Go.bits .and .i64 (bitsR r t L) bits == bits) || ownsB ts r t)) := by
  rw [may_same ts L r t bits ((refS_iff L).2 h), mayR, any_bits h]

set_option maxRecDepth 100000 in
theorem or_and32 : ∀ n : Fin 32, ∀ m : Fin 32, Go.bits .and .i64 (Go.bits .or .i64 (n.val : Int) (m.val : Int)) (m.val : Int) = (m.val : Int) ∧ (m.val ≠ 0 → Go.bits .or .i64 (n.val : Int) (m.val : Int) ≠ 0) := by decide +kernel
set_option maxRecDepth 100000 in
theorem not_and32 : ∀ n : Fin 32, ∀ m : Fin 32, Go.bits .and .i64 (Go.bits .andNot .i64 (n.val : Int) (m.val : Int)) (m.val : Int) = 0 := by decide +kernel
theorem or_and {a b : Int} (h0 : 0 ≤ a) (h1 : a ≤ 31) (h2 : 0 < b) (h3 : b ≤ 31) : Go.bits .and .i64 (Go.bits .or .i64 a b) b = b ∧ Go.bits .or .i64 a b ≠ 0 := by
  obtain ⟨n, rfl⟩ := Int.eq_ofNat_of_zero_le h0
  obtain ⟨m, rfl⟩ := Int.eq_ofNat_of_zero_le (Int.le_of_lt h2)
  have := or_and32 ⟨n, by omega⟩ ⟨m, by omega⟩
  exact ⟨this.1, this.2 (by simp only; omega)⟩
theorem not_and {a b : Int} (h0 : 0 ≤ a) (h1 : a ≤ 31) (h2 : 0 < b) (h3 : b ≤ 31) : Go.bits .and .i64 (Go.bits .andNot .i64 a b) b = 0 := by
  obtain ⟨n, rfl⟩ := Int.eq_ofNat_of_zero_le h0
  obtain ⟨m, rfl⟩ := Int.eq_ofNat_of_zero_le (Int.le_of_lt h2)
  exact not_and32 ⟨n, by omega⟩ ⟨m, by omega⟩
theorem bits_range {l : List S27} (h : ∀ x, x ∈ l → goodG x = true) (r : Int) (t : ByteArray) : 0 ≤ bitsR r t l ∧ bitsR r t l ≤ 31 := by
  induction l with
  | nil => exact ⟨Int.le_refl _, by simp [bitsR]⟩
  | cons x l ih =>
    rw [bitsR]
    split
    · obtain ⟨_, _, _, h0, h1⟩ := good_parts (h x (by simp))
      omega
    · exact ih fun y hy => h y (by simp [hy])
theorem role_good {g : S27} (hg : goodG g = true) : roleB g.f0 = true := by
  obtain ⟨h0, h1, _⟩ := good_parts hg
  unfold roleB
  rw [decide_eq_true (by omega), decide_eq_true h1]; rfl
structure GivesP (ts : List S45) (gs : List S27) (g : S27) (role : Int) (nm : ByteArray) (bits : Int) : Prop where
  one : mayB ts (putL gs g) g.f0 g.f1 g.f2 = true
  two : mayB ts (takeL (putL gs g) g) g.f0 g.f1 g.f2 = ownsB ts g.f0 g.f1
  three : same role nm g = false → mayB ts (putL gs g) role nm bits = mayB ts gs role nm bits ∧ mayB ts (takeL (putL gs g) g) role nm bits = mayB ts gs role nm bits
theorem gives_p (ts : List S45) {gs : List S27} {g : S27} (role : Int) (nm : ByteArray) (bits : Int) (h : Good64 gs) (hg : goodG g = true) (hok : searchIs gs g = true ∨ gs.length < 64) (hf : 0 ≤ findT ts g.f1) : GivesP ts gs g role nm bits := by
  have h1 := put_good h hg hok
  have h2 := take_good h1 hg
  obtain ⟨_, _, _, g0, g1⟩ := good_parts hg
  obtain ⟨b0, b1⟩ := bits_range h.good g.f0 g.f1
  have ho := or_and b0 b1 g0 g1
  obtain ⟨o0, o1⟩ := or_range b0 b1 (Int.le_of_lt g0) g1
  refine ⟨?_, ?_, fun hs => ?_⟩
  · rw [may_bits ts h1, put_bits h hg, if_pos (same_self g), decide_eq_true hf, role_good hg, ho.1]
    simp [ho.2]
  · rw [may_bits ts h2, take_bits h1 hg, put_bits h hg, if_pos (same_self g), if_pos (same_self g), decide_eq_true hf, role_good hg, not_and (by omega) o1 g0 g1]
    have : ((0 : Int) == g.f2) = false := by simp; omega
    rw [this]
    simp
  · rw [may_bits ts h1, may_bits ts h2, may_bits ts h, take_bits h1 hg, put_bits h hg, hs]
    exact ⟨rfl, rfl⟩
theorem put_len (l : List S27) (g : S27) : (putL l g).length ≤ l.length + 1 := by
  unfold putL
  split
  · rw [setB_len]; omega
  · rw [List.length_append, List.length_cons, List.length_take, List.length_drop]; omega
structure PutOk (L : List S27) (w : World) (e : Ending) (w' : World) : Prop where
  out : ∃ (A : Option Addr) (c : Nat), e = .returned (.tuple #[.slice A L.length c, .int .i64 0]) ∧ L.length ≤ c ∧ Kd.C k27 w' A L.length L
  below : Below w.heap.size w w'
structure PutNo (w : World) (e : Ending) (w' : World) : Prop where
  out : ∃ (A : Option Addr) (n c : Nat) (er : Int), e = .returned (.tuple #[.slice A n c, .int .i64 er]) ∧ (er != 0) = true
  below : Below w.heap.size w w'
structure InG (l : List S27) (g : S27) : Prop where
  good : Good64 l
  room : searchIs l g = true ∨ l.length < 64
theorem put_ok (l : List S27) (A : Option Addr) (c : Nat) (g : S27) (L : List S27) (w : World) (hr : Kd.C k27 w A l.length l) (h : InG l g) (hg : goodG g = true) (hL : putL l g = L) (hgs : g.f1.size ≤ 9223372036854775807) (hT : Tabs w) :
    Calls Tryd.prog 39 #[.slice A l.length c, .agg #[.int .i64 g.f0, .string g.f1, .int .i64 g.f2]] w (PutOk L w) := by
  have hl := h.good.len
  refine (put_calls l A c g w hr (by omega) (search_spec l g (rise_iff h.good.rise)).1 hgs hT).mono ?_
  rintro e w' ⟨⟨A2, n2, c2, er, rfl, _, _, h3⟩, hb⟩
  obtain ⟨rfl, rfl, hn, hC⟩ := h3 hg h.room
  rw [hL] at hn hC ⊢
  exact ⟨⟨A2, c2, rfl, hn, hC⟩, hb⟩
theorem put_no (l : List S27) (A : Option Addr) (c : Nat) (g : S27) (w : World) (hr : Kd.C k27 w A l.length l) (h : Good64 l) (hno : ¬ (goodG g = true ∧ (searchIs l g = true ∨ l.length < 64))) (hgs : g.f1.size ≤ 9223372036854775807) (hT : Tabs w) :
    Calls Tryd.prog 39 #[.slice A l.length c, .agg #[.int .i64 g.f0, .string g.f1, .int .i64 g.f2]] w (PutNo w) := by
  have hl := h.len
  refine (put_calls l A c g w hr (by omega) (search_spec l g (rise_iff h.rise)).1 hgs hT).mono ?_
  rintro e w' ⟨⟨A2, n2, c2, er, rfl, h1, h2, _⟩, hb⟩
  refine ⟨⟨A2, n2, c2, er, rfl, ?_⟩, hb⟩
  cases hg : goodG g with
  | false => rw [(h1 hg).2]; rfl
  | true =>
    cases hs : searchIs l g with
    | true => exact absurd ⟨hg, .inl hs⟩ hno
    | false =>
      by_cases h64 : 64 ≤ l.length
      · rw [(h2 hg hs h64).2]; rfl
      · exact absurd ⟨hg, .inr (by omega)⟩ hno
theorem take_ok (l : List S27) (A : Option Addr) (c : Nat) (g : S27) (L : List S27) (w : World) (hr : Kd.C k27 w A l.length l) (h : Good64 l) (hg : goodG g = true) (hL : takeL l g = L) (hgs : g.f1.size ≤ 9223372036854775807) (hT : Tabs w) :
    Calls Tryd.prog 24 #[.slice A l.length c, .agg #[.int .i64 g.f0, .string g.f1, .int .i64 g.f2]] w (PutOk L w) := by
  have hl := h.len
  refine (take_calls l A c g w hr (by omega) hgs hT).mono ?_
  rintro e w' ⟨_, h2, hb⟩
  obtain ⟨A2, c2, e2, hn, hC⟩ := h2 hg
  rw [hL] at hn hC e2
  exact ⟨⟨A2, c2, e2, hn, hC⟩, hb⟩
end Go.Proofs.YtefdfgmlmjnmlaaDoor.My
end
