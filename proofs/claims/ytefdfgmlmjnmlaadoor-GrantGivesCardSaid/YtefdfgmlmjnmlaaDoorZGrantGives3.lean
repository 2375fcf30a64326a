/- Lemmas for the law GrantGives: what the functions that it reaches compute. No condition. Joined out of this session's smaller texts (part 3 of 4). -/
import Derived.Test.YtefdfgmlmjnmlaaDoorZGrantGives1
import Derived.Test.YtefdfgmlmjnmlaaDoorZGrantGives2
section
set_option linter.unusedVariables false
set_option linter.unusedSimpArgs false
/- What the kit's print.py wrote of one Go function of this seat's translation (run by a program of this session, one function a text): the function as a plain Lean function, and that the call computes it. -/
namespace Go.Proofs.YtefdfgmlmjnmlaaDoor.Rf
open Go.RowKit Go.Proofs.YtefdfgmlmjnmlaaDoorW.PrintWords Go.Proofs.YtefdfgmlmjnmlaaDoorW.PrintLast Go.Proofs.YtefdfgmlmjnmlaaDoorW.PrintMore
attribute [local go_sem] max2_int min2_int max_two min_two max_three min_three max_four min_four   -- for this text's walks alone

/-! ### mortmainref08_Size: function 79 -/
mutual
def mortmainref08_Size.l0 : Nat → Int → Int → List (S72) → Int → Int → Option (Int × Int)
  | 0, _, _, _, _, _ => none
  | k + 1, x4, x5, x11, x12, x13 => if x13 < x12 then (if 0 ≤ x13 then (if x13 < (x11.length : Int) then ((mortmainref08_Size.f k ((rd_T72 x11 x13).f0) ((rd_T72 x11 x13).f1) ((rd_T72 x11 x13).f2.f0) ((rd_T72 x11 x13).f2.f1) ((rd_T72 x11 x13).f2.f2) ((rd_T72 x11 x13).f3)).bind fun bt125 => (mortmainref08_Size.l0 k (wrap64 (x4 + bt125.1)) (mx x5 bt125.2) x11 x12 (wrap64 (x13 + 1)))) else (none)) else (none)) else (some (x4, wrap64 (x5 + 1)))
def mortmainref08_Size.f : Nat → Int → Int → Int → Int → ByteArray → List (S72) → Option (Int × Int)
  | 0, _, _, _, _, _, _ => none
  | k + 1, a0_0, a0_1, a0_2, a0_3, a0_4, l0_5 => mortmainref08_Size.l0 k 1 0 l0_5 (l0_5.length : Int) 0
end
theorem mortmainref08_Size.mono_l : ∀ k, (∀ y0 y1 y2 y3 y4 y5, LeO (mortmainref08_Size.f k y0 y1 y2 y3 y4 y5) (mortmainref08_Size.f (k + 1) y0 y1 y2 y3 y4 y5)) ∧ (∀ y0 y1 y2 y3 y4, LeO (mortmainref08_Size.l0 k y0 y1 y2 y3 y4) (mortmainref08_Size.l0 (k + 1) y0 y1 y2 y3 y4))
  | 0 => ⟨fun _ _ _ _ _ _ r h => by simp [mortmainref08_Size.f] at h, fun _ _ _ _ _ r h => by simp [mortmainref08_Size.l0] at h⟩
  | k + 1 => by
    obtain ⟨ih0, ih1⟩ := mortmainref08_Size.mono_l k
    refine ⟨?_, ?_⟩
    · intro y0 y1 y2 y3 y4 y5
      unfold mortmainref08_Size.f
      repeat' first
      | (with_reducible exact ih0 _ _ _ _ _ _)
      | (with_reducible exact ih1 _ _ _ _ _)
      | (with_reducible exact LeO.refl _)
      | (with_reducible exact LeO.none _)
      | (with_reducible refine LeO.ite ?_ ?_)
      | (with_reducible refine LeO.bind ?_ (fun _ => ?_))
      | exact ih0 _ _ _ _ _ _
      | exact ih1 _ _ _ _ _
      | exact LeO.none _
      | refine LeO.ite ?_ ?_
      | refine LeO.bind ?_ (fun _ => ?_)
    · intro y0 y1 y2 y3 y4
      unfold mortmainref08_Size.l0
      repeat' first
      | (with_reducible exact ih0 _ _ _ _ _ _)
      | (with_reducible exact ih1 _ _ _ _ _)
      | (with_reducible exact LeO.refl _)
      | (with_reducible exact LeO.none _)
      | (with_reducible refine LeO.ite ?_ ?_)
      | (with_reducible refine LeO.bind ?_ (fun _ => ?_))
      | exact ih0 _ _ _ _ _ _
      | exact ih1 _ _ _ _ _
      | exact LeO.none _
      | refine LeO.ite ?_ ?_
      | refine LeO.bind ?_ (fun _ => ?_)
theorem mortmainref08_Size.mono : ∀ a0 a1 a2 a3 a4 a5 k, LeO (mortmainref08_Size.f k a0 a1 a2 a3 a4 a5) (mortmainref08_Size.f (k + 1) a0 a1 a2 a3 a4 a5) := by
  intro a0 a1 a2 a3 a4 a5 k
  obtain ⟨ih0, ih1⟩ := mortmainref08_Size.mono_l k
  exact ih0 a0 a1 a2 a3 a4 a5
set_option maxHeartbeats 8000000 in
set_option maxRecDepth 100000 in
theorem mortmainref08_Size.calls (k : Nat) : ∀ (a0_0 : Int) (a0_1 : Int) (a0_2 : Int) (a0_3 : Int) (a0_4 : ByteArray) (A0_5 : Option Addr) (c0_5 : Nat) (l0_5 : List (S72)) (r1 : Int) (r2 : Int) (w : World) (hr0_5 : Kd.C k72 w A0_5 l0_5.length l0_5) (hc0_5 : l0_5.length ≤ c0_5) (h : mortmainref08_Size.f k a0_0 a0_1 a0_2 a0_3 a0_4 l0_5 = some (r1, r2)),
    Calls Tryd.prog 79 #[.agg #[.int .i64 a0_0, .int .i64 a0_1, .int .i64 a0_2, .int .i64 a0_3, .string a0_4, .slice A0_5 l0_5.length c0_5]] w fun e w' => e = .returned (.tuple #[.int .i64 r1, .int .i64 r2]) ∧ Below w.heap.size w w' := by
  induction k using Nat.strongRecOn with
  | _ k ih =>
  intro a0_0 a0_1 a0_2 a0_3 a0_4 A0_5 c0_5 l0_5 r1 r2 w hr0_5 hc0_5 h
  cases k with
  | zero => exact absurd h (by simp [mortmainref08_Size.f])
  | succ k =>
  simp only [mortmainref08_Size.f] at h
  have hu72 := Tryd.underlying72
  have HR0_5 := Aside0.mk hr0_5
  have HC0_5 := Aside0.mk hc0_5
  clear hr0_5 hc0_5
  have HB := Aside0.mk (Below.refl w.heap.size w)
  have H : (mortmainref08_Size.l0 k 1 0 l0_5 (l0_5.length : Int) 0) = some (r1, r2) := h
  clear h
  have H' := Aside0.mk H
  clear H
  go_enter Tryd.func79, Tryd.ntmps79
  go_wp2_with (first | ((with_reducible refine gate_dst (N := 1) rfl ?_); refine box_event ?hg (N := 1) ?hd (cs := #[.int .i64 a0_0, .int .i64 a0_1, .int .i64 a0_2, .int .i64 a0_3, .string a0_4, .slice A0_5 l0_5.length c0_5]) (t := 72) ?hr ?_; (case hd => rfl); (case hg => rfl); (case hr => first | (go_simp; done) | (go_simp; rfl)); intro gb122 hg w2 hbox hb; have n0_ := Aside0.mk (below_step (by repeat (first | (with_reducible first | exact HB.out | apply below_alloc | apply pw_below_drewN | apply below_drew1) | exact HB.out)) hb); have n1_ := Aside0.mk (hbox); have n2_ := Aside0.mk ((by rw [hg]; exact (below_size (by repeat (first | (with_reducible first | exact HB.out | apply below_alloc | apply pw_below_drewN | apply below_drew1) | exact HB.out))) : w.heap.size ≤ gb122)); have n3_ := Aside0.mk ((by rw [hg]; exact (below_size (by repeat (first | (with_reducible first | exact HB.out | apply below_alloc | apply pw_below_drewN | apply below_drew1) | exact HB.out))) : w.heap.size ≤ gb122)); clear HB; have HB := n0_; have BK122 := n1_; have GW122 := n2_; have GE122 := n3_; clear n0_ n1_ n2_ n3_; clear hb hbox hg; have hcz3_0 : w2.cell? ⟨gb122, 0, none⟩ = some (.int .i64 a0_0) := (blk_cell BK122.out 0).trans rfl; have hcz3_1 : w2.cell? ⟨gb122, 1, none⟩ = some (.int .i64 a0_1) := (blk_cell BK122.out 1).trans rfl; have hcz3_2 : w2.cell? ⟨gb122, 2, none⟩ = some (.int .i64 a0_2) := (blk_cell BK122.out 2).trans rfl; have hcz3_3 : w2.cell? ⟨gb122, 3, none⟩ = some (.int .i64 a0_3) := (blk_cell BK122.out 3).trans rfl; have hcz3_4 : w2.cell? ⟨gb122, 4, none⟩ = some (.string a0_4) := (blk_cell BK122.out 4).trans rfl; have hcz3_5 : w2.cell? ⟨gb122, 5, none⟩ = some (.slice A0_5 l0_5.length c0_5) := (blk_cell BK122.out 5).trans rfl; have hfz3_0 := blk_frozen BK122.out 0; have hfz3_1 := blk_frozen BK122.out 1; have hfz3_2 := blk_frozen BK122.out 2; have hfz3_3 := blk_frozen BK122.out 3; have hfz3_4 := blk_frozen BK122.out 4; have hfz3_5 := blk_frozen BK122.out 5))
  go_loopg [4, 5, 13] k (fun kq v4 v5 v13 w' => ∃ (x4_1 : Int) (x5_1 : Int) (x13_1 : Int), v4 = .int .i64 x4_1 ∧ v5 = .int .i64 x5_1 ∧ v13 = .int .i64 x13_1 ∧ Aside0 (mortmainref08_Size.l0 kq x4_1 x5_1 l0_5 (l0_5.length : Int) x13_1 = some (r1, r2)) ∧ Aside0 (kq ≤ k) ∧ Aside0 (w'.heap[gb122]? = some (.cells #[.int .i64 a0_0, .int .i64 a0_1, .int .i64 a0_2, .int .i64 a0_3, .string a0_4, (.slice A0_5 l0_5.length c0_5)] 72 (0, 0))) ∧ Aside0 (Below w.heap.size w w'))
  case atStart => exact ⟨(1), (0), (0), (by first | rfl | (simp; done) | (simp [*]; done)), (by first | rfl | (simp; done) | (simp [*]; done)), (by first | rfl | (simp; done) | (simp [*]; done)), H', ⟨Nat.le_refl _⟩, ⟨by (with_reducible repeat (first | refine blk_drewN ?_ _ | refine blk_drew ?_ | refine blk_alloc ?_ _)); exact BK122.out⟩, ⟨by repeat (first | (with_reducible first | exact HB.out | apply below_alloc | apply pw_below_drewN | apply below_drew1 | refine below_set ?_ GE122.out) | exact HB.out)⟩⟩
  case round =>
    clear H'
    try clear p2
    try clear hcz3_0
    try clear hcz3_1
    try clear hcz3_2
    try clear hcz3_3
    try clear hcz3_4
    try clear hcz3_5
    try clear hfz3_0
    try clear hfz3_1
    try clear hfz3_2
    try clear hfz3_3
    try clear hfz3_4
    try clear hfz3_5
    obtain ⟨x4_1, x5_1, x13_1, rfl, rfl, rfl, HA, HK1, BK122, HB⟩ := hrel
    cases gk with
    | zero => exact absurd HA.out (by simp [mortmainref08_Size.l0])
    | succ k1 =>
      have H := HA.out
      clear HA
      simp only [mortmainref08_Size.l0] at H
      by_cases c4 : x13_1 < (l0_5.length : Int)
      · rw [if_pos c4] at H
        have c4b0 : decide (x13_1 < (l0_5.length : Int)) = true := decide_eq_true c4
        clear c4
        by_cases c5 : 0 ≤ x13_1
        · rw [if_pos c5] at H
          have c5b0 : decide (0 ≤ x13_1) = true := decide_eq_true c5
          clear c5
          by_cases c6 : x13_1 < (l0_5.length : Int)
          · rw [if_pos c6] at H
            have c6b0 : decide (x13_1 < (l0_5.length : Int)) = true := decide_eq_true c6
            clear c6
            replace H := Option.bind_eq_some_iff.mp H
            obtain ⟨⟨t125, t126⟩, A70, H⟩ := H
            replace H : (mortmainref08_Size.l0 k1 (wrap64 (x4_1 + t125)) (mx x5_1 t126) l0_5 (l0_5.length : Int) (wrap64 (x13_1 + 1))) = some (r1, r2) := H
            have A7 := Aside0.mk A70
            clear A70
            obtain ⟨ji8, hji8⟩ : ∃ j_ : Int, (mx x5_1 t126) = j_ := ⟨_, rfl⟩
            replace H : (mortmainref08_Size.l0 k1 (wrap64 (x4_1 + t125)) ji8 l0_5 (l0_5.length : Int) (wrap64 (x13_1 + 1))) = some (r1, r2) := by first | (rw [hji8] at H; exact H) | (simp only [hji8] at H ⊢; exact H)
            (try rw [hji8] at A7)
            have hji8_ : (if x5_1 < t126 then t126 else x5_1) = ji8 := hji8
            have H' := Aside0.mk H
            clear H
            have p123 : 0 ≤ (x13_1 : Int) := of_decide_eq_true (by first | (with_reducible assumption) | assumption)
            have q123 : x13_1 < (l0_5.length : Int) := of_decide_eq_true (by first | (with_reducible assumption) | assumption)
            obtain ⟨ad123, A123_5, c123_5, e123, hx123_0, hx123_1, hx123_2, hx123_3, hx123_4, hx123_5, hl123_5, hi123_5⟩ := at_T72 HR0_5.out x13_1 p123 q123
            cases e123
            replace hx123_0 := (HB.out.cell (World.block_lt_of_cell? w _ hx123_0)).trans hx123_0
            replace hx123_1 := (HB.out.cell (World.block_lt_of_cell? w _ hx123_1)).trans hx123_1
            replace hx123_2 := (HB.out.cell (World.block_lt_of_cell? w _ hx123_2)).trans hx123_2
            replace hx123_3 := (HB.out.cell (World.block_lt_of_cell? w _ hx123_3)).trans hx123_3
            replace hx123_4 := (HB.out.cell (World.block_lt_of_cell? w _ hx123_4)).trans hx123_4
            replace hx123_5 := (HB.out.cell (World.block_lt_of_cell? w _ hx123_5)).trans hx123_5
            have HR123_5 := Aside0.mk hi123_5
            have HC123_5 := Aside0.mk hl123_5
            clear hi123_5 hl123_5
            replace p123 := eq_true p123
            replace q123 := eq_true q123
            go_wp2_with (first | ((with_reducible refine gate_dst (N := 7) rfl ?_); refine box_event ?hg (N := 7) ?hd (cs := #[.int .i64 0, .int .i64 0, .int .i64 0, .int .i64 0, .string (⟨#[]⟩ : ByteArray), .slice none 0 0]) (t := 72) ?hr ?_; (case hd => rfl); (case hg => rfl); (case hr => first | (go_simp; done) | (go_simp; rfl)); intro gb124 hg w9 hbox hb; have n0_ := Aside0.mk (blk_below (g := gb122) (o := .cells #[.int .i64 a0_0, .int .i64 a0_1, .int .i64 a0_2, .int .i64 a0_3, .string a0_4, .slice (some ad123) l0_5.length c0_5] 72 (0, 0)) (by (with_reducible repeat (first | refine blk_drewN ?_ _ | refine blk_drew ?_ | refine blk_alloc ?_ _)); exact BK122.out) hb); have n1_ := Aside0.mk (below_step (by repeat (first | (with_reducible first | exact HB.out | apply below_alloc | apply pw_below_drewN | apply below_drew1 | refine below_set ?_ GE122.out) | exact HB.out)) hb); have n2_ := Aside0.mk (hbox); have n3_ := Aside0.mk ((by rw [hg]; exact (below_size (by repeat (first | (with_reducible first | exact HB.out | apply below_alloc | apply pw_below_drewN | apply below_drew1 | refine below_set ?_ GE122.out) | exact HB.out))) : w.heap.size ≤ gb124)); have n4_ := Aside0.mk ((by rw [hg]; exact (below_size (by repeat (first | (with_reducible first | exact HB.out | apply below_alloc | apply pw_below_drewN | apply below_drew1 | refine below_set ?_ GE122.out) | exact HB.out))) : w.heap.size ≤ gb124)); have n5_ := Aside0.mk ((by rw [hg]; exact Nat.ne_of_lt (blk_lt (g := gb122) (o := .cells #[.int .i64 a0_0, .int .i64 a0_1, .int .i64 a0_2, .int .i64 a0_3, .string a0_4, .slice (some ad123) l0_5.length c0_5] 72 (0, 0)) (by (with_reducible repeat (first | refine blk_drewN ?_ _ | refine blk_drew ?_ | refine blk_alloc ?_ _)); exact BK122.out)) : gb122 ≠ gb124)); have n6_ := Aside0.mk ((by rw [hg]; exact Nat.ne_of_gt (blk_lt (g := gb122) (o := .cells #[.int .i64 a0_0, .int .i64 a0_1, .int .i64 a0_2, .int .i64 a0_3, .string a0_4, .slice (some ad123) l0_5.length c0_5] 72 (0, 0)) (by (with_reducible repeat (first | refine blk_drewN ?_ _ | refine blk_drew ?_ | refine blk_alloc ?_ _)); exact BK122.out)) : gb124 ≠ gb122)); clear BK122; clear HB; have BK122 := n0_; have HB := n1_; have BK124 := n2_; have GW124 := n3_; have GE124 := n4_; have NB122_124 := n5_; have NB124_122 := n6_; clear n0_ n1_ n2_ n3_ n4_ n5_ n6_; clear hb hbox hg; have hnb10 := NB124_122.out; have hnc10 := NB122_124.out; have hcz11_0 : w9.cell? ⟨gb124, 0, none⟩ = some (.int .i64 0) := (blk_cell BK124.out 0).trans rfl; have hcz11_1 : w9.cell? ⟨gb124, 1, none⟩ = some (.int .i64 0) := (blk_cell BK124.out 1).trans rfl; have hcz11_2 : w9.cell? ⟨gb124, 2, none⟩ = some (.int .i64 0) := (blk_cell BK124.out 2).trans rfl; have hcz11_3 : w9.cell? ⟨gb124, 3, none⟩ = some (.int .i64 0) := (blk_cell BK124.out 3).trans rfl; have hcz11_4 : w9.cell? ⟨gb124, 4, none⟩ = some (.string (⟨#[]⟩ : ByteArray)) := (blk_cell BK124.out 4).trans rfl; have hcz11_5 : w9.cell? ⟨gb124, 5, none⟩ = some (.slice none 0 0) := (blk_cell BK124.out 5).trans rfl; have hfz11_0 := blk_frozen BK124.out 0; have hfz11_1 := blk_frozen BK124.out 1; have hfz11_2 := blk_frozen BK124.out 2; have hfz11_3 := blk_frozen BK124.out 3; have hfz11_4 := blk_frozen BK124.out 4; have hfz11_5 := blk_frozen BK124.out 5) | ((with_reducible refine gate_callee (f := 79) rfl ?_); refine goesL_ (some 19) rfl rfl Tryd.func79 (by kernel_rfl) rfl #[.agg #[.int .i64 ((rd_T72 l0_5 x13_1).f0), .int .i64 ((rd_T72 l0_5 x13_1).f1), .int .i64 ((rd_T72 l0_5 x13_1).f2.f0), .int .i64 ((rd_T72 l0_5 x13_1).f2.f1), .string ((rd_T72 l0_5 x13_1).f2.f2), .slice A123_5 ((rd_T72 l0_5 x13_1).f3).length c123_5]] rfl (by (try simp only [List.map_toArray, List.map_cons, List.map_nil]); first | done | rfl | (simp only [List.length_drop, List.length_take]; rfl)) ?_; (with_reducible refine (ih k1 (by have := HK1.out; omega) ((rd_T72 l0_5 x13_1).f0) ((rd_T72 l0_5 x13_1).f1) ((rd_T72 l0_5 x13_1).f2.f0) ((rd_T72 l0_5 x13_1).f2.f1) ((rd_T72 l0_5 x13_1).f2.f2) _ _ ((rd_T72 l0_5 x13_1).f3) t125 t126 _ ?side1 ?side2 A7.out).mono ?_); (case side1 => exact Kd.C_below HR123_5.out (by repeat (first | (with_reducible first | exact HB.out | apply below_alloc | apply pw_below_drewN | apply below_drew1 | refine below_set ?_ GE122.out | refine below_set ?_ GE124.out) | exact HB.out))); (case side2 => exact HC123_5.out); rintro e w12 ⟨rfl, hb⟩; refine ⟨_, rfl, ?_⟩; have n0_ := Aside0.mk (blk_below (g := gb122) (o := .cells #[.int .i64 a0_0, .int .i64 a0_1, .int .i64 a0_2, .int .i64 a0_3, .string a0_4, .slice (some ad123) l0_5.length c0_5] 72 (0, 0)) (by (with_reducible repeat (first | refine blk_drewN ?_ _ | refine blk_drew ?_ | refine blk_alloc ?_ _)); refine blk_far ?_ NB122_124.out _; (with_reducible repeat (first | refine blk_drewN ?_ _ | refine blk_drew ?_ | refine blk_alloc ?_ _)); refine blk_far ?_ NB122_124.out _; (with_reducible repeat (first | refine blk_drewN ?_ _ | refine blk_drew ?_ | refine blk_alloc ?_ _)); refine blk_far ?_ NB122_124.out _; (with_reducible repeat (first | refine blk_drewN ?_ _ | refine blk_drew ?_ | refine blk_alloc ?_ _)); refine blk_far ?_ NB122_124.out _; (with_reducible repeat (first | refine blk_drewN ?_ _ | refine blk_drew ?_ | refine blk_alloc ?_ _)); refine blk_far ?_ NB122_124.out _; (with_reducible repeat (first | refine blk_drewN ?_ _ | refine blk_drew ?_ | refine blk_alloc ?_ _)); refine blk_far ?_ NB122_124.out _; (with_reducible repeat (first | refine blk_drewN ?_ _ | refine blk_drew ?_ | refine blk_alloc ?_ _)); exact BK122.out) hb); have n1_ := Aside0.mk (blk_below (g := gb124) (o := .cells #[.int .i64 ((rd_T72 l0_5 x13_1).f0), .int .i64 ((rd_T72 l0_5 x13_1).f1), .int .i64 ((rd_T72 l0_5 x13_1).f2.f0), .int .i64 ((rd_T72 l0_5 x13_1).f2.f1), .string ((rd_T72 l0_5 x13_1).f2.f2), .slice A123_5 ((rd_T72 l0_5 x13_1).f3).length c123_5] 72 (0, 0)) (by (with_reducible repeat (first | refine blk_drewN ?_ _ | refine blk_drew ?_ | refine blk_alloc ?_ _)); refine blk_put (cs := #[.int .i64 ((rd_T72 l0_5 x13_1).f0), .int .i64 ((rd_T72 l0_5 x13_1).f1), .int .i64 ((rd_T72 l0_5 x13_1).f2.f0), .int .i64 ((rd_T72 l0_5 x13_1).f2.f1), .string ((rd_T72 l0_5 x13_1).f2.f2), .slice none 0 0]) ?_ 5 _ rfl; (with_reducible repeat (first | refine blk_drewN ?_ _ | refine blk_drew ?_ | refine blk_alloc ?_ _)); refine blk_put (cs := #[.int .i64 ((rd_T72 l0_5 x13_1).f0), .int .i64 ((rd_T72 l0_5 x13_1).f1), .int .i64 ((rd_T72 l0_5 x13_1).f2.f0), .int .i64 ((rd_T72 l0_5 x13_1).f2.f1), .string (⟨#[]⟩ : ByteArray), .slice none 0 0]) ?_ 4 _ rfl; (with_reducible repeat (first | refine blk_drewN ?_ _ | refine blk_drew ?_ | refine blk_alloc ?_ _)); refine blk_put (cs := #[.int .i64 ((rd_T72 l0_5 x13_1).f0), .int .i64 ((rd_T72 l0_5 x13_1).f1), .int .i64 ((rd_T72 l0_5 x13_1).f2.f0), .int .i64 0, .string (⟨#[]⟩ : ByteArray), .slice none 0 0]) ?_ 3 _ rfl; (with_reducible repeat (first | refine blk_drewN ?_ _ | refine blk_drew ?_ | refine blk_alloc ?_ _)); refine blk_put (cs := #[.int .i64 ((rd_T72 l0_5 x13_1).f0), .int .i64 ((rd_T72 l0_5 x13_1).f1), .int .i64 0, .int .i64 0, .string (⟨#[]⟩ : ByteArray), .slice none 0 0]) ?_ 2 _ rfl; (with_reducible repeat (first | refine blk_drewN ?_ _ | refine blk_drew ?_ | refine blk_alloc ?_ _)); refine blk_put (cs := #[.int .i64 ((rd_T72 l0_5 x13_1).f0), .int .i64 0, .int .i64 0, .int .i64 0, .string (⟨#[]⟩ : ByteArray), .slice none 0 0]) ?_ 1 _ rfl; (with_reducible repeat (first | refine blk_drewN ?_ _ | refine blk_drew ?_ | refine blk_alloc ?_ _)); refine blk_put (cs := #[.int .i64 0, .int .i64 0, .int .i64 0, .int .i64 0, .string (⟨#[]⟩ : ByteArray), .slice none 0 0]) ?_ 0 _ rfl; (with_reducible repeat (first | refine blk_drewN ?_ _ | refine blk_drew ?_ | refine blk_alloc ?_ _)); exact BK124.out) hb); have n2_ := Aside0.mk (below_step (by repeat (first | (with_reducible first | exact HB.out | apply below_alloc | apply pw_below_drewN | apply below_drew1 | refine below_set ?_ GE122.out | refine below_set ?_ GE124.out) | exact HB.out)) hb); clear BK122; clear BK124; clear HB; have BK122 := n0_; have BK124 := n1_; have HB := n2_; clear n0_ n1_ n2_; (try clear hb); (try clear hb2); (try clear hk); (try clear hi)))
            go_roundg k1
            case measure => have := HK1.out; omega
            case rel => exact ⟨(wrap64 (x4_1 + t125)), (ji8), (wrap64 (x13_1 + 1)), (by first | rfl | (simp; done) | (simp [*]; done)), (by first | rfl | (simp; done) | (simp only [← hji8] <;> (first | rfl | simp)) | (simp [*]; done)), (by first | rfl | (simp; done) | (simp [*]; done)), H', ⟨by have := HK1.out; omega⟩, ⟨by (with_reducible repeat (first | refine blk_drewN ?_ _ | refine blk_drew ?_ | refine blk_alloc ?_ _)); exact BK122.out⟩, ⟨by repeat (first | (with_reducible first | exact HB.out | apply below_alloc | apply pw_below_drewN | apply below_drew1 | refine below_set ?_ GE122.out | refine below_set ?_ GE124.out) | exact HB.out)⟩⟩
          · rw [if_neg c6] at H
            exact absurd H (by simp)
        · rw [if_neg c5] at H
          exact absurd H (by simp)
      · rw [if_neg c4] at H
        have c4b0 : decide (x13_1 < (l0_5.length : Int)) = false := decide_eq_false c4
        clear c4
        simp only [Option.some.injEq, Prod.mk.injEq] at H
        obtain ⟨rfl, rfl⟩ := H
        go_wp2
        go_ret2
        exact ⟨by first | rfl | (simp [errW_none, errW_some] <;> rfl) | (simp [*, errW_none, errW_some] <;> rfl), by repeat (first | (with_reducible first | exact HB.out | apply below_alloc | apply pw_below_drewN | apply below_drew1 | refine below_set ?_ GE122.out) | exact HB.out)⟩

end Go.Proofs.YtefdfgmlmjnmlaaDoor.Rf
end

section
set_option linter.unusedVariables false
set_option linter.unusedSimpArgs false
/- What the kit's print.py wrote of one Go function of this seat's translation (run by a program of this session, one function a text): the function as a plain Lean function, and that the call computes it. -/
namespace Go.Proofs.YtefdfgmlmjnmlaaDoor.Rf
open Go.RowKit Go.Proofs.YtefdfgmlmjnmlaaDoorW.PrintWords Go.Proofs.YtefdfgmlmjnmlaaDoorW.PrintLast Go.Proofs.YtefdfgmlmjnmlaaDoorW.PrintMore
attribute [local go_sem] max2_int min2_int max_two min_two max_three min_three max_four min_four   -- for this text's walks alone

/-! ### mortmainref08_long: function 80 -/
mutual
def mortmainref08_long.l0 : Nat → List (S72) → Int → Int → Int → Int → Int → Int → ByteArray → List (S72) → Option (Bool)
  | 0, _, _, _, _, _, _, _, _, _ => none
  | k + 1, x6, x7, x8, x128000, x128001, x128002, x128003, x128004, x128005 => if x8 < x7 then (if 0 ≤ x8 then (if x8 < (x6.length : Int) then ((mortmainref08_long.f k ((rd_T72 x6 x8).f0) ((rd_T72 x6 x8).f1) ((rd_T72 x6 x8).f2.f0) ((rd_T72 x6 x8).f2.f1) ((rd_T72 x6 x8).f2.f2) ((rd_T72 x6 x8).f3)).bind fun t130 => (if t130 = true then (some true) else (mortmainref08_long.l0 k x6 x7 (wrap64 (x8 + 1)) x128000 x128001 x128002 x128003 x128004 x128005))) else (none)) else (none)) else (some (decide ((x128004.size : Int) > 200)))
def mortmainref08_long.f : Nat → Int → Int → Int → Int → ByteArray → List (S72) → Option (Bool)
  | 0, _, _, _, _, _, _ => none
  | k + 1, a0_0, a0_1, a0_2, a0_3, a0_4, l0_5 => mortmainref08_long.l0 k l0_5 (l0_5.length : Int) 0 a0_0 a0_1 a0_2 a0_3 a0_4 l0_5
end
theorem mortmainref08_long.mono_l : ∀ k, (∀ y0 y1 y2 y3 y4 y5, LeO (mortmainref08_long.f k y0 y1 y2 y3 y4 y5) (mortmainref08_long.f (k + 1) y0 y1 y2 y3 y4 y5)) ∧ (∀ y0 y1 y2 y3 y4 y5 y6 y7 y8, LeO (mortmainref08_long.l0 k y0 y1 y2 y3 y4 y5 y6 y7 y8) (mortmainref08_long.l0 (k + 1) y0 y1 y2 y3 y4 y5 y6 y7 y8))
  | 0 => ⟨fun _ _ _ _ _ _ r h => by simp [mortmainref08_long.f] at h, fun _ _ _ _ _ _ _ _ _ r h => by simp [mortmainref08_long.l0] at h⟩
  | k + 1 => by
    obtain ⟨ih0, ih1⟩ := mortmainref08_long.mono_l k
    refine ⟨?_, ?_⟩
    · intro y0 y1 y2 y3 y4 y5
      unfold mortmainref08_long.f
      repeat' first
      | (with_reducible exact ih0 _ _ _ _ _ _)
      | (with_reducible exact ih1 _ _ _ _ _ _ _ _ _)
      | (with_reducible exact LeO.refl _)
      | (with_reducible exact LeO.none _)
      | (with_reducible refine LeO.ite ?_ ?_)
      | (with_reducible refine LeO.bind ?_ (fun _ => ?_))
      | exact ih0 _ _ _ _ _ _
      | exact ih1 _ _ _ _ _ _ _ _ _
      | exact LeO.none _
      | refine LeO.ite ?_ ?_
      | refine LeO.bind ?_ (fun _ => ?_)
    · intro y0 y1 y2 y3 y4 y5 y6 y7 y8
      unfold mortmainref08_long.l0
      repeat' first
      | (with_reducible exact ih0 _ _ _ _ _ _)
      | (with_reducible exact ih1 _ _ _ _ _ _ _ _ _)
      | (with_reducible exact LeO.refl _)
      | (with_reducible exact LeO.none _)
      | (with_reducible refine LeO.ite ?_ ?_)
      | (with_reducible refine LeO.bind ?_ (fun _ => ?_))
      | exact ih0 _ _ _ _ _ _
      | exact ih1 _ _ _ _ _ _ _ _ _
      | exact LeO.none _
      | refine LeO.ite ?_ ?_
      | refine LeO.bind ?_ (fun _ => ?_)
theorem mortmainref08_long.mono : ∀ a0 a1 a2 a3 a4 a5 k, LeO (mortmainref08_long.f k a0 a1 a2 a3 a4 a5) (mortmainref08_long.f (k + 1) a0 a1 a2 a3 a4 a5) := by
  intro a0 a1 a2 a3 a4 a5 k
  obtain ⟨ih0, ih1⟩ := mortmainref08_long.mono_l k
  exact ih0 a0 a1 a2 a3 a4 a5
set_option maxHeartbeats 8000000 in
set_option maxRecDepth 100000 in
theorem mortmainref08_long.calls (k : Nat) : ∀ (a0_0 : Int) (a0_1 : Int) (a0_2 : Int) (a0_3 : Int) (a0_4 : ByteArray) (A0_5 : Option Addr) (c0_5 : Nat) (l0_5 : List (S72)) (r : Bool) (w : World) (hr0_5 : Kd.C k72 w A0_5 l0_5.length l0_5) (hc0_5 : l0_5.length ≤ c0_5) (h : mortmainref08_long.f k a0_0 a0_1 a0_2 a0_3 a0_4 l0_5 = some r),
    Calls Tryd.prog 80 #[.agg #[.int .i64 a0_0, .int .i64 a0_1, .int .i64 a0_2, .int .i64 a0_3, .string a0_4, .slice A0_5 l0_5.length c0_5]] w fun e w' => e = .returned (.bool r) ∧ Below w.heap.size w w' := by
  induction k using Nat.strongRecOn with
  | _ k ih =>
  intro a0_0 a0_1 a0_2 a0_3 a0_4 A0_5 c0_5 l0_5 r w hr0_5 hc0_5 h
  cases k with
  | zero => exact absurd h (by simp [mortmainref08_long.f])
  | succ k =>
  simp only [mortmainref08_long.f] at h
  have hu72 := Tryd.underlying72
  have HR0_5 := Aside0.mk hr0_5
  have HC0_5 := Aside0.mk hc0_5
  clear hr0_5 hc0_5
  have HB := Aside0.mk (Below.refl w.heap.size w)
  have H : (mortmainref08_long.l0 k l0_5 (l0_5.length : Int) 0 a0_0 a0_1 a0_2 a0_3 a0_4 l0_5) = some r := h
  clear h
  have H' := Aside0.mk H
  clear H
  go_enter Tryd.func80, Tryd.ntmps80
  go_wp2_with (first | ((with_reducible refine gate_dst (N := 1) rfl ?_); refine box_event ?hg (N := 1) ?hd (cs := #[.int .i64 a0_0, .int .i64 a0_1, .int .i64 a0_2, .int .i64 a0_3, .string a0_4, .slice A0_5 l0_5.length c0_5]) (t := 72) ?hr ?_; (case hd => rfl); (case hg => rfl); (case hr => first | (go_simp; done) | (go_simp; rfl)); intro gb127 hg w2 hbox hb; have n0_ := Aside0.mk (below_step (by repeat (first | (with_reducible first | exact HB.out | apply below_alloc | apply pw_below_drewN | apply below_drew1) | exact HB.out)) hb); have n1_ := Aside0.mk (hbox); have n2_ := Aside0.mk ((by rw [hg]; exact (below_size (by repeat (first | (with_reducible first | exact HB.out | apply below_alloc | apply pw_below_drewN | apply below_drew1) | exact HB.out))) : w.heap.size ≤ gb127)); have n3_ := Aside0.mk ((by rw [hg]; exact (below_size (by repeat (first | (with_reducible first | exact HB.out | apply below_alloc | apply pw_below_drewN | apply below_drew1) | exact HB.out))) : w.heap.size ≤ gb127)); clear HB; have HB := n0_; have BK127 := n1_; have GW127 := n2_; have GE127 := n3_; clear n0_ n1_ n2_ n3_; clear hb hbox hg; have hcz3_0 : w2.cell? ⟨gb127, 0, none⟩ = some (.int .i64 a0_0) := (blk_cell BK127.out 0).trans rfl; have hcz3_1 : w2.cell? ⟨gb127, 1, none⟩ = some (.int .i64 a0_1) := (blk_cell BK127.out 1).trans rfl; have hcz3_2 : w2.cell? ⟨gb127, 2, none⟩ = some (.int .i64 a0_2) := (blk_cell BK127.out 2).trans rfl; have hcz3_3 : w2.cell? ⟨gb127, 3, none⟩ = some (.int .i64 a0_3) := (blk_cell BK127.out 3).trans rfl; have hcz3_4 : w2.cell? ⟨gb127, 4, none⟩ = some (.string a0_4) := (blk_cell BK127.out 4).trans rfl; have hcz3_5 : w2.cell? ⟨gb127, 5, none⟩ = some (.slice A0_5 l0_5.length c0_5) := (blk_cell BK127.out 5).trans rfl; have hfz3_0 := blk_frozen BK127.out 0; have hfz3_1 := blk_frozen BK127.out 1; have hfz3_2 := blk_frozen BK127.out 2; have hfz3_3 := blk_frozen BK127.out 3; have hfz3_4 := blk_frozen BK127.out 4; have hfz3_5 := blk_frozen BK127.out 5))
  go_loopg [8] k (fun kq v8 w' => ∃ (x8_1 : Int), v8 = .int .i64 x8_1 ∧ Aside0 (mortmainref08_long.l0 kq l0_5 (l0_5.length : Int) x8_1 a0_0 a0_1 a0_2 a0_3 a0_4 l0_5 = some r) ∧ Aside0 (kq ≤ k) ∧ Aside0 (w'.heap[gb127]? = some (.cells #[.int .i64 a0_0, .int .i64 a0_1, .int .i64 a0_2, .int .i64 a0_3, .string a0_4, (.slice A0_5 l0_5.length c0_5)] 72 (0, 0))) ∧ Aside0 (Below w.heap.size w w'))
  case atStart => exact ⟨(0), (by first | rfl | (simp; done) | (simp [*]; done)), H', ⟨Nat.le_refl _⟩, ⟨by (with_reducible repeat (first | refine blk_drewN ?_ _ | refine blk_drew ?_ | refine blk_alloc ?_ _)); exact BK127.out⟩, ⟨by repeat (first | (with_reducible first | exact HB.out | apply below_alloc | apply pw_below_drewN | apply below_drew1 | refine below_set ?_ GE127.out) | exact HB.out)⟩⟩
  case round =>
    clear H'
    try clear p2
    try clear hcz3_0
    try clear hcz3_1
    try clear hcz3_2
    try clear hcz3_3
    try clear hcz3_4
    try clear hcz3_5
    try clear hfz3_0
    try clear hfz3_1
    try clear hfz3_2
    try clear hfz3_3
    try clear hfz3_4
    try clear hfz3_5
    obtain ⟨x8_1, rfl, HA, HK1, BK127, HB⟩ := hrel
    cases gk with
    | zero => exact absurd HA.out (by simp [mortmainref08_long.l0])
    | succ k1 =>
      have H := HA.out
      clear HA
      simp only [mortmainref08_long.l0] at H
      by_cases c4 : x8_1 < (l0_5.length : Int)
      · rw [if_pos c4] at H
        have c4b0 : decide (x8_1 < (l0_5.length : Int)) = true := decide_eq_true c4
        clear c4
        by_cases c5 : 0 ≤ x8_1
        · rw [if_pos c5] at H
          have c5b0 : decide (0 ≤ x8_1) = true := decide_eq_true c5
          clear c5
          by_cases c6 : x8_1 < (l0_5.length : Int)
          · rw [if_pos c6] at H
            have c6b0 : decide (x8_1 < (l0_5.length : Int)) = true := decide_eq_true c6
            clear c6
            replace H := Option.bind_eq_some_iff.mp H
            obtain ⟨t130, A70, H⟩ := H
            replace H : (if t130 = true then (some true) else (mortmainref08_long.l0 k1 l0_5 (l0_5.length : Int) (wrap64 (x8_1 + 1)) a0_0 a0_1 a0_2 a0_3 a0_4 l0_5)) = some r := H
            have A7 := Aside0.mk A70
            clear A70
            by_cases c8 : t130 = true
            · subst c8
              have H1 : (some true) = some r := by rw [if_pos rfl] at H; exact H
              clear H
              have H := H1
              clear H1
              obtain rfl := Option.some.inj H
              have p128 : 0 ≤ (x8_1 : Int) := of_decide_eq_true (by first | (with_reducible assumption) | assumption)
              have q128 : x8_1 < (l0_5.length : Int) := of_decide_eq_true (by first | (with_reducible assumption) | assumption)
              obtain ⟨ad128, A128_5, c128_5, e128, hx128_0, hx128_1, hx128_2, hx128_3, hx128_4, hx128_5, hl128_5, hi128_5⟩ := at_T72 HR0_5.out x8_1 p128 q128
              cases e128
              replace hx128_0 := (HB.out.cell (World.block_lt_of_cell? w _ hx128_0)).trans hx128_0
              replace hx128_1 := (HB.out.cell (World.block_lt_of_cell? w _ hx128_1)).trans hx128_1
              replace hx128_2 := (HB.out.cell (World.block_lt_of_cell? w _ hx128_2)).trans hx128_2
              replace hx128_3 := (HB.out.cell (World.block_lt_of_cell? w _ hx128_3)).trans hx128_3
              replace hx128_4 := (HB.out.cell (World.block_lt_of_cell? w _ hx128_4)).trans hx128_4
              replace hx128_5 := (HB.out.cell (World.block_lt_of_cell? w _ hx128_5)).trans hx128_5
              have HR128_5 := Aside0.mk hi128_5
              have HC128_5 := Aside0.mk hl128_5
              clear hi128_5 hl128_5
              replace p128 := eq_true p128
              replace q128 := eq_true q128
              go_wp2_with (first | ((with_reducible refine gate_dst (N := 4) rfl ?_); refine box_event ?hg (N := 4) ?hd (cs := #[.int .i64 0, .int .i64 0, .int .i64 0, .int .i64 0, .string (⟨#[]⟩ : ByteArray), .slice none 0 0]) (t := 72) ?hr ?_; (case hd => rfl); (case hg => rfl); (case hr => first | (go_simp; done) | (go_simp; rfl)); intro gb129 hg w9 hbox hb; have n0_ := Aside0.mk (blk_below (g := gb127) (o := .cells #[.int .i64 a0_0, .int .i64 a0_1, .int .i64 a0_2, .int .i64 a0_3, .string a0_4, .slice (some ad128) l0_5.length c0_5] 72 (0, 0)) (by (with_reducible repeat (first | refine blk_drewN ?_ _ | refine blk_drew ?_ | refine blk_alloc ?_ _)); exact BK127.out) hb); have n1_ := Aside0.mk (below_step (by repeat (first | (with_reducible first | exact HB.out | apply below_alloc | apply pw_below_drewN | apply below_drew1 | refine below_set ?_ GE127.out) | exact HB.out)) hb); have n2_ := Aside0.mk (hbox); have n3_ := Aside0.mk ((by rw [hg]; exact (below_size (by repeat (first | (with_reducible first | exact HB.out | apply below_alloc | apply pw_below_drewN | apply below_drew1 | refine below_set ?_ GE127.out) | exact HB.out))) : w.heap.size ≤ gb129)); have n4_ := Aside0.mk ((by rw [hg]; exact (below_size (by repeat (first | (with_reducible first | exact HB.out | apply below_alloc | apply pw_below_drewN | apply below_drew1 | refine below_set ?_ GE127.out) | exact HB.out))) : w.heap.size ≤ gb129)); have n5_ := Aside0.mk ((by rw [hg]; exact Nat.ne_of_lt (blk_lt (g := gb127) (o := .cells #[.int .i64 a0_0, .int .i64 a0_1, .int .i64 a0_2, .int .i64 a0_3, .string a0_4, .slice (some ad128) l0_5.length c0_5] 72 (0, 0)) (by (with_reducible repeat (first | refine blk_drewN ?_ _ | refine blk_drew ?_ | refine blk_alloc ?_ _)); exact BK127.out)) : gb127 ≠ gb129)); have n6_ := Aside0.mk ((by rw [hg]; exact Nat.ne_of_gt (blk_lt (g := gb127) (o := .cells #[.int .i64 a0_0, .int .i64 a0_1, .int .i64 a0_2, .int .i64 a0_3, .string a0_4, .slice (some ad128) l0_5.length c0_5] 72 (0, 0)) (by (with_reducible repeat (first | refine blk_drewN ?_ _ | refine blk_drew ?_ | refine blk_alloc ?_ _)); exact BK127.out)) : gb129 ≠ gb127)); clear BK127; clear HB; have BK127 := n0_; have HB := n1_; have BK129 := n2_; have GW129 := n3_; have GE129 := n4_; have NB127_129 := n5_; have NB129_127 := n6_; clear n0_ n1_ n2_ n3_ n4_ n5_ n6_; clear hb hbox hg; have hnb10 := NB129_127.out; have hnc10 := NB127_129.out; have hcz11_0 : w9.cell? ⟨gb129, 0, none⟩ = some (.int .i64 0) := (blk_cell BK129.out 0).trans rfl; have hcz11_1 : w9.cell? ⟨gb129, 1, none⟩ = some (.int .i64 0) := (blk_cell BK129.out 1).trans rfl; have hcz11_2 : w9.cell? ⟨gb129, 2, none⟩ = some (.int .i64 0) := (blk_cell BK129.out 2).trans rfl; have hcz11_3 : w9.cell? ⟨gb129, 3, none⟩ = some (.int .i64 0) := (blk_cell BK129.out 3).trans rfl; have hcz11_4 : w9.cell? ⟨gb129, 4, none⟩ = some (.string (⟨#[]⟩ : ByteArray)) := (blk_cell BK129.out 4).trans rfl; have hcz11_5 : w9.cell? ⟨gb129, 5, none⟩ = some (.slice none 0 0) := (blk_cell BK129.out 5).trans rfl; have hfz11_0 := blk_frozen BK129.out 0; have hfz11_1 := blk_frozen BK129.out 1; have hfz11_2 := blk_frozen BK129.out 2; have hfz11_3 := blk_frozen BK129.out 3; have hfz11_4 := blk_frozen BK129.out 4; have hfz11_5 := blk_frozen BK129.out 5) | ((with_reducible refine gate_callee (f := 80) rfl ?_); refine goesL_ (some 13) rfl rfl Tryd.func80 (by kernel_rfl) rfl #[.agg #[.int .i64 ((rd_T72 l0_5 x8_1).f0), .int .i64 ((rd_T72 l0_5 x8_1).f1), .int .i64 ((rd_T72 l0_5 x8_1).f2.f0), .int .i64 ((rd_T72 l0_5 x8_1).f2.f1), .string ((rd_T72 l0_5 x8_1).f2.f2), .slice A128_5 ((rd_T72 l0_5 x8_1).f3).length c128_5]] rfl (by (try simp only [List.map_toArray, List.map_cons, List.map_nil]); first | done | rfl | (simp only [List.length_drop, List.length_take]; rfl)) ?_; (with_reducible refine (ih k1 (by have := HK1.out; omega) ((rd_T72 l0_5 x8_1).f0) ((rd_T72 l0_5 x8_1).f1) ((rd_T72 l0_5 x8_1).f2.f0) ((rd_T72 l0_5 x8_1).f2.f1) ((rd_T72 l0_5 x8_1).f2.f2) _ _ ((rd_T72 l0_5 x8_1).f3) true _ ?side1 ?side2 A7.out).mono ?_); (case side1 => exact Kd.C_below HR128_5.out (by repeat (first | (with_reducible first | exact HB.out | apply below_alloc | apply pw_below_drewN | apply below_drew1 | refine below_set ?_ GE127.out | refine below_set ?_ GE129.out) | exact HB.out))); (case side2 => exact HC128_5.out); rintro e w12 ⟨rfl, hb⟩; refine ⟨_, rfl, ?_⟩; have n0_ := Aside0.mk (blk_below (g := gb127) (o := .cells #[.int .i64 a0_0, .int .i64 a0_1, .int .i64 a0_2, .int .i64 a0_3, .string a0_4, .slice (some ad128) l0_5.length c0_5] 72 (0, 0)) (by (with_reducible repeat (first | refine blk_drewN ?_ _ | refine blk_drew ?_ | refine blk_alloc ?_ _)); refine blk_far ?_ NB127_129.out _; (with_reducible repeat (first | refine blk_drewN ?_ _ | refine blk_drew ?_ | refine blk_alloc ?_ _)); refine blk_far ?_ NB127_129.out _; (with_reducible repeat (first | refine blk_drewN ?_ _ | refine blk_drew ?_ | refine blk_alloc ?_ _)); refine blk_far ?_ NB127_129.out _; (with_reducible repeat (first | refine blk_drewN ?_ _ | refine blk_drew ?_ | refine blk_alloc ?_ _)); refine blk_far ?_ NB127_129.out _; (with_reducible repeat (first | refine blk_drewN ?_ _ | refine blk_drew ?_ | refine blk_alloc ?_ _)); refine blk_far ?_ NB127_129.out _; (with_reducible repeat (first | refine blk_drewN ?_ _ | refine blk_drew ?_ | refine blk_alloc ?_ _)); refine blk_far ?_ NB127_129.out _; (with_reducible repeat (first | refine blk_drewN ?_ _ | refine blk_drew ?_ | refine blk_alloc ?_ _)); exact BK127.out) hb); have n1_ := Aside0.mk (blk_below (g := gb129) (o := .cells #[.int .i64 ((rd_T72 l0_5 x8_1).f0), .int .i64 ((rd_T72 l0_5 x8_1).f1), .int .i64 ((rd_T72 l0_5 x8_1).f2.f0), .int .i64 ((rd_T72 l0_5 x8_1).f2.f1), .string ((rd_T72 l0_5 x8_1).f2.f2), .slice A128_5 ((rd_T72 l0_5 x8_1).f3).length c128_5] 72 (0, 0)) (by (with_reducible repeat (first | refine blk_drewN ?_ _ | refine blk_drew ?_ | refine blk_alloc ?_ _)); refine blk_put (cs := #[.int .i64 ((rd_T72 l0_5 x8_1).f0), .int .i64 ((rd_T72 l0_5 x8_1).f1), .int .i64 ((rd_T72 l0_5 x8_1).f2.f0), .int .i64 ((rd_T72 l0_5 x8_1).f2.f1), .string ((rd_T72 l0_5 x8_1).f2.f2), .slice none 0 0]) ?_ 5 _ rfl; (with_reducible repeat (first | refine blk_drewN ?_ _ | refine blk_drew ?_ | refine blk_alloc ?_ _)); refine blk_put (cs := #[.int .i64 ((rd_T72 l0_5 x8_1).f0), .int .i64 ((rd_T72 l0_5 x8_1).f1), .int .i64 ((rd_T72 l0_5 x8_1).f2.f0), .int .i64 ((rd_T72 l0_5 x8_1).f2.f1), .string (⟨#[]⟩ : ByteArray), .slice none 0 0]) ?_ 4 _ rfl; (with_reducible repeat (first | refine blk_drewN ?_ _ | refine blk_drew ?_ | refine blk_alloc ?_ _)); refine blk_put (cs := #[.int .i64 ((rd_T72 l0_5 x8_1).f0), .int .i64 ((rd_T72 l0_5 x8_1).f1), .int .i64 ((rd_T72 l0_5 x8_1).f2.f0), .int .i64 0, .string (⟨#[]⟩ : ByteArray), .slice none 0 0]) ?_ 3 _ rfl; (with_reducible repeat (first | refine blk_drewN ?_ _ | refine blk_drew ?_ | refine blk_alloc ?_ _)); refine blk_put (cs := #[.int .i64 ((rd_T72 l0_5 x8_1).f0), .int .i64 ((rd_T72 l0_5 x8_1).f1), .int .i64 0, .int .i64 0, .string (⟨#[]⟩ : ByteArray), .slice none 0 0]) ?_ 2 _ rfl; (with_reducible repeat (first | refine blk_drewN ?_ _ | refine blk_drew ?_ | refine blk_alloc ?_ _)); refine blk_put (cs := #[.int .i64 ((rd_T72 l0_5 x8_1).f0), .int .i64 0, .int .i64 0, .int .i64 0, .string (⟨#[]⟩ : ByteArray), .slice none 0 0]) ?_ 1 _ rfl; (with_reducible repeat (first | refine blk_drewN ?_ _ | refine blk_drew ?_ | refine blk_alloc ?_ _)); refine blk_put (cs := #[.int .i64 0, .int .i64 0, .int .i64 0, .int .i64 0, .string (⟨#[]⟩ : ByteArray), .slice none 0 0]) ?_ 0 _ rfl; (with_reducible repeat (first | refine blk_drewN ?_ _ | refine blk_drew ?_ | refine blk_alloc ?_ _)); exact BK129.out) hb); have n2_ := Aside0.mk (below_step (by repeat (first | (with_reducible first | exact HB.out | apply below_alloc | apply pw_below_drewN | apply below_drew1 | refine below_set ?_ GE127.out | refine below_set ?_ GE129.out) | exact HB.out)) hb); clear BK127; clear BK129; clear HB; have BK127 := n0_; have BK129 := n1_; have HB := n2_; clear n0_ n1_ n2_; (try clear hb); (try clear hb2); (try clear hk); (try clear hi)))
              go_ret
              exact ⟨by first | rfl | (simp [errW_none, errW_some] <;> rfl) | (simp [*, errW_none, errW_some] <;> rfl), by repeat (first | (with_reducible first | exact HB.out | apply below_alloc | apply pw_below_drewN | apply below_drew1 | refine below_set ?_ GE127.out | refine below_set ?_ GE129.out) | exact HB.out)⟩
            · replace c8 := Bool.eq_false_iff.mpr c8
              subst c8
              have H1 : (mortmainref08_long.l0 k1 l0_5 (l0_5.length : Int) (wrap64 (x8_1 + 1)) a0_0 a0_1 a0_2 a0_3 a0_4 l0_5) = some r := by rw [if_neg (show ¬ (false = true) by decide)] at H; exact H
              clear H
              have H := H1
              clear H1
              have H' := Aside0.mk H
              clear H
              have p128 : 0 ≤ (x8_1 : Int) := of_decide_eq_true (by first | (with_reducible assumption) | assumption)
              have q128 : x8_1 < (l0_5.length : Int) := of_decide_eq_true (by first | (with_reducible assumption) | assumption)
              obtain ⟨ad128, A128_5, c128_5, e128, hx128_0, hx128_1, hx128_2, hx128_3, hx128_4, hx128_5, hl128_5, hi128_5⟩ := at_T72 HR0_5.out x8_1 p128 q128
              cases e128
              replace hx128_0 := (HB.out.cell (World.block_lt_of_cell? w _ hx128_0)).trans hx128_0
              replace hx128_1 := (HB.out.cell (World.block_lt_of_cell? w _ hx128_1)).trans hx128_1
              replace hx128_2 := (HB.out.cell (World.block_lt_of_cell? w _ hx128_2)).trans hx128_2
              replace hx128_3 := (HB.out.cell (World.block_lt_of_cell? w _ hx128_3)).trans hx128_3
              replace hx128_4 := (HB.out.cell (World.block_lt_of_cell? w _ hx128_4)).trans hx128_4
              replace hx128_5 := (HB.out.cell (World.block_lt_of_cell? w _ hx128_5)).trans hx128_5
              have HR128_5 := Aside0.mk hi128_5
              have HC128_5 := Aside0.mk hl128_5
              clear hi128_5 hl128_5
              replace p128 := eq_true p128
              replace q128 := eq_true q128
              go_wp2_with (first | ((with_reducible refine gate_dst (N := 4) rfl ?_); refine box_event ?hg (N := 4) ?hd (cs := #[.int .i64 0, .int .i64 0, .int .i64 0, .int .i64 0, .string (⟨#[]⟩ : ByteArray), .slice none 0 0]) (t := 72) ?hr ?_; (case hd => rfl); (case hg => rfl); (case hr => first | (go_simp; done) | (go_simp; rfl)); intro gb129 hg w13 hbox hb; have n0_ := Aside0.mk (blk_below (g := gb127) (o := .cells #[.int .i64 a0_0, .int .i64 a0_1, .int .i64 a0_2, .int .i64 a0_3, .string a0_4, .slice (some ad128) l0_5.length c0_5] 72 (0, 0)) (by (with_reducible repeat (first | refine blk_drewN ?_ _ | refine blk_drew ?_ | refine blk_alloc ?_ _)); exact BK127.out) hb); have n1_ := Aside0.mk (below_step (by repeat (first | (with_reducible first | exact HB.out | apply below_alloc | apply pw_below_drewN | apply below_drew1 | refine below_set ?_ GE127.out) | exact HB.out)) hb); have n2_ := Aside0.mk (hbox); have n3_ := Aside0.mk ((by rw [hg]; exact (below_size (by repeat (first | (with_reducible first | exact HB.out | apply below_alloc | apply pw_below_drewN | apply below_drew1 | refine below_set ?_ GE127.out) | exact HB.out))) : w.heap.size ≤ gb129)); have n4_ := Aside0.mk ((by rw [hg]; exact (below_size (by repeat (first | (with_reducible first | exact HB.out | apply below_alloc | apply pw_below_drewN | apply below_drew1 | refine below_set ?_ GE127.out) | exact HB.out))) : w.heap.size ≤ gb129)); have n5_ := Aside0.mk ((by rw [hg]; exact Nat.ne_of_lt (blk_lt (g := gb127) (o := .cells #[.int .i64 a0_0, .int .i64 a0_1, .int .i64 a0_2, .int .i64 a0_3, .string a0_4, .slice (some ad128) l0_5.length c0_5] 72 (0, 0)) (by (with_reducible repeat (first | refine blk_drewN ?_ _ | refine blk_drew ?_ | refine blk_alloc ?_ _)); exact BK127.out)) : gb127 ≠ gb129)); have n6_ := Aside0.mk ((by rw [hg]; exact Nat.ne_of_gt (blk_lt (g := gb127) (o := .cells #[.int .i64 a0_0, .int .i64 a0_1, .int .i64 a0_2, .int .i64 a0_3, .string a0_4, .slice (some ad128) l0_5.length c0_5] 72 (0, 0)) (by (with_reducible repeat (first | refine blk_drewN ?_ _ | refine blk_drew ?_ | refine blk_alloc ?_ _)); exact BK127.out)) : gb129 ≠ gb127)); clear BK127; clear HB; have BK127 := n0_; have HB := n1_; have BK129 := n2_; have GW129 := n3_; have GE129 := n4_; have NB127_129 := n5_; have NB129_127 := n6_; clear n0_ n1_ n2_ n3_ n4_ n5_ n6_; clear hb hbox hg; have hnb14 := NB129_127.out; have hnc14 := NB127_129.out; have hcz15_0 : w13.cell? ⟨gb129, 0, none⟩ = some (.int .i64 0) := (blk_cell BK129.out 0).trans rfl; have hcz15_1 : w13.cell? ⟨gb129, 1, none⟩ = some (.int .i64 0) := (blk_cell BK129.out 1).trans rfl; have hcz15_2 : w13.cell? ⟨gb129, 2, none⟩ = some (.int .i64 0) := (blk_cell BK129.out 2).trans rfl; have hcz15_3 : w13.cell? ⟨gb129, 3, none⟩ = some (.int .i64 0) := (blk_cell BK129.out 3).trans rfl; have hcz15_4 : w13.cell? ⟨gb129, 4, none⟩ = some (.string (⟨#[]⟩ : ByteArray)) := (blk_cell BK129.out 4).trans rfl; have hcz15_5 : w13.cell? ⟨gb129, 5, none⟩ = some (.slice none 0 0) := (blk_cell BK129.out 5).trans rfl; have hfz15_0 := blk_frozen BK129.out 0; have hfz15_1 := blk_frozen BK129.out 1; have hfz15_2 := blk_frozen BK129.out 2; have hfz15_3 := blk_frozen BK129.out 3; have hfz15_4 := blk_frozen BK129.out 4; have hfz15_5 := blk_frozen BK129.out 5) | ((with_reducible refine gate_callee (f := 80) rfl ?_); refine goesL_ (some 13) rfl rfl Tryd.func80 (by kernel_rfl) rfl #[.agg #[.int .i64 ((rd_T72 l0_5 x8_1).f0), .int .i64 ((rd_T72 l0_5 x8_1).f1), .int .i64 ((rd_T72 l0_5 x8_1).f2.f0), .int .i64 ((rd_T72 l0_5 x8_1).f2.f1), .string ((rd_T72 l0_5 x8_1).f2.f2), .slice A128_5 ((rd_T72 l0_5 x8_1).f3).length c128_5]] rfl (by (try simp only [List.map_toArray, List.map_cons, List.map_nil]); first | done | rfl | (simp only [List.length_drop, List.length_take]; rfl)) ?_; (with_reducible refine (ih k1 (by have := HK1.out; omega) ((rd_T72 l0_5 x8_1).f0) ((rd_T72 l0_5 x8_1).f1) ((rd_T72 l0_5 x8_1).f2.f0) ((rd_T72 l0_5 x8_1).f2.f1) ((rd_T72 l0_5 x8_1).f2.f2) _ _ ((rd_T72 l0_5 x8_1).f3) false _ ?side1 ?side2 A7.out).mono ?_); (case side1 => exact Kd.C_below HR128_5.out (by repeat (first | (with_reducible first | exact HB.out | apply below_alloc | apply pw_below_drewN | apply below_drew1 | refine below_set ?_ GE127.out | refine below_set ?_ GE129.out) | exact HB.out))); (case side2 => exact HC128_5.out); rintro e w16 ⟨rfl, hb⟩; refine ⟨_, rfl, ?_⟩; have n0_ := Aside0.mk (blk_below (g := gb127) (o := .cells #[.int .i64 a0_0, .int .i64 a0_1, .int .i64 a0_2, .int .i64 a0_3, .string a0_4, .slice (some ad128) l0_5.length c0_5] 72 (0, 0)) (by (with_reducible repeat (first | refine blk_drewN ?_ _ | refine blk_drew ?_ | refine blk_alloc ?_ _)); refine blk_far ?_ NB127_129.out _; (with_reducible repeat (first | refine blk_drewN ?_ _ | refine blk_drew ?_ | refine blk_alloc ?_ _)); refine blk_far ?_ NB127_129.out _; (with_reducible repeat (first | refine blk_drewN ?_ _ | refine blk_drew ?_ | refine blk_alloc ?_ _)); refine blk_far ?_ NB127_129.out _; (with_reducible repeat (first | refine blk_drewN ?_ _ | refine blk_drew ?_ | refine blk_alloc ?_ _)); refine blk_far ?_ NB127_129.out _; (with_reducible repeat (first | refine blk_drewN ?_ _ | refine blk_drew ?_ | refine blk_alloc ?_ _)); refine blk_far ?_ NB127_129.out _; (with_reducible repeat (first | refine blk_drewN ?_ _ | refine blk_drew ?_ | refine blk_alloc ?_ _)); refine blk_far ?_ NB127_129.out _; (with_reducible repeat (first | refine blk_drewN ?_ _ | refine blk_drew ?_ | refine blk_alloc ?_ _)); exact BK127.out) hb); have n1_ := Aside0.mk (blk_below (g := gb129) (o := .cells #[.int .i64 ((rd_T72 l0_5 x8_1).f0), .int .i64 ((rd_T72 l0_5 x8_1).f1), .int .i64 ((rd_T72 l0_5 x8_1).f2.f0), .int .i64 ((rd_T72 l0_5 x8_1).f2.f1), .string ((rd_T72 l0_5 x8_1).f2.f2), .slice A128_5 ((rd_T72 l0_5 x8_1).f3).length c128_5] 72 (0, 0)) (by (with_reducible repeat (first | refine blk_drewN ?_ _ | refine blk_drew ?_ | refine blk_alloc ?_ _)); refine blk_put (cs := #[.int .i64 ((rd_T72 l0_5 x8_1).f0), .int .i64 ((rd_T72 l0_5 x8_1).f1), .int .i64 ((rd_T72 l0_5 x8_1).f2.f0), .int .i64 ((rd_T72 l0_5 x8_1).f2.f1), .string ((rd_T72 l0_5 x8_1).f2.f2), .slice none 0 0]) ?_ 5 _ rfl; (with_reducible repeat (first | refine blk_drewN ?_ _ | refine blk_drew ?_ | refine blk_alloc ?_ _)); refine blk_put (cs := #[.int .i64 ((rd_T72 l0_5 x8_1).f0), .int .i64 ((rd_T72 l0_5 x8_1).f1), .int .i64 ((rd_T72 l0_5 x8_1).f2.f0), .int .i64 ((rd_T72 l0_5 x8_1).f2.f1), .string (⟨#[]⟩ : ByteArray), .slice none 0 0]) ?_ 4 _ rfl; (with_reducible repeat (first | refine blk_drewN ?_ _ | refine blk_drew ?_ | refine blk_alloc ?_ _)); refine blk_put (cs := #[.int .i64 ((rd_T72 l0_5 x8_1).f0), .int .i64 ((rd_T72 l0_5 x8_1).f1), .int .i64 ((rd_T72 l0_5 x8_1).f2.f0), .int .i64 0, .string (⟨#[]⟩ : ByteArray), .slice none 0 0]) ?_ 3 _ rfl; (with_reducible repeat (first | refine blk_drewN ?_ _ | refine blk_drew ?_ | refine blk_alloc ?_ _)); refine blk_put (cs := #[.int .i64 ((rd_T72 l0_5 x8_1).f0), .int .i64 ((rd_T72 l0_5 x8_1).f1), .int .i64 0, .int .i64 0, .string (⟨#[]⟩ : ByteArray), .slice none 0 0]) ?_ 2 _ rfl; (with_reducible repeat (first | refine blk_drewN ?_ _ | refine blk_drew ?_ | refine blk_alloc ?_ _)); refine blk_put (cs := #[.int .i64 ((rd_T72 l0_5 x8_1).f0), .int .i64 0, .int .i64 0, .int .i64 0, .string (⟨#[]⟩ : ByteArray), .slice none 0 0]) ?_ 1 _ rfl; (with_reducible repeat (first | refine blk_drewN ?_ _ | refine blk_drew ?_ | refine blk_alloc ?_ _)); refine blk_put (cs := #[.int .i64 0, .int .i64 0, .int .i64 0, .int .i64 0, .string (⟨#[]⟩ : ByteArray), .slice none 0 0]) ?_ 0 _ rfl; (with_reducible repeat (first | refine blk_drewN ?_ _ | refine blk_drew ?_ | refine blk_alloc ?_ _)); exact BK129.out) hb); have n2_ := Aside0.mk (below_step (by repeat (first | (with_reducible first | exact HB.out | apply below_alloc | apply pw_below_drewN | apply below_drew1 | refine below_set ?_ GE127.out | refine below_set ?_ GE129.out) | exact HB.out)) hb); clear BK127; clear BK129; clear HB; have BK127 := n0_; have BK129 := n1_; have HB := n2_; clear n0_ n1_ n2_; (try clear hb); (try clear hb2); (try clear hk); (try clear hi)))
              go_roundg k1
              case measure => have := HK1.out; omega
              case rel => exact ⟨(wrap64 (x8_1 + 1)), (by first | rfl | (simp; done) | (simp [*]; done)), H', ⟨by have := HK1.out; omega⟩, ⟨by (with_reducible repeat (first | refine blk_drewN ?_ _ | refine blk_drew ?_ | refine blk_alloc ?_ _)); exact BK127.out⟩, ⟨by repeat (first | (with_reducible first | exact HB.out | apply below_alloc | apply pw_below_drewN | apply below_drew1 | refine below_set ?_ GE127.out | refine below_set ?_ GE129.out) | exact HB.out)⟩⟩
          · rw [if_neg c6] at H
            exact absurd H (by simp)
        · rw [if_neg c5] at H
          exact absurd H (by simp)
      · rw [if_neg c4] at H
        have c4b0 : decide (x8_1 < (l0_5.length : Int)) = false := decide_eq_false c4
        clear c4
        obtain rfl := Option.some.inj H
        have hcz17_0 : wr.cell? ⟨gb127, 0, none⟩ = some (.int .i64 a0_0) := (blk_cell BK127.out 0).trans rfl
        have hcz17_1 : wr.cell? ⟨gb127, 1, none⟩ = some (.int .i64 a0_1) := (blk_cell BK127.out 1).trans rfl
        have hcz17_2 : wr.cell? ⟨gb127, 2, none⟩ = some (.int .i64 a0_2) := (blk_cell BK127.out 2).trans rfl
        have hcz17_3 : wr.cell? ⟨gb127, 3, none⟩ = some (.int .i64 a0_3) := (blk_cell BK127.out 3).trans rfl
        have hcz17_4 : wr.cell? ⟨gb127, 4, none⟩ = some (.string a0_4) := (blk_cell BK127.out 4).trans rfl
        have hcz17_5 : wr.cell? ⟨gb127, 5, none⟩ = some (.slice A0_5 l0_5.length c0_5) := (blk_cell BK127.out 5).trans rfl
        have hfz17_0 := blk_frozen BK127.out 0
        have hfz17_1 := blk_frozen BK127.out 1
        have hfz17_2 := blk_frozen BK127.out 2
        have hfz17_3 := blk_frozen BK127.out 3
        have hfz17_4 := blk_frozen BK127.out 4
        have hfz17_5 := blk_frozen BK127.out 5
        go_wp2
        go_ret
        exact ⟨by first | rfl | (simp [errW_none, errW_some] <;> rfl) | (simp [*, errW_none, errW_some] <;> rfl), by repeat (first | (with_reducible first | exact HB.out | apply below_alloc | apply pw_below_drewN | apply below_drew1 | refine below_set ?_ GE127.out) | exact HB.out)⟩

end Go.Proofs.YtefdfgmlmjnmlaaDoor.Rf
end

section
set_option linter.unusedVariables false
set_option linter.unusedSimpArgs false
/- What the kit's print.py wrote of one Go function of this seat's translation (run by a program of this session, one function a text): the function as a plain Lean function, and that the call computes it. -/
namespace Go.Proofs.YtefdfgmlmjnmlaaDoor.Rf
open Go.RowKit Go.Proofs.YtefdfgmlmjnmlaaDoorW.PrintWords Go.Proofs.YtefdfgmlmjnmlaaDoorW.PrintLast Go.Proofs.YtefdfgmlmjnmlaaDoorW.PrintMore
attribute [local go_sem] max2_int min2_int max_two min_two max_three min_three max_four min_four   -- for this text's walks alone

/-! ### mortmainref08_Great: function 45 -/
def mortmainref08_Great.f (k : Nat) (a0_0 : Int) (a0_1 : Int) (a0_2 : Int) (a0_3 : Int) (a0_4 : ByteArray) (l0_5 : List (S72)) : Option (Bool) := (mortmainref08_Size.f k a0_0 a0_1 a0_2 a0_3 a0_4 l0_5).bind fun bt132 => (if bt132.1 > 300 then (some true) else (if bt132.2 > 60 then (some true) else ((mortmainref08_long.f k a0_0 a0_1 a0_2 a0_3 a0_4 l0_5).bind fun t134 => (some t134))))
theorem mortmainref08_Great.mono : ∀ a0 a1 a2 a3 a4 a5 k, LeO (mortmainref08_Great.f k a0 a1 a2 a3 a4 a5) (mortmainref08_Great.f (k + 1) a0 a1 a2 a3 a4 a5) := by
  intro a0 a1 a2 a3 a4 a5 k
  unfold mortmainref08_Great.f
  repeat' first
      | (with_reducible exact mortmainref08_Size.mono _ _ _ _ _ _ _)
      | (with_reducible exact mortmainref08_long.mono _ _ _ _ _ _ _)
      | (with_reducible exact LeO.refl _)
      | (with_reducible exact LeO.none _)
      | (with_reducible refine LeO.ite ?_ ?_)
      | (with_reducible refine LeO.bind ?_ (fun _ => ?_))
      | exact mortmainref08_Size.mono _ _ _ _ _ _ _
      | exact mortmainref08_long.mono _ _ _ _ _ _ _
      | exact LeO.none _
      | refine LeO.ite ?_ ?_
      | refine LeO.bind ?_ (fun _ => ?_)
set_option maxHeartbeats 8000000 in
set_option maxRecDepth 100000 in
theorem mortmainref08_Great.calls (k : Nat) (a0_0 : Int) (a0_1 : Int) (a0_2 : Int) (a0_3 : Int) (a0_4 : ByteArray) (A0_5 : Option Addr) (c0_5 : Nat) (l0_5 : List (S72)) (r : Bool) (w : World) (hr0_5 : Kd.C k72 w A0_5 l0_5.length l0_5) (hc0_5 : l0_5.length ≤ c0_5) (h : mortmainref08_Great.f k a0_0 a0_1 a0_2 a0_3 a0_4 l0_5 = some r) :
    Calls Tryd.prog 45 #[.agg #[.int .i64 a0_0, .int .i64 a0_1, .int .i64 a0_2, .int .i64 a0_3, .string a0_4, .slice A0_5 l0_5.length c0_5]] w fun e w' => e = .returned (.bool r) ∧ Below w.heap.size w w' := by
  have hu72 := Tryd.underlying72
  have HR0_5 := Aside0.mk hr0_5
  have HC0_5 := Aside0.mk hc0_5
  clear hr0_5 hc0_5
  have HB := Aside0.mk (Below.refl w.heap.size w)
  have H : ((mortmainref08_Size.f k a0_0 a0_1 a0_2 a0_3 a0_4 l0_5).bind fun bt132 => (if bt132.1 > 300 then (some true) else (if bt132.2 > 60 then (some true) else ((mortmainref08_long.f k a0_0 a0_1 a0_2 a0_3 a0_4 l0_5).bind fun t134 => (some t134))))) = some r := h
  clear h
  replace H := Option.bind_eq_some_iff.mp H
  obtain ⟨⟨t132, t133⟩, A20, H⟩ := H
  replace H : (if t132 > 300 then (some true) else (if t133 > 60 then (some true) else ((mortmainref08_long.f k a0_0 a0_1 a0_2 a0_3 a0_4 l0_5).bind fun t134 => (some t134)))) = some r := H
  have A2 := Aside0.mk A20
  clear A20
  by_cases c3 : t132 > 300
  · rw [if_pos c3] at H
    have c3b0 : decide (300 < t132) = true := decide_eq_true c3
    clear c3
    obtain rfl := Option.some.inj H
    go_enter Tryd.func45, Tryd.ntmps45
    go_wp2_with (first | ((with_reducible refine gate_dst (N := 1) rfl ?_); refine box_event ?hg (N := 1) ?hd (cs := #[.int .i64 a0_0, .int .i64 a0_1, .int .i64 a0_2, .int .i64 a0_3, .string a0_4, .slice A0_5 l0_5.length c0_5]) (t := 72) ?hr ?_; (case hd => rfl); (case hg => rfl); (case hr => first | (go_simp; done) | (go_simp; rfl)); intro gb131 hg w4 hbox hb; have n0_ := Aside0.mk (below_step (by repeat (first | (with_reducible first | exact HB.out | apply below_alloc | apply pw_below_drewN | apply below_drew1) | exact HB.out)) hb); have n1_ := Aside0.mk (hbox); have n2_ := Aside0.mk ((by rw [hg]; exact (below_size (by repeat (first | (with_reducible first | exact HB.out | apply below_alloc | apply pw_below_drewN | apply below_drew1) | exact HB.out))) : w.heap.size ≤ gb131)); have n3_ := Aside0.mk ((by rw [hg]; exact (below_size (by repeat (first | (with_reducible first | exact HB.out | apply below_alloc | apply pw_below_drewN | apply below_drew1) | exact HB.out))) : w.heap.size ≤ gb131)); clear HB; have HB := n0_; have BK131 := n1_; have GW131 := n2_; have GE131 := n3_; clear n0_ n1_ n2_ n3_; clear hb hbox hg; have hcz5_0 : w4.cell? ⟨gb131, 0, none⟩ = some (.int .i64 a0_0) := (blk_cell BK131.out 0).trans rfl; have hcz5_1 : w4.cell? ⟨gb131, 1, none⟩ = some (.int .i64 a0_1) := (blk_cell BK131.out 1).trans rfl; have hcz5_2 : w4.cell? ⟨gb131, 2, none⟩ = some (.int .i64 a0_2) := (blk_cell BK131.out 2).trans rfl; have hcz5_3 : w4.cell? ⟨gb131, 3, none⟩ = some (.int .i64 a0_3) := (blk_cell BK131.out 3).trans rfl; have hcz5_4 : w4.cell? ⟨gb131, 4, none⟩ = some (.string a0_4) := (blk_cell BK131.out 4).trans rfl; have hcz5_5 : w4.cell? ⟨gb131, 5, none⟩ = some (.slice A0_5 l0_5.length c0_5) := (blk_cell BK131.out 5).trans rfl; have hfz5_0 := blk_frozen BK131.out 0; have hfz5_1 := blk_frozen BK131.out 1; have hfz5_2 := blk_frozen BK131.out 2; have hfz5_3 := blk_frozen BK131.out 3; have hfz5_4 := blk_frozen BK131.out 4; have hfz5_5 := blk_frozen BK131.out 5) | ((with_reducible refine gate_callee (f := 79) rfl ?_); refine goesL_ (some 7) rfl rfl Tryd.func79 (by kernel_rfl) rfl #[.agg #[.int .i64 a0_0, .int .i64 a0_1, .int .i64 a0_2, .int .i64 a0_3, .string a0_4, .slice A0_5 l0_5.length c0_5]] rfl (by (try simp only [List.map_toArray, List.map_cons, List.map_nil]); first | done | rfl | (simp only [List.length_drop, List.length_take]; rfl)) ?_; (with_reducible refine (mortmainref08_Size.calls k a0_0 a0_1 a0_2 a0_3 a0_4 _ _ l0_5 t132 t133 _ ?side1 ?side2 A2.out).mono ?_); (case side1 => repeat (first | exact (Kd.C_below HR0_5.out HB.out) | (with_reducible refine Kd.C_alloc ?_ _) | (with_reducible refine Kd.C_drewN ?_ _) | (with_reducible refine Kd.C_drew ?_))); (case side2 => exact HC0_5.out); rintro e w6 ⟨rfl, hb⟩; refine ⟨_, rfl, ?_⟩; have n0_ := Aside0.mk (blk_below (g := gb131) (o := .cells #[.int .i64 a0_0, .int .i64 a0_1, .int .i64 a0_2, .int .i64 a0_3, .string a0_4, .slice A0_5 l0_5.length c0_5] 72 (0, 0)) (by (with_reducible repeat (first | refine blk_drewN ?_ _ | refine blk_drew ?_ | refine blk_alloc ?_ _)); exact BK131.out) hb); have n1_ := Aside0.mk (below_step (by repeat (first | (with_reducible first | exact HB.out | apply below_alloc | apply pw_below_drewN | apply below_drew1 | refine below_set ?_ GE131.out) | exact HB.out)) hb); clear BK131; clear HB; have BK131 := n0_; have HB := n1_; clear n0_ n1_; (try clear hb); (try clear hb2); (try clear hk); (try clear hi)))
    go_ret
    exact ⟨by first | rfl | (simp [errW_none, errW_some] <;> rfl) | (simp [*, errW_none, errW_some] <;> rfl), by repeat (first | (with_reducible first | exact HB.out | apply below_alloc | apply pw_below_drewN | apply below_drew1 | refine below_set ?_ GE131.out) | exact HB.out)⟩
  · rw [if_neg c3] at H
    have c3b0 : decide (300 < t132) = false := decide_eq_false c3
    clear c3
    by_cases c7 : t133 > 60
    · rw [if_pos c7] at H
      have c7b0 : decide (60 < t133) = true := decide_eq_true c7
      clear c7
      obtain rfl := Option.some.inj H
      go_enter Tryd.func45, Tryd.ntmps45
      go_wp2_with (first | ((with_reducible refine gate_dst (N := 1) rfl ?_); refine box_event ?hg (N := 1) ?hd (cs := #[.int .i64 a0_0, .int .i64 a0_1, .int .i64 a0_2, .int .i64 a0_3, .string a0_4, .slice A0_5 l0_5.length c0_5]) (t := 72) ?hr ?_; (case hd => rfl); (case hg => rfl); (case hr => first | (go_simp; done) | (go_simp; rfl)); intro gb131 hg w8 hbox hb; have n0_ := Aside0.mk (below_step (by repeat (first | (with_reducible first | exact HB.out | apply below_alloc | apply pw_below_drewN | apply below_drew1) | exact HB.out)) hb); have n1_ := Aside0.mk (hbox); have n2_ := Aside0.mk ((by rw [hg]; exact (below_size (by repeat (first | (with_reducible first | exact HB.out | apply below_alloc | apply pw_below_drewN | apply below_drew1) | exact HB.out))) : w.heap.size ≤ gb131)); have n3_ := Aside0.mk ((by rw [hg]; exact (below_size (by repeat (first | (with_reducible first | exact HB.out | apply below_alloc | apply pw_below_drewN | apply below_drew1) | exact HB.out))) : w.heap.size ≤ gb131)); clear HB; have HB := n0_; have BK131 := n1_; have GW131 := n2_; have GE131 := n3_; clear n0_ n1_ n2_ n3_; clear hb hbox hg; have hcz9_0 : w8.cell? ⟨gb131, 0, none⟩ = some (.int .i64 a0_0) := (blk_cell BK131.out 0).trans rfl; have hcz9_1 : w8.cell? ⟨gb131, 1, none⟩ = some (.int .i64 a0_1) := (blk_cell BK131.out 1).trans rfl; have hcz9_2 : w8.cell? ⟨gb131, 2, none⟩ = some (.int .i64 a0_2) := (blk_cell BK131.out 2).trans rfl; have hcz9_3 : w8.cell? ⟨gb131, 3, none⟩ = some (.int .i64 a0_3) := (blk_cell BK131.out 3).trans rfl; have hcz9_4 : w8.cell? ⟨gb131, 4, none⟩ = some (.string a0_4) := (blk_cell BK131.out 4).trans rfl; have hcz9_5 : w8.cell? ⟨gb131, 5, none⟩ = some (.slice A0_5 l0_5.length c0_5) := (blk_cell BK131.out 5).trans rfl; have hfz9_0 := blk_frozen BK131.out 0; have hfz9_1 := blk_frozen BK131.out 1; have hfz9_2 := blk_frozen BK131.out 2; have hfz9_3 := blk_frozen BK131.out 3; have hfz9_4 := blk_frozen BK131.out 4; have hfz9_5 := blk_frozen BK131.out 5) | ((with_reducible refine gate_callee (f := 79) rfl ?_); refine goesL_ (some 7) rfl rfl Tryd.func79 (by kernel_rfl) rfl #[.agg #[.int .i64 a0_0, .int .i64 a0_1, .int .i64 a0_2, .int .i64 a0_3, .string a0_4, .slice A0_5 l0_5.length c0_5]] rfl (by (try simp only [List.map_toArray, List.map_cons, List.map_nil]); first | done | rfl | (simp only [List.length_drop, List.length_take]; rfl)) ?_; (with_reducible refine (mortmainref08_Size.calls k a0_0 a0_1 a0_2 a0_3 a0_4 _ _ l0_5 t132 t133 _ ?side1 ?side2 A2.out).mono ?_); (case side1 => repeat (first | exact (Kd.C_below HR0_5.out HB.out) | (with_reducible refine Kd.C_alloc ?_ _) | (with_reducible refine Kd.C_drewN ?_ _) | (with_reducible refine Kd.C_drew ?_))); (case side2 => exact HC0_5.out); rintro e w10 ⟨rfl, hb⟩; refine ⟨_, rfl, ?_⟩; have n0_ := Aside0.mk (blk_below (g := gb131) (o := .cells #[.int .i64 a0_0, .int .i64 a0_1, .int .i64 a0_2, .int .i64 a0_3, .string a0_4, .slice A0_5 l0_5.length c0_5] 72 (0, 0)) (by (with_reducible repeat (first | refine blk_drewN ?_ _ | refine blk_drew ?_ | refine blk_alloc ?_ _)); exact BK131.out) hb); have n1_ := Aside0.mk (below_step (by repeat (first | (with_reducible first | exact HB.out | apply below_alloc | apply pw_below_drewN | apply below_drew1 | refine below_set ?_ GE131.out) | exact HB.out)) hb); clear BK131; clear HB; have BK131 := n0_; have HB := n1_; clear n0_ n1_; (try clear hb); (try clear hb2); (try clear hk); (try clear hi)))
      go_ret
      exact ⟨by first | rfl | (simp [errW_none, errW_some] <;> rfl) | (simp [*, errW_none, errW_some] <;> rfl), by repeat (first | (with_reducible first | exact HB.out | apply below_alloc | apply pw_below_drewN | apply below_drew1 | refine below_set ?_ GE131.out) | exact HB.out)⟩
    · rw [if_neg c7] at H
      have c7b0 : decide (60 < t133) = false := decide_eq_false c7
      clear c7
      replace H := Option.bind_eq_some_iff.mp H
      obtain ⟨t134, A110, H⟩ := H
      replace H : (some t134) = some r := H
      have A11 := Aside0.mk A110
      clear A110
      obtain rfl := Option.some.inj H
      go_enter Tryd.func45, Tryd.ntmps45
      go_wp2_with (first | ((with_reducible refine gate_dst (N := 1) rfl ?_); refine box_event ?hg (N := 1) ?hd (cs := #[.int .i64 a0_0, .int .i64 a0_1, .int .i64 a0_2, .int .i64 a0_3, .string a0_4, .slice A0_5 l0_5.length c0_5]) (t := 72) ?hr ?_; (case hd => rfl); (case hg => rfl); (case hr => first | (go_simp; done) | (go_simp; rfl)); intro gb131 hg w12 hbox hb; have n0_ := Aside0.mk (below_step (by repeat (first | (with_reducible first | exact HB.out | apply below_alloc | apply pw_below_drewN | apply below_drew1) | exact HB.out)) hb); have n1_ := Aside0.mk (hbox); have n2_ := Aside0.mk ((by rw [hg]; exact (below_size (by repeat (first | (with_reducible first | exact HB.out | apply below_alloc | apply pw_below_drewN | apply below_drew1) | exact HB.out))) : w.heap.size ≤ gb131)); have n3_ := Aside0.mk ((by rw [hg]; exact (below_size (by repeat (first | (with_reducible first | exact HB.out | apply below_alloc | apply pw_below_drewN | apply below_drew1) | exact HB.out))) : w.heap.size ≤ gb131)); clear HB; have HB := n0_; have BK131 := n1_; have GW131 := n2_; have GE131 := n3_; clear n0_ n1_ n2_ n3_; clear hb hbox hg; have hcz13_0 : w12.cell? ⟨gb131, 0, none⟩ = some (.int .i64 a0_0) := (blk_cell BK131.out 0).trans rfl; have hcz13_1 : w12.cell? ⟨gb131, 1, none⟩ = some (.int .i64 a0_1) := (blk_cell BK131.out 1).trans rfl; have hcz13_2 : w12.cell? ⟨gb131, 2, none⟩ = some (.int .i64 a0_2) := (blk_cell BK131.out 2).trans rfl; have hcz13_3 : w12.cell? ⟨gb131, 3, none⟩ = some (.int .i64 a0_3) := (blk_cell BK131.out 3).trans rfl; have hcz13_4 : w12.cell? ⟨gb131, 4, none⟩ = some (.string a0_4) := (blk_cell BK131.out 4).trans rfl; have hcz13_5 : w12.cell? ⟨gb131, 5, none⟩ = some (.slice A0_5 l0_5.length c0_5) := (blk_cell BK131.out 5).trans rfl; have hfz13_0 := blk_frozen BK131.out 0; have hfz13_1 := blk_frozen BK131.out 1; have hfz13_2 := blk_frozen BK131.out 2; have hfz13_3 := blk_frozen BK131.out 3; have hfz13_4 := blk_frozen BK131.out 4; have hfz13_5 := blk_frozen BK131.out 5) | ((with_reducible refine gate_callee (f := 79) rfl ?_); refine goesL_ (some 7) rfl rfl Tryd.func79 (by kernel_rfl) rfl #[.agg #[.int .i64 a0_0, .int .i64 a0_1, .int .i64 a0_2, .int .i64 a0_3, .string a0_4, .slice A0_5 l0_5.length c0_5]] rfl (by (try simp only [List.map_toArray, List.map_cons, List.map_nil]); first | done | rfl | (simp only [List.length_drop, List.length_take]; rfl)) ?_; (with_reducible refine (mortmainref08_Size.calls k a0_0 a0_1 a0_2 a0_3 a0_4 _ _ l0_5 t132 t133 _ ?side1 ?side2 A2.out).mono ?_); (case side1 => repeat (first | exact (Kd.C_below HR0_5.out HB.out) | (with_reducible refine Kd.C_alloc ?_ _) | (with_reducible refine Kd.C_drewN ?_ _) | (with_reducible refine Kd.C_drew ?_))); (case side2 => exact HC0_5.out); rintro e w14 ⟨rfl, hb⟩; refine ⟨_, rfl, ?_⟩; have n0_ := Aside0.mk (blk_below (g := gb131) (o := .cells #[.int .i64 a0_0, .int .i64 a0_1, .int .i64 a0_2, .int .i64 a0_3, .string a0_4, .slice A0_5 l0_5.length c0_5] 72 (0, 0)) (by (with_reducible repeat (first | refine blk_drewN ?_ _ | refine blk_drew ?_ | refine blk_alloc ?_ _)); exact BK131.out) hb); have n1_ := Aside0.mk (below_step (by repeat (first | (with_reducible first | exact HB.out | apply below_alloc | apply pw_below_drewN | apply below_drew1 | refine below_set ?_ GE131.out) | exact HB.out)) hb); clear BK131; clear HB; have BK131 := n0_; have HB := n1_; clear n0_ n1_; (try clear hb); (try clear hb2); (try clear hk); (try clear hi); have hcz15_0 : w14.cell? ⟨gb131, 0, none⟩ = some (.int .i64 a0_0) := (blk_cell BK131.out 0).trans rfl; have hcz15_1 : w14.cell? ⟨gb131, 1, none⟩ = some (.int .i64 a0_1) := (blk_cell BK131.out 1).trans rfl; have hcz15_2 : w14.cell? ⟨gb131, 2, none⟩ = some (.int .i64 a0_2) := (blk_cell BK131.out 2).trans rfl; have hcz15_3 : w14.cell? ⟨gb131, 3, none⟩ = some (.int .i64 a0_3) := (blk_cell BK131.out 3).trans rfl; have hcz15_4 : w14.cell? ⟨gb131, 4, none⟩ = some (.string a0_4) := (blk_cell BK131.out 4).trans rfl; have hcz15_5 : w14.cell? ⟨gb131, 5, none⟩ = some (.slice A0_5 l0_5.length c0_5) := (blk_cell BK131.out 5).trans rfl; have hfz15_0 := blk_frozen BK131.out 0; have hfz15_1 := blk_frozen BK131.out 1; have hfz15_2 := blk_frozen BK131.out 2; have hfz15_3 := blk_frozen BK131.out 3; have hfz15_4 := blk_frozen BK131.out 4; have hfz15_5 := blk_frozen BK131.out 5) | (go_at_call 80; (with_reducible refine (mortmainref08_long.calls k a0_0 a0_1 a0_2 a0_3 a0_4 _ _ l0_5 t134 _ ?side1 ?side2 A11.out).mono ?_); (case side1 => repeat (first | exact (Kd.C_below HR0_5.out HB.out) | (with_reducible refine Kd.C_alloc ?_ _) | (with_reducible refine Kd.C_drewN ?_ _) | (with_reducible refine Kd.C_drew ?_))); (case side2 => exact HC0_5.out); rintro e w16 ⟨rfl, hb⟩; have n0_ := Aside0.mk (blk_below (g := gb131) (o := .cells #[.int .i64 a0_0, .int .i64 a0_1, .int .i64 a0_2, .int .i64 a0_3, .string a0_4, .slice A0_5 l0_5.length c0_5] 72 (0, 0)) (by (with_reducible repeat (first | refine blk_drewN ?_ _ | refine blk_drew ?_ | refine blk_alloc ?_ _)); exact BK131.out) hb); have n1_ := Aside0.mk (below_step (by repeat (first | (with_reducible first | exact HB.out | apply below_alloc | apply pw_below_drewN | apply below_drew1 | refine below_set ?_ GE131.out) | exact HB.out)) hb); clear BK131; clear HB; have BK131 := n0_; have HB := n1_; clear n0_ n1_; (try clear hb); (try clear hb2); (try clear hk); (try clear hi)))
      go_ret
      exact ⟨by first | rfl | (simp [errW_none, errW_some] <;> rfl) | (simp [*, errW_none, errW_some] <;> rfl), by repeat (first | (with_reducible first | exact HB.out | apply below_alloc | apply pw_below_drewN | apply below_drew1 | refine below_set ?_ GE131.out) | exact HB.out)⟩

end Go.Proofs.YtefdfgmlmjnmlaaDoor.Rf
end

section
set_option linter.unusedVariables false
set_option linter.unusedSimpArgs false
/- What the kit's print.py wrote of one Go function of this seat's translation (run by a program of this session, one function a text): the function as a plain Lean function, and that the call computes it. -/
namespace Go.Proofs.YtefdfgmlmjnmlaaDoor.Rf
open Go.RowKit Go.Proofs.YtefdfgmlmjnmlaaDoorW.PrintWords Go.Proofs.YtefdfgmlmjnmlaaDoorW.PrintLast Go.Proofs.YtefdfgmlmjnmlaaDoorW.PrintMore
attribute [local go_sem] max2_int min2_int max_two min_two max_three min_three max_four min_four   -- for this text's walks alone

/-! ### mortmainref09_Great: function 13 -/
mutual
def mortmainref09_Great.l0 : Nat → Int → List (S45) → Int → Int → Int → List (S45) → List (S27) → Option (Bool)
  | 0, _, _, _, _, _, _, _ => none
  | k + 1, x3, x22, x23, x24, x136000, x136001, x136002 => if x24 < x23 then (if 0 ≤ x24 then (if x24 < (x22.length : Int) then (mortmainref09_Great.l1 k (wrap64 ((wrap64 ((wrap64 (x3 + (((rd_T45 x22 x24).f0).size : Int))) + (((rd_T45 x22 x24).f2).length : Int))) + (((rd_T45 x22 x24).f3).length : Int))) x22 x23 x24 ((rd_T45 x22 x24).f2) (((rd_T45 x22 x24).f2).length : Int) 0 x136000 x136001 x136002 ((rd_T45 x22 x24).f0) ((rd_T45 x22 x24).f1) ((rd_T45 x22 x24).f2) ((rd_T45 x22 x24).f3)) else (none)) else (none)) else (mortmainref09_Great.l3 k x3 x136002 (x136002.length : Int) 0)
def mortmainref09_Great.l1 : Nat → Int → List (S45) → Int → Int → List (S59) → Int → Int → Int → List (S45) → List (S27) → ByteArray → Int → List (S59) → List (S72) → Option (Bool)
  | 0, _, _, _, _, _, _, _, _, _, _, _, _, _, _ => none
  | k + 1, x3, x22, x23, x24, x42, x43, x44, x136000, x136001, x136002, x138000, x138001, x138002, x138003 => if x44 < x43 then (if 0 ≤ x44 then (if x44 < (x42.length : Int) then (mortmainref09_Great.l1 k (wrap64 ((wrap64 (x3 + (((rd_T59 x42 x44).f0).size : Int))) + (((rd_T59 x42 x44).f4).size : Int))) x22 x23 x24 x42 x43 (wrap64 (x44 + 1)) x136000 x136001 x136002 x138000 x138001 x138002 x138003) else (none)) else (none)) else (mortmainref09_Great.l2 k x3 x22 x23 x24 x138003 (x138003.length : Int) 0 x136000 x136001 x136002)
def mortmainref09_Great.l2 : Nat → Int → List (S45) → Int → Int → List (S72) → Int → Int → Int → List (S45) → List (S27) → Option (Bool)
  | 0, _, _, _, _, _, _, _, _, _, _ => none
  | k + 1, x3, x22, x23, x24, x59, x60, x61, x136000, x136001, x136002 => if x61 < x60 then (if 0 ≤ x61 then (if x61 < (x59.length : Int) then ((mortmainref08_Great.f k ((rd_T72 x59 x61).f0) ((rd_T72 x59 x61).f1) ((rd_T72 x59 x61).f2.f0) ((rd_T72 x59 x61).f2.f1) ((rd_T72 x59 x61).f2.f2) ((rd_T72 x59 x61).f3)).bind fun t142 => (if t142 = true then (some true) else (mortmainref09_Great.l2 k x3 x22 x23 x24 x59 x60 (wrap64 (x61 + 1)) x136000 x136001 x136002))) else (none)) else (none)) else (if x3 > 3000 then (some true) else (mortmainref09_Great.l0 k x3 x22 x23 (wrap64 (x24 + 1)) x136000 x136001 x136002))
def mortmainref09_Great.l3 : Nat → Int → List (S27) → Int → Int → Option (Bool)
  | 0, _, _, _, _ => none
  | k + 1, x3, x72, x73, x74 => if x74 < x73 then (if 0 ≤ x74 then (if x74 < (x72.length : Int) then (mortmainref09_Great.l3 k (wrap64 (x3 + (((rd_T27 x72 x74).f1).size : Int))) x72 x73 (wrap64 (x74 + 1))) else (none)) else (none)) else (some (decide (x3 > 3000)))
end
def mortmainref09_Great.f (k : Nat) (a0_0 : Int) (l0_1 : List (S45)) (l0_2 : List (S27)) : Option (Bool) := if (wrap64 ((l0_1.length : Int) + (l0_2.length : Int))) > 200 then (some true) else (mortmainref09_Great.l0 k (wrap64 ((l0_1.length : Int) + (l0_2.length : Int))) l0_1 (l0_1.length : Int) 0 a0_0 l0_1 l0_2)
theorem mortmainref09_Great.mono_l : ∀ k, (∀ y0 y1 y2 y3 y4 y5 y6, LeO (mortmainref09_Great.l0 k y0 y1 y2 y3 y4 y5 y6) (mortmainref09_Great.l0 (k + 1) y0 y1 y2 y3 y4 y5 y6)) ∧ (∀ y0 y1 y2 y3 y4 y5 y6 y7 y8 y9 y10 y11 y12 y13, LeO (mortmainref09_Great.l1 k y0 y1 y2 y3 y4 y5 y6 y7 y8 y9 y10 y11 y12 y13) (mortmainref09_Great.l1 (k + 1) y0 y1 y2 y3 y4 y5 y6 y7 y8 y9 y10 y11 y12 y13)) ∧ (∀ y0 y1 y2 y3 y4 y5 y6 y7 y8 y9, LeO (mortmainref09_Great.l2 k y0 y1 y2 y3 y4 y5 y6 y7 y8 y9) (mortmainref09_Great.l2 (k + 1) y0 y1 y2 y3 y4 y5 y6 y7 y8 y9)) ∧ (∀ y0 y1 y2 y3, LeO (mortmainref09_Great.l3 k y0 y1 y2 y3) (mortmainref09_Great.l3 (k + 1) y0 y1 y2 y3))
  | 0 => ⟨fun _ _ _ _ _ _ _ r h => by simp [mortmainref09_Great.l0] at h, fun _ _ _ _ _ _ _ _ _ _ _ _ _ _ r h => by simp [mortmainref09_Great.l1] at h, fun _ _ _ _ _ _ _ _ _ _ r h => by simp [mortmainref09_Great.l2] at h, fun _ _ _ _ r h => by simp [mortmainref09_Great.l3] at h⟩
  | k + 1 => by
    obtain ⟨ih0, ih1, ih2, ih3⟩ := mortmainref09_Great.mono_l k
    refine ⟨?_, ?_, ?_, ?_⟩
    · intro y0 y1 y2 y3 y4 y5 y6
      unfold mortmainref09_Great.l0
      repeat' first
      | (with_reducible exact ih0 _ _ _ _ _ _ _)
      | (with_reducible exact ih1 _ _ _ _ _ _ _ _ _ _ _ _ _ _)
      | (with_reducible exact ih2 _ _ _ _ _ _ _ _ _ _)
      | (with_reducible exact ih3 _ _ _ _)
      | (with_reducible exact mortmainref08_Great.mono _ _ _ _ _ _ _)
      | (with_reducible exact LeO.refl _)
      | (with_reducible exact LeO.none _)
      | (with_reducible refine LeO.ite ?_ ?_)
      | (with_reducible refine LeO.bind ?_ (fun _ => ?_))
      | exact ih0 _ _ _ _ _ _ _
      | exact ih1 _ _ _ _ _ _ _ _ _ _ _ _ _ _
      | exact ih2 _ _ _ _ _ _ _ _ _ _
      | exact ih3 _ _ _ _
      | exact mortmainref08_Great.mono _ _ _ _ _ _ _
      | exact LeO.none _
      | refine LeO.ite ?_ ?_
      | refine LeO.bind ?_ (fun _ => ?_)
    · intro y0 y1 y2 y3 y4 y5 y6 y7 y8 y9 y10 y11 y12 y13
      unfold mortmainref09_Great.l1
      repeat' first
      | (with_reducible exact ih0 _ _ _ _ _ _ _)
      | (with_reducible exact ih1 _ _ _ _ _ _ _ _ _ _ _ _ _ _)
      | (with_reducible exact ih2 _ _ _ _ _ _ _ _ _ _)
      | (with_reducible exact ih3 _ _ _ _)
      | (with_reducible exact mortmainref08_Great.mono _ _ _ _ _ _ _)
      | (with_reducible exact LeO.refl _)
      | (with_reducible exact LeO.none _)
      | (with_reducible refine LeO.ite ?_ ?_)
      | (with_reducible refine LeO.bind ?_ (fun _ => ?_))
      | exact ih0 _ _ _ _ _ _ _
      | exact ih1 _ _ _ _ _ _ _ _ _ _ _ _ _ _
      | exact ih2 _ _ _ _ _ _ _ _ _ _
      | exact ih3 _ _ _ _
      | exact mortmainref08_Great.mono _ _ _ _ _ _ _
      | exact LeO.none _
      | refine LeO.ite ?_ ?_
      | refine LeO.bind ?_ (fun _ => ?_)
    · intro y0 y1 y2 y3 y4 y5 y6 y7 y8 y9
      unfold mortmainref09_Great.l2
      repeat' first
      | (with_reducible exact ih0 _ _ _ _ _ _ _)
      | (with_reducible exact ih1 _ _ _ _ _ _ _ _ _ _ _ _ _ _)
      | (with_reducible exact ih2 _ _ _ _ _ _ _ _ _ _)
      | (with_reducible exact ih3 _ _ _ _)
      | (with_reducible exact mortmainref08_Great.mono _ _ _ _ _ _ _)
      | (with_reducible exact LeO.refl _)
      | (with_reducible exact LeO.none _)
      | (with_reducible refine LeO.ite ?_ ?_)
      | (with_reducible refine LeO.bind ?_ (fun _ => ?_))
      | exact ih0 _ _ _ _ _ _ _
      | exact ih1 _ _ _ _ _ _ _ _ _ _ _ _ _ _
      | exact ih2 _ _ _ _ _ _ _ _ _ _
      | exact ih3 _ _ _ _
      | exact mortmainref08_Great.mono _ _ _ _ _ _ _
      | exact LeO.none _
      | refine LeO.ite ?_ ?_
      | refine LeO.bind ?_ (fun _ => ?_)
    · intro y0 y1 y2 y3
      unfold mortmainref09_Great.l3
      repeat' first
      | (with_reducible exact ih0 _ _ _ _ _ _ _)
      | (with_reducible exact ih1 _ _ _ _ _ _ _ _ _ _ _ _ _ _)
      | (with_reducible exact ih2 _ _ _ _ _ _ _ _ _ _)
      | (with_reducible exact ih3 _ _ _ _)
      | (with_reducible exact mortmainref08_Great.mono _ _ _ _ _ _ _)
      | (with_reducible exact LeO.refl _)
      | (with_reducible exact LeO.none _)
      | (with_reducible refine LeO.ite ?_ ?_)
      | (with_reducible refine LeO.bind ?_ (fun _ => ?_))
      | exact ih0 _ _ _ _ _ _ _
      | exact ih1 _ _ _ _ _ _ _ _ _ _ _ _ _ _
      | exact ih2 _ _ _ _ _ _ _ _ _ _
      | exact ih3 _ _ _ _
      | exact mortmainref08_Great.mono _ _ _ _ _ _ _
      | exact LeO.none _
      | refine LeO.ite ?_ ?_
      | refine LeO.bind ?_ (fun _ => ?_)
theorem mortmainref09_Great.mono : ∀ a0 a1 a2 k, LeO (mortmainref09_Great.f k a0 a1 a2) (mortmainref09_Great.f (k + 1) a0 a1 a2) := by
  intro a0 a1 a2 k
  obtain ⟨ih0, ih1, ih2, ih3⟩ := mortmainref09_Great.mono_l k
  unfold mortmainref09_Great.f
  repeat' first
      | (with_reducible exact ih0 _ _ _ _ _ _ _)
      | (with_reducible exact ih1 _ _ _ _ _ _ _ _ _ _ _ _ _ _)
      | (with_reducible exact ih2 _ _ _ _ _ _ _ _ _ _)
      | (with_reducible exact ih3 _ _ _ _)
      | (with_reducible exact mortmainref08_Great.mono _ _ _ _ _ _ _)
      | (with_reducible exact LeO.refl _)
      | (with_reducible exact LeO.none _)
      | (with_reducible refine LeO.ite ?_ ?_)
      | (with_reducible refine LeO.bind ?_ (fun _ => ?_))
      | exact ih0 _ _ _ _ _ _ _
      | exact ih1 _ _ _ _ _ _ _ _ _ _ _ _ _ _
      | exact ih2 _ _ _ _ _ _ _ _ _ _
      | exact ih3 _ _ _ _
      | exact mortmainref08_Great.mono _ _ _ _ _ _ _
      | exact LeO.none _
      | refine LeO.ite ?_ ?_
      | refine LeO.bind ?_ (fun _ => ?_)
set_option maxHeartbeats 8000000 in
set_option maxRecDepth 100000 in
theorem mortmainref09_Great.calls (k : Nat) (a0_0 : Int) (A0_1 : Option Addr) (c0_1 : Nat) (l0_1 : List (S45)) (A0_2 : Option Addr) (c0_2 : Nat) (l0_2 : List (S27)) (r : Bool) (w : World) (hr0_1 : Kd.C k45 w A0_1 l0_1.length l0_1) (hc0_1 : l0_1.length ≤ c0_1) (hr0_2 : Kd.C k27 w A0_2 l0_2.length l0_2) (hc0_2 : l0_2.length ≤ c0_2) (h : mortmainref09_Great.f k a0_0 l0_1 l0_2 = some r) :
    Calls Tryd.prog 13 #[.agg #[.int .i64 a0_0, .slice A0_1 l0_1.length c0_1, .slice A0_2 l0_2.length c0_2]] w fun e w' => e = .returned (.bool r) ∧ Below w.heap.size w w' := by
  have hu25 := Tryd.underlying25
  have hu45 := Tryd.underlying45
  have hu59 := Tryd.underlying59
  have hu72 := Tryd.underlying72
  have hu27 := Tryd.underlying27
  have HR0_1 := Aside0.mk hr0_1
  have HC0_1 := Aside0.mk hc0_1
  clear hr0_1 hc0_1
  have HR0_2 := Aside0.mk hr0_2
  have HC0_2 := Aside0.mk hc0_2
  clear hr0_2 hc0_2
  have HB := Aside0.mk (Below.refl w.heap.size w)
  have H : (if (wrap64 ((l0_1.length : Int) + (l0_2.length : Int))) > 200 then (some true) else (mortmainref09_Great.l0 k (wrap64 ((l0_1.length : Int) + (l0_2.length : Int))) l0_1 (l0_1.length : Int) 0 a0_0 l0_1 l0_2)) = some r := h
  clear h
  by_cases c2 : (wrap64 ((l0_1.length : Int) + (l0_2.length : Int))) > 200
  · rw [if_pos c2] at H
    have c2b0 : decide (200 < (wrap64 ((l0_1.length : Int) + (l0_2.length : Int)))) = true := decide_eq_true c2
    clear c2
    obtain rfl := Option.some.inj H
    go_enter Tryd.func13, Tryd.ntmps13
    go_wp2_with (first | ((with_reducible refine gate_dst (N := 1) rfl ?_); refine box_event ?hg (N := 1) ?hd (cs := #[.int .i64 a0_0, .slice A0_1 l0_1.length c0_1, .slice A0_2 l0_2.length c0_2]) (t := 25) ?hr ?_; (case hd => rfl); (case hg => rfl); (case hr => first | (go_simp; done) | (go_simp; rfl)); intro gb135 hg w3 hbox hb; have n0_ := Aside0.mk (below_step (by repeat (first | (with_reducible first | exact HB.out | apply below_alloc | apply pw_below_drewN | apply below_drew1) | exact HB.out)) hb); have n1_ := Aside0.mk (hbox); have n2_ := Aside0.mk ((by rw [hg]; exact (below_size (by repeat (first | (with_reducible first | exact HB.out | apply below_alloc | apply pw_below_drewN | apply below_drew1) | exact HB.out))) : w.heap.size ≤ gb135)); have n3_ := Aside0.mk ((by rw [hg]; exact (below_size (by repeat (first | (with_reducible first | exact HB.out | apply below_alloc | apply pw_below_drewN | apply below_drew1) | exact HB.out))) : w.heap.size ≤ gb135)); clear HB; have HB := n0_; have BK135 := n1_; have GW135 := n2_; have GE135 := n3_; clear n0_ n1_ n2_ n3_; clear hb hbox hg; have hcz4_0 : w3.cell? ⟨gb135, 0, none⟩ = some (.int .i64 a0_0) := (blk_cell BK135.out 0).trans rfl; have hcz4_1 : w3.cell? ⟨gb135, 1, none⟩ = some (.slice A0_1 l0_1.length c0_1) := (blk_cell BK135.out 1).trans rfl; have hcz4_2 : w3.cell? ⟨gb135, 2, none⟩ = some (.slice A0_2 l0_2.length c0_2) := (blk_cell BK135.out 2).trans rfl; have hfz4_0 := blk_frozen BK135.out 0; have hfz4_1 := blk_frozen BK135.out 1; have hfz4_2 := blk_frozen BK135.out 2))
    go_ret
    exact ⟨by first | rfl | (simp [errW_none, errW_some] <;> rfl) | (simp [*, errW_none, errW_some] <;> rfl), by repeat (first | (with_reducible first | exact HB.out | apply below_alloc | apply pw_below_drewN | apply below_drew1 | refine below_set ?_ GE135.out) | exact HB.out)⟩
  · rw [if_neg c2] at H
    have c2b0 : decide (200 < (wrap64 ((l0_1.length : Int) + (l0_2.length : Int)))) = false := decide_eq_false c2
    clear c2
    have H' := Aside0.mk H
    clear H
    go_enter Tryd.func13, Tryd.ntmps13
    go_wp2_with (first | ((with_reducible refine gate_dst (N := 1) rfl ?_); refine box_event ?hg (N := 1) ?hd (cs := #[.int .i64 a0_0, .slice A0_1 l0_1.length c0_1, .slice A0_2 l0_2.length c0_2]) (t := 25) ?hr ?_; (case hd => rfl); (case hg => rfl); (case hr => first | (go_simp; done) | (go_simp; rfl)); intro gb135 hg w5 hbox hb; have n0_ := Aside0.mk (below_step (by repeat (first | (with_reducible first | exact HB.out | apply below_alloc | apply pw_below_drewN | apply below_drew1) | exact HB.out)) hb); have n1_ := Aside0.mk (hbox); have n2_ := Aside0.mk ((by rw [hg]; exact (below_size (by repeat (first | (with_reducible first | exact HB.out | apply below_alloc | apply pw_below_drewN | apply below_drew1) | exact HB.out))) : w.heap.size ≤ gb135)); have n3_ := Aside0.mk ((by rw [hg]; exact (below_size (by repeat (first | (with_reducible first | exact HB.out | apply below_alloc | apply pw_below_drewN | apply below_drew1) | exact HB.out))) : w.heap.size ≤ gb135)); clear HB; have HB := n0_; have BK135 := n1_; have GW135 := n2_; have GE135 := n3_; clear n0_ n1_ n2_ n3_; clear hb hbox hg; have hcz6_0 : w5.cell? ⟨gb135, 0, none⟩ = some (.int .i64 a0_0) := (blk_cell BK135.out 0).trans rfl; have hcz6_1 : w5.cell? ⟨gb135, 1, none⟩ = some (.slice A0_1 l0_1.length c0_1) := (blk_cell BK135.out 1).trans rfl; have hcz6_2 : w5.cell? ⟨gb135, 2, none⟩ = some (.slice A0_2 l0_2.length c0_2) := (blk_cell BK135.out 2).trans rfl; have hfz6_0 := blk_frozen BK135.out 0; have hfz6_1 := blk_frozen BK135.out 1; have hfz6_2 := blk_frozen BK135.out 2))
    go_loopg [3, 24] k (fun kq v3 v24 w' => ∃ (x3_1 : Int) (x24_1 : Int), v3 = .int .i64 x3_1 ∧ v24 = .int .i64 x24_1 ∧ Aside0 (mortmainref09_Great.l0 kq x3_1 l0_1 (l0_1.length : Int) x24_1 a0_0 l0_1 l0_2 = some r) ∧ Aside0 (kq ≤ k) ∧ Aside0 (w'.heap[gb135]? = some (.cells #[.int .i64 a0_0, (.slice A0_1 l0_1.length c0_1), (.slice A0_2 l0_2.length c0_2)] 25 (0, 0))) ∧ Aside0 (Below w.heap.size w w'))
    case atStart => exact ⟨(wrap64 ((l0_1.length : Int) + (l0_2.length : Int))), (0), (by first | rfl | (simp; done) | (simp [*]; done)), (by first | rfl | (simp; done) | (simp [*]; done)), H', ⟨Nat.le_refl _⟩, ⟨by (with_reducible repeat (first | refine blk_drewN ?_ _ | refine blk_drew ?_ | refine blk_alloc ?_ _)); exact BK135.out⟩, ⟨by repeat (first | (with_reducible first | exact HB.out | apply below_alloc | apply pw_below_drewN | apply below_drew1 | refine below_set ?_ GE135.out) | exact HB.out)⟩⟩
    case round =>
      clear H'
      try clear c1
      try clear c2
      try clear c2b0
      try clear p2
      try clear p6
      try clear hcz4_0
      try clear hcz4_1
      try clear hcz4_2
      try clear hcz6_0
      try clear hcz6_1
      try clear hcz6_2
      try clear hfz4_0
      try clear hfz4_1
      try clear hfz4_2
      try clear hfz6_0
      try clear hfz6_1
      try clear hfz6_2
      obtain ⟨x3_1, x24_1, rfl, rfl, HA, HK1, BK135, HB⟩ := hrel
      cases gk with
      | zero => exact absurd HA.out (by simp [mortmainref09_Great.l0])
      | succ k1 =>
        have H := HA.out
        clear HA
        simp only [mortmainref09_Great.l0] at H
        by_cases c7 : x24_1 < (l0_1.length : Int)
        · rw [if_pos c7] at H
          have c7b0 : decide (x24_1 < (l0_1.length : Int)) = true := decide_eq_true c7
          clear c7
          by_cases c8 : 0 ≤ x24_1
          · rw [if_pos c8] at H
            have c8b0 : decide (0 ≤ x24_1) = true := decide_eq_true c8
            clear c8
            by_cases c9 : x24_1 < (l0_1.length : Int)
            · rw [if_pos c9] at H
              have c9b0 : decide (x24_1 < (l0_1.length : Int)) = true := decide_eq_true c9
              clear c9
              have H' := Aside0.mk H
              clear H
              have p136 : 0 ≤ (x24_1 : Int) := of_decide_eq_true (by first | (with_reducible assumption) | assumption)
              have q136 : x24_1 < (l0_1.length : Int) := of_decide_eq_true (by first | (with_reducible assumption) | assumption)
              obtain ⟨ad136, A136_2, c136_2, A136_3, c136_3, e136, hx136_0, hx136_1, hx136_2, hx136_3, hl136_2, hi136_2, hl136_3, hi136_3⟩ := at_T45 HR0_1.out x24_1 p136 q136
              cases e136
              replace hx136_0 := (HB.out.cell (World.block_lt_of_cell? w _ hx136_0)).trans hx136_0
              replace hx136_1 := (HB.out.cell (World.block_lt_of_cell? w _ hx136_1)).trans hx136_1
              replace hx136_2 := (HB.out.cell (World.block_lt_of_cell? w _ hx136_2)).trans hx136_2
              replace hx136_3 := (HB.out.cell (World.block_lt_of_cell? w _ hx136_3)).trans hx136_3
              have HR136_2 := Aside0.mk hi136_2
              have HC136_2 := Aside0.mk hl136_2
              clear hi136_2 hl136_2
              have HR136_3 := Aside0.mk hi136_3
              have HC136_3 := Aside0.mk hl136_3
              clear hi136_3 hl136_3
              replace p136 := eq_true p136
              replace q136 := eq_true q136
              go_wp2_with (first | ((with_reducible refine gate_dst (N := 5) rfl ?_); refine box_event ?hg (N := 5) ?hd (cs := #[.string (⟨#[]⟩ : ByteArray), .int .i64 0, .slice none 0 0, .slice none 0 0]) (t := 45) ?hr ?_; (case hd => rfl); (case hg => rfl); (case hr => first | (go_simp; done) | (go_simp; rfl)); intro gb137 hg w10 hbox hb; have n0_ := Aside0.mk (blk_below (g := gb135) (o := .cells #[.int .i64 a0_0, .slice (some ad136) l0_1.length c0_1, .slice A0_2 l0_2.length c0_2] 25 (0, 0)) (by (with_reducible repeat (first | refine blk_drewN ?_ _ | refine blk_drew ?_ | refine blk_alloc ?_ _)); exact BK135.out) hb); have n1_ := Aside0.mk (below_step (by repeat (first | (with_reducible first | exact HB.out | apply below_alloc | apply pw_below_drewN | apply below_drew1 | refine below_set ?_ GE135.out) | exact HB.out)) hb); have n2_ := Aside0.mk (hbox); have n3_ := Aside0.mk ((by rw [hg]; exact (below_size (by repeat (first | (with_reducible first | exact HB.out | apply below_alloc | apply pw_below_drewN | apply below_drew1 | refine below_set ?_ GE135.out) | exact HB.out))) : w.heap.size ≤ gb137)); have n4_ := Aside0.mk ((by rw [hg]; exact (below_size (by repeat (first | (with_reducible first | exact HB.out | apply below_alloc | apply pw_below_drewN | apply below_drew1 | refine below_set ?_ GE135.out) | exact HB.out))) : w.heap.size ≤ gb137)); have n5_ := Aside0.mk ((by rw [hg]; exact Nat.ne_of_lt (blk_lt (g := gb135) (o := .cells #[.int .i64 a0_0, .slice (some ad136) l0_1.length c0_1, .slice A0_2 l0_2.length c0_2] 25 (0, 0)) (by (with_reducible repeat (first | refine blk_drewN ?_ _ | refine blk_drew ?_ | refine blk_alloc ?_ _)); exact BK135.out)) : gb135 ≠ gb137)); have n6_ := Aside0.mk ((by rw [hg]; exact Nat.ne_of_gt (blk_lt (g := gb135) (o := .cells #[.int .i64 a0_0, .slice (some ad136) l0_1.length c0_1, .slice A0_2 l0_2.length c0_2] 25 (0, 0)) (by (with_reducible repeat (first | refine blk_drewN ?_ _ | refine blk_drew ?_ | refine blk_alloc ?_ _)); exact BK135.out)) : gb137 ≠ gb135)); clear BK135; clear HB; have BK135 := n0_; have HB := n1_; have BK137 := n2_; have GW137 := n3_; have GE137 := n4_; have NB135_137 := n5_; have NB137_135 := n6_; clear n0_ n1_ n2_ n3_ n4_ n5_ n6_; clear hb hbox hg; have hnb11 := NB137_135.out; have hnc11 := NB135_137.out; have hcz12_0 : w10.cell? ⟨gb137, 0, none⟩ = some (.string (⟨#[]⟩ : ByteArray)) := (blk_cell BK137.out 0).trans rfl; have hcz12_1 : w10.cell? ⟨gb137, 1, none⟩ = some (.int .i64 0) := (blk_cell BK137.out 1).trans rfl; have hcz12_2 : w10.cell? ⟨gb137, 2, none⟩ = some (.slice none 0 0) := (blk_cell BK137.out 2).trans rfl; have hcz12_3 : w10.cell? ⟨gb137, 3, none⟩ = some (.slice none 0 0) := (blk_cell BK137.out 3).trans rfl; have hfz12_0 := blk_frozen BK137.out 0; have hfz12_1 := blk_frozen BK137.out 1; have hfz12_2 := blk_frozen BK137.out 2; have hfz12_3 := blk_frozen BK137.out 3))
              go_loopg [3, 44] k1 (fun kq v3 v44 w' => ∃ (x3_2 : Int) (x44_2 : Int), v3 = .int .i64 x3_2 ∧ v44 = .int .i64 x44_2 ∧ Aside0 (mortmainref09_Great.l1 kq x3_2 l0_1 (l0_1.length : Int) x24_1 ((rd_T45 l0_1 x24_1).f2) (((rd_T45 l0_1 x24_1).f2).length : Int) x44_2 a0_0 l0_1 l0_2 ((rd_T45 l0_1 x24_1).f0) ((rd_T45 l0_1 x24_1).f1) ((rd_T45 l0_1 x24_1).f2) ((rd_T45 l0_1 x24_1).f3) = some r) ∧ Aside0 (kq ≤ k1) ∧ Aside0 (w'.heap[gb135]? = some (.cells #[.int .i64 a0_0, (.slice (some ad136) l0_1.length c0_1), (.slice A0_2 l0_2.length c0_2)] 25 (0, 0))) ∧ Aside0 (w'.heap[gb137]? = some (.cells #[.string ((rd_T45 l0_1 x24_1).f0), .int .i64 ((rd_T45 l0_1 x24_1).f1), (.slice A136_2 ((rd_T45 l0_1 x24_1).f2).length c136_2), (.slice A136_3 ((rd_T45 l0_1 x24_1).f3).length c136_3)] 45 (0, 0))) ∧ Aside0 (Below w.heap.size w w'))
              case atStart => exact ⟨(wrap64 ((wrap64 ((wrap64 (x3_1 + (((rd_T45 l0_1 x24_1).f0).size : Int))) + (((rd_T45 l0_1 x24_1).f2).length : Int))) + (((rd_T45 l0_1 x24_1).f3).length : Int))), (0), (by first | rfl | (simp; done) | (simp [*]; done)), (by first | rfl | (simp; done) | (simp [*]; done)), H', ⟨Nat.le_refl _⟩, ⟨by (with_reducible repeat (first | refine blk_drewN ?_ _ | refine blk_drew ?_ | refine blk_alloc ?_ _)); refine blk_far ?_ NB135_137.out _; (with_reducible repeat (first | refine blk_drewN ?_ _ | refine blk_drew ?_ | refine blk_alloc ?_ _)); refine blk_far ?_ NB135_137.out _; (with_reducible repeat (first | refine blk_drewN ?_ _ | refine blk_drew ?_ | refine blk_alloc ?_ _)); refine blk_far ?_ NB135_137.out _; (with_reducible repeat (first | refine blk_drewN ?_ _ | refine blk_drew ?_ | refine blk_alloc ?_ _)); refine blk_far ?_ NB135_137.out _; (with_reducible repeat (first | refine blk_drewN ?_ _ | refine blk_drew ?_ | refine blk_alloc ?_ _)); exact BK135.out⟩, ⟨by (with_reducible repeat (first | refine blk_drewN ?_ _ | refine blk_drew ?_ | refine blk_alloc ?_ _)); refine blk_put (cs := #[.string ((rd_T45 l0_1 x24_1).f0), .int .i64 ((rd_T45 l0_1 x24_1).f1), .slice A136_2 ((rd_T45 l0_1 x24_1).f2).length c136_2, .slice none 0 0]) ?_ 3 _ rfl; (with_reducible repeat (first | refine blk_drewN ?_ _ | refine blk_drew ?_ | refine blk_alloc ?_ _)); refine blk_put (cs := #[.string ((rd_T45 l0_1 x24_1).f0), .int .i64 ((rd_T45 l0_1 x24_1).f1), .slice none 0 0, .slice none 0 0]) ?_ 2 _ rfl; (with_reducible repeat (first | refine blk_drewN ?_ _ | refine blk_drew ?_ | refine blk_alloc ?_ _)); refine blk_put (cs := #[.string ((rd_T45 l0_1 x24_1).f0), .int .i64 0, .slice none 0 0, .slice none 0 0]) ?_ 1 _ rfl; (with_reducible repeat (first | refine blk_drewN ?_ _ | refine blk_drew ?_ | refine blk_alloc ?_ _)); refine blk_put (cs := #[.string (⟨#[]⟩ : ByteArray), .int .i64 0, .slice none 0 0, .slice none 0 0]) ?_ 0 _ rfl; (with_reducible repeat (first | refine blk_drewN ?_ _ | refine blk_drew ?_ | refine blk_alloc ?_ _)); exact BK137.out⟩, ⟨by repeat (first | (with_reducible first | exact HB.out | apply below_alloc | apply pw_below_drewN | apply below_drew1 | refine below_set ?_ GE135.out | refine below_set ?_ GE137.out) | exact HB.out)⟩⟩
              case round =>
                clear H'
                try clear c1
                try clear p1
                try clear q1
                try clear hx1
                try clear c2
                try clear c2b0
                try clear p2
                try clear p6
                try clear c7
                try clear c7b0
                try clear c8
                try clear c8b0
                try clear c9
                try clear c9b0
                try clear c11
                try clear hcz12_0
                try clear hcz12_1
                try clear hcz12_2
                try clear hcz12_3
                try clear hcz4_0
                try clear hcz4_1
                try clear hcz4_2
                try clear hcz6_0
                try clear hcz6_1
                try clear hcz6_2
                try clear hfz12_0
                try clear hfz12_1
                try clear hfz12_2
                try clear hfz12_3
                try clear hfz4_0
                try clear hfz4_1
                try clear hfz4_2
                try clear hfz6_0
                try clear hfz6_1
                try clear hfz6_2
                try clear hx136_0
                try clear hx136_1
                try clear hx136_2
                try clear hx136_3
                try clear p136
                try clear p2
                try clear p6
                try clear q136
                obtain ⟨x3_2, x44_2, rfl, rfl, HA, HK2, BK135, BK137, HB⟩ := hrel
                cases gk with
                | zero => exact absurd HA.out (by simp [mortmainref09_Great.l1])
                | succ k2 =>
                  have H := HA.out
                  clear HA
                  simp only [mortmainref09_Great.l1] at H
                  by_cases c13 : x44_2 < (((rd_T45 l0_1 x24_1).f2).length : Int)
                  · rw [if_pos c13] at H
                    have c13b0 : decide (x44_2 < (((rd_T45 l0_1 x24_1).f2).length : Int)) = true := decide_eq_true c13
                    clear c13
                    by_cases c14 : 0 ≤ x44_2
                    · rw [if_pos c14] at H
                      have c14b0 : decide (0 ≤ x44_2) = true := decide_eq_true c14
                      clear c14
                      by_cases c15 : x44_2 < (((rd_T45 l0_1 x24_1).f2).length : Int)
                      · rw [if_pos c15] at H
                        have c15b0 : decide (x44_2 < (((rd_T45 l0_1 x24_1).f2).length : Int)) = true := decide_eq_true c15
                        clear c15
                        have H' := Aside0.mk H
                        clear H
                        have p138 : 0 ≤ (x44_2 : Int) := of_decide_eq_true (by first | (with_reducible assumption) | assumption)
                        have q138 : x44_2 < (((rd_T45 l0_1 x24_1).f2).length : Int) := of_decide_eq_true (by first | (with_reducible assumption) | assumption)
                        obtain ⟨ad138, e138, hx138_0, hx138_1, hx138_2, hx138_3, hx138_4, hx138_5⟩ := at_T59 HR136_2.out x44_2 p138 q138
                        cases e138
                        replace hx138_0 := (HB.out.cell (World.block_lt_of_cell? w _ hx138_0)).trans hx138_0
                        replace hx138_1 := (HB.out.cell (World.block_lt_of_cell? w _ hx138_1)).trans hx138_1
                        replace hx138_2 := (HB.out.cell (World.block_lt_of_cell? w _ hx138_2)).trans hx138_2
                        replace hx138_3 := (HB.out.cell (World.block_lt_of_cell? w _ hx138_3)).trans hx138_3
                        replace hx138_4 := (HB.out.cell (World.block_lt_of_cell? w _ hx138_4)).trans hx138_4
                        replace hx138_5 := (HB.out.cell (World.block_lt_of_cell? w _ hx138_5)).trans hx138_5
                        replace p138 := eq_true p138
                        replace q138 := eq_true q138
                        go_wp2_with (first | ((with_reducible refine gate_dst (N := 7) rfl ?_); refine box_event ?hg (N := 7) ?hd (cs := #[.string (⟨#[]⟩ : ByteArray), .int .i64 0, .bool false, .bool false, .string (⟨#[]⟩ : ByteArray), .int .i64 0]) (t := 59) ?hr ?_; (case hd => rfl); (case hg => rfl); (case hr => first | (go_simp; done) | (go_simp; rfl)); intro gb139 hg w16 hbox hb; have n0_ := Aside0.mk (blk_below (g := gb135) (o := .cells #[.int .i64 a0_0, .slice (some ad136) l0_1.length c0_1, .slice A0_2 l0_2.length c0_2] 25 (0, 0)) (by (with_reducible repeat (first | refine blk_drewN ?_ _ | refine blk_drew ?_ | refine blk_alloc ?_ _)); exact BK135.out) hb); have n1_ := Aside0.mk (blk_below (g := gb137) (o := .cells #[.string ((rd_T45 l0_1 x24_1).f0), .int .i64 ((rd_T45 l0_1 x24_1).f1), .slice (some ad138) ((rd_T45 l0_1 x24_1).f2).length c136_2, .slice A136_3 ((rd_T45 l0_1 x24_1).f3).length c136_3] 45 (0, 0)) (by (with_reducible repeat (first | refine blk_drewN ?_ _ | refine blk_drew ?_ | refine blk_alloc ?_ _)); exact BK137.out) hb); have n2_ := Aside0.mk (below_step (by repeat (first | (with_reducible first | exact HB.out | apply below_alloc | apply pw_below_drewN | apply below_drew1 | refine below_set ?_ GE135.out | refine below_set ?_ GE137.out) | exact HB.out)) hb); have n3_ := Aside0.mk (hbox); have n4_ := Aside0.mk ((by rw [hg]; exact (below_size (by repeat (first | (with_reducible first | exact HB.out | apply below_alloc | apply pw_below_drewN | apply below_drew1 | refine below_set ?_ GE135.out | refine below_set ?_ GE137.out) | exact HB.out))) : w.heap.size ≤ gb139)); have n5_ := Aside0.mk ((by rw [hg]; exact (below_size (by repeat (first | (with_reducible first | exact HB.out | apply below_alloc | apply pw_below_drewN | apply below_drew1 | refine below_set ?_ GE135.out | refine below_set ?_ GE137.out) | exact HB.out))) : w.heap.size ≤ gb139)); have n6_ := Aside0.mk ((by rw [hg]; exact Nat.ne_of_lt (blk_lt (g := gb135) (o := .cells #[.int .i64 a0_0, .slice (some ad136) l0_1.length c0_1, .slice A0_2 l0_2.length c0_2] 25 (0, 0)) (by (with_reducible repeat (first | refine blk_drewN ?_ _ | refine blk_drew ?_ | refine blk_alloc ?_ _)); exact BK135.out)) : gb135 ≠ gb139)); have n7_ := Aside0.mk ((by rw [hg]; exact Nat.ne_of_gt (blk_lt (g := gb135) (o := .cells #[.int .i64 a0_0, .slice (some ad136) l0_1.length c0_1, .slice A0_2 l0_2.length c0_2] 25 (0, 0)) (by (with_reducible repeat (first | refine blk_drewN ?_ _ | refine blk_drew ?_ | refine blk_alloc ?_ _)); exact BK135.out)) : gb139 ≠ gb135)); have n8_ := Aside0.mk ((by rw [hg]; exact Nat.ne_of_lt (blk_lt (g := gb137) (o := .cells #[.string ((rd_T45 l0_1 x24_1).f0), .int .i64 ((rd_T45 l0_1 x24_1).f1), .slice (some ad138) ((rd_T45 l0_1 x24_1).f2).length c136_2, .slice A136_3 ((rd_T45 l0_1 x24_1).f3).length c136_3] 45 (0, 0)) (by (with_reducible repeat (first | refine blk_drewN ?_ _ | refine blk_drew ?_ | refine blk_alloc ?_ _)); exact BK137.out)) : gb137 ≠ gb139)); have n9_ := Aside0.mk ((by rw [hg]; exact Nat.ne_of_gt (blk_lt (g := gb137) (o := .cells #[.string ((rd_T45 l0_1 x24_1).f0), .int .i64 ((rd_T45 l0_1 x24_1).f1), .slice (some ad138) ((rd_T45 l0_1 x24_1).f2).length c136_2, .slice A136_3 ((rd_T45 l0_1 x24_1).f3).length c136_3] 45 (0, 0)) (by (with_reducible repeat (first | refine blk_drewN ?_ _ | refine blk_drew ?_ | refine blk_alloc ?_ _)); exact BK137.out)) : gb139 ≠ gb137)); clear BK135; clear BK137; clear HB; have BK135 := n0_; have BK137 := n1_; have HB := n2_; have BK139 := n3_; have GW139 := n4_; have GE139 := n5_; have NB135_139 := n6_; have NB139_135 := n7_; have NB137_139 := n8_; have NB139_137 := n9_; clear n0_ n1_ n2_ n3_ n4_ n5_ n6_ n7_ n8_ n9_; clear hb hbox hg; have hnb17 := NB139_135.out; have hnc17 := NB135_139.out; have hnb18 := NB139_137.out; have hnc18 := NB137_139.out; have hcz19_0 : w16.cell? ⟨gb139, 0, none⟩ = some (.string (⟨#[]⟩ : ByteArray)) := (blk_cell BK139.out 0).trans rfl; have hcz19_1 : w16.cell? ⟨gb139, 1, none⟩ = some (.int .i64 0) := (blk_cell BK139.out 1).trans rfl; have hcz19_2 : w16.cell? ⟨gb139, 2, none⟩ = some (.bool false) := (blk_cell BK139.out 2).trans rfl; have hcz19_3 : w16.cell? ⟨gb139, 3, none⟩ = some (.bool false) := (blk_cell BK139.out 3).trans rfl; have hcz19_4 : w16.cell? ⟨gb139, 4, none⟩ = some (.string (⟨#[]⟩ : ByteArray)) := (blk_cell BK139.out 4).trans rfl; have hcz19_5 : w16.cell? ⟨gb139, 5, none⟩ = some (.int .i64 0) := (blk_cell BK139.out 5).trans rfl; have hfz19_0 := blk_frozen BK139.out 0; have hfz19_1 := blk_frozen BK139.out 1; have hfz19_2 := blk_frozen BK139.out 2; have hfz19_3 := blk_frozen BK139.out 3; have hfz19_4 := blk_frozen BK139.out 4; have hfz19_5 := blk_frozen BK139.out 5))
                        go_roundg k2
                        case measure => have := HK1.out; have := HK2.out; omega
                        case rel => exact ⟨(wrap64 ((wrap64 (x3_2 + (((rd_T59 ((rd_T45 l0_1 x24_1).f2) x44_2).f0).size : Int))) + (((rd_T59 ((rd_T45 l0_1 x24_1).f2) x44_2).f4).size : Int))), (wrap64 (x44_2 + 1)), (by first | rfl | (simp; done) | (simp [*]; done)), (by first | rfl | (simp; done) | (simp [*]; done)), H', ⟨by have := HK1.out; have := HK2.out; omega⟩, ⟨by (with_reducible repeat (first | refine blk_drewN ?_ _ | refine blk_drew ?_ | refine blk_alloc ?_ _)); refine blk_far ?_ NB135_139.out _; (with_reducible repeat (first | refine blk_drewN ?_ _ | refine blk_drew ?_ | refine blk_alloc ?_ _)); refine blk_far ?_ NB135_139.out _; (with_reducible repeat (first | refine blk_drewN ?_ _ | refine blk_drew ?_ | refine blk_alloc ?_ _)); refine blk_far ?_ NB135_139.out _; (with_reducible repeat (first | refine blk_drewN ?_ _ | refine blk_drew ?_ | refine blk_alloc ?_ _)); refine blk_far ?_ NB135_139.out _; (with_reducible repeat (first | refine blk_drewN ?_ _ | refine blk_drew ?_ | refine blk_alloc ?_ _)); refine blk_far ?_ NB135_139.out _; (with_reducible repeat (first | refine blk_drewN ?_ _ | refine blk_drew ?_ | refine blk_alloc ?_ _)); refine blk_far ?_ NB135_139.out _; (with_reducible repeat (first | refine blk_drewN ?_ _ | refine blk_drew ?_ | refine blk_alloc ?_ _)); exact BK135.out⟩, ⟨by (with_reducible repeat (first | refine blk_drewN ?_ _ | refine blk_drew ?_ | refine blk_alloc ?_ _)); refine blk_far ?_ NB137_139.out _; (with_reducible repeat (first | refine blk_drewN ?_ _ | refine blk_drew ?_ | refine blk_alloc ?_ _)); refine blk_far ?_ NB137_139.out _; (with_reducible repeat (first | refine blk_drewN ?_ _ | refine blk_drew ?_ | refine blk_alloc ?_ _)); refine blk_far ?_ NB137_139.out _; (with_reducible repeat (first | refine blk_drewN ?_ _ | refine blk_drew ?_ | refine blk_alloc ?_ _)); refine blk_far ?_ NB137_139.out _; (with_reducible repeat (first | refine blk_drewN ?_ _ | refine blk_drew ?_ | refine blk_alloc ?_ _)); refine blk_far ?_ NB137_139.out _; (with_reducible repeat (first | refine blk_drewN ?_ _ | refine blk_drew ?_ | refine blk_alloc ?_ _)); refine blk_far ?_ NB137_139.out _; (with_reducible repeat (first | refine blk_drewN ?_ _ | refine blk_drew ?_ | refine blk_alloc ?_ _)); exact BK137.out⟩, ⟨by repeat (first | (with_reducible first | exact HB.out | apply below_alloc | apply pw_below_drewN | apply below_drew1 | refine below_set ?_ GE135.out | refine below_set ?_ GE137.out | refine below_set ?_ GE139.out) | exact HB.out)⟩⟩
                      · rw [if_neg c15] at H
                        exact absurd H (by simp)
                    · rw [if_neg c14] at H
                      exact absurd H (by simp)
                  · rw [if_neg c13] at H
                    have c13b0 : decide (x44_2 < (((rd_T45 l0_1 x24_1).f2).length : Int)) = false := decide_eq_false c13
                    clear c13
                    have H' := Aside0.mk H
                    clear H
                    have hnb20 := NB137_135.out
                    have hnc20 := NB135_137.out
                    have hcz21_0 : wr.cell? ⟨gb137, 0, none⟩ = some (.string ((rd_T45 l0_1 x24_1).f0)) := (blk_cell BK137.out 0).trans rfl
                    have hcz21_1 : wr.cell? ⟨gb137, 1, none⟩ = some (.int .i64 ((rd_T45 l0_1 x24_1).f1)) := (blk_cell BK137.out 1).trans rfl
                    have hcz21_2 : wr.cell? ⟨gb137, 2, none⟩ = some (.slice A136_2 ((rd_T45 l0_1 x24_1).f2).length c136_2) := (blk_cell BK137.out 2).trans rfl
                    have hcz21_3 : wr.cell? ⟨gb137, 3, none⟩ = some (.slice A136_3 ((rd_T45 l0_1 x24_1).f3).length c136_3) := (blk_cell BK137.out 3).trans rfl
                    have hfz21_0 := blk_frozen BK137.out 0
                    have hfz21_1 := blk_frozen BK137.out 1
                    have hfz21_2 := blk_frozen BK137.out 2
                    have hfz21_3 := blk_frozen BK137.out 3
                    go_wp2
                    go_loopg [61] k2 (fun kq v61 w' => ∃ (x61_3 : Int), v61 = .int .i64 x61_3 ∧ Aside0 (mortmainref09_Great.l2 kq x3_2 l0_1 (l0_1.length : Int) x24_1 ((rd_T45 l0_1 x24_1).f3) (((rd_T45 l0_1 x24_1).f3).length : Int) x61_3 a0_0 l0_1 l0_2 = some r) ∧ Aside0 (kq ≤ k2) ∧ Aside0 (w'.heap[gb135]? = some (.cells #[.int .i64 a0_0, (.slice (some ad136) l0_1.length c0_1), (.slice A0_2 l0_2.length c0_2)] 25 (0, 0))) ∧ Aside0 (w'.heap[gb137]? = some (.cells #[.string ((rd_T45 l0_1 x24_1).f0), .int .i64 ((rd_T45 l0_1 x24_1).f1), (.slice A136_2 ((rd_T45 l0_1 x24_1).f2).length c136_2), (.slice A136_3 ((rd_T45 l0_1 x24_1).f3).length c136_3)] 45 (0, 0))) ∧ Aside0 (Below w.heap.size w w'))
                    case atStart => exact ⟨(0), (by first | rfl | (simp; done) | (simp [*]; done)), H', ⟨Nat.le_refl _⟩, ⟨by (with_reducible repeat (first | refine blk_drewN ?_ _ | refine blk_drew ?_ | refine blk_alloc ?_ _)); exact BK135.out⟩, ⟨by (with_reducible repeat (first | refine blk_drewN ?_ _ | refine blk_drew ?_ | refine blk_alloc ?_ _)); exact BK137.out⟩, ⟨by repeat (first | (with_reducible first | exact HB.out | apply below_alloc | apply pw_below_drewN | apply below_drew1 | refine below_set ?_ GE135.out | refine below_set ?_ GE137.out) | exact HB.out)⟩⟩
                    case round =>
                      clear H'
                      try clear c1
                      try clear p1
                      try clear q1
                      try clear hx1
                      try clear c2
                      try clear c2b0
                      try clear p2
                      try clear p6
                      try clear c7
                      try clear c7b0
                      try clear c8
                      try clear c8b0
                      try clear c9
                      try clear c9b0
                      try clear c11
                      try clear c13
                      try clear c13b0
                      try clear p13
                      try clear q13
                      try clear hx13
                      try clear c14
                      try clear c14b0
                      try clear c15
                      try clear c15b0
                      try clear c17
                      try clear c18
                      try clear c20
                      try clear hcz12_0
                      try clear hcz12_1
                      try clear hcz12_2
                      try clear hcz12_3
                      try clear hcz19_0
                      try clear hcz19_1
                      try clear hcz19_2
                      try clear hcz19_3
                      try clear hcz19_4
                      try clear hcz19_5
                      try clear hcz21_0
                      try clear hcz21_1
                      try clear hcz21_2
                      try clear hcz21_3
                      try clear hcz4_0
                      try clear hcz4_1
                      try clear hcz4_2
                      try clear hcz6_0
                      try clear hcz6_1
                      try clear hcz6_2
                      try clear hfz12_0
                      try clear hfz12_1
                      try clear hfz12_2
                      try clear hfz12_3
                      try clear hfz19_0
                      try clear hfz19_1
                      try clear hfz19_2
                      try clear hfz19_3
                      try clear hfz19_4
                      try clear hfz19_5
                      try clear hfz21_0
                      try clear hfz21_1
                      try clear hfz21_2
                      try clear hfz21_3
                      try clear hfz4_0
                      try clear hfz4_1
                      try clear hfz4_2
                      try clear hfz6_0
                      try clear hfz6_1
                      try clear hfz6_2
                      try clear hx136_0
                      try clear hx136_1
                      try clear hx136_2
                      try clear hx136_3
                      try clear hx138_0
                      try clear hx138_1
                      try clear hx138_2
                      try clear hx138_3
                      try clear hx138_4
                      try clear hx138_5
                      try clear p1
                      try clear p136
                      try clear p138
                      try clear p2
                      try clear p6
                      try clear q1
                      try clear q136
                      try clear q138
                      obtain ⟨x61_3, rfl, HA, HK3, BK135, BK137, HB⟩ := hrel
                      cases gk with
                      | zero => exact absurd HA.out (by simp [mortmainref09_Great.l2])
                      | succ k3 =>
                        have H := HA.out
                        clear HA
                        simp only [mortmainref09_Great.l2] at H
                        by_cases c22 : x61_3 < (((rd_T45 l0_1 x24_1).f3).length : Int)
                        · rw [if_pos c22] at H
                          have c22b0 : decide (x61_3 < (((rd_T45 l0_1 x24_1).f3).length : Int)) = true := decide_eq_true c22
                          clear c22
                          by_cases c23 : 0 ≤ x61_3
                          · rw [if_pos c23] at H
                            have c23b0 : decide (0 ≤ x61_3) = true := decide_eq_true c23
                            clear c23
                            by_cases c24 : x61_3 < (((rd_T45 l0_1 x24_1).f3).length : Int)
                            · rw [if_pos c24] at H
                              have c24b0 : decide (x61_3 < (((rd_T45 l0_1 x24_1).f3).length : Int)) = true := decide_eq_true c24
                              clear c24
                              replace H := Option.bind_eq_some_iff.mp H
                              obtain ⟨t142, A250, H⟩ := H
                              replace H : (if t142 = true then (some true) else (mortmainref09_Great.l2 k3 x3_2 l0_1 (l0_1.length : Int) x24_1 ((rd_T45 l0_1 x24_1).f3) (((rd_T45 l0_1 x24_1).f3).length : Int) (wrap64 (x61_3 + 1)) a0_0 l0_1 l0_2)) = some r := H
                              have A25 := Aside0.mk A250
                              clear A250
                              by_cases c26 : t142 = true
                              · subst c26
                                have H1 : (some true) = some r := by rw [if_pos rfl] at H; exact H
                                clear H
                                have H := H1
                                clear H1
                                obtain rfl := Option.some.inj H
                                have p140 : 0 ≤ (x61_3 : Int) := of_decide_eq_true (by first | (with_reducible assumption) | assumption)
                                have q140 : x61_3 < (((rd_T45 l0_1 x24_1).f3).length : Int) := of_decide_eq_true (by first | (with_reducible assumption) | assumption)
                                obtain ⟨ad140, A140_5, c140_5, e140, hx140_0, hx140_1, hx140_2, hx140_3, hx140_4, hx140_5, hl140_5, hi140_5⟩ := at_T72 HR136_3.out x61_3 p140 q140
                                cases e140
                                replace hx140_0 := (HB.out.cell (World.block_lt_of_cell? w _ hx140_0)).trans hx140_0
                                replace hx140_1 := (HB.out.cell (World.block_lt_of_cell? w _ hx140_1)).trans hx140_1
                                replace hx140_2 := (HB.out.cell (World.block_lt_of_cell? w _ hx140_2)).trans hx140_2
                                replace hx140_3 := (HB.out.cell (World.block_lt_of_cell? w _ hx140_3)).trans hx140_3
                                replace hx140_4 := (HB.out.cell (World.block_lt_of_cell? w _ hx140_4)).trans hx140_4
                                replace hx140_5 := (HB.out.cell (World.block_lt_of_cell? w _ hx140_5)).trans hx140_5
                                have HR140_5 := Aside0.mk hi140_5
                                have HC140_5 := Aside0.mk hl140_5
                                clear hi140_5 hl140_5
                                replace p140 := eq_true p140
                                replace q140 := eq_true q140
                                go_wp2_with (first | ((with_reducible refine gate_dst (N := 9) rfl ?_); refine box_event ?hg (N := 9) ?hd (cs := #[.int .i64 0, .int .i64 0, .int .i64 0, .int .i64 0, .string (⟨#[]⟩ : ByteArray), .slice none 0 0]) (t := 72) ?hr ?_; (case hd => rfl); (case hg => rfl); (case hr => first | (go_simp; done) | (go_simp; rfl)); intro gb141 hg w27 hbox hb; have n0_ := Aside0.mk (blk_below (g := gb135) (o := .cells #[.int .i64 a0_0, .slice (some ad136) l0_1.length c0_1, .slice A0_2 l0_2.length c0_2] 25 (0, 0)) (by (with_reducible repeat (first | refine blk_drewN ?_ _ | refine blk_drew ?_ | refine blk_alloc ?_ _)); exact BK135.out) hb); have n1_ := Aside0.mk (blk_below (g := gb137) (o := .cells #[.string ((rd_T45 l0_1 x24_1).f0), .int .i64 ((rd_T45 l0_1 x24_1).f1), .slice A136_2 ((rd_T45 l0_1 x24_1).f2).length c136_2, .slice (some ad140) ((rd_T45 l0_1 x24_1).f3).length c136_3] 45 (0, 0)) (by (with_reducible repeat (first | refine blk_drewN ?_ _ | refine blk_drew ?_ | refine blk_alloc ?_ _)); exact BK137.out) hb); have n2_ := Aside0.mk (below_step (by repeat (first | (with_reducible first | exact HB.out | apply below_alloc | apply pw_below_drewN | apply below_drew1 | refine below_set ?_ GE135.out | refine below_set ?_ GE137.out) | exact HB.out)) hb); have n3_ := Aside0.mk (hbox); have n4_ := Aside0.mk ((by rw [hg]; exact (below_size (by repeat (first | (with_reducible first | exact HB.out | apply below_alloc | apply pw_below_drewN | apply below_drew1 | refine below_set ?_ GE135.out | refine below_set ?_ GE137.out) | exact HB.out))) : w.heap.size ≤ gb141)); have n5_ := Aside0.mk ((by rw [hg]; exact (below_size (by repeat (first | (with_reducible first | exact HB.out | apply below_alloc | apply pw_below_drewN | apply below_drew1 | refine below_set ?_ GE135.out | refine below_set ?_ GE137.out) | exact HB.out))) : w.heap.size ≤ gb141)); have n6_ := Aside0.mk ((by rw [hg]; exact Nat.ne_of_lt (blk_lt (g := gb135) (o := .cells #[.int .i64 a0_0, .slice (some ad136) l0_1.length c0_1, .slice A0_2 l0_2.length c0_2] 25 (0, 0)) (by (with_reducible repeat (first | refine blk_drewN ?_ _ | refine blk_drew ?_ | refine blk_alloc ?_ _)); exact BK135.out)) : gb135 ≠ gb141)); have n7_ := Aside0.mk ((by rw [hg]; exact Nat.ne_of_gt (blk_lt (g := gb135) (o := .cells #[.int .i64 a0_0, .slice (some ad136) l0_1.length c0_1, .slice A0_2 l0_2.length c0_2] 25 (0, 0)) (by (with_reducible repeat (first | refine blk_drewN ?_ _ | refine blk_drew ?_ | refine blk_alloc ?_ _)); exact BK135.out)) : gb141 ≠ gb135)); have n8_ := Aside0.mk ((by rw [hg]; exact Nat.ne_of_lt (blk_lt (g := gb137) (o := .cells #[.string ((rd_T45 l0_1 x24_1).f0), .int .i64 ((rd_T45 l0_1 x24_1).f1), .slice A136_2 ((rd_T45 l0_1 x24_1).f2).length c136_2, .slice (some ad140) ((rd_T45 l0_1 x24_1).f3).length c136_3] 45 (0, 0)) (by (with_reducible repeat (first | refine blk_drewN ?_ _ | refine blk_drew ?_ | refine blk_alloc ?_ _)); exact BK137.out)) : gb137 ≠ gb141)); have n9_ := Aside0.mk ((by rw [hg]; exact Nat.ne_of_gt (blk_lt (g := gb137) (o := .cells #[.string ((rd_T45 l0_1 x24_1).f0), .int .i64 ((rd_T45 l0_1 x24_1).f1), .slice A136_2 ((rd_T45 l0_1 x24_1).f2).length c136_2, .slice (some ad140) ((rd_T45 l0_1 x24_1).f3).length c136_3] 45 (0, 0)) (by (with_reducible repeat (first | refine blk_drewN ?_ _ | refine blk_drew ?_ | refine blk_alloc ?_ _)); exact BK137.out)) : gb141 ≠ gb137)); clear BK135; clear BK137; clear HB; have BK135 := n0_; have BK137 := n1_; have HB := n2_; have BK141 := n3_; have GW141 := n4_; have GE141 := n5_; have NB135_141 := n6_; have NB141_135 := n7_; have NB137_141 := n8_; have NB141_137 := n9_; clear n0_ n1_ n2_ n3_ n4_ n5_ n6_ n7_ n8_ n9_; clear hb hbox hg; have hnb28 := NB141_135.out; have hnc28 := NB135_141.out; have hnb29 := NB141_137.out; have hnc29 := NB137_141.out; have hcz30_0 : w27.cell? ⟨gb141, 0, none⟩ = some (.int .i64 0) := (blk_cell BK141.out 0).trans rfl; have hcz30_1 : w27.cell? ⟨gb141, 1, none⟩ = some (.int .i64 0) := (blk_cell BK141.out 1).trans rfl; have hcz30_2 : w27.cell? ⟨gb141, 2, none⟩ = some (.int .i64 0) := (blk_cell BK141.out 2).trans rfl; have hcz30_3 : w27.cell? ⟨gb141, 3, none⟩ = some (.int .i64 0) := (blk_cell BK141.out 3).trans rfl; have hcz30_4 : w27.cell? ⟨gb141, 4, none⟩ = some (.string (⟨#[]⟩ : ByteArray)) := (blk_cell BK141.out 4).trans rfl; have hcz30_5 : w27.cell? ⟨gb141, 5, none⟩ = some (.slice none 0 0) := (blk_cell BK141.out 5).trans rfl; have hfz30_0 := blk_frozen BK141.out 0; have hfz30_1 := blk_frozen BK141.out 1; have hfz30_2 := blk_frozen BK141.out 2; have hfz30_3 := blk_frozen BK141.out 3; have hfz30_4 := blk_frozen BK141.out 4; have hfz30_5 := blk_frozen BK141.out 5) | ((with_reducible refine gate_callee (f := 45) rfl ?_); refine goesL_ (some 66) rfl rfl Tryd.func45 (by kernel_rfl) rfl #[.agg #[.int .i64 ((rd_T72 ((rd_T45 l0_1 x24_1).f3) x61_3).f0), .int .i64 ((rd_T72 ((rd_T45 l0_1 x24_1).f3) x61_3).f1), .int .i64 ((rd_T72 ((rd_T45 l0_1 x24_1).f3) x61_3).f2.f0), .int .i64 ((rd_T72 ((rd_T45 l0_1 x24_1).f3) x61_3).f2.f1), .string ((rd_T72 ((rd_T45 l0_1 x24_1).f3) x61_3).f2.f2), .slice A140_5 ((rd_T72 ((rd_T45 l0_1 x24_1).f3) x61_3).f3).length c140_5]] rfl (by (try simp only [List.map_toArray, List.map_cons, List.map_nil]); first | done | rfl | (simp only [List.length_drop, List.length_take]; rfl)) ?_; (with_reducible refine (mortmainref08_Great.calls k3 ((rd_T72 ((rd_T45 l0_1 x24_1).f3) x61_3).f0) ((rd_T72 ((rd_T45 l0_1 x24_1).f3) x61_3).f1) ((rd_T72 ((rd_T45 l0_1 x24_1).f3) x61_3).f2.f0) ((rd_T72 ((rd_T45 l0_1 x24_1).f3) x61_3).f2.f1) ((rd_T72 ((rd_T45 l0_1 x24_1).f3) x61_3).f2.f2) _ _ ((rd_T72 ((rd_T45 l0_1 x24_1).f3) x61_3).f3) true _ ?side1 ?side2 A25.out).mono ?_); (case side1 => exact Kd.C_below HR140_5.out (by repeat (first | (with_reducible first | exact HB.out | apply below_alloc | apply pw_below_drewN | apply below_drew1 | refine below_set ?_ GE135.out | refine below_set ?_ GE137.out | refine below_set ?_ GE141.out) | exact HB.out))); (case side2 => exact HC140_5.out); rintro e w31 ⟨rfl, hb⟩; refine ⟨_, rfl, ?_⟩; have n0_ := Aside0.mk (blk_below (g := gb135) (o := .cells #[.int .i64 a0_0, .slice (some ad136) l0_1.length c0_1, .slice A0_2 l0_2.length c0_2] 25 (0, 0)) (by (with_reducible repeat (first | refine blk_drewN ?_ _ | refine blk_drew ?_ | refine blk_alloc ?_ _)); refine blk_far ?_ NB135_141.out _; (with_reducible repeat (first | refine blk_drewN ?_ _ | refine blk_drew ?_ | refine blk_alloc ?_ _)); refine blk_far ?_ NB135_141.out _; (with_reducible repeat (first | refine blk_drewN ?_ _ | refine blk_drew ?_ | refine blk_alloc ?_ _)); refine blk_far ?_ NB135_141.out _; (with_reducible repeat (first | refine blk_drewN ?_ _ | refine blk_drew ?_ | refine blk_alloc ?_ _)); refine blk_far ?_ NB135_141.out _; (with_reducible repeat (first | refine blk_drewN ?_ _ | refine blk_drew ?_ | refine blk_alloc ?_ _)); refine blk_far ?_ NB135_141.out _; (with_reducible repeat (first | refine blk_drewN ?_ _ | refine blk_drew ?_ | refine blk_alloc ?_ _)); refine blk_far ?_ NB135_141.out _; (with_reducible repeat (first | refine blk_drewN ?_ _ | refine blk_drew ?_ | refine blk_alloc ?_ _)); exact BK135.out) hb); have n1_ := Aside0.mk (blk_below (g := gb137) (o := .cells #[.string ((rd_T45 l0_1 x24_1).f0), .int .i64 ((rd_T45 l0_1 x24_1).f1), .slice A136_2 ((rd_T45 l0_1 x24_1).f2).length c136_2, .slice (some ad140) ((rd_T45 l0_1 x24_1).f3).length c136_3] 45 (0, 0)) (by (with_reducible repeat (first | refine blk_drewN ?_ _ | refine blk_drew ?_ | refine blk_alloc ?_ _)); refine blk_far ?_ NB137_141.out _; (with_reducible repeat (first | refine blk_drewN ?_ _ | refine blk_drew ?_ | refine blk_alloc ?_ _)); refine blk_far ?_ NB137_141.out _; (with_reducible repeat (first | refine blk_drewN ?_ _ | refine blk_drew ?_ | refine blk_alloc ?_ _)); refine blk_far ?_ NB137_141.out _; (with_reducible repeat (first | refine blk_drewN ?_ _ | refine blk_drew ?_ | refine blk_alloc ?_ _)); refine blk_far ?_ NB137_141.out _; (with_reducible repeat (first | refine blk_drewN ?_ _ | refine blk_drew ?_ | refine blk_alloc ?_ _)); refine blk_far ?_ NB137_141.out _; (with_reducible repeat (first | refine blk_drewN ?_ _ | refine blk_drew ?_ | refine blk_alloc ?_ _)); refine blk_far ?_ NB137_141.out _; (with_reducible repeat (first | refine blk_drewN ?_ _ | refine blk_drew ?_ | refine blk_alloc ?_ _)); exact BK137.out) hb); have n2_ := Aside0.mk (blk_below (g := gb141) (o := .cells #[.int .i64 ((rd_T72 ((rd_T45 l0_1 x24_1).f3) x61_3).f0), .int .i64 ((rd_T72 ((rd_T45 l0_1 x24_1).f3) x61_3).f1), .int .i64 ((rd_T72 ((rd_T45 l0_1 x24_1).f3) x61_3).f2.f0), .int .i64 ((rd_T72 ((rd_T45 l0_1 x24_1).f3) x61_3).f2.f1), .string ((rd_T72 ((rd_T45 l0_1 x24_1).f3) x61_3).f2.f2), .slice A140_5 ((rd_T72 ((rd_T45 l0_1 x24_1).f3) x61_3).f3).length c140_5] 72 (0, 0)) (by (with_reducible repeat (first | refine blk_drewN ?_ _ | refine blk_drew ?_ | refine blk_alloc ?_ _)); refine blk_put (cs := #[.int .i64 ((rd_T72 ((rd_T45 l0_1 x24_1).f3) x61_3).f0), .int .i64 ((rd_T72 ((rd_T45 l0_1 x24_1).f3) x61_3).f1), .int .i64 ((rd_T72 ((rd_T45 l0_1 x24_1).f3) x61_3).f2.f0), .int .i64 ((rd_T72 ((rd_T45 l0_1 x24_1).f3) x61_3).f2.f1), .string ((rd_T72 ((rd_T45 l0_1 x24_1).f3) x61_3).f2.f2), .slice none 0 0]) ?_ 5 _ rfl; (with_reducible repeat (first | refine blk_drewN ?_ _ | refine blk_drew ?_ | refine blk_alloc ?_ _)); refine blk_put (cs := #[.int .i64 ((rd_T72 ((rd_T45 l0_1 x24_1).f3) x61_3).f0), .int .i64 ((rd_T72 ((rd_T45 l0_1 x24_1).f3) x61_3).f1), .int .i64 ((rd_T72 ((rd_T45 l0_1 x24_1).f3) x61_3).f2.f0), .int .i64 ((rd_T72 ((rd_T45 l0_1 x24_1).f3) x61_3).f2.f1), .string (⟨#[]⟩ : ByteArray), .slice none 0 0]) ?_ 4 _ rfl; (with_reducible repeat (first | refine blk_drewN ?_ _ | refine blk_drew ?_ | refine blk_alloc ?_ _)); refine blk_put (cs := #[.int .i64 ((rd_T72 ((rd_T45 l0_1 x24_1).f3) x61_3).f0), .int .i64 ((rd_T72 ((rd_T45 l0_1 x24_1).f3) x61_3).f1), .int .i64 ((rd_T72 ((rd_T45 l0_1 x24_1).f3) x61_3).f2.f0), .int .i64 0, .string (⟨#[]⟩ : ByteArray), .slice none 0 0]) ?_ 3 _ rfl; (with_reducible repeat (first | refine blk_drewN ?_ _ | refine blk_drew ?_ | refine blk_alloc ?_ _)); refine blk_put (cs := #[.int .i64 ((rd_T72 ((rd_T45 l0_1 x24_1).f3) x61_3).f0), .int .i64 ((rd_T72 ((rd_T45 l0_1 x24_1).f3) x61_3).f1), .int .i64 0, .int .i64 0, .string (⟨#[]⟩ : ByteArray), .slice none 0 0]) ?_ 2 _ rfl; (with_reducible repeat (first | refine blk_drewN ?_ _ | refine blk_drew ?_ | refine blk_alloc ?_ _)); refine blk_put (cs := #[.int .i64 ((rd_T72 ((rd_T45 l0_1 x24_1).f3) x61_3).f0), .int .i64 0, .int .i64 0, .int .i64 0, .string (⟨#[]⟩ : ByteArray), .slice none 0 0]) ?_ 1 _ rfl; (with_reducible repeat (first | refine blk_drewN ?_ _ | refine blk_drew ?_ | refine blk_alloc ?_ _)); refine blk_put (cs := #[.int .i64 0, .int .i64 0, .int .i64 0, .int .i64 0, .string (⟨#[]⟩ : ByteArray), .slice none 0 0]) ?_ 0 _ rfl; (with_reducible repeat (first | refine blk_drewN ?_ _ | refine blk_drew ?_ | refine blk_alloc ?_ _)); exact BK141.out) hb); have n3_ := Aside0.mk (below_step (by repeat (first | (with_reducible first | exact HB.out | apply below_alloc | apply pw_below_drewN | apply below_drew1 | refine below_set ?_ GE135.out | refine below_set ?_ GE137.out | refine below_set ?_ GE141.out) | exact HB.out)) hb); clear BK135; clear BK137; clear BK141; clear HB; have BK135 := n0_; have BK137 := n1_; have BK141 := n2_; have HB := n3_; clear n0_ n1_ n2_ n3_; (try clear hb); (try clear hb2); (try clear hk); (try clear hi)))
                                go_ret
                                exact ⟨by first | rfl | (simp [errW_none, errW_some] <;> rfl) | (simp [*, errW_none, errW_some] <;> rfl), by repeat (first | (with_reducible first | exact HB.out | apply below_alloc | apply pw_below_drewN | apply below_drew1 | refine below_set ?_ GE135.out | refine below_set ?_ GE137.out | refine below_set ?_ GE141.out) | exact HB.out)⟩
                              · replace c26 := Bool.eq_false_iff.mpr c26
                                subst c26
                                have H1 : (mortmainref09_Great.l2 k3 x3_2 l0_1 (l0_1.length : Int) x24_1 ((rd_T45 l0_1 x24_1).f3) (((rd_T45 l0_1 x24_1).f3).length : Int) (wrap64 (x61_3 + 1)) a0_0 l0_1 l0_2) = some r := by rw [if_neg (show ¬ (false = true) by decide)] at H; exact H
                                clear H
                                have H := H1
                                clear H1
                                have H' := Aside0.mk H
                                clear H
                                have p140 : 0 ≤ (x61_3 : Int) := of_decide_eq_true (by first | (with_reducible assumption) | assumption)
                                have q140 : x61_3 < (((rd_T45 l0_1 x24_1).f3).length : Int) := of_decide_eq_true (by first | (with_reducible assumption) | assumption)
                                obtain ⟨ad140, A140_5, c140_5, e140, hx140_0, hx140_1, hx140_2, hx140_3, hx140_4, hx140_5, hl140_5, hi140_5⟩ := at_T72 HR136_3.out x61_3 p140 q140
                                cases e140
                                replace hx140_0 := (HB.out.cell (World.block_lt_of_cell? w _ hx140_0)).trans hx140_0
                                replace hx140_1 := (HB.out.cell (World.block_lt_of_cell? w _ hx140_1)).trans hx140_1
                                replace hx140_2 := (HB.out.cell (World.block_lt_of_cell? w _ hx140_2)).trans hx140_2
                                replace hx140_3 := (HB.out.cell (World.block_lt_of_cell? w _ hx140_3)).trans hx140_3
                                replace hx140_4 := (HB.out.cell (World.block_lt_of_cell? w _ hx140_4)).trans hx140_4
                                replace hx140_5 := (HB.out.cell (World.block_lt_of_cell? w _ hx140_5)).trans hx140_5
                                have HR140_5 := Aside0.mk hi140_5
                                have HC140_5 := Aside0.mk hl140_5
                                clear hi140_5 hl140_5
                                replace p140 := eq_true p140
                                replace q140 := eq_true q140
                                go_wp2_with (first | ((with_reducible refine gate_dst (N := 9) rfl ?_); refine box_event ?hg (N := 9) ?hd (cs := #[.int .i64 0, .int .i64 0, .int .i64 0, .int .i64 0, .string (⟨#[]⟩ : ByteArray), .slice none 0 0]) (t := 72) ?hr ?_; (case hd => rfl); (case hg => rfl); (case hr => first | (go_simp; done) | (go_simp; rfl)); intro gb141 hg w32 hbox hb; have n0_ := Aside0.mk (blk_below (g := gb135) (o := .cells #[.int .i64 a0_0, .slice (some ad136) l0_1.length c0_1, .slice A0_2 l0_2.length c0_2] 25 (0, 0)) (by (with_reducible repeat (first | refine blk_drewN ?_ _ | refine blk_drew ?_ | refine blk_alloc ?_ _)); exact BK135.out) hb); have n1_ := Aside0.mk (blk_below (g := gb137) (o := .cells #[.string ((rd_T45 l0_1 x24_1).f0), .int .i64 ((rd_T45 l0_1 x24_1).f1), .slice A136_2 ((rd_T45 l0_1 x24_1).f2).length c136_2, .slice (some ad140) ((rd_T45 l0_1 x24_1).f3).length c136_3] 45 (0, 0)) (by (with_reducible repeat (first | refine blk_drewN ?_ _ | refine blk_drew ?_ | refine blk_alloc ?_ _)); exact BK137.out) hb); have n2_ := Aside0.mk (below_step (by repeat (first | (with_reducible first | exact HB.out | apply below_alloc | apply pw_below_drewN | apply below_drew1 | refine below_set ?_ GE135.out | refine below_set ?_ GE137.out) | exact HB.out)) hb); have n3_ := Aside0.mk (hbox); have n4_ := Aside0.mk ((by rw [hg]; exact (below_size (by repeat (first | (with_reducible first | exact HB.out | apply below_alloc | apply pw_below_drewN | apply below_drew1 | refine below_set ?_ GE135.out | refine below_set ?_ GE137.out) | exact HB.out))) : w.heap.size ≤ gb141)); have n5_ := Aside0.mk ((by rw [hg]; exact (below_size (by repeat (first | (with_reducible first | exact HB.out | apply below_alloc | apply pw_below_drewN | apply below_drew1 | refine below_set ?_ GE135.out | refine below_set ?_ GE137.out) | exact HB.out))) : w.heap.size ≤ gb141)); have n6_ := Aside0.mk ((by rw [hg]; exact Nat.ne_of_lt (blk_lt (g := gb135) (o := .cells #[.int .i64 a0_0, .slice (some ad136) l0_1.length c0_1, .slice A0_2 l0_2.length c0_2] 25 (0, 0)) (by (with_reducible repeat (first | refine blk_drewN ?_ _ | refine blk_drew ?_ | refine blk_alloc ?_ _)); exact BK135.out)) : gb135 ≠ gb141)); have n7_ := Aside0.mk ((by rw [hg]; exact Nat.ne_of_gt (blk_lt (g := gb135) (o := .cells #[.int .i64 a0_0, .slice (some ad136) l0_1.length c0_1, .slice A0_2 l0_2.length c0_2] 25 (0, 0)) (by (with_reducible repeat (first | refine blk_drewN ?_ _ | refine blk_drew ?_ | refine blk_alloc ?_ _)); exact BK135.out)) : gb141 ≠ gb135)); have n8_ := Aside0.mk ((by rw [hg]; exact Nat.ne_of_lt (blk_lt (g := gb137) (o := .cells #[.string ((rd_T45 l0_1 x24_1).f0), .int .i64 ((rd_T45 l0_1 x24_1).f1), .slice A136_2 ((rd_T45 l0_1 x24_1).f2).length c136_2, .slice (some ad140) ((rd_T45 l0_1 x24_1).f3).length c136_3] 45 (0, 0)) (by (with_reducible repeat (first | refine blk_drewN ?_ _ | refine blk_drew ?_ | refine blk_alloc ?_ _)); exact BK137.out)) : gb137 ≠ gb141)); have n9_ := Aside0.mk ((by rw [hg]; exact Nat.ne_of_gt (blk_lt (g := gb137) (o := .cells #[.string ((rd_T45 l0_1 x24_1).f0), .int .i64 ((rd_T45 l0_1 x24_1).f1), .slice A136_2 ((rd_T45 l0_1 x24_1).f2).length c136_2, .slice (some ad140) ((rd_T45 l0_1 x24_1).f3).length c136_3] 45 (0, 0)) (by (with_reducible repeat (first | refine blk_drewN ?_ _ | refine blk_drew ?_ | refine blk_alloc ?_ _)); exact BK137.out)) : gb141 ≠ gb137)); clear BK135; clear BK137; clear HB; have BK135 := n0_; have BK137 := n1_; have HB := n2_; have BK141 := n3_; have GW141 := n4_; have GE141 := n5_; have NB135_141 := n6_; have NB141_135 := n7_; have NB137_141 := n8_; have NB141_137 := n9_; clear n0_ n1_ n2_ n3_ n4_ n5_ n6_ n7_ n8_ n9_; clear hb hbox hg; have hnb33 := NB141_135.out; have hnc33 := NB135_141.out; have hnb34 := NB141_137.out; have hnc34 := NB137_141.out; have hcz35_0 : w32.cell? ⟨gb141, 0, none⟩ = some (.int .i64 0) := (blk_cell BK141.out 0).trans rfl; have hcz35_1 : w32.cell? ⟨gb141, 1, none⟩ = some (.int .i64 0) := (blk_cell BK141.out 1).trans rfl; have hcz35_2 : w32.cell? ⟨gb141, 2, none⟩ = some (.int .i64 0) := (blk_cell BK141.out 2).trans rfl; have hcz35_3 : w32.cell? ⟨gb141, 3, none⟩ = some (.int .i64 0) := (blk_cell BK141.out 3).trans rfl; have hcz35_4 : w32.cell? ⟨gb141, 4, none⟩ = some (.string (⟨#[]⟩ : ByteArray)) := (blk_cell BK141.out 4).trans rfl; have hcz35_5 : w32.cell? ⟨gb141, 5, none⟩ = some (.slice none 0 0) := (blk_cell BK141.out 5).trans rfl; have hfz35_0 := blk_frozen BK141.out 0; have hfz35_1 := blk_frozen BK141.out 1; have hfz35_2 := blk_frozen BK141.out 2; have hfz35_3 := blk_frozen BK141.out 3; have hfz35_4 := blk_frozen BK141.out 4; have hfz35_5 := blk_frozen BK141.out 5) | ((with_reducible refine gate_callee (f := 45) rfl ?_); refine goesL_ (some 66) rfl rfl Tryd.func45 (by kernel_rfl) rfl #[.agg #[.int .i64 ((rd_T72 ((rd_T45 l0_1 x24_1).f3) x61_3).f0), .int .i64 ((rd_T72 ((rd_T45 l0_1 x24_1).f3) x61_3).f1), .int .i64 ((rd_T72 ((rd_T45 l0_1 x24_1).f3) x61_3).f2.f0), .int .i64 ((rd_T72 ((rd_T45 l0_1 x24_1).f3) x61_3).f2.f1), .string ((rd_T72 ((rd_T45 l0_1 x24_1).f3) x61_3).f2.f2), .slice A140_5 ((rd_T72 ((rd_T45 l0_1 x24_1).f3) x61_3).f3).length c140_5]] rfl (by (try simp only [List.map_toArray, List.map_cons, List.map_nil]); first | done | rfl | (simp only [List.length_drop, List.length_take]; rfl)) ?_; (with_reducible refine (mortmainref08_Great.calls k3 ((rd_T72 ((rd_T45 l0_1 x24_1).f3) x61_3).f0) ((rd_T72 ((rd_T45 l0_1 x24_1).f3) x61_3).f1) ((rd_T72 ((rd_T45 l0_1 x24_1).f3) x61_3).f2.f0) ((rd_T72 ((rd_T45 l0_1 x24_1).f3) x61_3).f2.f1) ((rd_T72 ((rd_T45 l0_1 x24_1).f3) x61_3).f2.f2) _ _ ((rd_T72 ((rd_T45 l0_1 x24_1).f3) x61_3).f3) false _ ?side1 ?side2 A25.out).mono ?_); (case side1 => exact Kd.C_below HR140_5.out (by repeat (first | (with_reducible first | exact HB.out | apply below_alloc | apply pw_below_drewN | apply below_drew1 | refine below_set ?_ GE135.out | refine below_set ?_ GE137.out | refine below_set ?_ GE141.out) | exact HB.out))); (case side2 => exact HC140_5.out); rintro e w36 ⟨rfl, hb⟩; refine ⟨_, rfl, ?_⟩; have n0_ := Aside0.mk (blk_below (g := gb135) (o := .cells #[.int .i64 a0_0, .slice (some ad136) l0_1.length c0_1, .slice A0_2 l0_2.length c0_2] 25 (0, 0)) (by (with_reducible repeat (first | refine blk_drewN ?_ _ | refine blk_drew ?_ | refine blk_alloc ?_ _)); refine blk_far ?_ NB135_141.out _; (with_reducible repeat (first | refine blk_drewN ?_ _ | refine blk_drew ?_ | refine blk_alloc ?_ _)); refine blk_far ?_ NB135_141.out _; (with_reducible repeat (first | refine blk_drewN ?_ _ | refine blk_drew ?_ | refine blk_alloc ?_ _)); refine blk_far ?_ NB135_141.out _; (with_reducible repeat (first | refine blk_drewN ?_ _ | refine blk_drew ?_ | refine blk_alloc ?_ _)); refine blk_far ?_ NB135_141.out _; (with_reducible repeat (first | refine blk_drewN ?_ _ | refine blk_drew ?_ | refine blk_alloc ?_ _)); refine blk_far ?_ NB135_141.out _; (with_reducible repeat (first | refine blk_drewN ?_ _ | refine blk_drew ?_ | refine blk_alloc ?_ _)); refine blk_far ?_ NB135_141.out _; (with_reducible repeat (first | refine blk_drewN ?_ _ | refine blk_drew ?_ | refine blk_alloc ?_ _)); exact BK135.out) hb); have n1_ := Aside0.mk (blk_below (g := gb137) (o := .cells #[.string ((rd_T45 l0_1 x24_1).f0), .int .i64 ((rd_T45 l0_1 x24_1).f1), .slice A136_2 ((rd_T45 l0_1 x24_1).f2).length c136_2, .slice (some ad140) ((rd_T45 l0_1 x24_1).f3).length c136_3] 45 (0, 0)) (by (with_reducible repeat (first | refine blk_drewN ?_ _ | refine blk_drew ?_ | refine blk_alloc ?_ _)); refine blk_far ?_ NB137_141.out _; (with_reducible repeat (first | refine blk_drewN ?_ _ | refine blk_drew ?_ | refine blk_alloc ?_ _)); refine blk_far ?_ NB137_141.out _; (with_reducible repeat (first | refine blk_drewN ?_ _ | refine blk_drew ?_ | refine blk_alloc ?_ _)); refine blk_far ?_ NB137_141.out _; (with_reducible repeat (first | refine blk_drewN ?_ _ | refine blk_drew ?_ | refine blk_alloc ?_ _)); refine blk_far ?_ NB137_141.out _; (with_reducible repeat (first | refine blk_drewN ?_ _ | refine blk_drew ?_ | refine blk_alloc ?_ _)); refine blk_far ?_ NB137_141.out _; (with_reducible repeat (first | refine blk_drewN ?_ _ | refine blk_drew ?_ | refine blk_alloc ?_ _)); refine blk_far ?_ NB137_141.out _; (with_reducible repeat (first | refine blk_drewN ?_ _ | refine blk_drew ?_ | refine blk_alloc ?_ _)); exact BK137.out) hb); have n2_ := Aside0.mk (blk_below (g := gb141) (o := .cells #[.int .i64 ((rd_T72 ((rd_T45 l0_1 x24_1).f3) x61_3).f0), .int .i64 ((rd_T72 ((rd_T45 l0_1 x24_1).f3) x61_3).f1), .int .i64 ((rd_T72 ((rd_T45 l0_1 x24_1).f3) x61_3).f2.f0), .int .i64 ((rd_T72 ((rd_T45 l0_1 x24_1).f3) x61_3).f2.f1), .string ((rd_T72 ((rd_T45 l0_1 x24_1).f3) x61_3).f2.f2), .slice A140_5 ((rd_T72 ((rd_T45 l0_1 x24_1).f3) x61_3).f3).length c140_5] 72 (0, 0)) (by (with_reducible repeat (first | refine blk_drewN ?_ _ | refine blk_drew ?_ | refine blk_alloc ?_ _)); refine blk_put (cs := #[.int .i64 ((rd_T72 ((rd_T45 l0_1 x24_1).f3) x61_3).f0), .int .i64 ((rd_T72 ((rd_T45 l0_1 x24_1).f3) x61_3).f1), .int .i64 ((rd_T72 ((rd_T45 l0_1 x24_1).f3) x61_3).f2.f0), .int .i64 ((rd_T72 ((rd_T45 l0_1 x24_1).f3) x61_3).f2.f1), .string ((rd_T72 ((rd_T45 l0_1 x24_1).f3) x61_3).f2.f2), .slice none 0 0]) ?_ 5 _ rfl; (with_reducible repeat (first | refine blk_drewN ?_ _ | refine blk_drew ?_ | refine blk_alloc ?_ _)); refine blk_put (cs := #[.int .i64 ((rd_T72 ((rd_T45 l0_1 x24_1).f3) x61_3).f0), .int .i64 ((rd_T72 ((rd_T45 l0_1 x24_1).f3) x61_3).f1), .int .i64 ((rd_T72 ((rd_T45 l0_1 x24_1).f3) x61_3).f2.f0), .int .i64 ((rd_T72 ((rd_T45 l0_1 x24_1).f3) x61_3).f2.f1), .string (⟨#[]⟩ : ByteArray), .slice none 0 0]) ?_ 4 _ rfl; (with_reducible repeat (first | refine blk_drewN ?_ _ | refine blk_drew ?_ | refine blk_alloc ?_ _)); refine blk_put (cs := #[.int .i64 ((rd_T72 ((rd_T45 l0_1 x24_1).f3) x61_3).f0), .int .i64 ((rd_T72 ((rd_T45 l0_1 x24_1).f3) x61_3).f1), .int .i64 ((rd_T72 ((rd_T45 l0_1 x24_1).f3) x61_3).f2.f0), .int .i64 0, .string (⟨#[]⟩ : ByteArray), .slice none 0 0]) ?_ 3 _ rfl; (with_reducible repeat (first | refine blk_drewN ?_ _ | refine blk_drew ?_ | refine blk_alloc ?_ _)); refine blk_put (cs := #[.int .i64 ((rd_T72 ((rd_T45 l0_1 x24_1).f3) x61_3).f0), .int .i64 ((rd_T72 ((rd_T45 l0_1 x24_1).f3) x61_3).f1), .int .i64 0, .int .i64 0, .string (⟨#[]⟩ : ByteArray), .slice none 0 0]) ?_ 2 _ rfl; (with_reducible repeat (first | refine blk_drewN ?_ _ | refine blk_drew ?_ | refine blk_alloc ?_ _)); refine blk_put (cs := #[.int .i64 ((rd_T72 ((rd_T45 l0_1 x24_1).f3) x61_3).f0), .int .i64 0, .int .i64 0, .int .i64 0, .string (⟨#[]⟩ : ByteArray), .slice none 0 0]) ?_ 1 _ rfl; (with_reducible repeat (first | refine blk_drewN ?_ _ | refine blk_drew ?_ | refine blk_alloc ?_ _)); refine blk_put (cs := #[.int .i64 0, .int .i64 0, .int .i64 0, .int .i64 0, .string (⟨#[]⟩ : ByteArray), .slice none 0 0]) ?_ 0 _ rfl; (with_reducible repeat (first | refine blk_drewN ?_ _ | refine blk_drew ?_ | refine blk_alloc ?_ _)); exact BK141.out) hb); have n3_ := Aside0.mk (below_step (by repeat (first | (with_reducible first | exact HB.out | apply below_alloc | apply pw_below_drewN | apply below_drew1 | refine below_set ?_ GE135.out | refine below_set ?_ GE137.out | refine below_set ?_ GE141.out) | exact HB.out)) hb); clear BK135; clear BK137; clear BK141; clear HB; have BK135 := n0_; have BK137 := n1_; have BK141 := n2_; have HB := n3_; clear n0_ n1_ n2_ n3_; (try clear hb); (try clear hb2); (try clear hk); (try clear hi)))
                                go_roundg k3
                                case measure => have := HK1.out; have := HK2.out; have := HK3.out; omega
                                case rel => exact ⟨(wrap64 (x61_3 + 1)), (by first | rfl | (simp; done) | (simp [*]; done)), H', ⟨by have := HK1.out; have := HK2.out; have := HK3.out; omega⟩, ⟨by (with_reducible repeat (first | refine blk_drewN ?_ _ | refine blk_drew ?_ | refine blk_alloc ?_ _)); exact BK135.out⟩, ⟨by (with_reducible repeat (first | refine blk_drewN ?_ _ | refine blk_drew ?_ | refine blk_alloc ?_ _)); exact BK137.out⟩, ⟨by repeat (first | (with_reducible first | exact HB.out | apply below_alloc | apply pw_below_drewN | apply below_drew1 | refine below_set ?_ GE135.out | refine below_set ?_ GE137.out | refine below_set ?_ GE141.out) | exact HB.out)⟩⟩
                            · rw [if_neg c24] at H
                              exact absurd H (by simp)
                          · rw [if_neg c23] at H
                            exact absurd H (by simp)
                        · rw [if_neg c22] at H
                          have c22b0 : decide (x61_3 < (((rd_T45 l0_1 x24_1).f3).length : Int)) = false := decide_eq_false c22
                          clear c22
                          by_cases c37 : x3_2 > 3000
                          · rw [if_pos c37] at H
                            have c37b0 : decide (3000 < x3_2) = true := decide_eq_true c37
                            clear c37
                            obtain rfl := Option.some.inj H
                            go_wp2
                            go_ret
                            exact ⟨by first | rfl | (simp [errW_none, errW_some] <;> rfl) | (simp [*, errW_none, errW_some] <;> rfl), by repeat (first | (with_reducible first | exact HB.out | apply below_alloc | apply pw_below_drewN | apply below_drew1 | refine below_set ?_ GE135.out | refine below_set ?_ GE137.out) | exact HB.out)⟩
                          · rw [if_neg c37] at H
                            have c37b0 : decide (3000 < x3_2) = false := decide_eq_false c37
                            clear c37
                            have H' := Aside0.mk H
                            clear H
                            go_wp2
                            go_roundg k3
                            case measure => have := HK1.out; have := HK2.out; have := HK3.out; omega
                            case rel => exact ⟨(x3_2), (wrap64 (x24_1 + 1)), (by first | rfl | (simp; done) | (simp [*]; done)), (by first | rfl | (simp; done) | (simp [*]; done)), H', ⟨by have := HK1.out; have := HK2.out; have := HK3.out; omega⟩, ⟨by (with_reducible repeat (first | refine blk_drewN ?_ _ | refine blk_drew ?_ | refine blk_alloc ?_ _)); exact BK135.out⟩, ⟨by repeat (first | (with_reducible first | exact HB.out | apply below_alloc | apply pw_below_drewN | apply below_drew1 | refine below_set ?_ GE135.out | refine below_set ?_ GE137.out) | exact HB.out)⟩⟩
            · rw [if_neg c9] at H
              exact absurd H (by simp)
          · rw [if_neg c8] at H
            exact absurd H (by simp)
        · rw [if_neg c7] at H
          have c7b0 : decide (x24_1 < (l0_1.length : Int)) = false := decide_eq_false c7
          clear c7
          have H' := Aside0.mk H
          clear H
          have hcz38_0 : wr.cell? ⟨gb135, 0, none⟩ = some (.int .i64 a0_0) := (blk_cell BK135.out 0).trans rfl
          have hcz38_1 : wr.cell? ⟨gb135, 1, none⟩ = some (.slice A0_1 l0_1.length c0_1) := (blk_cell BK135.out 1).trans rfl
          have hcz38_2 : wr.cell? ⟨gb135, 2, none⟩ = some (.slice A0_2 l0_2.length c0_2) := (blk_cell BK135.out 2).trans rfl
          have hfz38_0 := blk_frozen BK135.out 0
          have hfz38_1 := blk_frozen BK135.out 1
          have hfz38_2 := blk_frozen BK135.out 2
          go_wp2
          go_loopg [3, 74] k1 (fun kq v3 v74 w' => ∃ (x3_2 : Int) (x74_2 : Int), v3 = .int .i64 x3_2 ∧ v74 = .int .i64 x74_2 ∧ Aside0 (mortmainref09_Great.l3 kq x3_2 l0_2 (l0_2.length : Int) x74_2 = some r) ∧ Aside0 (kq ≤ k1) ∧ Aside0 (w'.heap[gb135]? = some (.cells #[.int .i64 a0_0, (.slice A0_1 l0_1.length c0_1), (.slice A0_2 l0_2.length c0_2)] 25 (0, 0))) ∧ Aside0 (Below w.heap.size w w'))
          case atStart => exact ⟨(x3_1), (0), (by first | rfl | (simp; done) | (simp [*]; done)), (by first | rfl | (simp; done) | (simp [*]; done)), H', ⟨Nat.le_refl _⟩, ⟨by (with_reducible repeat (first | refine blk_drewN ?_ _ | refine blk_drew ?_ | refine blk_alloc ?_ _)); exact BK135.out⟩, ⟨by repeat (first | (with_reducible first | exact HB.out | apply below_alloc | apply pw_below_drewN | apply below_drew1 | refine below_set ?_ GE135.out) | exact HB.out)⟩⟩
          case round =>
            clear H'
            try clear c1
            try clear p1
            try clear q1
            try clear hx1
            try clear c2
            try clear c2b0
            try clear p2
            try clear c3
            try clear c4
            try clear p6
            try clear c7
            try clear c7b0
            try clear c8
            try clear c8b0
            try clear c9
            try clear c9b0
            try clear c11
            try clear c13
            try clear c13b0
            try clear p13
            try clear q13
            try clear hx13
            try clear c14
            try clear c14b0
            try clear p14
            try clear q14
            try clear hx14
            try clear c15
            try clear c15b0
            try clear c17
            try clear c18
            try clear c20
            try clear c22
            try clear c22b0
            try clear c23
            try clear c23b0
            try clear c24
            try clear c24b0
            try clear c26
            try clear c28
            try clear c29
            try clear c33
            try clear c34
            try clear c37
            try clear c37b0
            try clear hcz12_0
            try clear hcz12_1
            try clear hcz12_2
            try clear hcz12_3
            try clear hcz19_0
            try clear hcz19_1
            try clear hcz19_2
            try clear hcz19_3
            try clear hcz19_4
            try clear hcz19_5
            try clear hcz21_0
            try clear hcz21_1
            try clear hcz21_2
            try clear hcz21_3
            try clear hcz30_0
            try clear hcz30_1
            try clear hcz30_2
            try clear hcz30_3
            try clear hcz30_4
            try clear hcz30_5
            try clear hcz35_0
            try clear hcz35_1
            try clear hcz35_2
            try clear hcz35_3
            try clear hcz35_4
            try clear hcz35_5
            try clear hcz38_0
            try clear hcz38_1
            try clear hcz38_2
            try clear hcz4_0
            try clear hcz4_1
            try clear hcz4_2
            try clear hcz6_0
            try clear hcz6_1
            try clear hcz6_2
            try clear hfz12_0
            try clear hfz12_1
            try clear hfz12_2
            try clear hfz12_3
            try clear hfz19_0
            try clear hfz19_1
            try clear hfz19_2
            try clear hfz19_3
            try clear hfz19_4
            try clear hfz19_5
            try clear hfz21_0
            try clear hfz21_1
            try clear hfz21_2
            try clear hfz21_3
            try clear hfz30_0
            try clear hfz30_1
            try clear hfz30_2
            try clear hfz30_3
            try clear hfz30_4
            try clear hfz30_5
            try clear hfz35_0
            try clear hfz35_1
            try clear hfz35_2
            try clear hfz35_3
            try clear hfz35_4
            try clear hfz35_5
            try clear hfz38_0
            try clear hfz38_1
            try clear hfz38_2
            try clear hfz4_0
            try clear hfz4_1
            try clear hfz4_2
            try clear hfz6_0
            try clear hfz6_1
            try clear hfz6_2
            try clear hx136_0
            try clear hx136_1
            try clear hx136_2
            try clear hx136_3
            try clear hx138_0
            try clear hx138_1
            try clear hx138_2
            try clear hx138_3
            try clear hx138_4
            try clear hx138_5
            try clear hx140_0
            try clear hx140_1
            try clear hx140_2
            try clear hx140_3
            try clear hx140_4
            try clear hx140_5
            try clear p1
            try clear p13
            try clear p136
            try clear p138
            try clear p140
            try clear p2
            try clear p6
            try clear q1
            try clear q13
            try clear q136
            try clear q138
            try clear q140
            obtain ⟨x3_2, x74_2, rfl, rfl, HA, HK2, BK135, HB⟩ := hrel
            cases gk with
            | zero => exact absurd HA.out (by simp [mortmainref09_Great.l3])
            | succ k2 =>
              have H := HA.out
              clear HA
              simp only [mortmainref09_Great.l3] at H
              by_cases c39 : x74_2 < (l0_2.length : Int)
              · rw [if_pos c39] at H
                have c39b0 : decide (x74_2 < (l0_2.length : Int)) = true := decide_eq_true c39
                clear c39
                by_cases c40 : 0 ≤ x74_2
                · rw [if_pos c40] at H
                  have c40b0 : decide (0 ≤ x74_2) = true := decide_eq_true c40
                  clear c40
                  by_cases c41 : x74_2 < (l0_2.length : Int)
                  · rw [if_pos c41] at H
                    have c41b0 : decide (x74_2 < (l0_2.length : Int)) = true := decide_eq_true c41
                    clear c41
                    have H' := Aside0.mk H
                    clear H
                    have p143 : 0 ≤ (x74_2 : Int) := of_decide_eq_true (by first | (with_reducible assumption) | assumption)
                    have q143 : x74_2 < (l0_2.length : Int) := of_decide_eq_true (by first | (with_reducible assumption) | assumption)
                    obtain ⟨ad143, e143, hx143_0, hx143_1, hx143_2⟩ := at_T27 HR0_2.out x74_2 p143 q143
                    cases e143
                    replace hx143_0 := (HB.out.cell (World.block_lt_of_cell? w _ hx143_0)).trans hx143_0
                    replace hx143_1 := (HB.out.cell (World.block_lt_of_cell? w _ hx143_1)).trans hx143_1
                    replace hx143_2 := (HB.out.cell (World.block_lt_of_cell? w _ hx143_2)).trans hx143_2
                    replace p143 := eq_true p143
                    replace q143 := eq_true q143
                    go_wp2_with (first | ((with_reducible refine gate_dst (N := 11) rfl ?_); refine box_event ?hg (N := 11) ?hd (cs := #[.int .i64 0, .string (⟨#[]⟩ : ByteArray), .int .i64 0]) (t := 27) ?hr ?_; (case hd => rfl); (case hg => rfl); (case hr => first | (go_simp; done) | (go_simp; rfl)); intro gb144 hg w42 hbox hb; have n0_ := Aside0.mk (blk_below (g := gb135) (o := .cells #[.int .i64 a0_0, .slice A0_1 l0_1.length c0_1, .slice (some ad143) l0_2.length c0_2] 25 (0, 0)) (by (with_reducible repeat (first | refine blk_drewN ?_ _ | refine blk_drew ?_ | refine blk_alloc ?_ _)); exact BK135.out) hb); have n1_ := Aside0.mk (below_step (by repeat (first | (with_reducible first | exact HB.out | apply below_alloc | apply pw_below_drewN | apply below_drew1 | refine below_set ?_ GE135.out) | exact HB.out)) hb); have n2_ := Aside0.mk (hbox); have n3_ := Aside0.mk ((by rw [hg]; exact (below_size (by repeat (first | (with_reducible first | exact HB.out | apply below_alloc | apply pw_below_drewN | apply below_drew1 | refine below_set ?_ GE135.out) | exact HB.out))) : w.heap.size ≤ gb144)); have n4_ := Aside0.mk ((by rw [hg]; exact (below_size (by repeat (first | (with_reducible first | exact HB.out | apply below_alloc | apply pw_below_drewN | apply below_drew1 | refine below_set ?_ GE135.out) | exact HB.out))) : w.heap.size ≤ gb144)); have n5_ := Aside0.mk ((by rw [hg]; exact Nat.ne_of_lt (blk_lt (g := gb135) (o := .cells #[.int .i64 a0_0, .slice A0_1 l0_1.length c0_1, .slice (some ad143) l0_2.length c0_2] 25 (0, 0)) (by (with_reducible repeat (first | refine blk_drewN ?_ _ | refine blk_drew ?_ | refine blk_alloc ?_ _)); exact BK135.out)) : gb135 ≠ gb144)); have n6_ := Aside0.mk ((by rw [hg]; exact Nat.ne_of_gt (blk_lt (g := gb135) (o := .cells #[.int .i64 a0_0, .slice A0_1 l0_1.length c0_1, .slice (some ad143) l0_2.length c0_2] 25 (0, 0)) (by (with_reducible repeat (first | refine blk_drewN ?_ _ | refine blk_drew ?_ | refine blk_alloc ?_ _)); exact BK135.out)) : gb144 ≠ gb135)); clear BK135; clear HB; have BK135 := n0_; have HB := n1_; have BK144 := n2_; have GW144 := n3_; have GE144 := n4_; have NB135_144 := n5_; have NB144_135 := n6_; clear n0_ n1_ n2_ n3_ n4_ n5_ n6_; clear hb hbox hg; have hnb43 := NB144_135.out; have hnc43 := NB135_144.out; have hcz44_0 : w42.cell? ⟨gb144, 0, none⟩ = some (.int .i64 0) := (blk_cell BK144.out 0).trans rfl; have hcz44_1 : w42.cell? ⟨gb144, 1, none⟩ = some (.string (⟨#[]⟩ : ByteArray)) := (blk_cell BK144.out 1).trans rfl; have hcz44_2 : w42.cell? ⟨gb144, 2, none⟩ = some (.int .i64 0) := (blk_cell BK144.out 2).trans rfl; have hfz44_0 := blk_frozen BK144.out 0; have hfz44_1 := blk_frozen BK144.out 1; have hfz44_2 := blk_frozen BK144.out 2))
                    go_roundg k2
                    case measure => have := HK1.out; have := HK2.out; omega
                    case rel => exact ⟨(wrap64 (x3_2 + (((rd_T27 l0_2 x74_2).f1).size : Int))), (wrap64 (x74_2 + 1)), (by first | rfl | (simp; done) | (simp [*]; done)), (by first | rfl | (simp; done) | (simp [*]; done)), H', ⟨by have := HK1.out; have := HK2.out; omega⟩, ⟨by (with_reducible repeat (first | refine blk_drewN ?_ _ | refine blk_drew ?_ | refine blk_alloc ?_ _)); refine blk_far ?_ NB135_144.out _; (with_reducible repeat (first | refine blk_drewN ?_ _ | refine blk_drew ?_ | refine blk_alloc ?_ _)); refine blk_far ?_ NB135_144.out _; (with_reducible repeat (first | refine blk_drewN ?_ _ | refine blk_drew ?_ | refine blk_alloc ?_ _)); refine blk_far ?_ NB135_144.out _; (with_reducible repeat (first | refine blk_drewN ?_ _ | refine blk_drew ?_ | refine blk_alloc ?_ _)); exact BK135.out⟩, ⟨by repeat (first | (with_reducible first | exact HB.out | apply below_alloc | apply pw_below_drewN | apply below_drew1 | refine below_set ?_ GE135.out | refine below_set ?_ GE144.out) | exact HB.out)⟩⟩
                  · rw [if_neg c41] at H
                    exact absurd H (by simp)
                · rw [if_neg c40] at H
                  exact absurd H (by simp)
              · rw [if_neg c39] at H
                have c39b0 : decide (x74_2 < (l0_2.length : Int)) = false := decide_eq_false c39
                clear c39
                obtain rfl := Option.some.inj H
                go_wp2
                go_ret
                exact ⟨by first | rfl | (simp [errW_none, errW_some] <;> rfl) | (simp [*, errW_none, errW_some] <;> rfl), by repeat (first | (with_reducible first | exact HB.out | apply below_alloc | apply pw_below_drewN | apply below_drew1 | refine below_set ?_ GE135.out) | exact HB.out)⟩

end Go.Proofs.YtefdfgmlmjnmlaaDoor.Rf
end

section
/- The reference Great ends, of every schema that is read. -/
namespace Go.Proofs.YtefdfgmlmjnmlaaDoor.My
open Go.RowKit Go.Proofs.YtefdfgmlmjnmlaaDoorW.PrintWords Go.Proofs.YtefdfgmlmjnmlaaDoor.Rf

/-- An expression whose lists are no longer than can be. -/
inductive OkE : S72 → Prop
  | mk (e : S72) (hl : e.f3.length ≤ 9223372036854775807) (h : ∀ x, x ∈ e.f3 → OkE x) : OkE e
theorem OkE.len {e : S72} (h : OkE e) : e.f3.length ≤ 9223372036854775807 := by cases h; assumption
theorem OkE.sub {e x : S72} (h : OkE e) (hx : x ∈ e.f3) : OkE x := by cases h with | mk _ _ h => exact h x hx
theorem mem_getD {α : Type} {l : List α} {z : α} {i : Nat} (h : i < l.length) : l.getD i z ∈ l := by
  simp [List.getD, List.getElem?_eq_getElem h]
theorem rd72_nat (l : List S72) (i : Nat) : rd_T72 l (i : Int) = l.getD i z72 := rfl
theorem rd59_nat (l : List S59) (i : Nat) : rd_T59 l (i : Int) = l.getD i z59 := rfl

theorem C_each {α : Type} {d : Kd α} {w : World} {A : Option Addr} {n : Nat} {xs : List α} (h : d.C w A n xs) {x : α} (hx : x ∈ xs) : ∃ c, d.K w x c := by
  obtain ⟨i, hi, rfl⟩ := List.getElem_of_mem hx
  have hl := Kd.C_len h
  obtain ⟨ad, c, _, _, hK, _⟩ := Kd.C_get h xs[i] (i : Int) (by omega) (by omega)
  refine ⟨c, ?_⟩
  simpa [List.getD, List.getElem?_eq_getElem hi] using hK
theorem okE_upto {w : World} : ∀ n x cs, (Kd.upto F72 6 [72] n).K w x cs → OkE x := by
  intro n
  induction n with
  | zero => intro x cs h; exact h.elim
  | succ n ih =>
    intro x cs h
    obtain ⟨_, _, rfl, rfl, ⟨_, _, rfl, rfl, ⟨_, _, rfl, s2, ⟨A5, c5, rfl, l5, g5⟩⟩⟩⟩ := h
    refine OkE.mk x (Kd.C_max g5) (fun y hy => ?_)
    obtain ⟨c, hc⟩ := C_each g5 hy
    exact ih y c hc
theorem okE_of {w : World} {x : S72} {cs : List Value} (h : k72.K w x cs) : OkE x := by
  obtain ⟨n, h⟩ := h
  exact okE_upto n x cs h

structure OkT (t : S45) : Prop where
  cols : t.f2.length ≤ 9223372036854775807
  checks : t.f3.length ≤ 9223372036854775807
  each : ∀ x, x ∈ t.f3 → OkE x
theorem okT_of {w : World} {t : S45} {cs : List Value} (h : k45.K w t cs) : OkT t := by
  obtain ⟨A2, c2, A3, c3, rfl, l2, g2, l3, g3⟩ := k45_open h
  refine ⟨Kd.C_max g2, Kd.C_max g3, fun x hx => ?_⟩
  obtain ⟨c, hc⟩ := C_each g3 hx
  exact okE_of hc

theorem size_l0 (l : List S72) (hl : l.length ≤ 9223372036854775807) (h : ∀ x, x ∈ l → ∃ r, Ev (fun k => mortmainref08_Size.f k x.f0 x.f1 x.f2.f0 x.f2.f1 x.f2.f2 x.f3) r) : ∀ d i a b, i + d = l.length →
    ∃ r, Ev (fun k => mortmainref08_Size.l0 k a b l (l.length : Int) (i : Int)) r := by
  intro d
  induction d with
  | zero =>
    intro i a b hi
    exact ⟨_, Ev.step (f := fun _ => some (a, wrap64 (b + 1))) (fun k => by simp only [mortmainref08_Size.l0]; rw [if_neg (by omega)]) (Ev.now _)⟩
  | succ d ih =>
    intro i a b hi
    have hlt : i < l.length := by omega
    obtain ⟨r, hr⟩ := h _ (mem_getD (z := z72) hlt)
    obtain ⟨r', hr'⟩ := ih (i + 1) (wrap64 (a + r.1)) (mx b r.2) (by omega)
    refine ⟨r', Ev.step (fun k => ?_) (Ev.bind (f := fun k bt => mortmainref08_Size.l0 k (wrap64 (a + bt.1)) (mx b bt.2) l (l.length : Int) ((i + 1 : Nat) : Int)) hr hr')⟩
    simp only [mortmainref08_Size.l0]
    rw [if_pos (by omega), if_pos (by omega), if_pos (by omega), rd72_nat]
    simp only [wrap_next hlt hl]
theorem size_ev {e : S72} (h : OkE e) : ∃ r, Ev (fun k => mortmainref08_Size.f k e.f0 e.f1 e.f2.f0 e.f2.f1 e.f2.f2 e.f3) r := by
  induction h with
  | mk e hl _ ih =>
    obtain ⟨r, hr⟩ := size_l0 e.f3 hl ih e.f3.length 0 1 0 (by omega)
    exact ⟨r, Ev.step (fun k => by simp only [mortmainref08_Size.f]; rfl) hr⟩

theorem long_l0 (a b c d' : Int) (s : ByteArray) (q l : List S72) (hl : l.length ≤ 9223372036854775807) (h : ∀ x, x ∈ l → ∃ r, Ev (fun k => mortmainref08_long.f k x.f0 x.f1 x.f2.f0 x.f2.f1 x.f2.f2 x.f3) r) : ∀ d i, i + d = l.length →
    ∃ r, Ev (fun k => mortmainref08_long.l0 k l (l.length : Int) (i : Int) a b c d' s q) r := by
  intro d
  induction d with
  | zero =>
    intro i hi
    exact ⟨_, Ev.step (f := fun _ => some (decide ((s.size : Int) > 200))) (fun k => by simp only [mortmainref08_long.l0]; rw [if_neg (by omega)]) (Ev.now _)⟩
  | succ d ih =>
    intro i hi
    have hlt : i < l.length := by omega
    obtain ⟨r, hr⟩ := h _ (mem_getD (z := z72) hlt)
    obtain ⟨r', hr'⟩ := ih (i + 1) (by omega)
    have hstep : ∀ k, mortmainref08_long.l0 (k + 1) l (l.length : Int) (i : Int) a b c d' s q = (mortmainref08_long.f k (l.getD i z72).f0 (l.getD i z72).f1 (l.getD i z72).f2.f0 (l.getD i z72).f2.f1 (l.getD i z72).f2.f2 (l.getD i z72).f3).bind fun t => if t = true then some true else mortmainref08_long.l0 k l (l.length : Int) ((i + 1 : Nat) : Int) a b c d' s q := by
      intro k
      simp only [mortmainref08_long.l0]
      rw [if_pos (by omega), if_pos (by omega), if_pos (by omega), rd72_nat, wrap_next hlt hl]
    cases r with
    | true => exact ⟨true, Ev.step hstep (Ev.bind hr (Ev.now _))⟩
    | false => exact ⟨r', Ev.step hstep (Ev.bind hr (by simpa using hr'))⟩
theorem long_ev {e : S72} (h : OkE e) : ∃ r, Ev (fun k => mortmainref08_long.f k e.f0 e.f1 e.f2.f0 e.f2.f1 e.f2.f2 e.f3) r := by
  induction h with
  | mk e hl _ ih =>
    obtain ⟨r, hr⟩ := long_l0 e.f0 e.f1 e.f2.f0 e.f2.f1 e.f2.f2 e.f3 e.f3 hl ih e.f3.length 0 (by omega)
    exact ⟨r, Ev.step (fun k => by simp only [mortmainref08_long.f]; rfl) hr⟩
theorem great8_ev {e : S72} (h : OkE e) : ∃ r, Ev (fun k => mortmainref08_Great.f k e.f0 e.f1 e.f2.f0 e.f2.f1 e.f2.f2 e.f3) r := by
  obtain ⟨r, hr⟩ := size_ev h
  obtain ⟨r', hr'⟩ := long_ev h
  by_cases h1 : r.1 > 300
  · exact ⟨true, Ev.bind hr (by simpa [h1] using Ev.now true)⟩
  · by_cases h2 : r.2 > 60
    · exact ⟨true, Ev.bind hr (by simpa [h1, h2] using Ev.now true)⟩
    · exact ⟨r', Ev.bind hr (by simpa [h1, h2] using Ev.bind hr' (Ev.now r'))⟩

theorem great_l3 (gs : List S27) (hl : gs.length ≤ 9223372036854775807) : ∀ d i a, i + d = gs.length → ∃ r, Ev (fun k => mortmainref09_Great.l3 k a gs (gs.length : Int) (i : Int)) r := by
  intro d
  induction d with
  | zero =>
    intro i a hi
    exact ⟨_, Ev.step (f := fun _ => some (decide (a > 3000))) (fun k => by simp only [mortmainref09_Great.l3]; rw [if_neg (by omega)]) (Ev.now _)⟩
  | succ d ih =>
    intro i a hi
    have hlt : i < gs.length := by omega
    obtain ⟨r, hr⟩ := ih (i + 1) (wrap64 (a + ((rd_T27 gs (i : Int)).f1.size : Int))) (by omega)
    refine ⟨r, Ev.step (fun k => ?_) hr⟩
    simp only [mortmainref09_Great.l3]
    rw [if_pos (by omega), if_pos (by omega), if_pos (by omega), wrap_next hlt hl]

theorem great_l2 (ts : List S45) (n : Int) (i0 : Int) (v : Int) (q : List S45) (gs : List S27) (l : List S72) (hl : l.length ≤ 9223372036854775807) (h : ∀ x, x ∈ l → OkE x) (a : Int)
    (hnext : ∃ r, Ev (fun k => mortmainref09_Great.l0 k a ts n (wrap64 (i0 + 1)) v q gs) r) : ∀ d i, i + d = l.length →
    ∃ r, Ev (fun k => mortmainref09_Great.l2 k a ts n i0 l (l.length : Int) (i : Int) v q gs) r := by
  intro d
  induction d with
  | zero =>
    intro i hi
    by_cases h3 : a > 3000
    · exact ⟨_, Ev.step (f := fun _ => some true) (fun k => by simp only [mortmainref09_Great.l2]; rw [if_neg (by omega), if_pos h3]) (Ev.now _)⟩
    · obtain ⟨r, hr⟩ := hnext
      exact ⟨r, Ev.step (fun k => by simp only [mortmainref09_Great.l2]; rw [if_neg (by omega), if_neg h3]) hr⟩
  | succ d ih =>
    intro i hi
    have hlt : i < l.length := by omega
    obtain ⟨r, hr⟩ := great8_ev (h _ (mem_getD (z := z72) hlt))
    obtain ⟨r', hr'⟩ := ih (i + 1) (by omega)
    have hstep : ∀ k, mortmainref09_Great.l2 (k + 1) a ts n i0 l (l.length : Int) (i : Int) v q gs = (mortmainref08_Great.f k (l.getD i z72).f0 (l.getD i z72).f1 (l.getD i z72).f2.f0 (l.getD i z72).f2.f1 (l.getD i z72).f2.f2 (l.getD i z72).f3).bind fun t => if t = true then some true else mortmainref09_Great.l2 k a ts n i0 l (l.length : Int) ((i + 1 : Nat) : Int) v q gs := by
      intro k
      simp only [mortmainref09_Great.l2]
      rw [if_pos (by omega), if_pos (by omega), if_pos (by omega), rd72_nat, wrap_next hlt hl]
    cases r with
    | true => exact ⟨true, Ev.step hstep (Ev.bind hr (Ev.now _))⟩
    | false => exact ⟨r', Ev.step hstep (Ev.bind hr (by simpa using hr'))⟩

theorem great_l1 (ts : List S45) (n : Int) (i0 : Int) (v : Int) (q : List S45) (gs : List S27) (nm : ByteArray) (o : Int) (c2 : List S59) (cks : List S72) (cols : List S59) (hl : cols.length ≤ 9223372036854775807)
    (hnext : ∀ a, ∃ r, Ev (fun k => mortmainref09_Great.l2 k a ts n i0 cks (cks.length : Int) 0 v q gs) r) : ∀ d i a, i + d = cols.length →
    ∃ r, Ev (fun k => mortmainref09_Great.l1 k a ts n i0 cols (cols.length : Int) (i : Int) v q gs nm o c2 cks) r := by
  intro d
  induction d with
  | zero =>
    intro i a hi
    obtain ⟨r, hr⟩ := hnext a
    exact ⟨r, Ev.step (fun k => by simp only [mortmainref09_Great.l1]; rw [if_neg (by omega)]) hr⟩
  | succ d ih =>
    intro i a hi
    have hlt : i < cols.length := by omega
    obtain ⟨r, hr⟩ := ih (i + 1) (wrap64 ((wrap64 (a + ((rd_T59 cols (i : Int)).f0.size : Int))) + ((rd_T59 cols (i : Int)).f4.size : Int))) (by omega)
    refine ⟨r, Ev.step (fun k => ?_) hr⟩
    simp only [mortmainref09_Great.l1]
    rw [if_pos (by omega), if_pos (by omega), if_pos (by omega), wrap_next hlt hl]

theorem great_l0 (v : Int) (q : List S45) (gs : List S27) (ts : List S45) (hl : ts.length ≤ 9223372036854775807) (hg : gs.length ≤ 9223372036854775807) (h : ∀ t, t ∈ ts → OkT t) : ∀ d i a, i + d = ts.length →
    ∃ r, Ev (fun k => mortmainref09_Great.l0 k a ts (ts.length : Int) (i : Int) v q gs) r := by
  intro d
  induction d with
  | zero =>
    intro i a hi
    obtain ⟨r, hr⟩ := great_l3 gs hg gs.length 0 a (by omega)
    exact ⟨r, Ev.step (fun k => by simp only [mortmainref09_Great.l0]; rw [if_neg (by omega)]; rfl) hr⟩
  | succ d ih =>
    intro i a hi
    have hlt : i < ts.length := by omega
    have hT := h _ (mem_getD (z := z45) hlt)
    obtain ⟨r, hr⟩ := great_l1 ts (ts.length : Int) (i : Int) v q gs (ts.getD i z45).f0 (ts.getD i z45).f1 (ts.getD i z45).f2 (ts.getD i z45).f3 (ts.getD i z45).f2 hT.cols
      (fun b => great_l2 ts (ts.length : Int) (i : Int) v q gs (ts.getD i z45).f3 hT.checks hT.each b (by rw [wrap_next hlt hl]; exact ih (i + 1) b (by omega)) (ts.getD i z45).f3.length 0 (by omega)) (ts.getD i z45).f2.length 0
      (wrap64 ((wrap64 ((wrap64 (a + ((ts.getD i z45).f0.size : Int))) + ((ts.getD i z45).f2.length : Int))) + ((ts.getD i z45).f3.length : Int))) (by omega)
    refine ⟨r, Ev.step (fun k => ?_) hr⟩
    simp only [mortmainref09_Great.l0]
    rw [if_pos (by omega), if_pos (by omega), if_pos (by omega), rd45_nat]
    rfl
theorem great_ev (v : Int) (ts : List S45) (gs : List S27) (hl : ts.length ≤ 9223372036854775807) (hg : gs.length ≤ 9223372036854775807) (h : ∀ t, t ∈ ts → OkT t) : ∃ r, Ev (fun k => mortmainref09_Great.f k v ts gs) r := by
  by_cases h1 : wrap64 ((ts.length : Int) + (gs.length : Int)) > 200
  · exact ⟨true, 0, fun k _ => by simp only [mortmainref09_Great.f]; rw [if_pos h1]⟩
  · obtain ⟨r, hr⟩ := great_l0 v ts gs ts hl hg h ts.length 0 (wrap64 ((ts.length : Int) + (gs.length : Int))) (by omega)
    exact ⟨r, Ev.congr (fun k => by simp only [mortmainref09_Great.f]; rw [if_neg h1]; rfl) hr⟩
end Go.Proofs.YtefdfgmlmjnmlaaDoor.My
end

section
/- GrantMay: its check of itself. -/
namespace Go.Proofs.YtefdfgmlmjnmlaaDoor.My
open Go.RowKit Go.Proofs.YtefdfgmlmjnmlaaDoorW.PrintWords Go.Proofs.YtefdfgmlmjnmlaaDoor.Rf

def tA : S45 := ⟨⟨#[97]⟩, 2, [], []⟩
theorem row1 {α : Type} (d : Kd α) {w : World} {t : TypeId} {x : α} {cs : List Value} (hK : d.K w x cs) (hl : cs.length = d.sz) {g : Nat} (hb : w.heap[g]? = some (.cells cs.toArray t (0, 0))) : Kd.C d w (some ⟨g, 0, none⟩) [x].length [x] := by
  refine ⟨rfl, by simp, fun _ => ⟨⟨g, 0, none⟩, rfl, fun j p hp => ?_⟩⟩
  cases j with
  | succ j => simp at hp
  | zero =>
    simp only [List.getElem?_cons_zero, Option.some.injEq] at hp
    subst hp
    refine ⟨cs, hl, hK, fun i u hu => ?_⟩
    have := blk_cell hb i
    have hu' := this.trans (show cs.toArray[i]? = some u by simpa using hu)
    cases i <;> simpa [Addr.add] using hu'
theorem rowA {g : Nat} (w : World) (hb : w.heap[g]? = some (.cells #[.string ⟨#[97]⟩, .int .i64 2, .slice none 0 0, .slice none 0 0] 45 (0, 0))) : Kd.C k45 w (some ⟨g, 0, none⟩) [tA].length [tA] := by
  refine row1 k45 (k45_mk w tA (A2 := none) (c2 := 0) (A3 := none) (c3 := 0) (by decide) (Kd.C_nil _ _) (by decide) (Kd.C_nil _ _)) rfl hb

theorem mayA {g : Nat} (w : World) (r : Int) (nm : ByteArray) (b : Int) (q : Bool) (hq : mayB [tA] [] r nm b = q) (hb : w.heap[g]? = some (.cells #[.string ⟨#[97]⟩, .int .i64 2, .slice none 0 0, .slice none 0 0] 45 (0, 0))) :
    Calls Tryd.prog 21 #[.agg #[.int .i64 0, .slice (some ⟨g, 0, none⟩) 1 1, .slice none 0 0], .int .i64 r, .string nm, .int .i64 b] w (BoolPost q w) := by
  subst hq
  exact may_calls 0 [tA] (some ⟨g, 0, none⟩) 1 [] none 0 r nm b w (rowA w hb) (Kd.C_nil _ _)

set_option maxRecDepth 100000 in
theorem alive_calls (w : World) : Calls Tryd.prog 12 #[] w (BoolPost true w) := by
  have hk := blk_alloc (blk_new w (.cells #[.string ⟨#[97]⟩, .int .i64 2, .slice none 0 0, .slice none 0 0] 45)) (.cells #[.int .i64 0, .slice (some ⟨w.heap.size, 0, none⟩) 1 1, .slice none 0 0] 25)
  have hk1 := blk_new1 w (.cells #[.string ⟨#[97]⟩, .int .i64 2, .slice none 0 0, .slice none 0 0] 45) (.cells #[.int .i64 0, .slice (some ⟨w.heap.size, 0, none⟩) 1 1, .slice none 0 0] 25)
  have hb := below2 w (.cells #[.string ⟨#[97]⟩, .int .i64 2, .slice none 0 0, .slice none 0 0] 45) (.cells #[.int .i64 0, .slice (some ⟨w.heap.size, 0, none⟩) 1 1, .slice none 0 0] 25)
  have HK := Aside0.mk hk
  have HK1 := Aside0.mk hk1
  have HB := Aside0.mk hb
  clear hk hk1 hb
  go_enter Tryd.func12, Tryd.ntmps12
  go_wp2_with (first
    | (refine (mayA _ 0 ⟨#[98]⟩ 1 false (by kernel_rfl) HK4.out).mono ?_; rintro e w5 ⟨rfl, hb5⟩)
    | (refine (mayA _ 1 ⟨#[97]⟩ 1 false (by kernel_rfl) HK3.out).mono ?_; rintro e w4 ⟨rfl, hb4⟩; have HK4 := Aside0.mk (blk_below HK3.out hb4); have HL4 := Aside0.mk (blk_below HL3.out hb4); have c0 := blk_cell HL4.out 0; have c1 := blk_cell HL4.out 1; have c2 := blk_cell HL4.out 2)
    | (refine (mayA _ 2 ⟨#[97]⟩ 1 true (by kernel_rfl) HK2.out).mono ?_; rintro e w3 ⟨rfl, hb3⟩; have HK3 := Aside0.mk (blk_below HK2.out hb3); have HL3 := Aside0.mk (blk_below HL2.out hb3); have b0 := blk_cell HL3.out 0; have b1 := blk_cell HL3.out 1; have b2 := blk_cell HL3.out 2)
    | (refine (mayA _ 0 ⟨#[97]⟩ 31 true (by kernel_rfl) HK.out).mono ?_; rintro e w2 ⟨rfl, hb2⟩; have HK2 := Aside0.mk (blk_below HK.out hb2); have HL2 := Aside0.mk (blk_below HK1.out hb2); have a0 := blk_cell HL2.out 0; have a1 := blk_cell HL2.out 1; have a2 := blk_cell HL2.out 2))
  go_ret
  exact ⟨rfl, below_step (below_step (below_step (below_step HB.out hb2) hb3) hb4) hb5⟩
end Go.Proofs.YtefdfgmlmjnmlaaDoor.My
end
