/- PROVED: the tied card of the law GrantTakes: whatever the input, the law returns true and leaves its arguments as they read. Its conditions:  those of the given row (the two tables of unicode/utf8 read as the program's text lays them). Joined out of this session's smaller texts (part 3 of 3). -/
import Derived.Test.YtefdfgmlmjnmlaaDoorZGrantTakes1
import Derived.Test.YtefdfgmlmjnmlaaDoorZGrantTakes2
section
set_option linter.unusedVariables false
set_option linter.unusedSimpArgs false
/- What the kit's print.py wrote of one Go function of this seat's translation (run by a program of this session, one function a text): the function as a plain Lean function, and that the call computes it. -/
namespace Go.Proofs.YtefdfgmlmjnmlaaDoor.Rf
open Go.RowKit Go.Proofs.YtefdfgmlmjnmlaaDoorW.PrintWords Go.Proofs.YtefdfgmlmjnmlaaDoorW.PrintLast Go.Proofs.YtefdfgmlmjnmlaaDoorW.PrintMore
attribute [local go_sem] max2_int min2_int max_two min_two max_three min_three max_four min_four   -- for this text's walks alone

/-! ### mortmainref08_long: function 80 -/
mutual
def mortmainref08_long.l0 : Nat → List (S72) → Int → Int → Int → Int → Int → Int → ByteArray → List (S72) → Option (Bool)
  | 0, _, _, _, _, _, _, _, _, _ => none
  | k + 1, x6, x7, x8, x128000, x128001, x128002, x128003, x128004, x128005 => if x8 < x7 then (if 0 ≤ x8 then (if x8 < (x6.length : Int) then ((mortmainref08_long.f k ((rd_T72 x6 x8).f0) ((rd_T72 x6 x8).f1) ((rd_T72 x6 x8).f2.f0) ((rd_T72 x6 x8).f2.f1) ((rd_T72 x6 x8).f2.f2) ((rd_T72 x6 x8).f3)).bind fun t130 => (if t130 = true then (some true) else (mortmainref08_long.l0 k x6 x7 (wrap64 (x8 + 1)) x128000 x128001 x128002 x128003 x128004 x128005))) else (none)) else (none)) else (some (decide ((x128004.size : Int) > 200)))
def mortmainref08_long.f : Nat → Int → Int → Int → Int → ByteArray → List (S72) → Option (Bool)
  | 0, _, _, _, _, _, _ => none
  | k + 1, a0_0, a0_1, a0_2, a0_3, a0_4, l0_5 => mortmainref08_long.l0 k l0_5 (l0_5.length : Int) 0 a0_0 a0_1 a0_2 a0_3 a0_4 l0_5
end
theorem mortmainref08_long.mono_l : ∀ k, (∀ y0 y1 y2 y3 y4 y5, LeO (mortmainref08_long.f k y0 y1 y2 y3 y4 y5) (mortmainref08_long.f (k + 1) y0 y1 y2 y3 y4 y5)) ∧ (∀ y0 y1 y2 y3 y4 y5 y6 y7 y8, LeO (mortmainref08_long.l0 k y0 y1 y2 y3 y4 y5 y6 y7 y8) (mortmainref08_long.l0 (k + 1) y0 y1 y2 y3 y4 y5 y6 y7 y8))
  | 0 => ⟨fun _ _ _ _ _ _ r h => by simp [mortmainref08_long.f] at h, fun _ _ _ _ _ _ _ _ _ r h => by simp [mortmainref08_long.l0] at h⟩
  | k + 1 => by
    obtain ⟨ih0, ih1⟩ := mortmainref08_long.mono_l k
    refine ⟨?_, ?_⟩
    · intro y0 y1 y2 y3 y4 y5
      unfold mortmainref08_long.f
      repeat' first
      | (with_reducible exact ih0 _ _ _ _ _ _)
      | (with_reducible exact ih1 _ _ _ _ _ _ _ _ _)
      | (with_reducible exact LeO.refl _)
      | (with_reducible exact LeO.none _)
      | (with_reducible refine LeO.ite ?_ ?_)
      | (with_reducible refine LeO.bind ?_ (fun _ => ?_))
      | exact ih0 _ _ _ _ _ _
      | exact ih1 _ _ _ _ _ _ _ _ _
      | exact LeO.none _
      | refine LeO.ite ?_ ?_
      | refine LeO.bind ?_ (fun _ => ?_)
    · intro y0 y1 y2 y3 y4 y5 y6 y7 y8
      unfold mortmainref08_long.l0
      repeat' first
      | (with_reducible exact ih0 _ _ _ _ _ _)
      | (with_reducible exact ih1 _ _ _ _ _ _ _ _ _)
      | (with_reducible exact LeO.refl _)
      | (with_reducible exact LeO.none _)
      | (with_reducible refine LeO.ite ?_ ?_)
      | (with_reducible refine LeO.bind ?_ (fun _ => ?_))
      | exact ih0 _ _ _ _ _ _
      | exact ih1 _ _ _ _ _ _ _ _ _
      | exact LeO.none _
      | refine LeO.ite ?_ ?_
      | refine LeO.bind ?_ (fun _ => ?_)
theorem mortmainref08_long.mono : ∀ a0 a1 a2 a3 a4 a5 k, LeO (mortmainref08_long.f k a0 a1 a2 a3 a4 a5) (mortmainref08_long.f (k + 1) a0 a1 a2 a3 a4 a5) := by
  intro a0 a1 a2 a3 a4 a5 k
  obtain ⟨ih0, ih1⟩ := mortmainref08_long.mono_l k
  exact ih0 a0 a1 a2 a3 a4 a5
set_option maxHeartbeats 8000000 in
set_option maxRecDepth 100000 in
theorem mortmainref08_long.calls (k : Nat) : ∀ (a0_0 : Int) (a0_1 : Int) (a0_2 : Int) (a0_3 : Int) (a0_4 : ByteArray) (A0_5 : Option Addr) (c0_5 : Nat) (l0_5 : List (S72)) (r : Bool) (w : World) (hr0_5 : Kd.C k72 w A0_5 l0_5.length l0_5) (hc0_5 : l0_5.length ≤ c0_5) (h : mortmainref08_long.f k a0_0 a0_1 a0_2 a0_3 a0_4 l0_5 = some r),
    Calls Tryd.prog 80 #[.agg #[.int .i64 a0_0, .int .i64 a0_1, .int .i64 a0_2, .int .i64 a0_3, .string a0_4, .slice A0_5 l0_5.length c0_5]] w fun e w' => e = .returned (.bool r) ∧ Below w.heap.size w w' := by
  induction k using Nat.strongRecOn with
  | _ k ih =>
  intro a0_0 a0_1 a0_2 a0_3 a0_4 A0_5 c0_5 l0_5 r w hr0_5 hc0_5 h
  cases k with
  | zero => exact absurd h (by simp [mortmainref08_long.f])
  | succ k =>
  simp only [mortmainref08_long.f] at h
  have hu72 := Tryd.underlying72
  have HR0_5 := Aside0.mk hr0_5
  have HC0_5 := Aside0.mk hc0_5
  clear hr0_5 hc0_5
  have HB := Aside0.mk (Below.refl w.heap.size w)
  have H : (mortmainref08_long.l0 k l0_5 (l0_5.length : Int) 0 a0_0 a0_1 a0_2 a0_3 a0_4 l0_5) = some r := h
  clear h
  have H' := Aside0.mk H
  clear H
  go_enter Tryd.func80, Tryd.ntmps80
  go_wp2_with (first | ((with_reducible refine gate_dst (N := 1) rfl ?_); refine box_event ?hg (N := 1) ?hd (cs := #[.int .i64 a0_0, .int .i64 a0_1, .int .i64 a0_2, .int .i64 a0_3, .string a0_4, .slice A0_5 l0_5.length c0_5]) (t := 72) ?hr ?_; (case hd => rfl); (case hg => rfl); (case hr => first | (go_simp; done) | (go_simp; rfl)); intro gb127 hg w2 hbox hb; have n0_ := Aside0.mk (below_step (by repeat (first | (with_reducible first | exact HB.out | apply below_alloc | apply pw_below_drewN | apply below_drew1) | exact HB.out)) hb); have n1_ := Aside0.mk (hbox); have n2_ := Aside0.mk ((by rw [hg]; exact (below_size (by repeat (first | (with_reducible first | exact HB.out | apply below_alloc | apply pw_below_drewN | apply below_drew1) | exact HB.out))) : w.heap.size ≤ gb127)); have n3_ := Aside0.mk ((by rw [hg]; exact (below_size (by repeat (first | (with_reducible first | exact HB.out | apply below_alloc | apply pw_below_drewN | apply below_drew1) | exact HB.out))) : w.heap.size ≤ gb127)); clear HB; have HB := n0_; have BK127 := n1_; have GW127 := n2_; have GE127 := n3_; clear n0_ n1_ n2_ n3_; clear hb hbox hg; have hcz3_0 : w2.cell? ⟨gb127, 0, none⟩ = some (.int .i64 a0_0) := (blk_cell BK127.out 0).trans rfl; have hcz3_1 : w2.cell? ⟨gb127, 1, none⟩ = some (.int .i64 a0_1) := (blk_cell BK127.out 1).trans rfl; have hcz3_2 : w2.cell? ⟨gb127, 2, none⟩ = some (.int .i64 a0_2) := (blk_cell BK127.out 2).trans rfl; have hcz3_3 : w2.cell? ⟨gb127, 3, none⟩ = some (.int .i64 a0_3) := (blk_cell BK127.out 3).trans rfl; have hcz3_4 : w2.cell? ⟨gb127, 4, none⟩ = some (.string a0_4) := (blk_cell BK127.out 4).trans rfl; have hcz3_5 : w2.cell? ⟨gb127, 5, none⟩ = some (.slice A0_5 l0_5.length c0_5) := (blk_cell BK127.out 5).trans rfl; have hfz3_0 := blk_frozen BK127.out 0; have hfz3_1 := blk_frozen BK127.out 1; have hfz3_2 := blk_frozen BK127.out 2; have hfz3_3 := blk_frozen BK127.out 3; have hfz3_4 := blk_frozen BK127.out 4; have hfz3_5 := blk_frozen BK127.out 5))
  go_loopg [8] k (fun kq v8 w' => ∃ (x8_1 : Int), v8 = .int .i64 x8_1 ∧ Aside0 (mortmainref08_long.l0 kq l0_5 (l0_5.length : Int) x8_1 a0_0 a0_1 a0_2 a0_3 a0_4 l0_5 = some r) ∧ Aside0 (kq ≤ k) ∧ Aside0 (w'.heap[gb127]? = some (.cells #[.int .i64 a0_0, .int .i64 a0_1, .int .i64 a0_2, .int .i64 a0_3, .string a0_4, (.slice A0_5 l0_5.length c0_5)] 72 (0, 0))) ∧ Aside0 (Below w.heap.size w w'))
  case atStart => exact ⟨(0), (by first | rfl | (simp; done) | (simp [*]; done)), H', ⟨Nat.le_refl _⟩, ⟨by (with_reducible repeat (first | refine blk_drewN ?_ _ | refine blk_drew ?_ | refine blk_alloc ?_ _)); exact BK127.out⟩, ⟨by repeat (first | (with_reducible first | exact HB.out | apply below_alloc | apply pw_below_drewN | apply below_drew1 | refine below_set ?_ GE127.out) | exact HB.out)⟩⟩
  case round =>
    clear H'
    try clear p2
    try clear hcz3_0
    try clear hcz3_1
    try clear hcz3_2
    try clear hcz3_3
    try clear hcz3_4
    try clear hcz3_5
    try clear hfz3_0
    try clear hfz3_1
    try clear hfz3_2
    try clear hfz3_3
    try clear hfz3_4
    try clear hfz3_5
    obtain ⟨x8_1, rfl, HA, HK1, BK127, HB⟩ := hrel
    cases gk with
    | zero => exact absurd HA.out (by simp [mortmainref08_long.l0])
    | succ k1 =>
      have H := HA.out
      clear HA
      simp only [mortmainref08_long.l0] at H
      by_cases c4 : x8_1 < (l0_5.length : Int)
      · rw [if_pos c4] at H
        have c4b0 : decide (x8_1 < (l0_5.length : Int)) = true := decide_eq_true c4
        clear c4
        by_cases c5 : 0 ≤ x8_1
        · rw [if_pos c5] at H
          have c5b0 : decide (0 ≤ x8_1) = true := decide_eq_true c5
          clear c5
          by_cases c6 : x8_1 < (l0_5.length : Int)
          · rw [if_pos c6] at H
            have c6b0 : decide (x8_1 < (l0_5.length : Int)) = true := decide_eq_true c6
            clear c6
            replace H := Option.bind_eq_some_iff.mp H
            obtain ⟨t130, A70, H⟩ := H
            replace H : (if t130 = true then (some true) else (mortmainref08_long.l0 k1 l0_5 (l0_5.length : Int) (wrap64 (x8_1 + 1)) a0_0 a0_1 a0_2 a0_3 a0_4 l0_5)) = some r := H
            have A7 := Aside0.mk A70
            clear A70
            by_cases c8 : t130 = true
            · subst c8
              have H1 : (some true) = some r := by rw [if_pos rfl] at H; exact H
              clear H
              have H := H1
              clear H1
              obtain rfl := Option.some.inj H
              have p128 : 0 ≤ (x8_1 : Int) := of_decide_eq_true (by first | (with_reducible assumption) | assumption)
              have q128 : x8_1 < (l0_5.length : Int) := of_decide_eq_true (by first | (with_reducible assumption) | assumption)
              obtain ⟨ad128, A128_5, c128_5, e128, hx128_0, hx128_1, hx128_2, hx128_3, hx128_4, hx128_5, hl128_5, hi128_5⟩ := at_T72 HR0_5.out x8_1 p128 q128
              cases e128
              replace hx128_0 := (HB.out.cell (World.block_lt_of_cell? w _ hx128_0)).trans hx128_0
              replace hx128_1 := (HB.out.cell (World.block_lt_of_cell? w _ hx128_1)).trans hx128_1
              replace hx128_2 := (HB.out.cell (World.block_lt_of_cell? w _ hx128_2)).trans hx128_2
              replace hx128_3 := (HB.out.cell (World.block_lt_of_cell? w _ hx128_3)).trans hx128_3
              replace hx128_4 := (HB.out.cell (World.block_lt_of_cell? w _ hx128_4)).trans hx128_4
              replace hx128_5 := (HB.out.cell (World.block_lt_of_cell? w _ hx128_5)).trans hx128_5
              have HR128_5 := Aside0.mk hi128_5
              have HC128_5 := Aside0.mk hl128_5
              clear hi128_5 hl128_5
              replace p128 := eq_true p128
              replace q128 := eq_true q128
              go_wp2_with (first | ((with_reducible refine gate_dst (N := 4) rfl ?_); refine box_event ?hg (N := 4) ?hd (cs := #[.int .i64 0, .int .i64 0, .int .i64 0, .int .i64 0, .string (⟨#[]⟩ : ByteArray), .slice none 0 0]) (t := 72) ?hr ?_; (case hd => rfl); (case hg => rfl); (case hr => first | (go_simp; done) | (go_simp; rfl)); intro gb129 hg w9 hbox hb; have n0_ := Aside0.mk (blk_below (g := gb127) (o := .cells #[.int .i64 a0_0, .int .i64 a0_1, .int .i64 a0_2, .int .i64 a0_3, .string a0_4, .slice (some ad128) l0_5.length c0_5] 72 (0, 0)) (by (with_reducible repeat (first | refine blk_drewN ?_ _ | refine blk_drew ?_ | refine blk_alloc ?_ _)); exact BK127.out) hb); have n1_ := Aside0.mk (below_step (by repeat (first | (with_reducible first | exact HB.out | apply below_alloc | apply pw_below_drewN | apply below_drew1 | refine below_set ?_ GE127.out) | exact HB.out)) hb); have n2_ := Aside0.mk (hbox); have n3_ := Aside0.mk ((by rw [hg]; exact (below_size (by repeat (first | (with_reducible first | exact HB.out | apply below_alloc | apply pw_below_drewN | apply below_drew1 | refine below_set ?_ GE127.out) | exact HB.out))) : w.heap.size ≤ gb129)); have n4_ := Aside0.mk ((by rw [hg]; exact (below_size (by repeat (first | (with_reducible first | exact HB.out | apply below_alloc | apply pw_below_drewN | apply below_drew1 | refine below_set ?_ GE127.out) | exact HB.out))) : w.heap.size ≤ gb129)); have n5_ := Aside0.mk ((by rw [hg]; exact Nat.ne_of_lt (blk_lt (g := gb127) (o := .cells #[.int .i64 a0_0, .int .i64 a0_1, .int .i64 a0_2, .int .i64 a0_3, .string a0_4, .slice (some ad128) l0_5.length c0_5] 72 (0, 0)) (by (with_reducible repeat (first | refine blk_drewN ?_ _ | refine blk_drew ?_ | refine blk_alloc ?_ _)); exact BK127.out)) : gb127 ≠ gb129)); have n6_ := Aside0.mk ((by rw [hg]; exact Nat.ne_of_gt (blk_lt (g := gb127) (o := .cells #[.int .i64 a0_0, .int .i64 a0_1, .int .i64 a0_2, .int .i64 a0_3, .string a0_4, .slice (some ad128) l0_5.length c0_5] 72 (0, 0)) (by (with_reducible repeat (first | refine blk_drewN ?_ _ | refine blk_drew ?_ | refine blk_alloc ?_ _)); exact BK127.out)) : gb129 ≠ gb127)); clear BK127; clear HB; have BK127 := n0_; have HB := n1_; have BK129 := n2_; have GW129 := n3_; have GE129 := n4_; have NB127_129 := n5_; have NB129_127 := n6_; clear n0_ n1_ n2_ n3_ n4_ n5_ n6_; clear hb hbox hg; have hnb10 := NB129_127.out; have hnc10 := NB127_129.out; have hcz11_0 : w9.cell? ⟨gb129, 0, none⟩ = some (.int .i64 0) := (blk_cell BK129.out 0).trans rfl; have hcz11_1 : w9.cell? ⟨gb129, 1, none⟩ = some (.int .i64 0) := (blk_cell BK129.out 1).trans rfl; have hcz11_2 : w9.cell? ⟨gb129, 2, none⟩ = some (.int .i64 0) := (blk_cell BK129.out 2).trans rfl; have hcz11_3 : w9.cell? ⟨gb129, 3, none⟩ = some (.int .i64 0) := (blk_cell BK129.out 3).trans rfl; have hcz11_4 : w9.cell? ⟨gb129, 4, none⟩ = some (.string (⟨#[]⟩ : ByteArray)) := (blk_cell BK129.out 4).trans rfl; have hcz11_5 : w9.cell? ⟨gb129, 5, none⟩ = some (.slice none 0 0) := (blk_cell BK129.out 5).trans rfl; have hfz11_0 := blk_frozen BK129.out 0; have hfz11_1 := blk_frozen BK129.out 1; have hfz11_2 := blk_frozen BK129.out 2; have hfz11_3 := blk_frozen BK129.out 3; have hfz11_4 := blk_frozen BK129.out 4; have hfz11_5 := blk_frozen BK129.out 5) | ((with_reducible refine gate_callee (f := 80) rfl ?_); refine goesL_ (some 13) rfl rfl Tryd.func80 (by kernel_rfl) rfl #[.agg #[.int .i64 ((rd_T72 l0_5 x8_1).f0), .int .i64 ((rd_T72 l0_5 x8_1).f1), .int .i64 ((rd_T72 l0_5 x8_1).f2.f0), .int .i64 ((rd_T72 l0_5 x8_1).f2.f1), .string ((rd_T72 l0_5 x8_1).f2.f2), .slice A128_5 ((rd_T72 l0_5 x8_1).f3).length c128_5]] rfl (by (try simp only [List.map_toArray, List.map_cons, List.map_nil]); first | done | rfl | (simp only [List.length_drop, List.length_take]; rfl)) ?_; (with_reducible refine (ih k1 (by have := HK1.out; omega) ((rd_T72 l0_5 x8_1).f0) ((rd_T72 l0_5 x8_1).f1) ((rd_T72 l0_5 x8_1).f2.f0) ((rd_T72 l0_5 x8_1).f2.f1) ((rd_T72 l0_5 x8_1).f2.f2) _ _ ((rd_T72 l0_5 x8_1).f3) true _ ?side1 ?side2 A7.out).mono ?_); (case side1 => exact Kd.C_below HR128_5.out (by repeat (first | (with_reducible first | exact HB.out | apply below_alloc | apply pw_below_drewN | apply below_drew1 | refine below_set ?_ GE127.out | refine below_set ?_ GE129.out) | exact HB.out))); (case side2 => exact HC128_5.out); rintro e w12 ⟨rfl, hb⟩; refine ⟨_, rfl, ?_⟩; have n0_ := Aside0.mk (blk_below (g := gb127) (o := .cells #[.int .i64 a0_0, .int .i64 a0_1, .int .i64 a0_2, .int .i64 a0_3, .string a0_4, .slice (some ad128) l0_5.length c0_5] 72 (0, 0)) (by (with_reducible repeat (first | refine blk_drewN ?_ _ | refine blk_drew ?_ | refine blk_alloc ?_ _)); refine blk_far ?_ NB127_129.out _; (with_reducible repeat (first | refine blk_drewN ?_ _ | refine blk_drew ?_ | refine blk_alloc ?_ _)); refine blk_far ?_ NB127_129.out _; (with_reducible repeat (first | refine blk_drewN ?_ _ | refine blk_drew ?_ | refine blk_alloc ?_ _)); refine blk_far ?_ NB127_129.out _; (with_reducible repeat (first | refine blk_drewN ?_ _ | refine blk_drew ?_ | refine blk_alloc ?_ _)); refine blk_far ?_ NB127_129.out _; (with_reducible repeat (first | refine blk_drewN ?_ _ | refine blk_drew ?_ | refine blk_alloc ?_ _)); refine blk_far ?_ NB127_129.out _; (with_reducible repeat (first | refine blk_drewN ?_ _ | refine blk_drew ?_ | refine blk_alloc ?_ _)); refine blk_far ?_ NB127_129.out _; (with_reducible repeat (first | refine blk_drewN ?_ _ | refine blk_drew ?_ | refine blk_alloc ?_ _)); exact BK127.out) hb); have n1_ := Aside0.mk (blk_below (g := gb129) (o := .cells #[.int .i64 ((rd_T72 l0_5 x8_1).f0), .int .i64 ((rd_T72 l0_5 x8_1).f1), .int .i64 ((rd_T72 l0_5 x8_1).f2.f0), .int .i64 ((rd_T72 l0_5 x8_1).f2.f1), .string ((rd_T72 l0_5 x8_1).f2.f2), .slice A128_5 ((rd_T72 l0_5 x8_1).f3).length c128_5] 72 (0, 0)) (by (with_reducible repeat (first | refine blk_drewN ?_ _ | refine blk_drew ?_ | refine blk_alloc ?_ _)); refine blk_put (cs := #[.int .i64 ((rd_T72 l0_5 x8_1).f0), .int .i64 ((rd_T72 l0_5 x8_1).f1), .int .i64 ((rd_T72 l0_5 x8_1).f2.f0), .int .i64 ((rd_T72 l0_5 x8_1).f2.f1), .string ((rd_T72 l0_5 x8_1).f2.f2), .slice none 0 0]) ?_ 5 _ rfl; (with_reducible repeat (first | refine blk_drewN ?_ _ | refine blk_drew ?_ | refine blk_alloc ?_ _)); refine blk_put (cs := #[.int .i64 ((rd_T72 l0_5 x8_1).f0), .int .i64 ((rd_T72 l0_5 x8_1).f1), .int .i64 ((rd_T72 l0_5 x8_1).f2.f0), .int .i64 ((rd_T72 l0_5 x8_1).f2.f1), .string (⟨#[]⟩ : ByteArray), .slice none 0 0]) ?_ 4 _ rfl; (with_reducible repeat (first | refine blk_drewN ?_ _ | refine blk_drew ?_ | refine blk_alloc ?_ _)); refine blk_put (cs := #[.int .i64 ((rd_T72 l0_5 x8_1).f0), .int .i64 ((rd_T72 l0_5 x8_1).f1), .int .i64 ((rd_T72 l0_5 x8_1).f2.f0), .int .i64 0, .string (⟨#[]⟩ : ByteArray), .slice none 0 0]) ?_ 3 _ rfl; (with_reducible repeat (first | refine blk_drewN ?_ _ | refine blk_drew ?_ | refine blk_alloc ?_ _)); refine blk_put (cs := #[.int .i64 ((rd_T72 l0_5 x8_1).f0), .int .i64 ((rd_T72 l0_5 x8_1).f1), .int .i64 0, .int .i64 0, .string (⟨#[]⟩ : ByteArray), .slice none 0 0]) ?_ 2 _ rfl; (with_reducible repeat (first | refine blk_drewN ?_ _ | refine blk_drew ?_ | refine blk_alloc ?_ _)); refine blk_put (cs := #[.int .i64 ((rd_T72 l0_5 x8_1).f0), .int .i64 0, .int .i64 0, .int .i64 0, .string (⟨#[]⟩ : ByteArray), .slice none 0 0]) ?_ 1 _ rfl; (with_reducible repeat (first | refine blk_drewN ?_ _ | refine blk_drew ?_ | refine blk_alloc ?_ _)); refine blk_put (cs := #[.int .i64 0, .int .i64 0, .int .i64 0, .int .i64 0, .string (⟨#[]⟩ : ByteArray), .slice none 0 0]) ?_ 0 _ rfl; (with_reducible repeat (first | refine blk_drewN ?_ _ | refine blk_drew ?_ | refine blk_alloc ?_ _)); exact BK129.out) hb); have n2_ := Aside0.mk (below_step (by repeat (first | (with_reducible first | exact HB.out | apply below_alloc | apply pw_below_drewN | apply below_drew1 | refine below_set ?_ GE127.out | refine below_set ?_ GE129.out) | exact HB.out)) hb); clear BK127; clear BK129; clear HB; have BK127 := n0_; have BK129 := n1_; have HB := n2_; clear n0_ n1_ n2_; (try clear hb); (try clear hb2); (try clear hk); (try clear hi)))
              go_ret
              exact ⟨by first | rfl | (simp [errW_none, errW_some] <;> rfl) | (simp [*, errW_none, errW_some] <;> rfl), by repeat (first | (with_reducible first | exact HB.out | apply below_alloc | apply pw_below_drewN | apply below_drew1 | refine below_set ?_ GE127.out | refine below_set ?_ GE129.out) | exact HB.out)⟩
            · replace c8 := Bool.eq_false_iff.mpr c8
              subst c8
              have H1 : (mortmainref08_long.l0 k1 l0_5 (l0_5.length : Int) (wrap64 (x8_1 + 1)) a0_0 a0_1 a0_2 a0_3 a0_4 l0_5) = some r := by rw [if_neg (show ¬ (false = true) by decide)] at H; exact H
              clear H
              have H := H1
              clear H1
              have H' := Aside0.mk H
              clear H
              have p128 : 0 ≤ (x8_1 : Int) := of_decide_eq_true (by first | (with_reducible assumption) | assumption)
              have q128 : x8_1 < (l0_5.length : Int) := of_decide_eq_true (by first | (with_reducible assumption) | assumption)
              obtain ⟨ad128, A128_5, c128_5, e128, hx128_0, hx128_1, hx128_2, hx128_3, hx128_4, hx128_5, hl128_5, hi128_5⟩ := at_T72 HR0_5.out x8_1 p128 q128
              cases e128
              replace hx128_0 := (HB.out.cell (World.block_lt_of_cell? w _ hx128_0)).trans hx128_0
              replace hx128_1 := (HB.out.cell (World.block_lt_of_cell? w _ hx128_1)).trans hx128_1
              replace hx128_2 := (HB.out.cell (World.block_lt_of_cell? w _ hx128_2)).trans hx128_2
              replace hx128_3 := (HB.out.cell (World.block_lt_of_cell? w _ hx128_3)).trans hx128_3
              replace hx128_4 := (HB.out.cell (World.block_lt_of_cell? w _ hx128_4)).trans hx128_4
              replace hx128_5 := (HB.out.cell (World.block_lt_of_cell? w _ hx128_5)).trans hx128_5
              have HR128_5 := Aside0.mk hi128_5
              have HC128_5 := Aside0.mk hl128_5
              clear hi128_5 hl128_5
              replace p128 := eq_true p128
              replace q128 := eq_true q128
              go_wp2_with (first | ((with_reducible refine gate_dst (N := 4) rfl ?_); refine box_event ?hg (N := 4) ?hd (cs := #[.int .i64 0, .int .i64 0, .int .i64 0, .int .i64 0, .string (⟨#[]⟩ : ByteArray), .slice none 0 0]) (t := 72) ?hr ?_; (case hd => rfl); (case hg => rfl); (case hr => first | (go_simp; done) | (go_simp; rfl)); intro gb129 hg w13 hbox hb; have n0_ := Aside0.mk (blk_below (g := gb127) (o := .cells #[.int .i64 a0_0, .int .i64 a0_1, .int .i64 a0_2, .int .i64 a0_3, .string a0_4, .slice (some ad128) l0_5.length c0_5] 72 (0, 0)) (by (with_reducible repeat (first | refine blk_drewN ?_ _ | refine blk_drew ?_ | refine blk_alloc ?_ _)); exact BK127.out) hb); have n1_ := Aside0.mk (below_step (by repeat (first | (with_reducible first | exact HB.out | apply below_alloc | apply pw_below_drewN | apply below_drew1 | refine below_set ?_ GE127.out) | exact HB.out)) hb); have n2_ := Aside0.mk (hbox); have n3_ := Aside0.mk ((by rw [hg]; exact (below_size (by repeat (first | (with_reducible first | exact HB.out | apply below_alloc | apply pw_below_drewN | apply below_drew1 | refine below_set ?_ GE127.out) | exact HB.out))) : w.heap.size ≤ gb129)); have n4_ := Aside0.mk ((by rw [hg]; exact (below_size (by repeat (first | (with_reducible first | exact HB.out | apply below_alloc | apply pw_below_drewN | apply below_drew1 | refine below_set ?_ GE127.out) | exact HB.out))) : w.heap.size ≤ gb129)); have n5_ := Aside0.mk ((by rw [hg]; exact Nat.ne_of_lt (blk_lt (g := gb127) (o := .cells #[.int .i64 a0_0, .int .i64 a0_1, .int .i64 a0_2, .int .i64 a0_3, .string a0_4, .slice (some ad128) l0_5.length c0_5] 72 (0, 0)) (by (with_reducible repeat (first | refine blk_drewN ?_ _ | refine blk_drew ?_ | refine blk_alloc ?_ _)); exact BK127.out)) : gb127 ≠ gb129)); have n6_ := Aside0.mk ((by rw [hg]; exact Nat.ne_of_gt (blk_lt (g := gb127) (o := .cells #[.int .i64 a0_0, .int .i64 a0_1, .int .i64 a0_2, .int .i64 a0_3, .string a0_4, .slice (some ad128) l0_5.length c0_5] 72 (0, 0)) (by (with_reducible repeat (first | refine blk_drewN ?_ _ | refine blk_drew ?_ | refine blk_alloc ?_ _)); exact BK127.out)) : gb129 ≠ gb127)); clear BK127; clear HB; have BK127 := n0_; have HB := n1_; have BK129 := n2_; have GW129 := n3_; have GE129 := n4_; have NB127_129 := n5_; have NB129_127 := n6_; clear n0_ n1_ n2_ n3_ n4_ n5_ n6_; clear hb hbox hg; have hnb14 := NB129_127.out; have hnc14 := NB127_129.out; have hcz15_0 : w13.cell? ⟨gb129, 0, none⟩ = some (.int .i64 0) := (blk_cell BK129.out 0).trans rfl; have hcz15_1 : w13.cell? ⟨gb129, 1, none⟩ = some (.int .i64 0) := (blk_cell BK129.out 1).trans rfl; have hcz15_2 : w13.cell? ⟨gb129, 2, none⟩ = some (.int .i64 0) := (blk_cell BK129.out 2).trans rfl; have hcz15_3 : w13.cell? ⟨gb129, 3, none⟩ = some (.int .i64 0) := (blk_cell BK129.out 3).trans rfl; have hcz15_4 : w13.cell? ⟨gb129, 4, none⟩ = some (.string (⟨#[]⟩ : ByteArray)) := (blk_cell BK129.out 4).trans rfl; have hcz15_5 : w13.cell? ⟨gb129, 5, none⟩ = some (.slice none 0 0) := (blk_cell BK129.out 5).trans rfl; have hfz15_0 := blk_frozen BK129.out 0; have hfz15_1 := blk_frozen BK129.out 1; have hfz15_2 := blk_frozen BK129.out 2; have hfz15_3 := blk_frozen BK129.out 3; have hfz15_4 := blk_frozen BK129.out 4; have hfz15_5 := blk_frozen BK129.out 5) | ((with_reducible refine gate_callee (f := 80) rfl ?_); refine goesL_ (some 13) rfl rfl Tryd.func80 (by kernel_rfl) rfl #[.agg #[.int .i64 ((rd_T72 l0_5 x8_1).f0), .int .i64 ((rd_T72 l0_5 x8_1).f1), .int .i64 ((rd_T72 l0_5 x8_1).f2.f0), .int .i64 ((rd_T72 l0_5 x8_1).f2.f1), .string ((rd_T72 l0_5 x8_1).f2.f2), .slice A128_5 ((rd_T72 l0_5 x8_1).f3).length c128_5]] rfl (by (try simp only [List.map_toArray, List.map_cons, List.map_nil]); first | done | rfl | (simp only [List.length_drop, List.length_take]; rfl)) ?_; (with_reducible refine (ih k1 (by have := HK1.out; omega) ((rd_T72 l0_5 x8_1).f0) ((rd_T72 l0_5 x8_1).f1) ((rd_T72 l0_5 x8_1).f2.f0) ((rd_T72 l0_5 x8_1).f2.f1) ((rd_T72 l0_5 x8_1).f2.f2) _ _ ((rd_T72 l0_5 x8_1).f3) false _ ?side1 ?side2 A7.out).mono ?_); (case side1 => exact Kd.C_below HR128_5.out (by repeat (first | (with_reducible first | exact HB.out | apply below_alloc | apply pw_below_drewN | apply below_drew1 | refine below_set ?_ GE127.out | refine below_set ?_ GE129.out) | exact HB.out))); (case side2 => exact HC128_5.out); rintro e w16 ⟨rfl, hb⟩; refine ⟨_, rfl, ?_⟩; have n0_ := Aside0.mk (blk_below (g := gb127) (o := .cells #[.int .i64 a0_0, .int .i64 a0_1, .int .i64 a0_2, .int .i64 a0_3, .string a0_4, .slice (some ad128) l0_5.length c0_5] 72 (0, 0)) (by (with_reducible repeat (first | refine blk_drewN ?_ _ | refine blk_drew ?_ | refine blk_alloc ?_ _)); refine blk_far ?_ NB127_129.out _; (with_reducible repeat (first | refine blk_drewN ?_ _ | refine blk_drew ?_ | refine blk_alloc ?_ _)); refine blk_far ?_ NB127_129.out _; (with_reducible repeat (first | refine blk_drewN ?_ _ | refine blk_drew ?_ | refine blk_alloc ?_ _)); refine blk_far ?_ NB127_129.out _; (with_reducible repeat (first | refine blk_drewN ?_ _ | refine blk_drew ?_ | refine blk_alloc ?_ _)); refine blk_far ?_ NB127_129.out _; (with_reducible repeat (first | refine blk_drewN ?_ _ | refine blk_drew ?_ | refine blk_alloc ?_ _)); refine blk_far ?_ NB127_129.out _; (with_reducible repeat (first | refine blk_drewN ?_ _ | refine blk_drew ?_ | refine blk_alloc ?_ _)); refine blk_far ?_ NB127_129.out _; (with_reducible repeat (first | refine blk_drewN ?_ _ | refine blk_drew ?_ | refine blk_alloc ?_ _)); exact BK127.out) hb); have n1_ := Aside0.mk (blk_below (g := gb129) (o := .cells #[.int .i64 ((rd_T72 l0_5 x8_1).f0), .int .i64 ((rd_T72 l0_5 x8_1).f1), .int .i64 ((rd_T72 l0_5 x8_1).f2.f0), .int .i64 ((rd_T72 l0_5 x8_1).f2.f1), .string ((rd_T72 l0_5 x8_1).f2.f2), .slice A128_5 ((rd_T72 l0_5 x8_1).f3).length c128_5] 72 (0, 0)) (by (with_reducible repeat (first | refine blk_drewN ?_ _ | refine blk_drew ?_ | refine blk_alloc ?_ _)); refine blk_put (cs := #[.int .i64 ((rd_T72 l0_5 x8_1).f0), .int .i64 ((rd_T72 l0_5 x8_1).f1), .int .i64 ((rd_T72 l0_5 x8_1).f2.f0), .int .i64 ((rd_T72 l0_5 x8_1).f2.f1), .string ((rd_T72 l0_5 x8_1).f2.f2), .slice none 0 0]) ?_ 5 _ rfl; (with_reducible repeat (first | refine blk_drewN ?_ _ | refine blk_drew ?_ | refine blk_alloc ?_ _)); refine blk_put (cs := #[.int .i64 ((rd_T72 l0_5 x8_1).f0), .int .i64 ((rd_T72 l0_5 x8_1).f1), .int .i64 ((rd_T72 l0_5 x8_1).f2.f0), .int .i64 ((rd_T72 l0_5 x8_1).f2.f1), .string (⟨#[]⟩ : ByteArray), .slice none 0 0]) ?_ 4 _ rfl; (with_reducible repeat (first | refine blk_drewN ?_ _ | refine blk_drew ?_ | refine blk_alloc ?_ _)); refine blk_put (cs := #[.int .i64 ((rd_T72 l0_5 x8_1).f0), .int .i64 ((rd_T72 l0_5 x8_1).f1), .int .i64 ((rd_T72 l0_5 x8_1).f2.f0), .int .i64 0, .string (⟨#[]⟩ : ByteArray), .slice none 0 0]) ?_ 3 _ rfl; (with_reducible repeat (first | refine blk_drewN ?_ _ | refine blk_drew ?_ | refine blk_alloc ?_ _)); refine blk_put (cs := #[.int .i64 ((rd_T72 l0_5 x8_1).f0), .int .i64 ((rd_T72 l0_5 x8_1).f1), .int .i64 0, .int .i64 0, .string (⟨#[]⟩ : ByteArray), .slice none 0 0]) ?_ 2 _ rfl; (with_reducible repeat (first | refine blk_drewN ?_ _ | refine blk_drew ?_ | refine blk_alloc ?_ _)); refine blk_put (cs := #[.int .i64 ((rd_T72 l0_5 x8_1).f0), .int .i64 0, .int .i64 0, .int .i64 0, .string (⟨#[]⟩ : ByteArray), .slice none 0 0]) ?_ 1 _ rfl; (with_reducible repeat (first | refine blk_drewN ?_ _ | refine blk_drew ?_ | refine blk_alloc ?_ _)); refine blk_put (cs := #[.int .i64 0, .int .i64 0, .int .i64 0, .int .i64 0, .string (⟨#[]⟩ : ByteArray), .slice none 0 0]) ?_ 0 _ rfl; (with_reducible repeat (first | refine blk_drewN ?_ _ | refine blk_drew ?_ | refine blk_alloc ?_ _)); exact BK129.out) hb); have n2_ := Aside0.mk (below_step (by repeat (first | (with_reducible first | exact HB.out | apply below_alloc | apply pw_below_drewN | apply below_drew1 | refine below_set ?_ GE127.out | refine below_set ?_ GE129.out) | exact HB.out)) hb); clear BK127; clear BK129; clear HB; have BK127 := n0_; have BK129 := n1_; have HB := n2_; clear n0_ n1_ n2_; (try clear hb); (try clear hb2); (try clear hk); (try clear hi)))
              go_roundg k1
              case measure => have := HK1.out; omega
              case rel => exact ⟨(wrap64 (x8_1 + 1)), (by first | rfl | (simp; done) | (simp [*]; done)), H', ⟨by have := HK1.out; omega⟩, ⟨by (with_reducible repeat (first | refine blk_drewN ?_ _ | refine blk_drew ?_ | refine blk_alloc ?_ _)); exact BK127.out⟩, ⟨by repeat (first | (with_reducible first | exact HB.out | apply below_alloc | apply pw_below_drewN | apply below_drew1 | refine below_set ?_ GE127.out | refine below_set ?_ GE129.out) | exact HB.out)⟩⟩
          · rw [if_neg c6] at H
            exact absurd H (by simp)
        · rw [if_neg c5] at H
          exact absurd H (by simp)
      · rw [if_neg c4] at H
        have c4b0 : decide (x8_1 < (l0_5.length : Int)) = false := decide_eq_false c4
        clear c4
        obtain rfl := Option.some.inj H
        have hcz17_0 : wr.cell? ⟨gb127, 0, none⟩ = some (.int .i64 a0_0) := (blk_cell BK127.out 0).trans rfl
        have hcz17_1 : wr.cell? ⟨gb127, 1, none⟩ = some (.int .i64 a0_1) := (blk_cell BK127.out 1).trans rfl
        have hcz17_2 : wr.cell? ⟨gb127, 2, none⟩ = some (.int .i64 a0_2) := (blk_cell BK127.out 2).trans rfl
        have hcz17_3 : wr.cell? ⟨gb127, 3, none⟩ = some (.int .i64 a0_3) := (blk_cell BK127.out 3).trans rfl
        have hcz17_4 : wr.cell? ⟨gb127, 4, none⟩ = some (.string a0_4) := (blk_cell BK127.out 4).trans rfl
        have hcz17_5 : wr.cell? ⟨gb127, 5, none⟩ = some (.slice A0_5 l0_5.length c0_5) := (blk_cell BK127.out 5).trans rfl
        have hfz17_0 := blk_frozen BK127.out 0
        have hfz17_1 := blk_frozen BK127.out 1
        have hfz17_2 := blk_frozen BK127.out 2
        have hfz17_3 := blk_frozen BK127.out 3
        have hfz17_4 := blk_frozen BK127.out 4
        have hfz17_5 := blk_frozen BK127.out 5
        go_wp2
        go_ret
        exact ⟨by first | rfl | (simp [errW_none, errW_some] <;> rfl) | (simp [*, errW_none, errW_some] <;> rfl), by repeat (first | (with_reducible first | exact HB.out | apply below_alloc | apply pw_below_drewN | apply below_drew1 | refine below_set ?_ GE127.out) | exact HB.out)⟩

end Go.Proofs.YtefdfgmlmjnmlaaDoor.Rf
end

section
set_option linter.unusedVariables false
set_option linter.unusedSimpArgs false
/- What the kit's print.py wrote of one Go function of this seat's translation (run by a program of this session, one function a text): the function as a plain Lean function, and that the call computes it. -/
namespace Go.Proofs.YtefdfgmlmjnmlaaDoor.Rf
open Go.RowKit Go.Proofs.YtefdfgmlmjnmlaaDoorW.PrintWords Go.Proofs.YtefdfgmlmjnmlaaDoorW.PrintLast Go.Proofs.YtefdfgmlmjnmlaaDoorW.PrintMore
attribute [local go_sem] max2_int min2_int max_two min_two max_three min_three max_four min_four   -- for this text's walks alone

/-! ### mortmainref08_Great: function 45 -/
def mortmainref08_Great.f (k : Nat) (a0_0 : Int) (a0_1 : Int) (a0_2 : Int) (a0_3 : Int) (a0_4 : ByteArray) (l0_5 : List (S72)) : Option (Bool) := (mortmainref08_Size.f k a0_0 a0_1 a0_2 a0_3 a0_4 l0_5).bind fun bt132 => (if bt132.1 > 300 then (some true) else (if bt132.2 > 60 then (some true) else ((mortmainref08_long.f k a0_0 a0_1 a0_2 a0_3 a0_4 l0_5).bind fun t134 => (some t134))))
theorem mortmainref08_Great.mono : ∀ a0 a1 a2 a3 a4 a5 k, LeO (mortmainref08_Great.f k a0 a1 a2 a3 a4 a5) (mortmainref08_Great.f (k + 1) a0 a1 a2 a3 a4 a5) := by
  intro a0 a1 a2 a3 a4 a5 k
  unfold mortmainref08_Great.f
  repeat' first
      | (with_reducible exact mortmainref08_Size.mono _ _ _ _ _ _ _)
      | (with_reducible exact mortmainref08_long.mono _ _ _ _ _ _ _)
      | (with_reducible exact LeO.refl _)
      | (with_reducible exact LeO.none _)
      | (with_reducible refine LeO.ite ?_ ?_)
      | (with_reducible refine LeO.bind ?_ (fun _ => ?_))
      | exact mortmainref08_Size.mono _ _ _ _ _ _ _
      | exact mortmainref08_long.mono _ _ _ _ _ _ _
      | exact LeO.none _
      | refine LeO.ite ?_ ?_
      | refine LeO.bind ?_ (fun _ => ?_)
set_option maxHeartbeats 8000000 in
set_option maxRecDepth 100000 in
theorem mortmainref08_Great.calls (k : Nat) (a0_0 : Int) (a0_1 : Int) (a0_2 : Int) (a0_3 : Int) (a0_4 : ByteArray) (A0_5 : Option Addr) (c0_5 : Nat) (l0_5 : List (S72)) (r : Bool) (w : World) (hr0_5 : Kd.C k72 w A0_5 l0_5.length l0_5) (hc0_5 : l0_5.length ≤ c0_5) (h : mortmainref08_Great.f k a0_0 a0_1 a0_2 a0_3 a0_4 l0_5 = some r) :
    Calls Tryd.prog 45 #[.agg #[.int .i64 a0_0, .int .i64 a0_1, .int .i64 a0_2, .int .i64 a0_3, .string a0_4, .slice A0_5 l0_5.length c0_5]] w fun e w' => e = .returned (.bool r) ∧ Below w.heap.size w w' := by
  have hu72 := Tryd.underlying72
  have HR0_5 := Aside0.mk hr0_5
  have HC0_5 := Aside0.mk hc0_5
  clear hr0_5 hc0_5
  have HB := Aside0.mk (Below.refl w.heap.size w)
  have H : ((mortmainref08_Size.f k a0_0 a0_1 a0_2 a0_3 a0_4 l0_5).bind fun bt132 => (if bt132.1 > 300 then (some true) else (if bt132.2 > 60 then (some true) else ((mortmainref08_long.f k a0_0 a0_1 a0_2 a0_3 a0_4 l0_5).bind fun t134 => (some t134))))) = some r := h
  clear h
  replace H := Option.bind_eq_some_iff.mp H
  obtain ⟨⟨t132, t133⟩, A20, H⟩ := H
  replace H : (if t132 > 300 then (some true) else (if t133 > 60 then (some true) else ((mortmainref08_long.f k a0_0 a0_1 a0_2 a0_3 a0_4 l0_5).bind fun t134 => (some t134)))) = some r := H
  have A2 := Aside0.mk A20
  clear A20
  by_cases c3 : t132 > 300
  · rw [if_pos c3] at H
    have c3b0 : decide (300 < t132) = true := decide_eq_true c3
    clear c3
    obtain rfl := Option.some.inj H
    go_enter Tryd.func45, Tryd.ntmps45
    go_wp2_with (first | ((with_reducible refine gate_dst (N := 1) rfl ?_); refine box_event ?hg (N := 1) ?hd (cs := #[.int .i64 a0_0, .int .i64 a0_1, .int .i64 a0_2, .int .i64 a0_3, .string a0_4, .slice A0_5 l0_5.length c0_5]) (t := 72) ?hr ?_; (case hd => rfl); (case hg => rfl); (case hr => first | (go_simp; done) | (go_simp; rfl)); intro gb131 hg w4 hbox hb; have n0_ := Aside0.mk (below_step (by repeat (first | (with_reducible first | exact HB.out | apply below_alloc | apply pw_below_drewN | apply below_drew1) | exact HB.out)) hb); have n1_ := Aside0.mk (hbox); have n2_ := Aside0.mk ((by rw [hg]; exact (below_size (by repeat (first | (with_reducible first | exact HB.out | apply below_alloc | apply pw_below_drewN | apply below_drew1) | exact HB.out))) : w.heap.size ≤ gb131)); have n3_ := Aside0.mk ((by rw [hg]; exact (below_size (by repeat (first | (with_reducible first | exact HB.out | apply below_alloc | apply pw_below_drewN | apply below_drew1) | exact HB.out))) : w.heap.size ≤ gb131)); clear HB; have HB := n0_; have BK131 := n1_; have GW131 := n2_; have GE131 := n3_; clear n0_ n1_ n2_ n3_; clear hb hbox hg; have hcz5_0 : w4.cell? ⟨gb131, 0, none⟩ = some (.int .i64 a0_0) := (blk_cell BK131.out 0).trans rfl; have hcz5_1 : w4.cell? ⟨gb131, 1, none⟩ = some (.int .i64 a0_1) := (blk_cell BK131.out 1).trans rfl; have hcz5_2 : w4.cell? ⟨gb131, 2, none⟩ = some (.int .i64 a0_2) := (blk_cell BK131.out 2).trans rfl; have hcz5_3 : w4.cell? ⟨gb131, 3, none⟩ = some (.int .i64 a0_3) := (blk_cell BK131.out 3).trans rfl; have hcz5_4 : w4.cell? ⟨gb131, 4, none⟩ = some (.string a0_4) := (blk_cell BK131.out 4).trans rfl; have hcz5_5 : w4.cell? ⟨gb131, 5, none⟩ = some (.slice A0_5 l0_5.length c0_5) := (blk_cell BK131.out 5).trans rfl; have hfz5_0 := blk_frozen BK131.out 0; have hfz5_1 := blk_frozen BK131.out 1; have hfz5_2 := blk_frozen BK131.out 2; have hfz5_3 := blk_frozen BK131.out 3; have hfz5_4 := blk_frozen BK131.out 4; have hfz5_5 := blk_frozen BK131.out 5) | ((with_reducible refine gate_callee (f := 79) rfl ?_); refine goesL_ (some 7) rfl rfl Tryd.func79 (by kernel_rfl) rfl #[.agg #[.int .i64 a0_0, .int .i64 a0_1, .int .i64 a0_2, .int .i64 a0_3, .string a0_4, .slice A0_5 l0_5.length c0_5]] rfl (by (try simp only [List.map_toArray, List.map_cons, List.map_nil]); first | done | rfl | (simp only [List.length_drop, List.length_take]; rfl)) ?_; (with_reducible refine (mortmainref08_Size.calls k a0_0 a0_1 a0_2 a0_3 a0_4 _ _ l0_5 t132 t133 _ ?side1 ?side2 A2.out).mono ?_); (case side1 => repeat (first | exact (Kd.C_below HR0_5.out HB.out) | (with_reducible refine Kd.C_alloc ?_ _) | (with_reducible refine Kd.C_drewN ?_ _) | (with_reducible refine Kd.C_drew ?_))); (case side2 => exact HC0_5.out); rintro e w6 ⟨rfl, hb⟩; refine ⟨_, rfl, ?_⟩; have n0_ := Aside0.mk (blk_below (g := gb131) (o := .cells #[.int .i64 a0_0, .int .i64 a0_1, .int .i64 a0_2, .int .i64 a0_3, .string a0_4, .slice A0_5 l0_5.length c0_5] 72 (0, 0)) (by (with_reducible repeat (first | refine blk_drewN ?_ _ | refine blk_drew ?_ | refine blk_alloc ?_ _)); exact BK131.out) hb); have n1_ := Aside0.mk (below_step (by repeat (first | (with_reducible first | exact HB.out | apply below_alloc | apply pw_below_drewN | apply below_drew1 | refine below_set ?_ GE131.out) | exact HB.out)) hb); clear BK131; clear HB; have BK131 := n0_; have HB := n1_; clear n0_ n1_; (try clear hb); (try clear hb2); (try clear hk); (try clear hi)))
    go_ret
    exact ⟨by first | rfl | (simp [errW_none, errW_some] <;> rfl) | (simp [*, errW_none, errW_some] <;> rfl), by repeat (first | (with_reducible first | exact HB.out | apply below_alloc | apply pw_below_drewN | apply below_drew1 | refine below_set ?_ GE131.out) | exact HB.out)⟩
  · rw [if_neg c3] at H
    have c3b0 : decide (300 < t132) = false := decide_eq_false c3
    clear c3
    by_cases c7 : t133 > 60
    · rw [if_pos c7] at H
      have c7b0 : decide (60 < t133) = true := decide_eq_true c7
      clear c7
      obtain rfl := Option.some.inj H
      go_enter Tryd.func45, Tryd.ntmps45
      go_wp2_with (first | ((with_reducible refine gate_dst (N := 1) rfl ?_); refine box_event ?hg (N := 1) ?hd (cs := #[.int .i64 a0_0, .int .i64 a0_1, .int .i64 a0_2, .int .i64 a0_3, .string a0_4, .slice A0_5 l0_5.length c0_5]) (t := 72) ?hr ?_; (case hd => rfl); (case hg => rfl); (case hr => first | (go_simp; done) | (go_simp; rfl)); intro gb131 hg w8 hbox hb; have n0_ := Aside0.mk (below_step (by repeat (first | (with_reducible first | exact HB.out | apply below_alloc | apply pw_below_drewN | apply below_drew1) | exact HB.out)) hb); have n1_ := Aside0.mk (hbox); have n2_ := Aside0.mk ((by rw [hg]; exact (below_size (by repeat (first | (with_reducible first | exact HB.out | apply below_alloc | apply pw_below_drewN | apply below_drew1) | exact HB.out))) : w.heap.size ≤ gb131)); have n3_ := Aside0.mk ((by rw [hg]; exact (below_size (by repeat (first | (with_reducible first | exact HB.out | apply below_alloc | apply pw_below_drewN | apply below_drew1) | exact HB.out))) : w.heap.size ≤ gb131)); clear HB; have HB := n0_; have BK131 := n1_; have GW131 := n2_; have GE131 := n3_; clear n0_ n1_ n2_ n3_; clear hb hbox hg; have hcz9_0 : w8.cell? ⟨gb131, 0, none⟩ = some (.int .i64 a0_0) := (blk_cell BK131.out 0).trans rfl; have hcz9_1 : w8.cell? ⟨gb131, 1, none⟩ = some (.int .i64 a0_1) := (blk_cell BK131.out 1).trans rfl; have hcz9_2 : w8.cell? ⟨gb131, 2, none⟩ = some (.int .i64 a0_2) := (blk_cell BK131.out 2).trans rfl; have hcz9_3 : w8.cell? ⟨gb131, 3, none⟩ = some (.int .i64 a0_3) := (blk_cell BK131.out 3).trans rfl; have hcz9_4 : w8.cell? ⟨gb131, 4, none⟩ = some (.string a0_4) := (blk_cell BK131.out 4).trans rfl; have hcz9_5 : w8.cell? ⟨gb131, 5, none⟩ = some (.slice A0_5 l0_5.length c0_5) := (blk_cell BK131.out 5).trans rfl; have hfz9_0 := blk_frozen BK131.out 0; have hfz9_1 := blk_frozen BK131.out 1; have hfz9_2 := blk_frozen BK131.out 2; have hfz9_3 := blk_frozen BK131.out 3; have hfz9_4 := blk_frozen BK131.out 4; have hfz9_5 := blk_frozen BK131.out 5) | ((with_reducible refine gate_callee (f := 79) rfl ?_); refine goesL_ (some 7) rfl rfl Tryd.func79 (by kernel_rfl) rfl #[.agg #[.int .i64 a0_0, .int .i64 a0_1, .int .i64 a0_2, .int .i64 a0_3, .string a0_4, .slice A0_5 l0_5.length c0_5]] rfl (by (try simp only [List.map_toArray, List.map_cons, List.map_nil]); first | done | rfl | (simp only [List.length_drop, List.length_take]; rfl)) ?_; (with_reducible refine (mortmainref08_Size.calls k a0_0 a0_1 a0_2 a0_3 a0_4 _ _ l0_5 t132 t133 _ ?side1 ?side2 A2.out).mono ?_); (case side1 => repeat (first | exact (Kd.C_below HR0_5.out HB.out) | (with_reducible refine Kd.C_alloc ?_ _) | (with_reducible refine Kd.C_drewN ?_ _) | (with_reducible refine Kd.C_drew ?_))); (case side2 => exact HC0_5.out); rintro e w10 ⟨rfl, hb⟩; refine ⟨_, rfl, ?_⟩; have n0_ := Aside0.mk (blk_below (g := gb131) (o := .cells #[.int .i64 a0_0, .int .i64 a0_1, .int .i64 a0_2, .int .i64 a0_3, .string a0_4, .slice A0_5 l0_5.length c0_5] 72 (0, 0)) (by (with_reducible repeat (first | refine blk_drewN ?_ _ | refine blk_drew ?_ | refine blk_alloc ?_ _)); exact BK131.out) hb); have n1_ := Aside0.mk (below_step (by repeat (first | (with_reducible first | exact HB.out | apply below_alloc | apply pw_below_drewN | apply below_drew1 | refine below_set ?_ GE131.out) | exact HB.out)) hb); clear BK131; clear HB; have BK131 := n0_; have HB := n1_; clear n0_ n1_; (try clear hb); (try clear hb2); (try clear hk); (try clear hi)))
      go_ret
      exact ⟨by first | rfl | (simp [errW_none, errW_some] <;> rfl) | (simp [*, errW_none, errW_some] <;> rfl), by repeat (first | (with_reducible first | exact HB.out | apply below_alloc | apply pw_below_drewN | apply below_drew1 | refine below_set ?_ GE131.out) | exact HB.out)⟩
    · rw [if_neg c7] at H
      have c7b0 : decide (60 < t133) = false := decide_eq_false c7
      clear c7
      replace H := Option.bind_eq_some_iff.mp H
      obtain ⟨t134, A110, H⟩ := H
      replace H : (some t134) = some r := H
      have A11 := Aside0.mk A110
      clear A110
      obtain rfl := Option.some.inj H
      go_enter Tryd.func45, Tryd.ntmps45
      go_wp2_with (first | ((with_reducible refine gate_dst (N := 1) rfl ?_); refine box_event ?hg (N := 1) ?hd (cs := #[.int .i64 a0_0, .int .i64 a0_1, .int .i64 a0_2, .int .i64 a0_3, .string a0_4, .slice A0_5 l0_5.length c0_5]) (t := 72) ?hr ?_; (case hd => rfl); (case hg => rfl); (case hr => first | (go_simp; done) | (go_simp; rfl)); intro gb131 hg w12 hbox hb; have n0_ := Aside0.mk (below_step (by repeat (first | (with_reducible first | exact HB.out | apply below_alloc | apply pw_below_drewN | apply below_drew1) | exact HB.out)) hb); have n1_ := Aside0.mk (hbox); have n2_ := Aside0.mk ((by rw [hg]; exact (below_size (by repeat (first | (with_reducible first | exact HB.out | apply below_alloc | apply pw_below_drewN | apply below_drew1) | exact HB.out))) : w.heap.size ≤ gb131)); have n3_ := Aside0.mk ((by rw [hg]; exact (below_size (by repeat (first | (with_reducible first | exact HB.out | apply below_alloc | apply pw_below_drewN | apply below_drew1) | exact HB.out))) : w.heap.size ≤ gb131)); clear HB; have HB := n0_; have BK131 := n1_; have GW131 := n2_; have GE131 := n3_; clear n0_ n1_ n2_ n3_; clear hb hbox hg; have hcz13_0 : w12.cell? ⟨gb131, 0, none⟩ = some (.int .i64 a0_0) := (blk_cell BK131.out 0).trans rfl; have hcz13_1 : w12.cell? ⟨gb131, 1, none⟩ = some (.int .i64 a0_1) := (blk_cell BK131.out 1).trans rfl; have hcz13_2 : w12.cell? ⟨gb131, 2, none⟩ = some (.int .i64 a0_2) := (blk_cell BK131.out 2).trans rfl; have hcz13_3 : w12.cell? ⟨gb131, 3, none⟩ = some (.int .i64 a0_3) := (blk_cell BK131.out 3).trans rfl; have hcz13_4 : w12.cell? ⟨gb131, 4, none⟩ = some (.string a0_4) := (blk_cell BK131.out 4).trans rfl; have hcz13_5 : w12.cell? ⟨gb131, 5, none⟩ = some (.slice A0_5 l0_5.length c0_5) := (blk_cell BK131.out 5).trans rfl; have hfz13_0 := blk_frozen BK131.out 0; have hfz13_1 := blk_frozen BK131.out 1; have hfz13_2 := blk_frozen BK131.out 2; have hfz13_3 := blk_frozen BK131.out 3; have hfz13_4 := blk_frozen BK131.out 4; have hfz13_5 := blk_frozen BK131.out 5) | ((with_reducible refine gate_callee (f := 79) rfl ?_); refine goesL_ (some 7) rfl rfl Tryd.func79 (by kernel_rfl) rfl #[.agg #[.int .i64 a0_0, .int .i64 a0_1, .int .i64 a0_2, .int .i64 a0_3, .string a0_4, .slice A0_5 l0_5.length c0_5]] rfl (by (try simp only [List.map_toArray, List.map_cons, List.map_nil]); first | done | rfl | (simp only [List.length_drop, List.length_take]; rfl)) ?_; (with_reducible refine (mortmainref08_Size.calls k a0_0 a0_1 a0_2 a0_3 a0_4 _ _ l0_5 t132 t133 _ ?side1 ?side2 A2.out).mono ?_); (case side1 => repeat (first | exact (Kd.C_below HR0_5.out HB.out) | (with_reducible refine Kd.C_alloc ?_ _) | (with_reducible refine Kd.C_drewN ?_ _) | (with_reducible refine Kd.C_drew ?_))); (case side2 => exact HC0_5.out); rintro e w14 ⟨rfl, hb⟩; refine ⟨_, rfl, ?_⟩; have n0_ := Aside0.mk (blk_below (g := gb131) (o := .cells #[.int .i64 a0_0, .int .i64 a0_1, .int .i64 a0_2, .int .i64 a0_3, .string a0_4, .slice A0_5 l0_5.length c0_5] 72 (0, 0)) (by (with_reducible repeat (first | refine blk_drewN ?_ _ | refine blk_drew ?_ | refine blk_alloc ?_ _)); exact BK131.out) hb); have n1_ := Aside0.mk (below_step (by repeat (first | (with_reducible first | exact HB.out | apply below_alloc | apply pw_below_drewN | apply below_drew1 | refine below_set ?_ GE131.out) | exact HB.out)) hb); clear BK131; clear HB; have BK131 := n0_; have HB := n1_; clear n0_ n1_; (try clear hb); (try clear hb2); (try clear hk); (try clear hi); have hcz15_0 : w14.cell? ⟨gb131, 0, none⟩ = some (.int .i64 a0_0) := (blk_cell BK131.out 0).trans rfl; have hcz15_1 : w14.cell? ⟨gb131, 1, none⟩ = some (.int .i64 a0_1) := (blk_cell BK131.out 1).trans rfl; have hcz15_2 : w14.cell? ⟨gb131, 2, none⟩ = some (.int .i64 a0_2) := (blk_cell BK131.out 2).trans rfl; have hcz15_3 : w14.cell? ⟨gb131, 3, none⟩ = some (.int .i64 a0_3) := (blk_cell BK131.out 3).trans rfl; have hcz15_4 : w14.cell? ⟨gb131, 4, none⟩ = some (.string a0_4) := (blk_cell BK131.out 4).trans rfl; have hcz15_5 : w14.cell? ⟨gb131, 5, none⟩ = some (.slice A0_5 l0_5.length c0_5) := (blk_cell BK131.out 5).trans rfl; have hfz15_0 := blk_frozen BK131.out 0; have hfz15_1 := blk_frozen BK131.out 1; have hfz15_2 := blk_frozen BK131.out 2; have hfz15_3 := blk_frozen BK131.out 3; have hfz15_4 := blk_frozen BK131.out 4; have hfz15_5 := blk_frozen BK131.out 5) | (go_at_call 80; (with_reducible refine (mortmainref08_long.calls k a0_0 a0_1 a0_2 a0_3 a0_4 _ _ l0_5 t134 _ ?side1 ?side2 A11.out).mono ?_); (case side1 => repeat (first | exact (Kd.C_below HR0_5.out HB.out) | (with_reducible refine Kd.C_alloc ?_ _) | (with_reducible refine Kd.C_drewN ?_ _) | (with_reducible refine Kd.C_drew ?_))); (case side2 => exact HC0_5.out); rintro e w16 ⟨rfl, hb⟩; have n0_ := Aside0.mk (blk_below (g := gb131) (o := .cells #[.int .i64 a0_0, .int .i64 a0_1, .int .i64 a0_2, .int .i64 a0_3, .string a0_4, .slice A0_5 l0_5.length c0_5] 72 (0, 0)) (by (with_reducible repeat (first | refine blk_drewN ?_ _ | refine blk_drew ?_ | refine blk_alloc ?_ _)); exact BK131.out) hb); have n1_ := Aside0.mk (below_step (by repeat (first | (with_reducible first | exact HB.out | apply below_alloc | apply pw_below_drewN | apply below_drew1 | refine below_set ?_ GE131.out) | exact HB.out)) hb); clear BK131; clear HB; have BK131 := n0_; have HB := n1_; clear n0_ n1_; (try clear hb); (try clear hb2); (try clear hk); (try clear hi)))
      go_ret
      exact ⟨by first | rfl | (simp [errW_none, errW_some] <;> rfl) | (simp [*, errW_none, errW_some] <;> rfl), by repeat (first | (with_reducible first | exact HB.out | apply below_alloc | apply pw_below_drewN | apply below_drew1 | refine below_set ?_ GE131.out) | exact HB.out)⟩

end Go.Proofs.YtefdfgmlmjnmlaaDoor.Rf
end

section
set_option linter.unusedVariables false
set_option linter.unusedSimpArgs false
/- What the kit's print.py wrote of one Go function of this seat's translation (run by a program of this session, one function a text): the function as a plain Lean function, and that the call computes it. -/
namespace Go.Proofs.YtefdfgmlmjnmlaaDoor.Rf
open Go.RowKit Go.Proofs.YtefdfgmlmjnmlaaDoorW.PrintWords Go.Proofs.YtefdfgmlmjnmlaaDoorW.PrintLast Go.Proofs.YtefdfgmlmjnmlaaDoorW.PrintMore
attribute [local go_sem] max2_int min2_int max_two min_two max_three min_three max_four min_four   -- for this text's walks alone

/-! ### mortmainref09_Great: function 13 -/
mutual
def mortmainref09_Great.l0 : Nat → Int → List (S45) → Int → Int → Int → List (S45) → List (S27) → Option (Bool)
  | 0, _, _, _, _, _, _, _ => none
  | k + 1, x3, x22, x23, x24, x136000, x136001, x136002 => if x24 < x23 then (if 0 ≤ x24 then (if x24 < (x22.length : Int) then (mortmainref09_Great.l1 k (wrap64 ((wrap64 ((wrap64 (x3 + (((rd_T45 x22 x24).f0).size : Int))) + (((rd_T45 x22 x24).f2).length : Int))) + (((rd_T45 x22 x24).f3).length : Int))) x22 x23 x24 ((rd_T45 x22 x24).f2) (((rd_T45 x22 x24).f2).length : Int) 0 x136000 x136001 x136002 ((rd_T45 x22 x24).f0) ((rd_T45 x22 x24).f1) ((rd_T45 x22 x24).f2) ((rd_T45 x22 x24).f3)) else (none)) else (none)) else (mortmainref09_Great.l3 k x3 x136002 (x136002.length : Int) 0)
def mortmainref09_Great.l1 : Nat → Int → List (S45) → Int → Int → List (S59) → Int → Int → Int → List (S45) → List (S27) → ByteArray → Int → List (S59) → List (S72) → Option (Bool)
  | 0, _, _, _, _, _, _, _, _, _, _, _, _, _, _ => none
  | k + 1, x3, x22, x23, x24, x42, x43, x44, x136000, x136001, x136002, x138000, x138001, x138002, x138003 => if x44 < x43 then (if 0 ≤ x44 then (if x44 < (x42.length : Int) then (mortmainref09_Great.l1 k (wrap64 ((wrap64 (x3 + (((rd_T59 x42 x44).f0).size : Int))) + (((rd_T59 x42 x44).f4).size : Int))) x22 x23 x24 x42 x43 (wrap64 (x44 + 1)) x136000 x136001 x136002 x138000 x138001 x138002 x138003) else (none)) else (none)) else (mortmainref09_Great.l2 k x3 x22 x23 x24 x138003 (x138003.length : Int) 0 x136000 x136001 x136002)
def mortmainref09_Great.l2 : Nat → Int → List (S45) → Int → Int → List (S72) → Int → Int → Int → List (S45) → List (S27) → Option (Bool)
  | 0, _, _, _, _, _, _, _, _, _, _ => none
  | k + 1, x3, x22, x23, x24, x59, x60, x61, x136000, x136001, x136002 => if x61 < x60 then (if 0 ≤ x61 then (if x61 < (x59.length : Int) then ((mortmainref08_Great.f k ((rd_T72 x59 x61).f0) ((rd_T72 x59 x61).f1) ((rd_T72 x59 x61).f2.f0) ((rd_T72 x59 x61).f2.f1) ((rd_T72 x59 x61).f2.f2) ((rd_T72 x59 x61).f3)).bind fun t142 => (if t142 = true then (some true) else (mortmainref09_Great.l2 k x3 x22 x23 x24 x59 x60 (wrap64 (x61 + 1)) x136000 x136001 x136002))) else (none)) else (none)) else (if x3 > 3000 then (some true) else (mortmainref09_Great.l0 k x3 x22 x23 (wrap64 (x24 + 1)) x136000 x136001 x136002))
def mortmainref09_Great.l3 : Nat → Int → List (S27) → Int → Int → Option (Bool)
  | 0, _, _, _, _ => none
  | k + 1, x3, x72, x73, x74 => if x74 < x73 then (if 0 ≤ x74 then (if x74 < (x72.length : Int) then (mortmainref09_Great.l3 k (wrap64 (x3 + (((rd_T27 x72 x74).f1).size : Int))) x72 x73 (wrap64 (x74 + 1))) else (none)) else (none)) else (some (decide (x3 > 3000)))
end
def mortmainref09_Great.f (k : Nat) (a0_0 : Int) (l0_1 : List (S45)) (l0_2 : List (S27)) : Option (Bool) := if (wrap64 ((l0_1.length : Int) + (l0_2.length : Int))) > 200 then (some true) else (mortmainref09_Great.l0 k (wrap64 ((l0_1.length : Int) + (l0_2.length : Int))) l0_1 (l0_1.length : Int) 0 a0_0 l0_1 l0_2)
theorem mortmainref09_Great.mono_l : ∀ k, (∀ y0 y1 y2 y3 y4 y5 y6, LeO (mortmainref09_Great.l0 k y0 y1 y2 y3 y4 y5 y6) (mortmainref09_Great.l0 (k + 1) y0 y1 y2 y3 y4 y5 y6)) ∧ (∀ y0 y1 y2 y3 y4 y5 y6 y7 y8 y9 y10 y11 y12 y13, LeO (mortmainref09_Great.l1 k y0 y1 y2 y3 y4 y5 y6 y7 y8 y9 y10 y11 y12 y13) (mortmainref09_Great.l1 (k + 1) y0 y1 y2 y3 y4 y5 y6 y7 y8 y9 y10 y11 y12 y13)) ∧ (∀ y0 y1 y2 y3 y4 y5 y6 y7 y8 y9, LeO (mortmainref09_Great.l2 k y0 y1 y2 y3 y4 y5 y6 y7 y8 y9) (mortmainref09_Great.l2 (k + 1) y0 y1 y2 y3 y4 y5 y6 y7 y8 y9)) ∧ (∀ y0 y1 y2 y3, LeO (mortmainref09_Great.l3 k y0 y1 y2 y3) (mortmainref09_Great.l3 (k + 1) y0 y1 y2 y3))
  | 0 => ⟨fun _ _ _ _ _ _ _ r h => by simp [mortmainref09_Great.l0] at h, fun _ _ _ _ _ _ _ _ _ _ _ _ _ _ r h => by simp [mortmainref09_Great.l1] at h, fun _ _ _ _ _ _ _ _ _ _ r h => by simp [mortmainref09_Great.l2] at h, fun _ _ _ _ r h => by simp [mortmainref09_Great.l3] at h⟩
  | k + 1 => by
    obtain ⟨ih0, ih1, ih2, ih3⟩ := mortmainref09_Great.mono_l k
    refine ⟨?_, ?_, ?_, ?_⟩
    · intro y0 y1 y2 y3 y4 y5 y6
      unfold mortmainref09_Great.l0
      repeat' first
      | (with_reducible exact ih0 _ _ _ _ _ _ _)
      | (with_reducible exact ih1 _ _ _ _ _ _ _ _ _ _ _ _ _ _)
      | (with_reducible exact ih2 _ _ _ _ _ _ _ _ _ _)
      | (with_reducible exact ih3 _ _ _ _)
      | (with_reducible exact mortmainref08_Great.mono _ _ _ _ _ _ _)
      | (with_reducible exact LeO.refl _)
      | (with_reducible exact LeO.none _)
      | (with_reducible refine LeO.ite ?_ ?_)
      | (with_reducible refine LeO.bind ?_ (fun _ => ?_))
      | exact ih0 _ _ _ _ _ _ _
      | exact ih1 _ _ _ _ _ _ _ _ _ _ _ _ _ _
      | exact ih2 _ _ _ _ _ _ _ _ _ _
      | exact ih3 _ _ _ _
      | exact mortmainref08_Great.mono _ _ _ _ _ _ _
      | exact LeO.none _
      | refine LeO.ite ?_ ?_
      | refine LeO.bind ?_ (fun _ => ?_)
    · intro y0 y1 y2 y3 y4 y5 y6 y7 y8 y9 y10 y11 y12 y13
      unfold mortmainref09_Great.l1
      repeat' first
      | (with_reducible exact ih0 _ _ _ _ _ _ _)
      | (with_reducible exact ih1 _ _ _ _ _ _ _ _ _ _ _ _ _ _)
      | (with_reducible exact ih2 _ _ _ _ _ _ _ _ _ _)
      | (with_reducible exact ih3 _ _ _ _)
      | (with_reducible exact mortmainref08_Great.mono _ _ _ _ _ _ _)
      | (with_reducible exact LeO.refl _)
      | (with_reducible exact LeO.none _)
      | (with_reducible refine LeO.ite ?_ ?_)
      | (with_reducible refine LeO.bind ?_ (fun _ => ?_))
      | exact ih0 _ _ _ _ _ _ _
      | exact ih1 _ _ _ _ _ _ _ _ _ _ _ _ _ _
      | exact ih2 _ _ _ _ _ _ _ _ _ _
      | exact ih3 _ _ _ _
      | exact mortmainref08_Great.mono _ _ _ _ _ _ _
      | exact LeO.none _
      | refine LeO.ite ?_ ?_
      | refine LeO.bind ?_ (fun _ => ?_)
    · intro y0 y1 y2 y3 y4 y5 y6 y7 y8 y9
      unfold mortmainref09_Great.l2
      repeat' first
      | (with_reducible exact ih0 _ _ _ _ _ _ _)
      | (with_reducible exact ih1 _ _ _ _ _ _ _ _ _ _ _ _ _ _)
      | (with_reducible exact ih2 _ _ _ _ _ _ _ _ _ _)
      | (with_reducible exact ih3 _ _ _ _)
      | (with_reducible exact mortmainref08_Great.mono _ _ _ _ _ _ _)
      | (with_reducible exact LeO.refl _)
      | (with_reducible exact LeO.none _)
      | (with_reducible refine LeO.ite ?_ ?_)
      | (with_reducible refine LeO.bind ?_ (fun _ => ?_))
      | exact ih0 _ _ _ _ _ _ _
      | exact ih1 _ _ _ _ _ _ _ _ _ _ _ _ _ _
      | exact ih2 _ _ _ _ _ _ _ _ _ _
      | exact ih3 _ _ _ _
      | exact mortmainref08_Great.mono _ _ _ _ _ _ _
      | exact LeO.none _
      | refine LeO.ite ?_ ?_
      | refine LeO.bind ?_ (fun _ => ?_)
    · intro y0 y1 y2 y3
      unfold mortmainref09_Great.l3
      repeat' first
      | (with_reducible exact ih0 _ _ _ _ _ _ _)
      | (with_reducible exact ih1 _ _ _ _ _ _ _ _ _ _ _ _ _ _)
      | (with_reducible exact ih2 _ _ _ _ _ _ _ _ _ _)
      | (with_reducible exact ih3 _ _ _ _)
      | (with_reducible exact mortmainref08_Great.mono _ _ _ _ _ _ _)
      | (with_reducible exact LeO.refl _)
      | (with_reducible exact LeO.none _)
      | (with_reducible refine LeO.ite ?_ ?_)
      | (with_reducible refine LeO.bind ?_ (fun _ => ?_))
      | exact ih0 _ _ _ _ _ _ _
      | exact ih1 _ _ _ _ _ _ _ _ _ _ _ _ _ _
      | exact ih2 _ _ _ _ _ _ _ _ _ _
      | exact ih3 _ _ _ _
      | exact mortmainref08_Great.mono _ _ _ _ _ _ _
      | exact LeO.none _
      | refine LeO.ite ?_ ?_
      | refine LeO.bind ?_ (fun _ => ?_)
theorem mortmainref09_Great.mono : ∀ a0 a1 a2 k, LeO (mortmainref09_Great.f k a0 a1 a2) (mortmainref09_Great.f (k + 1) a0 a1 a2) := by
  intro a0 a1 a2 k
  obtain ⟨ih0, ih1, ih2, ih3⟩ := mortmainref09_Great.mono_l k
  unfold mortmainref09_Great.f
  repeat' first
      | (with_reducible exact ih0 _ _ _ _ _ _ _)
      | (with_reducible exact ih1 _ _ _ _ _ _ _ _ _ _ _ _ _ _)
      | (with_reducible exact ih2 _ _ _ _ _ _ _ _ _ _)
      | (with_reducible exact ih3 _ _ _ _)
      | (with_reducible exact mortmainref08_Great.mono _ _ _ _ _ _ _)
      | (with_reducible exact LeO.refl _)
      | (with_reducible exact LeO.none _)
      | (with_reducible refine LeO.ite ?_ ?_)
      | (with_reducible refine LeO.bind ?_ (fun _ => ?_))
      | exact ih0 _ _ _ _ _ _ _
      | exact ih1 _ _ _ _ _ _ _ _ _ _ _ _ _ _
      | exact ih2 _ _ _ _ _ _ _ _ _ _
      | exact ih3 _ _ _ _
      | exact mortmainref08_Great.mono _ _ _ _ _ _ _
      | exact LeO.none _
      | refine LeO.ite ?_ ?_
      | refine LeO.bind ?_ (fun _ => ?_)
set_option maxHeartbeats 8000000 in
set_option maxRecDepth 100000 in
theorem mortmainref09_Great.calls (k : Nat) (a0_0 : Int) (A0_1 : Option Addr) (c0_1 : Nat) (l0_1 : List (S45)) (A0_2 : Option Addr) (c0_2 : Nat) (l0_2 : List (S27)) (r : Bool) (w : World) (hr0_1 : Kd.C k45 w A0_1 l0_1.length l0_1) (hc0_1 : l0_1.length ≤ c0_1) (hr0_2 : Kd.C k27 w A0_2 l0_2.length l0_2) (hc0_2 : l0_2.length ≤ c0_2) (h : mortmainref09_Great.f k a0_0 l0_1 l0_2 = some r) :
    Calls Tryd.prog 13 #[.agg #[.int .i64 a0_0, .slice A0_1 l0_1.length c0_1, .slice A0_2 l0_2.length c0_2]] w fun e w' => e = .returned (.bool r) ∧ Below w.heap.size w w' := by
  have hu25 := Tryd.underlying25
  have hu45 := Tryd.underlying45
  have hu59 := Tryd.underlying59
  have hu72 := Tryd.underlying72
  have hu27 := Tryd.underlying27
  have HR0_1 := Aside0.mk hr0_1
  have HC0_1 := Aside0.mk hc0_1
  clear hr0_1 hc0_1
  have HR0_2 := Aside0.mk hr0_2
  have HC0_2 := Aside0.mk hc0_2
  clear hr0_2 hc0_2
  have HB := Aside0.mk (Below.refl w.heap.size w)
  have H : (if (wrap64 ((l0_1.length : Int) + (l0_2.length : Int))) > 200 then (some true) else (mortmainref09_Great.l0 k (wrap64 ((l0_1.length : Int) + (l0_2.length : Int))) l0_1 (l0_1.length : Int) 0 a0_0 l0_1 l0_2)) = some r := h
  clear h
  by_cases c2 : (wrap64 ((l0_1.length : Int) + (l0_2.length : Int))) > 200
  · rw [if_pos c2] at H
    have c2b0 : decide (200 < (wrap64 ((l0_1.length : Int) + (l0_2.length : Int)))) = true := decide_eq_true c2
    clear c2
    obtain rfl := Option.some.inj H
    go_enter Tryd.func13, Tryd.ntmps13
    go_wp2_with (first | ((with_reducible refine gate_dst (N := 1) rfl ?_); refine box_event ?hg (N := 1) ?hd (cs := #[.int .i64 a0_0, .slice A0_1 l0_1.length c0_1, .slice A0_2 l0_2.length c0_2]) (t := 25) ?hr ?_; (case hd => rfl); (case hg => rfl); (case hr => first | (go_simp; done) | (go_simp; rfl)); intro gb135 hg w3 hbox hb; have n0_ := Aside0.mk (below_step (by repeat (first | (with_reducible first | exact HB.out | apply below_alloc | apply pw_below_drewN | apply below_drew1) | exact HB.out)) hb); have n1_ := Aside0.mk (hbox); have n2_ := Aside0.mk ((by rw [hg]; exact (below_size (by repeat (first | (with_reducible first | exact HB.out | apply below_alloc | apply pw_below_drewN | apply below_drew1) | exact HB.out))) : w.heap.size ≤ gb135)); have n3_ := Aside0.mk ((by rw [hg]; exact (below_size (by repeat (first | (with_reducible first | exact HB.out | apply below_alloc | apply pw_below_drewN | apply below_drew1) | exact HB.out))) : w.heap.size ≤ gb135)); clear HB; have HB := n0_; have BK135 := n1_; have GW135 := n2_; have GE135 := n3_; clear n0_ n1_ n2_ n3_; clear hb hbox hg; have hcz4_0 : w3.cell? ⟨gb135, 0, none⟩ = some (.int .i64 a0_0) := (blk_cell BK135.out 0).trans rfl; have hcz4_1 : w3.cell? ⟨gb135, 1, none⟩ = some (.slice A0_1 l0_1.length c0_1) := (blk_cell BK135.out 1).trans rfl; have hcz4_2 : w3.cell? ⟨gb135, 2, none⟩ = some (.slice A0_2 l0_2.length c0_2) := (blk_cell BK135.out 2).trans rfl; have hfz4_0 := blk_frozen BK135.out 0; have hfz4_1 := blk_frozen BK135.out 1; have hfz4_2 := blk_frozen BK135.out 2))
    go_ret
    exact ⟨by first | rfl | (simp [errW_none, errW_some] <;> rfl) | (simp [*, errW_none, errW_some] <;> rfl), by repeat (first | (with_reducible first | exact HB.out | apply below_alloc | apply pw_below_drewN | apply below_drew1 | refine below_set ?_ GE135.out) | exact HB.out)⟩
  · rw [if_neg c2] at H
    have c2b0 : decide (200 < (wrap64 ((l0_1.length : Int) + (l0_2.length : Int)))) = false := decide_eq_false c2
    clear c2
    have H' := Aside0.mk H
    clear H
    go_enter Tryd.func13, Tryd.ntmps13
    go_wp2_with (first | ((with_reducible refine gate_dst (N := 1) rfl ?_); refine box_event ?hg (N := 1) ?hd (cs := #[.int .i64 a0_0, .slice A0_1 l0_1.length c0_1, .slice A0_2 l0_2.length c0_2]) (t := 25) ?hr ?_; (case hd => rfl); (case hg => rfl); (case hr => first | (go_simp; done) | (go_simp; rfl)); intro gb135 hg w5 hbox hb; have n0_ := Aside0.mk (below_step (by repeat (first | (with_reducible first | exact HB.out | apply below_alloc | apply pw_below_drewN | apply below_drew1) | exact HB.out)) hb); have n1_ := Aside0.mk (hbox); have n2_ := Aside0.mk ((by rw [hg]; exact (below_size (by repeat (first | (with_reducible first | exact HB.out | apply below_alloc | apply pw_below_drewN | apply below_drew1) | exact HB.out))) : w.heap.size ≤ gb135)); have n3_ := Aside0.mk ((by rw [hg]; exact (below_size (by repeat (first | (with_reducible first | exact HB.out | apply below_alloc | apply pw_below_drewN | apply below_drew1) | exact HB.out))) : w.heap.size ≤ gb135)); clear HB; have HB := n0_; have BK135 := n1_; have GW135 := n2_; have GE135 := n3_; clear n0_ n1_ n2_ n3_; clear hb hbox hg; have hcz6_0 : w5.cell? ⟨gb135, 0, none⟩ = some (.int .i64 a0_0) := (blk_cell BK135.out 0).trans rfl; have hcz6_1 : w5.cell? ⟨gb135, 1, none⟩ = some (.slice A0_1 l0_1.length c0_1) := (blk_cell BK135.out 1).trans rfl; have hcz6_2 : w5.cell? ⟨gb135, 2, none⟩ = some (.slice A0_2 l0_2.length c0_2) := (blk_cell BK135.out 2).trans rfl; have hfz6_0 := blk_frozen BK135.out 0; have hfz6_1 := blk_frozen BK135.out 1; have hfz6_2 := blk_frozen BK135.out 2))
    go_loopg [3, 24] k (fun kq v3 v24 w' => ∃ (x3_1 : Int) (x24_1 : Int), v3 = .int .i64 x3_1 ∧ v24 = .int .i64 x24_1 ∧ Aside0 (mortmainref09_Great.l0 kq x3_1 l0_1 (l0_1.length : Int) x24_1 a0_0 l0_1 l0_2 = some r) ∧ Aside0 (kq ≤ k) ∧ Aside0 (w'.heap[gb135]? = some (.cells #[.int .i64 a0_0, (.slice A0_1 l0_1.length c0_1), (.slice A0_2 l0_2.length c0_2)] 25 (0, 0))) ∧ Aside0 (Below w.heap.size w w'))
    case atStart => exact ⟨(wrap64 ((l0_1.length : Int) + (l0_2.length : Int))), (0), (by first | rfl | (simp; done) | (simp [*]; done)), (by first | rfl | (simp; done) | (simp [*]; done)), H', ⟨Nat.le_refl _⟩, ⟨by (with_reducible repeat (first | refine blk_drewN ?_ _ | refine blk_drew ?_ | refine blk_alloc ?_ _)); exact BK135.out⟩, ⟨by repeat (first | (with_reducible first | exact HB.out | apply below_alloc | apply pw_below_drewN | apply below_drew1 | refine below_set ?_ GE135.out) | exact HB.out)⟩⟩
    case round =>
      clear H'
      try clear c1
      try clear c2
      try clear c2b0
      try clear p2
      try clear p6
      try clear hcz4_0
      try clear hcz4_1
      try clear hcz4_2
      try clear hcz6_0
      try clear hcz6_1
      try clear hcz6_2
      try clear hfz4_0
      try clear hfz4_1
      try clear hfz4_2
      try clear hfz6_0
      try clear hfz6_1
      try clear hfz6_2
      obtain ⟨x3_1, x24_1, rfl, rfl, HA, HK1, BK135, HB⟩ := hrel
      cases gk with
      | zero => exact absurd HA.out (by simp [mortmainref09_Great.l0])
      | succ k1 =>
        have H := HA.out
        clear HA
        simp only [mortmainref09_Great.l0] at H
        by_cases c7 : x24_1 < (l0_1.length : Int)
        · rw [if_pos c7] at H
          have c7b0 : decide (x24_1 < (l0_1.length : Int)) = true := decide_eq_true c7
          clear c7
          by_cases c8 : 0 ≤ x24_1
          · rw [if_pos c8] at H
            have c8b0 : decide (0 ≤ x24_1) = true := decide_eq_true c8
            clear c8
            by_cases c9 : x24_1 < (l0_1.length : Int)
            · rw [if_pos c9] at H
              have c9b0 : decide (x24_1 < (l0_1.length : Int)) = true := decide_eq_true c9
              clear c9
              have H' := Aside0.mk H
              clear H
              have p136 : 0 ≤ (x24_1 : Int) := of_decide_eq_true (by first | (with_reducible assumption) | assumption)
              have q136 : x24_1 < (l0_1.length : Int) := of_decide_eq_true (by first | (with_reducible assumption) | assumption)
              obtain ⟨ad136, A136_2, c136_2, A136_3, c136_3, e136, hx136_0, hx136_1, hx136_2, hx136_3, hl136_2, hi136_2, hl136_3, hi136_3⟩ := at_T45 HR0_1.out x24_1 p136 q136
              cases e136
              replace hx136_0 := (HB.out.cell (World.block_lt_of_cell? w _ hx136_0)).trans hx136_0
              replace hx136_1 := (HB.out.cell (World.block_lt_of_cell? w _ hx136_1)).trans hx136_1
              replace hx136_2 := (HB.out.cell (World.block_lt_of_cell? w _ hx136_2)).trans hx136_2
              replace hx136_3 := (HB.out.cell (World.block_lt_of_cell? w _ hx136_3)).trans hx136_3
              have HR136_2 := Aside0.mk hi136_2
              have HC136_2 := Aside0.mk hl136_2
              clear hi136_2 hl136_2
              have HR136_3 := Aside0.mk hi136_3
              have HC136_3 := Aside0.mk hl136_3
              clear hi136_3 hl136_3
              replace p136 := eq_true p136
              replace q136 := eq_true q136
              go_wp2_with (first | ((with_reducible refine gate_dst (N := 5) rfl ?_); refine box_event ?hg (N := 5) ?hd (cs := #[.string (⟨#[]⟩ : ByteArray), .int .i64 0, .slice none 0 0, .slice none 0 0]) (t := 45) ?hr ?_; (case hd => rfl); (case hg => rfl); (case hr => first | (go_simp; done) | (go_simp; rfl)); intro gb137 hg w10 hbox hb; have n0_ := Aside0.mk (blk_below (g := gb135) (o := .cells #[.int .i64 a0_0, .slice (some ad136) l0_1.length c0_1, .slice A0_2 l0_2.length c0_2] 25 (0, 0)) (by (with_reducible repeat (first | refine blk_drewN ?_ _ | refine blk_drew ?_ | refine blk_alloc ?_ _)); exact BK135.out) hb); have n1_ := Aside0.mk (below_step (by repeat (first | (with_reducible first | exact HB.out | apply below_alloc | apply pw_below_drewN | apply below_drew1 | refine below_set ?_ GE135.out) | exact HB.out)) hb); have n2_ := Aside0.mk (hbox); have n3_ := Aside0.mk ((by rw [hg]; exact (below_size (by repeat (first | (with_reducible first | exact HB.out | apply below_alloc | apply pw_below_drewN | apply below_drew1 | refine below_set ?_ GE135.out) | exact HB.out))) : w.heap.size ≤ gb137)); have n4_ := Aside0.mk ((by rw [hg]; exact (below_size (by repeat (first | (with_reducible first | exact HB.out | apply below_alloc | apply pw_below_drewN | apply below_drew1 | refine below_set ?_ GE135.out) | exact HB.out))) : w.heap.size ≤ gb137)); have n5_ := Aside0.mk ((by rw [hg]; exact Nat.ne_of_lt (blk_lt (g := gb135) (o := .cells #[.int .i64 a0_0, .slice (some ad136) l0_1.length c0_1, .slice A0_2 l0_2.length c0_2] 25 (0, 0)) (by (with_reducible repeat (first | refine blk_drewN ?_ _ | refine blk_drew ?_ | refine blk_alloc ?_ _)); exact BK135.out)) : gb135 ≠ gb137)); have n6_ := Aside0.mk ((by rw [hg]; exact Nat.ne_of_gt (blk_lt (g := gb135) (o := .cells #[.int .i64 a0_0, .slice (some ad136) l0_1.length c0_1, .slice A0_2 l0_2.length c0_2] 25 (0, 0)) (by (with_reducible repeat (first | refine blk_drewN ?_ _ | refine blk_drew ?_ | refine blk_alloc ?_ _)); exact BK135.out)) : gb137 ≠ gb135)); clear BK135; clear HB; have BK135 := n0_; have HB := n1_; have BK137 := n2_; have GW137 := n3_; have GE137 := n4_; have NB135_137 := n5_; have NB137_135 := n6_; clear n0_ n1_ n2_ n3_ n4_ n5_ n6_; clear hb hbox hg; have hnb11 := NB137_135.out; have hnc11 := NB135_137.out; have hcz12_0 : w10.cell? ⟨gb137, 0, none⟩ = some (.string (⟨#[]⟩ : ByteArray)) := (blk_cell BK137.out 0).trans rfl; have hcz12_1 : w10.cell? ⟨gb137, 1, none⟩ = some (.int .i64 0) := (blk_cell BK137.out 1).trans rfl; have hcz12_2 : w10.cell? ⟨gb137, 2, none⟩ = some (.slice none 0 0) := (blk_cell BK137.out 2).trans rfl; have hcz12_3 : w10.cell? ⟨gb137, 3, none⟩ = some (.slice none 0 0) := (blk_cell BK137.out 3).trans rfl; have hfz12_0 := blk_frozen BK137.out 0; have hfz12_1 := blk_frozen BK137.out 1; have hfz12_2 := blk_frozen BK137.out 2; have hfz12_3 := blk_frozen BK137.out 3))
              go_loopg [3, 44] k1 (fun kq v3 v44 w' => ∃ (x3_2 : Int) (x44_2 : Int), v3 = .int .i64 x3_2 ∧ v44 = .int .i64 x44_2 ∧ Aside0 (mortmainref09_Great.l1 kq x3_2 l0_1 (l0_1.length : Int) x24_1 ((rd_T45 l0_1 x24_1).f2) (((rd_T45 l0_1 x24_1).f2).length : Int) x44_2 a0_0 l0_1 l0_2 ((rd_T45 l0_1 x24_1).f0) ((rd_T45 l0_1 x24_1).f1) ((rd_T45 l0_1 x24_1).f2) ((rd_T45 l0_1 x24_1).f3) = some r) ∧ Aside0 (kq ≤ k1) ∧ Aside0 (w'.heap[gb135]? = some (.cells #[.int .i64 a0_0, (.slice (some ad136) l0_1.length c0_1), (.slice A0_2 l0_2.length c0_2)] 25 (0, 0))) ∧ Aside0 (w'.heap[gb137]? = some (.cells #[.string ((rd_T45 l0_1 x24_1).f0), .int .i64 ((rd_T45 l0_1 x24_1).f1), (.slice A136_2 ((rd_T45 l0_1 x24_1).f2).length c136_2), (.slice A136_3 ((rd_T45 l0_1 x24_1).f3).length c136_3)] 45 (0, 0))) ∧ Aside0 (Below w.heap.size w w'))
              case atStart => exact ⟨(wrap64 ((wrap64 ((wrap64 (x3_1 + (((rd_T45 l0_1 x24_1).f0).size : Int))) + (((rd_T45 l0_1 x24_1).f2).length : Int))) + (((rd_T45 l0_1 x24_1).f3).length : Int))), (0), (by first | rfl | (simp; done) | (simp [*]; done)), (by first | rfl | (simp; done) | (simp [*]; done)), H', ⟨Nat.le_refl _⟩, ⟨by (with_reducible repeat (first | refine blk_drewN ?_ _ | refine blk_drew ?_ | refine blk_alloc ?_ _)); refine blk_far ?_ NB135_137.out _; (with_reducible repeat (first | refine blk_drewN ?_ _ | refine blk_drew ?_ | refine blk_alloc ?_ _)); refine blk_far ?_ NB135_137.out _; (with_reducible repeat (first | refine blk_drewN ?_ _ | refine blk_drew ?_ | refine blk_alloc ?_ _)); refine blk_far ?_ NB135_137.out _; (with_reducible repeat (first | refine blk_drewN ?_ _ | refine blk_drew ?_ | refine blk_alloc ?_ _)); refine blk_far ?_ NB135_137.out _; (with_reducible repeat (first | refine blk_drewN ?_ _ | refine blk_drew ?_ | refine blk_alloc ?_ _)); exact BK135.out⟩, ⟨by (with_reducible repeat (first | refine blk_drewN ?_ _ | refine blk_drew ?_ | refine blk_alloc ?_ _)); refine blk_put (cs := #[.string ((rd_T45 l0_1 x24_1).f0), .int .i64 ((rd_T45 l0_1 x24_1).f1), .slice A136_2 ((rd_T45 l0_1 x24_1).f2).length c136_2, .slice none 0 0]) ?_ 3 _ rfl; (with_reducible repeat (first | refine blk_drewN ?_ _ | refine blk_drew ?_ | refine blk_alloc ?_ _)); refine blk_put (cs := #[.string ((rd_T45 l0_1 x24_1).f0), .int .i64 ((rd_T45 l0_1 x24_1).f1), .slice none 0 0, .slice none 0 0]) ?_ 2 _ rfl; (with_reducible repeat (first | refine blk_drewN ?_ _ | refine blk_drew ?_ | refine blk_alloc ?_ _)); refine blk_put (cs := #[.string ((rd_T45 l0_1 x24_1).f0), .int .i64 0, .slice none 0 0, .slice none 0 0]) ?_ 1 _ rfl; (with_reducible repeat (first | refine blk_drewN ?_ _ | refine blk_drew ?_ | refine blk_alloc ?_ _)); refine blk_put (cs := #[.string (⟨#[]⟩ : ByteArray), .int .i64 0, .slice none 0 0, .slice none 0 0]) ?_ 0 _ rfl; (with_reducible repeat (first | refine blk_drewN ?_ _ | refine blk_drew ?_ | refine blk_alloc ?_ _)); exact BK137.out⟩, ⟨by repeat (first | (with_reducible first | exact HB.out | apply below_alloc | apply pw_below_drewN | apply below_drew1 | refine below_set ?_ GE135.out | refine below_set ?_ GE137.out) | exact HB.out)⟩⟩
              case round =>
                clear H'
                try clear c1
                try clear p1
                try clear q1
                try clear hx1
                try clear c2
                try clear c2b0
                try clear p2
                try clear p6
                try clear c7
                try clear c7b0
                try clear c8
                try clear c8b0
                try clear c9
                try clear c9b0
                try clear c11
                try clear hcz12_0
                try clear hcz12_1
                try clear hcz12_2
                try clear hcz12_3
                try clear hcz4_0
                try clear hcz4_1
                try clear hcz4_2
                try clear hcz6_0
                try clear hcz6_1
                try clear hcz6_2
                try clear hfz12_0
                try clear hfz12_1
                try clear hfz12_2
                try clear hfz12_3
                try clear hfz4_0
                try clear hfz4_1
                try clear hfz4_2
                try clear hfz6_0
                try clear hfz6_1
                try clear hfz6_2
                try clear hx136_0
                try clear hx136_1
                try clear hx136_2
                try clear hx136_3
                try clear p136
                try clear p2
                try clear p6
                try clear q136
                obtain ⟨x3_2, x44_2, rfl, rfl, HA, HK2, BK135, BK137, HB⟩ := hrel
                cases gk with
                | zero => exact absurd HA.out (by simp [mortmainref09_Great.l1])
                | succ k2 =>
                  have H := HA.out
                  clear HA
                  simp only [mortmainref09_Great.l1] at H
                  by_cases c13 : x44_2 < (((rd_T45 l0_1 x24_1).f2).length : Int)
                  · rw [if_pos c13] at H
                    have c13b0 : decide (x44_2 < (((rd_T45 l0_1 x24_1).f2).length : Int)) = true := decide_eq_true c13
                    clear c13
                    by_cases c14 : 0 ≤ x44_2
                    · rw [if_pos c14] at H
                      have c14b0 : decide (0 ≤ x44_2) = true := decide_eq_true c14
                      clear c14
                      by_cases c15 : x44_2 < (((rd_T45 l0_1 x24_1).f2).length : Int)
                      · rw [if_pos c15] at H
                        have c15b0 : decide (x44_2 < (((rd_T45 l0_1 x24_1).f2).length : Int)) = true := decide_eq_true c15
                        clear c15
                        have H' := Aside0.mk H
                        clear H
                        have p138 : 0 ≤ (x44_2 : Int) := of_decide_eq_true (by first | (with_reducible assumption) | assumption)
                        have q138 : x44_2 < (((rd_T45 l0_1 x24_1).f2).length : Int) := of_decide_eq_true (by first | (with_reducible assumption) | assumption)
                        obtain ⟨ad138, e138, hx138_0, hx138_1, hx138_2, hx138_3, hx138_4, hx138_5⟩ := at_T59 HR136_2.out x44_2 p138 q138
                        cases e138
                        replace hx138_0 := (HB.out.cell (World.block_lt_of_cell? w _ hx138_0)).trans hx138_0
                        replace hx138_1 := (HB.out.cell (World.block_lt_of_cell? w _ hx138_1)).trans hx138_1
                        replace hx138_2 := (HB.out.cell (World.block_lt_of_cell? w _ hx138_2)).trans hx138_2
                        replace hx138_3 := (HB.out.cell (World.block_lt_of_cell? w _ hx138_3)).trans hx138_3
                        replace hx138_4 := (HB.out.cell (World.block_lt_of_cell? w _ hx138_4)).trans hx138_4
                        replace hx138_5 := (HB.out.cell (World.block_lt_of_cell? w _ hx138_5)).trans hx138_5
                        replace p138 := eq_true p138
                        replace q138 := eq_true q138
                        go_wp2_with (first | ((with_reducible refine gate_dst (N := 7) rfl ?_); refine box_event ?hg (N := 7) ?hd (cs := #[.string (⟨#[]⟩ : ByteArray), .int .i64 0, .bool false, .bool false, .string (⟨#[]⟩ : ByteArray), .int .i64 0]) (t := 59) ?hr ?_; (case hd => rfl); (case hg => rfl); (case hr => first | (go_simp; done) | (go_simp; rfl)); intro gb139 hg w16 hbox hb; have n0_ := Aside0.mk (blk_below (g := gb135) (o := .cells #[.int .i64 a0_0, .slice (some ad136) l0_1.length c0_1, .slice A0_2 l0_2.length c0_2] 25 (0, 0)) (by (with_reducible repeat (first | refine blk_drewN ?_ _ | refine blk_drew ?_ | refine blk_alloc ?_ _)); exact BK135.out) hb); have n1_ := Aside0.mk (blk_below (g := gb137) (o := .cells #[.string ((rd_T45 l0_1 x24_1).f0), .int .i64 ((rd_T45 l0_1 x24_1).f1), .slice (some ad138) ((rd_T45 l0_1 x24_1).f2).length c136_2, .slice A136_3 ((rd_T45 l0_1 x24_1).f3).length c136_3] 45 (0, 0)) (by (with_reducible repeat (first | refine blk_drewN ?_ _ | refine blk_drew ?_ | refine blk_alloc ?_ _)); exact BK137.out) hb); have n2_ := Aside0.mk (below_step (by repeat (first | (with_reducible first | exact HB.out | apply below_alloc | apply pw_below_drewN | apply below_drew1 | refine below_set ?_ GE135.out | refine below_set ?_ GE137.out) | exact HB.out)) hb); have n3_ := Aside0.mk (hbox); have n4_ := Aside0.mk ((by rw [hg]; exact (below_size (by repeat (first | (with_reducible first | exact HB.out | apply below_alloc | apply pw_below_drewN | apply below_drew1 | refine below_set ?_ GE135.out | refine below_set ?_ GE137.out) | exact HB.out))) : w.heap.size ≤ gb139)); have n5_ := Aside0.mk ((by rw [hg]; exact (below_size (by repeat (first | (with_reducible first | exact HB.out | apply below_alloc | apply pw_below_drewN | apply below_drew1 | refine below_set ?_ GE135.out | refine below_set ?_ GE137.out) | exact HB.out))) : w.heap.size ≤ gb139)); have n6_ := Aside0.mk ((by rw [hg]; exact Nat.ne_of_lt (blk_lt (g := gb135) (o := .cells #[.int .i64 a0_0, .slice (some ad136) l0_1.length c0_1, .slice A0_2 l0_2.length c0_2] 25 (0, 0)) (by (with_reducible repeat (first | refine blk_drewN ?_ _ | refine blk_drew ?_ | refine blk_alloc ?_ _)); exact BK135.out)) : gb135 ≠ gb139)); have n7_ := Aside0.mk ((by rw [hg]; exact Nat.ne_of_gt (blk_lt (g := gb135) (o := .cells #[.int .i64 a0_0, .slice (some ad136) l0_1.length c0_1, .slice A0_2 l0_2.length c0_2] 25 (0, 0)) (by (with_reducible repeat (first | refine blk_drewN ?_ _ | refine blk_drew ?_ | refine blk_alloc ?_ _)); exact BK135.out)) : gb139 ≠ gb135)); have n8_ := Aside0.mk ((by rw [hg]; exact Nat.ne_of_lt (blk_lt (g := gb137) (o := .cells #[.string ((rd_T45 l0_1 x24_1).f0), .int .i64 ((rd_T45 l0_1 x24_1).f1), .slice (some ad138) ((rd_T45 l0_1 x24_1).f2).length c136_2, .slice A136_3 ((rd_T45 l0_1 x24_1).f3).length c136_3] 45 (0, 0)) (by (with_reducible repeat (first | refine blk_drewN ?_ _ | refine blk_drew ?_ | refine blk_alloc ?_ _)); exact BK137.out)) : gb137 ≠ gb139)); have n9_ := Aside0.mk ((by rw [hg]; exact Nat.ne_of_gt (blk_lt (g := gb137) (o := .cells #[.string ((rd_T45 l0_1 x24_1).f0), .int .i64 ((rd_T45 l0_1 x24_1).f1), .slice (some ad138) ((rd_T45 l0_1 x24_1).f2).length c136_2, .slice A136_3 ((rd_T45 l0_1 x24_1).f3).length c136_3] 45 (0, 0)) (by (with_reducible repeat (first | refine blk_drewN ?_ _ | refine blk_drew ?_ | refine blk_alloc ?_ _)); exact BK137.out)) : gb139 ≠ gb137)); clear BK135; clear BK137; clear HB; have BK135 := n0_; have BK137 := n1_; have HB := n2_; have BK139 := n3_; have GW139 := n4_; have GE139 := n5_; have NB135_139 := n6_; have NB139_135 := n7_; have NB137_139 := n8_; have NB139_137 := n9_; clear n0_ n1_ n2_ n3_ n4_ n5_ n6_ n7_ n8_ n9_; clear hb hbox hg; have hnb17 := NB139_135.out; have hnc17 := NB135_139.out; have hnb18 := NB139_137.out; have hnc18 := NB137_139.out; have hcz19_0 : w16.cell? ⟨gb139, 0, none⟩ = some (.string (⟨#[]⟩ : ByteArray)) := (blk_cell BK139.out 0).trans rfl; have hcz19_1 : w16.cell? ⟨gb139, 1, none⟩ = some (.int .i64 0) := (blk_cell BK139.out 1).trans rfl; have hcz19_2 : w16.cell? ⟨gb139, 2, none⟩ = some (.bool false) := (blk_cell BK139.out 2).trans rfl; have hcz19_3 : w16.cell? ⟨gb139, 3, none⟩ = some (.bool false) := (blk_cell BK139.out 3).trans rfl; have hcz19_4 : w16.cell? ⟨gb139, 4, none⟩ = some (.string (⟨#[]⟩ : ByteArray)) := (blk_cell BK139.out 4).trans rfl; have hcz19_5 : w16.cell? ⟨gb139, 5, none⟩ = some (.int .i64 0) := (blk_cell BK139.out 5).trans rfl; have hfz19_0 := blk_frozen BK139.out 0; have hfz19_1 := blk_frozen BK139.out 1; have hfz19_2 := blk_frozen BK139.out 2; have hfz19_3 := blk_frozen BK139.out 3; have hfz19_4 := blk_frozen BK139.out 4; have hfz19_5 := blk_frozen BK139.out 5))
                        go_roundg k2
                        case measure => have := HK1.out; have := HK2.out; omega
                        case rel => exact ⟨(wrap64 ((wrap64 (x3_2 + (((rd_T59 ((rd_T45 l0_1 x24_1).f2) x44_2).f0).size : Int))) + (((rd_T59 ((rd_T45 l0_1 x24_1).f2) x44_2).f4).size : Int))), (wrap64 (x44_2 + 1)), (by first | rfl | (simp; done) | (simp [*]; done)), (by first | rfl | (simp; done) | (simp [*]; done)), H', ⟨by have := HK1.out; have := HK2.out; omega⟩, ⟨by (with_reducible repeat (first | refine blk_drewN ?_ _ | refine blk_drew ?_ | refine blk_alloc ?_ _)); refine blk_far ?_ NB135_139.out _; (with_reducible repeat (first | refine blk_drewN ?_ _ | refine blk_drew ?_ | refine blk_alloc ?_ _)); refine blk_far ?_ NB135_139.out _; (with_reducible repeat (first | refine blk_drewN ?_ _ | refine blk_drew ?_ | refine blk_alloc ?_ _)); refine blk_far ?_ NB135_139.out _; (with_reducible repeat (first | refine blk_drewN ?_ _ | refine blk_drew ?_ | refine blk_alloc ?_ _)); refine blk_far ?_ NB135_139.out _; (with_reducible repeat (first | refine blk_drewN ?_ _ | refine blk_drew ?_ | refine blk_alloc ?_ _)); refine blk_far ?_ NB135_139.out _; (with_reducible repeat (first | refine blk_drewN ?_ _ | refine blk_drew ?_ | refine blk_alloc ?_ _)); refine blk_far ?_ NB135_139.out _; (with_reducible repeat (first | refine blk_drewN ?_ _ | refine blk_drew ?_ | refine blk_alloc ?_ _)); exact BK135.out⟩, ⟨by (with_reducible repeat (first | refine blk_drewN ?_ _ | refine blk_drew ?_ | refine blk_alloc ?_ _)); refine blk_far ?_ NB137_139.out _; (with_reducible repeat (first | refine blk_drewN ?_ _ | refine blk_drew ?_ | refine blk_alloc ?_ _)); refine blk_far ?_ NB137_139.out _; (with_reducible repeat (first | refine blk_drewN ?_ _ | refine blk_drew ?_ | refine blk_alloc ?_ _)); refine blk_far ?_ NB137_139.out _; (with_reducible repeat (first | refine blk_drewN ?_ _ | refine blk_drew ?_ | refine blk_alloc ?_ _)); refine blk_far ?_ NB137_139.out _; (with_reducible repeat (first | refine blk_drewN ?_ _ | refine blk_drew ?_ | refine blk_alloc ?_ _)); refine blk_far ?_ NB137_139.out _; (with_reducible repeat (first | refine blk_drewN ?_ _ | refine blk_drew ?_ | refine blk_alloc ?_ _)); refine blk_far ?_ NB137_139.out _; (with_reducible repeat (first | refine blk_drewN ?_ _ | refine blk_drew ?_ | refine blk_alloc ?_ _)); exact BK137.out⟩, ⟨by repeat (first | (with_reducible first | exact HB.out | apply below_alloc | apply pw_below_drewN | apply below_drew1 | refine below_set ?_ GE135.out | refine below_set ?_ GE137.out | refine below_set ?_ GE139.out) | exact HB.out)⟩⟩
                      · rw [if_neg c15] at H
                        exact absurd H (by simp)
                    · rw [if_neg c14] at H
                      exact absurd H (by simp)
                  · rw [if_neg c13] at H
                    have c13b0 : decide (x44_2 < (((rd_T45 l0_1 x24_1).f2).length : Int)) = false := decide_eq_false c13
                    clear c13
                    have H' := Aside0.mk H
                    clear H
                    have hnb20 := NB137_135.out
                    have hnc20 := NB135_137.out
                    have hcz21_0 : wr.cell? ⟨gb137, 0, none⟩ = some (.string ((rd_T45 l0_1 x24_1).f0)) := (blk_cell BK137.out 0).trans rfl
                    have hcz21_1 : wr.cell? ⟨gb137, 1, none⟩ = some (.int .i64 ((rd_T45 l0_1 x24_1).f1)) := (blk_cell BK137.out 1).trans rfl
                    have hcz21_2 : wr.cell? ⟨gb137, 2, none⟩ = some (.slice A136_2 ((rd_T45 l0_1 x24_1).f2).length c136_2) := (blk_cell BK137.out 2).trans rfl
                    have hcz21_3 : wr.cell? ⟨gb137, 3, none⟩ = some (.slice A136_3 ((rd_T45 l0_1 x24_1).f3).length c136_3) := (blk_cell BK137.out 3).trans rfl
                    have hfz21_0 := blk_frozen BK137.out 0
                    have hfz21_1 := blk_frozen BK137.out 1
                    have hfz21_2 := blk_frozen BK137.out 2
                    have hfz21_3 := blk_frozen BK137.out 3
                    go_wp2
                    go_loopg [61] k2 (fun kq v61 w' => ∃ (x61_3 : Int), v61 = .int .i64 x61_3 ∧ Aside0 (mortmainref09_Great.l2 kq x3_2 l0_1 (l0_1.length : Int) x24_1 ((rd_T45 l0_1 x24_1).f3) (((rd_T45 l0_1 x24_1).f3).length : Int) x61_3 a0_0 l0_1 l0_2 = some r) ∧ Aside0 (kq ≤ k2) ∧ Aside0 (w'.heap[gb135]? = some (.cells #[.int .i64 a0_0, (.slice (some ad136) l0_1.length c0_1), (.slice A0_2 l0_2.length c0_2)] 25 (0, 0))) ∧ Aside0 (w'.heap[gb137]? = some (.cells #[.string ((rd_T45 l0_1 x24_1).f0), .int .i64 ((rd_T45 l0_1 x24_1).f1), (.slice A136_2 ((rd_T45 l0_1 x24_1).f2).length c136_2), (.slice A136_3 ((rd_T45 l0_1 x24_1).f3).length c136_3)] 45 (0, 0))) ∧ Aside0 (Below w.heap.size w w'))
                    case atStart => exact ⟨(0), (by first | rfl | (simp; done) | (simp [*]; done)), H', ⟨Nat.le_refl _⟩, ⟨by (with_reducible repeat (first | refine blk_drewN ?_ _ | refine blk_drew ?_ | refine blk_alloc ?_ _)); exact BK135.out⟩, ⟨by (with_reducible repeat (first | refine blk_drewN ?_ _ | refine blk_drew ?_ | refine blk_alloc ?_ _)); exact BK137.out⟩, ⟨by repeat (first | (with_reducible first | exact HB.out | apply below_alloc | apply pw_below_drewN | apply below_drew1 | refine below_set ?_ GE135.out | refine below_set ?_ GE137.out) | exact HB.out)⟩⟩
                    case round =>
                      clear H'
                      try clear c1
                      try clear p1
                      try clear q1
                      try clear hx1
                      try clear c2
                      try clear c2b0
                      try clear p2
                      try clear p6
                      try clear c7
                      try clear c7b0
                      try clear c8
                      try clear c8b0
                      try clear c9
                      try clear c9b0
                      try clear c11
                      try clear c13
                      try clear c13b0
                      try clear p13
                      try clear q13
                      try clear hx13
                      try clear c14
                      try clear c14b0
                      try clear c15
                      try clear c15b0
                      try clear c17
                      try clear c18
                      try clear c20
                      try clear hcz12_0
                      try clear hcz12_1
                      try clear hcz12_2
                      try clear hcz12_3
                      try clear hcz19_0
                      try clear hcz19_1
                      try clear hcz19_2
                      try clear hcz19_3
                      try clear hcz19_4
                      try clear hcz19_5
                      try clear hcz21_0
                      try clear hcz21_1
                      try clear hcz21_2
                      try clear hcz21_3
                      try clear hcz4_0
                      try clear hcz4_1
                      try clear hcz4_2
                      try clear hcz6_0
                      try clear hcz6_1
                      try clear hcz6_2
                      try clear hfz12_0
                      try clear hfz12_1
                      try clear hfz12_2
                      try clear hfz12_3
                      try clear hfz19_0
                      try clear hfz19_1
                      try clear hfz19_2
                      try clear hfz19_3
                      try clear hfz19_4
                      try clear hfz19_5
                      try clear hfz21_0
                      try clear hfz21_1
                      try clear hfz21_2
                      try clear hfz21_3
                      try clear hfz4_0
                      try clear hfz4_1
                      try clear hfz4_2
                      try clear hfz6_0
                      try clear hfz6_1
                      try clear hfz6_2
                      try clear hx136_0
                      try clear hx136_1
                      try clear hx136_2
                      try clear hx136_3
                      try clear hx138_0
                      try clear hx138_1
                      try clear hx138_2
                      try clear hx138_3
                      try clear hx138_4
                      try clear hx138_5
                      try clear p1
                      try clear p136
                      try clear p138
                      try clear p2
                      try clear p6
                      try clear q1
                      try clear q136
                      try clear q138
                      obtain ⟨x61_3, rfl, HA, HK3, BK135, BK137, HB⟩ := hrel
                      cases gk with
                      | zero => exact absurd HA.out (by simp [mortmainref09_Great.l2])
                      | succ k3 =>
                        have H := HA.out
                        clear HA
                        simp only [mortmainref09_Great.l2] at H
                        by_cases c22 : x61_3 < (((rd_T45 l0_1 x24_1).f3).length : Int)
                        · rw [if_pos c22] at H
                          have c22b0 : decide (x61_3 < (((rd_T45 l0_1 x24_1).f3).length : Int)) = true := decide_eq_true c22
                          clear c22
                          by_cases c23 : 0 ≤ x61_3
                          · rw [if_pos c23] at H
                            have c23b0 : decide (0 ≤ x61_3) = true := decide_eq_true c23
                            clear c23
                            by_cases c24 : x61_3 < (((rd_T45 l0_1 x24_1).f3).length : Int)
                            · rw [if_pos c24] at H
                              have c24b0 : decide (x61_3 < (((rd_T45 l0_1 x24_1).f3).length : Int)) = true := decide_eq_true c24
                              clear c24
                              replace H := Option.bind_eq_some_iff.mp H
                              obtain ⟨t142, A250, H⟩ := H
                              replace H : (if t142 = true then (some true) else (mortmainref09_Great.l2 k3 x3_2 l0_1 (l0_1.length : Int) x24_1 ((rd_T45 l0_1 x24_1).f3) (((rd_T45 l0_1 x24_1).f3).length : Int) (wrap64 (x61_3 + 1)) a0_0 l0_1 l0_2)) = some r := H
                              have A25 := Aside0.mk A250
                              clear A250
                              by_cases c26 : t142 = true
                              · subst c26
                                have H1 : (some true) = some r := by rw [if_pos rfl] at H; exact H
                                clear H
                                have H := H1
                                clear H1
                                obtain rfl := Option.some.inj H
                                have p140 : 0 ≤ (x61_3 : Int) := of_decide_eq_true (by first | (with_reducible assumption) | assumption)
                                have q140 : x61_3 < (((rd_T45 l0_1 x24_1).f3).length : Int) := of_decide_eq_true (by first | (with_reducible assumption) | assumption)
                                obtain ⟨ad140, A140_5, c140_5, e140, hx140_0, hx140_1, hx140_2, hx140_3, hx140_4, hx140_5, hl140_5, hi140_5⟩ := at_T72 HR136_3.out x61_3 p140 q140
                                cases e140
                                replace hx140_0 := (HB.out.cell (World.block_lt_of_cell? w _ hx140_0)).trans hx140_0
                                replace hx140_1 := (HB.out.cell (World.block_lt_of_cell? w _ hx140_1)).trans hx140_1
                                replace hx140_2 := (HB.out.cell (World.block_lt_of_cell? w _ hx140_2)).trans hx140_2
                                replace hx140_3 := (HB.out.cell (World.block_lt_of_cell? w _ hx140_3)).trans hx140_3
                                replace hx140_4 := (HB.out.cell (World.block_lt_of_cell? w _ hx140_4)).trans hx140_4
                                replace hx140_5 := (HB.out.cell (World.block_lt_of_cell? w _ hx140_5)).trans hx140_5
                                have HR140_5 := Aside0.mk hi140_5
                                have HC140_5 := Aside0.mk hl140_5
                                clear hi140_5 hl140_5
                                replace p140 := eq_true p140
                                replace q140 := eq_true q140
                                go_wp2_with (first | ((with_reducible refine gate_dst (N := 9) rfl ?_); refine box_event ?hg (N := 9) ?hd (cs := #[.int .i64 0, .int .i64 0, .int .i64 0, .int .i64 0, .string (⟨#[]⟩ : ByteArray), .slice none 0 0]) (t := 72) ?hr ?_; (case hd => rfl); (case hg => rfl); (case hr => first | (go_simp; done) | (go_simp; rfl)); intro gb141 hg w27 hbox hb; have n0_ := Aside0.mk (blk_below (g := gb135) (o := .cells #[.int .i64 a0_0, .slice (some ad136) l0_1.length c0_1, .slice A0_2 l0_2.length c0_2] 25 (0, 0)) (by (with_reducible repeat (first | refine blk_drewN ?_ _ | refine blk_drew ?_ | refine blk_alloc ?_ _)); exact BK135.out) hb); have n1_ := Aside0.mk (blk_below (g := gb137) (o := .cells #[.string ((rd_T45 l0_1 x24_1).f0), .int .i64 ((rd_T45 l0_1 x24_1).f1), .slice A136_2 ((rd_T45 l0_1 x24_1).f2).length c136_2, .slice (some ad140) ((rd_T45 l0_1 x24_1).f3).length c136_3] 45 (0, 0)) (by (with_reducible repeat (first | refine blk_drewN ?_ _ | refine blk_drew ?_ | refine blk_alloc ?_ _)); exact BK137.out) hb); have n2_ := Aside0.mk (below_step (by repeat (first | (with_reducible first | exact HB.out | apply below_alloc | apply pw_below_drewN | apply below_drew1 | refine below_set ?_ GE135.out | refine below_set ?_ GE137.out) | exact HB.out)) hb); have n3_ := Aside0.mk (hbox); have n4_ := Aside0.mk ((by rw [hg]; exact (below_size (by repeat (first | (with_reducible first | exact HB.out | apply below_alloc | apply pw_below_drewN | apply below_drew1 | refine below_set ?_ GE135.out | refine below_set ?_ GE137.out) | exact HB.out))) : w.heap.size ≤ gb141)); have n5_ := Aside0.mk ((by rw [hg]; exact (below_size (by repeat (first | (with_reducible first | exact HB.out | apply below_alloc | apply pw_below_drewN | apply below_drew1 | refine below_set ?_ GE135.out | refine below_set ?_ GE137.out) | exact HB.out))) : w.heap.size ≤ gb141)); have n6_ := Aside0.mk ((by rw [hg]; exact Nat.ne_of_lt (blk_lt (g := gb135) (o := .cells #[.int .i64 a0_0, .slice (some ad136) l0_1.length c0_1, .slice A0_2 l0_2.length c0_2] 25 (0, 0)) (by (with_reducible repeat (first | refine blk_drewN ?_ _ | refine blk_drew ?_ | refine blk_alloc ?_ _)); exact BK135.out)) : gb135 ≠ gb141)); have n7_ := Aside0.mk ((by rw [hg]; exact Nat.ne_of_gt (blk_lt (g := gb135) (o := .cells #[.int .i64 a0_0, .slice (some ad136) l0_1.length c0_1, .slice A0_2 l0_2.length c0_2] 25 (0, 0)) (by (with_reducible repeat (first | refine blk_drewN ?_ _ | refine blk_drew ?_ | refine blk_alloc ?_ _)); exact BK135.out)) : gb141 ≠ gb135)); have n8_ := Aside0.mk ((by rw [hg]; exact Nat.ne_of_lt (blk_lt (g := gb137) (o := .cells #[.string ((rd_T45 l0_1 x24_1).f0), .int .i64 ((rd_T45 l0_1 x24_1).f1), .slice A136_2 ((rd_T45 l0_1 x24_1).f2).length c136_2, .slice (some ad140) ((rd_T45 l0_1 x24_1).f3).length c136_3] 45 (0, 0)) (by (with_reducible repeat (first | refine blk_drewN ?_ _ | refine blk_drew ?_ | refine blk_alloc ?_ _)); exact BK137.out)) : gb137 ≠ gb141)); have n9_ := Aside0.mk ((by rw [hg]; exact Nat.ne_of_gt (blk_lt (g := gb137) (o := .cells #[.string ((rd_T45 l0_1 x24_1).f0), .int .i64 ((rd_T45 l0_1 x24_1).f1), .slice A136_2 ((rd_T45 l0_1 x24_1).f2).length c136_2, .slice (some ad140) ((rd_T45 l0_1 x24_1).f3).length c136_3] 45 (0, 0)) (by (with_reducible repeat (first | refine blk_drewN ?_ _ | refine blk_drew ?_ | refine blk_alloc ?_ _)); exact BK137.out)) : gb141 ≠ gb137)); clear BK135; clear BK137; clear HB; have BK135 := n0_; have BK137 := n1_; have HB := n2_; have BK141 := n3_; have GW141 := n4_; have GE141 := n5_; have NB135_141 := n6_; have NB141_135 := n7_; have NB137_141 := n8_; have NB141_137 := n9_; clear n0_ n1_ n2_ n3_ n4_ n5_ n6_ n7_ n8_ n9_; clear hb hbox hg; have hnb28 := NB141_135.out; have hnc28 := NB135_141.out; have hnb29 := NB141_137.out; have hnc29 := NB137_141.out; have hcz30_0 : w27.cell? ⟨gb141, 0, none⟩ = some (.int .i64 0) := (blk_cell BK141.out 0).trans rfl; have hcz30_1 : w27.cell? ⟨gb141, 1, none⟩ = some (.int .i64 0) := (blk_cell BK141.out 1).trans rfl; have hcz30_2 : w27.cell? ⟨gb141, 2, none⟩ = some (.int .i64 0) := (blk_cell BK141.out 2).trans rfl; have hcz30_3 : w27.cell? ⟨gb141, 3, none⟩ = some (.int .i64 0) := (blk_cell BK141.out 3).trans rfl; have hcz30_4 : w27.cell? ⟨gb141, 4, none⟩ = some (.string (⟨#[]⟩ : ByteArray)) := (blk_cell BK141.out 4).trans rfl; have hcz30_5 : w27.cell? ⟨gb141, 5, none⟩ = some (.slice none 0 0) := (blk_cell BK141.out 5).trans rfl; have hfz30_0 := blk_frozen BK141.out 0; have hfz30_1 := blk_frozen BK141.out 1; have hfz30_2 := blk_frozen BK141.out 2; have hfz30_3 := blk_frozen BK141.out 3; have hfz30_4 := blk_frozen BK141.out 4; have hfz30_5 := blk_frozen BK141.out 5) | ((with_reducible refine gate_callee (f := 45) rfl ?_); refine goesL_ (some 66) rfl rfl Tryd.func45 (by kernel_rfl) rfl #[.agg #[.int .i64 ((rd_T72 ((rd_T45 l0_1 x24_1).f3) x61_3).f0), .int .i64 ((rd_T72 ((rd_T45 l0_1 x24_1).f3) x61_3).f1), .int .i64 ((rd_T72 ((rd_T45 l0_1 x24_1).f3) x61_3).f2.f0), .int .i64 ((rd_T72 ((rd_T45 l0_1 x24_1).f3) x61_3).f2.f1), .string ((rd_T72 ((rd_T45 l0_1 x24_1).f3) x61_3).f2.f2), .slice A140_5 ((rd_T72 ((rd_T45 l0_1 x24_1).f3) x61_3).f3).length c140_5]] rfl (by (try simp only [List.map_toArray, List.map_cons, List.map_nil]); first | done | rfl | (simp only [List.length_drop, List.length_take]; rfl)) ?_; (with_reducible refine (mortmainref08_Great.calls k3 ((rd_T72 ((rd_T45 l0_1 x24_1).f3) x61_3).f0) ((rd_T72 ((rd_T45 l0_1 x24_1).f3) x61_3).f1) ((rd_T72 ((rd_T45 l0_1 x24_1).f3) x61_3).f2.f0) ((rd_T72 ((rd_T45 l0_1 x24_1).f3) x61_3).f2.f1) ((rd_T72 ((rd_T45 l0_1 x24_1).f3) x61_3).f2.f2) _ _ ((rd_T72 ((rd_T45 l0_1 x24_1).f3) x61_3).f3) true _ ?side1 ?side2 A25.out).mono ?_); (case side1 => exact Kd.C_below HR140_5.out (by repeat (first | (with_reducible first | exact HB.out | apply below_alloc | apply pw_below_drewN | apply below_drew1 | refine below_set ?_ GE135.out | refine below_set ?_ GE137.out | refine below_set ?_ GE141.out) | exact HB.out))); (case side2 => exact HC140_5.out); rintro e w31 ⟨rfl, hb⟩; refine ⟨_, rfl, ?_⟩; have n0_ := Aside0.mk (blk_below (g := gb135) (o := .cells #[.int .i64 a0_0, .slice (some ad136) l0_1.length c0_1, .slice A0_2 l0_2.length c0_2] 25 (0, 0)) (by (with_reducible repeat (first | refine blk_drewN ?_ _ | refine blk_drew ?_ | refine blk_alloc ?_ _)); refine blk_far ?_ NB135_141.out _; (with_reducible repeat (first | refine blk_drewN ?_ _ | refine blk_drew ?_ | refine blk_alloc ?_ _)); refine blk_far ?_ NB135_141.out _; (with_reducible repeat (first | refine blk_drewN ?_ _ | refine blk_drew ?_ | refine blk_alloc ?_ _)); refine blk_far ?_ NB135_141.out _; (with_reducible repeat (first | refine blk_drewN ?_ _ | refine blk_drew ?_ | refine blk_alloc ?_ _)); refine blk_far ?_ NB135_141.out _; (with_reducible repeat (first | refine blk_drewN ?_ _ | refine blk_drew ?_ | refine blk_alloc ?_ _)); refine blk_far ?_ NB135_141.out _; (with_reducible repeat (first | refine blk_drewN ?_ _ | refine blk_drew ?_ | refine blk_alloc ?_ _)); refine blk_far ?_ NB135_141.out _; (with_reducible repeat (first | refine blk_drewN ?_ _ | refine blk_drew ?_ | refine blk_alloc ?_ _)); exact BK135.out) hb); have n1_ := Aside0.mk (blk_below (g := gb137) (o := .cells #[.string ((rd_T45 l0_1 x24_1).f0), .int .i64 ((rd_T45 l0_1 x24_1).f1), .slice A136_2 ((rd_T45 l0_1 x24_1).f2).length c136_2, .slice (some ad140) ((rd_T45 l0_1 x24_1).f3).length c136_3] 45 (0, 0)) (by (with_reducible repeat (first | refine blk_drewN ?_ _ | refine blk_drew ?_ | refine blk_alloc ?_ _)); refine blk_far ?_ NB137_141.out _; (with_reducible repeat (first | refine blk_drewN ?_ _ | refine blk_drew ?_ | refine blk_alloc ?_ _)); refine blk_far ?_ NB137_141.out _; (with_reducible repeat (first | refine blk_drewN ?_ _ | refine blk_drew ?_ | refine blk_alloc ?_ _)); refine blk_far ?_ NB137_141.out _; (with_reducible repeat (first | refine blk_drewN ?_ _ | refine blk_drew ?_ | refine blk_alloc ?_ _)); refine blk_far ?_ NB137_141.out _; (with_reducible repeat (first | refine blk_drewN ?_ _ | refine blk_drew ?_ | refine blk_alloc ?_ _)); refine blk_far ?_ NB137_141.out _; (with_reducible repeat (first | refine blk_drewN ?_ _ | refine blk_drew ?_ | refine blk_alloc ?_ _)); refine blk_far ?_ NB137_141.out _; (with_reducible repeat (first | refine blk_drewN ?_ _ | refine blk_drew ?_ | refine blk_alloc ?_ _)); exact BK137.out) hb); have n2_ := Aside0.mk (blk_below (g := gb141) (o := .cells #[.int .i64 ((rd_T72 ((rd_T45 l0_1 x24_1).f3) x61_3).f0), .int .i64 ((rd_T72 ((rd_T45 l0_1 x24_1).f3) x61_3).f1), .int .i64 ((rd_T72 ((rd_T45 l0_1 x24_1).f3) x61_3).f2.f0), .int .i64 ((rd_T72 ((rd_T45 l0_1 x24_1).f3) x61_3).f2.f1), .string ((rd_T72 ((rd_T45 l0_1 x24_1).f3) x61_3).f2.f2), .slice A140_5 ((rd_T72 ((rd_T45 l0_1 x24_1).f3) x61_3).f3).length c140_5] 72 (0, 0)) (by (with_reducible repeat (first | refine blk_drewN ?_ _ | refine blk_drew ?_ | refine blk_alloc ?_ _)); refine blk_put (cs := #[.int .i64 ((rd_T72 ((rd_T45 l0_1 x24_1).f3) x61_3).f0), .int .i64 ((rd_T72 ((rd_T45 l0_1 x24_1).f3) x61_3).f1), .int .i64 ((rd_T72 ((rd_T45 l0_1 x24_1).f3) x61_3).f2.f0), .int .i64 ((rd_T72 ((rd_T45 l0_1 x24_1).f3) x61_3).f2.f1), .string ((rd_T72 ((rd_T45 l0_1 x24_1).f3) x61_3).f2.f2), .slice none 0 0]) ?_ 5 _ rfl; (with_reducible repeat (first | refine blk_drewN ?_ _ | refine blk_drew ?_ | refine blk_alloc ?_ _)); refine blk_put (cs := #[.int .i64 ((rd_T72 ((rd_T45 l0_1 x24_1).f3) x61_3).f0), .int .i64 ((rd_T72 ((rd_T45 l0_1 x24_1).f3) x61_3).f1), .int .i64 ((rd_T72 ((rd_T45 l0_1 x24_1).f3) x61_3).f2.f0), .int .i64 ((rd_T72 ((rd_T45 l0_1 x24_1).f3) x61_3).f2.f1), .string (⟨#[]⟩ : ByteArray), .slice none 0 0]) ?_ 4 _ rfl; (with_reducible repeat (first | refine blk_drewN ?_ _ | refine blk_drew ?_ | refine blk_alloc ?_ _)); refine blk_put (cs := #[.int .i64 ((rd_T72 ((rd_T45 l0_1 x24_1).f3) x61_3).f0), .int .i64 ((rd_T72 ((rd_T45 l0_1 x24_1).f3) x61_3).f1), .int .i64 ((rd_T72 ((rd_T45 l0_1 x24_1).f3) x61_3).f2.f0), .int .i64 0, .string (⟨#[]⟩ : ByteArray), .slice none 0 0]) ?_ 3 _ rfl; (with_reducible repeat (first | refine blk_drewN ?_ _ | refine blk_drew ?_ | refine blk_alloc ?_ _)); refine blk_put (cs := #[.int .i64 ((rd_T72 ((rd_T45 l0_1 x24_1).f3) x61_3).f0), .int .i64 ((rd_T72 ((rd_T45 l0_1 x24_1).f3) x61_3).f1), .int .i64 0, .int .i64 0, .string (⟨#[]⟩ : ByteArray), .slice none 0 0]) ?_ 2 _ rfl; (with_reducible repeat (first | refine blk_drewN ?_ _ | refine blk_drew ?_ | refine blk_alloc ?_ _)); refine blk_put (cs := #[.int .i64 ((rd_T72 ((rd_T45 l0_1 x24_1).f3) x61_3).f0), .int .i64 0, .int .i64 0, .int .i64 0, .string (⟨#[]⟩ : ByteArray), .slice none 0 0]) ?_ 1 _ rfl; (with_reducible repeat (first | refine blk_drewN ?_ _ | refine blk_drew ?_ | refine blk_alloc ?_ _)); refine blk_put (cs := #[.int .i64 0, .int .i64 0, .int .i64 0, .int .i64 0, .string (⟨#[]⟩ : ByteArray), .slice none 0 0]) ?_ 0 _ rfl; (with_reducible repeat (first | refine blk_drewN ?_ _ | refine blk_drew ?_ | refine blk_alloc ?_ _)); exact BK141.out) hb); have n3_ := Aside0.mk (below_step (by repeat (first | (with_reducible first | exact HB.out | apply below_alloc | apply pw_below_drewN | apply below_drew1 | refine below_set ?_ GE135.out | refine below_set ?_ GE137.out | refine below_set ?_ GE141.out) | exact HB.out)) hb); clear BK135; clear BK137; clear BK141; clear HB; have BK135 := n0_; have BK137 := n1_; have BK141 := n2_; have HB := n3_; clear n0_ n1_ n2_ n3_; (try clear hb); (try clear hb2); (try clear hk); (try clear hi)))
                                go_ret
                                exact ⟨by first | rfl | (simp [errW_none, errW_some] <;> rfl) | (simp [*, errW_none, errW_some] <;> rfl), by repeat (first | (with_reducible first | exact HB.out | apply below_alloc | apply pw_below_drewN | apply below_drew1 | refine below_set ?_ GE135.out | refine below_set ?_ GE137.out | refine below_set ?_ GE141.out) | exact HB.out)⟩
                              · replace c26 := Bool.eq_false_iff.mpr c26
                                subst c26
                                have H1 : (mortmainref09_Great.l2 k3 x3_2 l0_1 (l0_1.length : Int) x24_1 ((rd_T45 l0_1 x24_1).f3) (((rd_T45 l0_1 x24_1).f3).length : Int) (wrap64 (x61_3 + 1)) a0_0 l0_1 l0_2) = some r := by rw [if_neg (show ¬ (false = true) by decide)] at H; exact H
                                clear H
                                have H := H1
                                clear H1
                                have H' := Aside0.mk H
                                clear H
                                have p140 : 0 ≤ (x61_3 : Int) := of_decide_eq_true (by first | (with_reducible assumption) | assumption)
                                have q140 : x61_3 < (((rd_T45 l0_1 x24_1).f3).length : Int) := of_decide_eq_true (by first | (with_reducible assumption) | assumption)
                                obtain ⟨ad140, A140_5, c140_5, e140, hx140_0, hx140_1, hx140_2, hx140_3, hx140_4, hx140_5, hl140_5, hi140_5⟩ := at_T72 HR136_3.out x61_3 p140 q140
                                cases e140
                                replace hx140_0 := (HB.out.cell (World.block_lt_of_cell? w _ hx140_0)).trans hx140_0
                                replace hx140_1 := (HB.out.cell (World.block_lt_of_cell? w _ hx140_1)).trans hx140_1
                                replace hx140_2 := (HB.out.cell (World.block_lt_of_cell? w _ hx140_2)).trans hx140_2
                                replace hx140_3 := (HB.out.cell (World.block_lt_of_cell? w _ hx140_3)).trans hx140_3
                                replace hx140_4 := (HB.out.cell (World.block_lt_of_cell? w _ hx140_4)).trans hx140_4
                                replace hx140_5 := (HB.out.cell (World.block_lt_of_cell? w _ hx140_5)).trans hx140_5
                                have HR140_5 := Aside0.mk hi140_5
                                have HC140_5 := Aside0.mk hl140_5
                                clear hi140_5 hl140_5
                                replace p140 := eq_true p140
                                replace q140 := eq_true q140
                                go_wp2_with (first | ((with_reducible refine gate_dst (N := 9) rfl ?_); refine box_event ?hg (N := 9) ?hd (cs := #[.int .i64 0, .int .i64 0, .int .i64 0, .int .i64 0, .string (⟨#[]⟩ : ByteArray), .slice none 0 0]) (t := 72) ?hr ?_; (case hd => rfl); (case hg => rfl); (case hr => first | (go_simp; done) | (go_simp; rfl)); intro gb141 hg w32 hbox hb; have n0_ := Aside0.mk (blk_below (g := gb135) (o := .cells #[.int .i64 a0_0, .slice (some ad136) l0_1.length c0_1, .slice A0_2 l0_2.length c0_2] 25 (0, 0)) (by (with_reducible repeat (first | refine blk_drewN ?_ _ | refine blk_drew ?_ | refine blk_alloc ?_ _)); exact BK135.out) hb); have n1_ := Aside0.mk (blk_below (g := gb137) (o := .cells #[.string ((rd_T45 l0_1 x24_1).f0), .int .i64 ((rd_T45 l0_1 x24_1).f1), .slice A136_2 ((rd_T45 l0_1 x24_1).f2).length c136_2, .slice (some ad140) ((rd_T45 l0_1 x24_1).f3).length c136_3] 45 (0, 0)) (by (with_reducible repeat (first | refine blk_drewN ?_ _ | refine blk_drew ?_ | refine blk_alloc ?_ _)); exact BK137.out) hb); have n2_ := Aside0.mk (below_step (by repeat (first | (with_reducible first | exact HB.out | apply below_alloc | apply pw_below_drewN | apply below_drew1 | refine below_set ?_ GE135.out | refine below_set ?_ GE137.out) | exact HB.out)) hb); have n3_ := Aside0.mk (hbox); have n4_ := Aside0.mk ((by rw [hg]; exact (below_size (by repeat (first | (with_reducible first | exact HB.out | apply below_alloc | apply pw_below_drewN | apply below_drew1 | refine below_set ?_ GE135.out | refine below_set ?_ GE137.out) | exact HB.out))) : w.heap.size ≤ gb141)); have n5_ := Aside0.mk ((by rw [hg]; exact (below_size (by repeat (first | (with_reducible first | exact HB.out | apply below_alloc | apply pw_below_drewN | apply below_drew1 | refine below_set ?_ GE135.out | refine below_set ?_ GE137.out) | exact HB.out))) : w.heap.size ≤ gb141)); have n6_ := Aside0.mk ((by rw [hg]; exact Nat.ne_of_lt (blk_lt (g := gb135) (o := .cells #[.int .i64 a0_0, .slice (some ad136) l0_1.length c0_1, .slice A0_2 l0_2.length c0_2] 25 (0, 0)) (by (with_reducible repeat (first | refine blk_drewN ?_ _ | refine blk_drew ?_ | refine blk_alloc ?_ _)); exact BK135.out)) : gb135 ≠ gb141)); have n7_ := Aside0.mk ((by rw [hg]; exact Nat.ne_of_gt (blk_lt (g := gb135) (o := .cells #[.int .i64 a0_0, .slice (some ad136) l0_1.length c0_1, .slice A0_2 l0_2.length c0_2] 25 (0, 0)) (by (with_reducible repeat (first | refine blk_drewN ?_ _ | refine blk_drew ?_ | refine blk_alloc ?_ _)); exact BK135.out)) : gb141 ≠ gb135)); have n8_ := Aside0.mk ((by rw [hg]; exact Nat.ne_of_lt (blk_lt (g := gb137) (o := .cells #[.string ((rd_T45 l0_1 x24_1).f0), .int .i64 ((rd_T45 l0_1 x24_1).f1), .slice A136_2 ((rd_T45 l0_1 x24_1).f2).length c136_2, .slice (some ad140) ((rd_T45 l0_1 x24_1).f3).length c136_3] 45 (0, 0)) (by (with_reducible repeat (first | refine blk_drewN ?_ _ | refine blk_drew ?_ | refine blk_alloc ?_ _)); exact BK137.out)) : gb137 ≠ gb141)); have n9_ := Aside0.mk ((by rw [hg]; exact Nat.ne_of_gt (blk_lt (g := gb137) (o := .cells #[.string ((rd_T45 l0_1 x24_1).f0), .int .i64 ((rd_T45 l0_1 x24_1).f1), .slice A136_2 ((rd_T45 l0_1 x24_1).f2).length c136_2, .slice (some ad140) ((rd_T45 l0_1 x24_1).f3).length c136_3] 45 (0, 0)) (by (with_reducible repeat (first | refine blk_drewN ?_ _ | refine blk_drew ?_ | refine blk_alloc ?_ _)); exact BK137.out)) : gb141 ≠ gb137)); clear BK135; clear BK137; clear HB; have BK135 := n0_; have BK137 := n1_; have HB := n2_; have BK141 := n3_; have GW141 := n4_; have GE141 := n5_; have NB135_141 := n6_; have NB141_135 := n7_; have NB137_141 := n8_; have NB141_137 := n9_; clear n0_ n1_ n2_ n3_ n4_ n5_ n6_ n7_ n8_ n9_; clear hb hbox hg; have hnb33 := NB141_135.out; have hnc33 := NB135_141.out; have hnb34 := NB141_137.out; have hnc34 := NB137_141.out; have hcz35_0 : w32.cell? ⟨gb141, 0, none⟩ = some (.int .i64 0) := (blk_cell BK141.out 0).trans rfl; have hcz35_1 : w32.cell? ⟨gb141, 1, none⟩ = some (.int .i64 0) := (blk_cell BK141.out 1).trans rfl; have hcz35_2 : w32.cell? ⟨gb141, 2, none⟩ = some (.int .i64 0) := (blk_cell BK141.out 2).trans rfl; have hcz35_3 : w32.cell? ⟨gb141, 3, none⟩ = some (.int .i64 0) := (blk_cell BK141.out 3).trans rfl; have hcz35_4 : w32.cell? ⟨gb141, 4, none⟩ = some (.string (⟨#[]⟩ : ByteArray)) := (blk_cell BK141.out 4).trans rfl; have hcz35_5 : w32.cell? ⟨gb141, 5, none⟩ = some (.slice none 0 0) := (blk_cell BK141.out 5).trans rfl; have hfz35_0 := blk_frozen BK141.out 0; have hfz35_1 := blk_frozen BK141.out 1; have hfz35_2 := blk_frozen BK141.out 2; have hfz35_3 := blk_frozen BK141.out 3; have hfz35_4 := blk_frozen BK141.out 4; have hfz35_5 := blk_frozen BK141.out 5) | ((with_reducible refine gate_callee (f := 45) rfl ?_); refine goesL_ (some 66) rfl rfl Tryd.func45 (by kernel_rfl) rfl #[.agg #[.int .i64 ((rd_T72 ((rd_T45 l0_1 x24_1).f3) x61_3).f0), .int .i64 ((rd_T72 ((rd_T45 l0_1 x24_1).f3) x61_3).f1), .int .i64 ((rd_T72 ((rd_T45 l0_1 x24_1).f3) x61_3).f2.f0), .int .i64 ((rd_T72 ((rd_T45 l0_1 x24_1).f3) x61_3).f2.f1), .string ((rd_T72 ((rd_T45 l0_1 x24_1).f3) x61_3).f2.f2), .slice A140_5 ((rd_T72 ((rd_T45 l0_1 x24_1).f3) x61_3).f3).length c140_5]] rfl (by (try simp only [List.map_toArray, List.map_cons, List.map_nil]); first | done | rfl | (simp only [List.length_drop, List.length_take]; rfl)) ?_; (with_reducible refine (mortmainref08_Great.calls k3 ((rd_T72 ((rd_T45 l0_1 x24_1).f3) x61_3).f0) ((rd_T72 ((rd_T45 l0_1 x24_1).f3) x61_3).f1) ((rd_T72 ((rd_T45 l0_1 x24_1).f3) x61_3).f2.f0) ((rd_T72 ((rd_T45 l0_1 x24_1).f3) x61_3).f2.f1) ((rd_T72 ((rd_T45 l0_1 x24_1).f3) x61_3).f2.f2) _ _ ((rd_T72 ((rd_T45 l0_1 x24_1).f3) x61_3).f3) false _ ?side1 ?side2 A25.out).mono ?_); (case side1 => exact Kd.C_below HR140_5.out (by repeat (first | (with_reducible first | exact HB.out | apply below_alloc | apply pw_below_drewN | apply below_drew1 | refine below_set ?_ GE135.out | refine below_set ?_ GE137.out | refine below_set ?_ GE141.out) | exact HB.out))); (case side2 => exact HC140_5.out); rintro e w36 ⟨rfl, hb⟩; refine ⟨_, rfl, ?_⟩; have n0_ := Aside0.mk (blk_below (g := gb135) (o := .cells #[.int .i64 a0_0, .slice (some ad136) l0_1.length c0_1, .slice A0_2 l0_2.length c0_2] 25 (0, 0)) (by (with_reducible repeat (first | refine blk_drewN ?_ _ | refine blk_drew ?_ | refine blk_alloc ?_ _)); refine blk_far ?_ NB135_141.out _; (with_reducible repeat (first | refine blk_drewN ?_ _ | refine blk_drew ?_ | refine blk_alloc ?_ _)); refine blk_far ?_ NB135_141.out _; (with_reducible repeat (first | refine blk_drewN ?_ _ | refine blk_drew ?_ | refine blk_alloc ?_ _)); refine blk_far ?_ NB135_141.out _; (with_reducible repeat (first | refine blk_drewN ?_ _ | refine blk_drew ?_ | refine blk_alloc ?_ _)); refine blk_far ?_ NB135_141.out _; (with_reducible repeat (first | refine blk_drewN ?_ _ | refine blk_drew ?_ | refine blk_alloc ?_ _)); refine blk_far ?_ NB135_141.out _; (with_reducible repeat (first | refine blk_drewN ?_ _ | refine blk_drew ?_ | refine blk_alloc ?_ _)); refine blk_far ?_ NB135_141.out _; (with_reducible repeat (first | refine blk_drewN ?_ _ | refine blk_drew ?_ | refine blk_alloc ?_ _)); exact BK135.out) hb); have n1_ := Aside0.mk (blk_below (g := gb137) (o := .cells #[.string ((rd_T45 l0_1 x24_1).f0), .int .i64 ((rd_T45 l0_1 x24_1).f1), .slice A136_2 ((rd_T45 l0_1 x24_1).f2).length c136_2, .slice (some ad140) ((rd_T45 l0_1 x24_1).f3).length c136_3] 45 (0, 0)) (by (with_reducible repeat (first | refine blk_drewN ?_ _ | refine blk_drew ?_ | refine blk_alloc ?_ _)); refine blk_far ?_ NB137_141.out _; (with_reducible repeat (first | refine blk_drewN ?_ _ | refine blk_drew ?_ | refine blk_alloc ?_ _)); refine blk_far ?_ NB137_141.out _; (with_reducible repeat (first | refine blk_drewN ?_ _ | refine blk_drew ?_ | refine blk_alloc ?_ _)); refine blk_far ?_ NB137_141.out _; (with_reducible repeat (first | refine blk_drewN ?_ _ | refine blk_drew ?_ | refine blk_alloc ?_ _)); refine blk_far ?_ NB137_141.out _; (with_reducible repeat (first | refine blk_drewN ?_ _ | refine blk_drew ?_ | refine blk_alloc ?_ _)); refine blk_far ?_ NB137_141.out _; (with_reducible repeat (first | refine blk_drewN ?_ _ | refine blk_drew ?_ | refine blk_alloc ?_ _)); refine blk_far ?_ NB137_141.out _; (with_reducible repeat (first | refine blk_drewN ?_ _ | refine blk_drew ?_ | refine blk_alloc ?_ _)); exact BK137.out) hb); have n2_ := Aside0.mk (blk_below (g := gb141) (o := .cells #[.int .i64 ((rd_T72 ((rd_T45 l0_1 x24_1).f3) x61_3).f0), .int .i64 ((rd_T72 ((rd_T45 l0_1 x24_1).f3) x61_3).f1), .int .i64 ((rd_T72 ((rd_T45 l0_1 x24_1).f3) x61_3).f2.f0), .int .i64 ((rd_T72 ((rd_T45 l0_1 x24_1).f3) x61_3).f2.f1), .string ((rd_T72 ((rd_T45 l0_1 x24_1).f3) x61_3).f2.f2), .slice A140_5 ((rd_T72 ((rd_T45 l0_1 x24_1).f3) x61_3).f3).length c140_5] 72 (0, 0)) (by (with_reducible repeat (first | refine blk_drewN ?_ _ | refine blk_drew ?_ | refine blk_alloc ?_ _)); refine blk_put (cs := #[.int .i64 ((rd_T72 ((rd_T45 l0_1 x24_1).f3) x61_3).f0), .int .i64 ((rd_T72 ((rd_T45 l0_1 x24_1).f3) x61_3).f1), .int .i64 ((rd_T72 ((rd_T45 l0_1 x24_1).f3) x61_3).f2.f0), .int .i64 ((rd_T72 ((rd_T45 l0_1 x24_1).f3) x61_3).f2.f1), .string ((rd_T72 ((rd_T45 l0_1 x24_1).f3) x61_3).f2.f2), .slice none 0 0]) ?_ 5 _ rfl; (with_reducible repeat (first | refine blk_drewN ?_ _ | refine blk_drew ?_ | refine blk_alloc ?_ _)); refine blk_put (cs := #[.int .i64 ((rd_T72 ((rd_T45 l0_1 x24_1).f3) x61_3).f0), .int .i64 ((rd_T72 ((rd_T45 l0_1 x24_1).f3) x61_3).f1), .int .i64 ((rd_T72 ((rd_T45 l0_1 x24_1).f3) x61_3).f2.f0), .int .i64 ((rd_T72 ((rd_T45 l0_1 x24_1).f3) x61_3).f2.f1), .string (⟨#[]⟩ : ByteArray), .slice none 0 0]) ?_ 4 _ rfl; (with_reducible repeat (first | refine blk_drewN ?_ _ | refine blk_drew ?_ | refine blk_alloc ?_ _)); refine blk_put (cs := #[.int .i64 ((rd_T72 ((rd_T45 l0_1 x24_1).f3) x61_3).f0), .int .i64 ((rd_T72 ((rd_T45 l0_1 x24_1).f3) x61_3).f1), .int .i64 ((rd_T72 ((rd_T45 l0_1 x24_1).f3) x61_3).f2.f0), .int .i64 0, .string (⟨#[]⟩ : ByteArray), .slice none 0 0]) ?_ 3 _ rfl; (with_reducible repeat (first | refine blk_drewN ?_ _ | refine blk_drew ?_ | refine blk_alloc ?_ _)); refine blk_put (cs := #[.int .i64 ((rd_T72 ((rd_T45 l0_1 x24_1).f3) x61_3).f0), .int .i64 ((rd_T72 ((rd_T45 l0_1 x24_1).f3) x61_3).f1), .int .i64 0, .int .i64 0, .string (⟨#[]⟩ : ByteArray), .slice none 0 0]) ?_ 2 _ rfl; (with_reducible repeat (first | refine blk_drewN ?_ _ | refine blk_drew ?_ | refine blk_alloc ?_ _)); refine blk_put (cs := #[.int .i64 ((rd_T72 ((rd_T45 l0_1 x24_1).f3) x61_3).f0), .int .i64 0, .int .i64 0, .int .i64 0, .string (⟨#[]⟩ : ByteArray), .slice none 0 0]) ?_ 1 _ rfl; (with_reducible repeat (first | refine blk_drewN ?_ _ | refine blk_drew ?_ | refine blk_alloc ?_ _)); refine blk_put (cs := #[.int .i64 0, .int .i64 0, .int .i64 0, .int .i64 0, .string (⟨#[]⟩ : ByteArray), .slice none 0 0]) ?_ 0 _ rfl; (with_reducible repeat (first | refine blk_drewN ?_ _ | refine blk_drew ?_ | refine blk_alloc ?_ _)); exact BK141.out) hb); have n3_ := Aside0.mk (below_step (by repeat (first | (with_reducible first | exact HB.out | apply below_alloc | apply pw_below_drewN | apply below_drew1 | refine below_set ?_ GE135.out | refine below_set ?_ GE137.out | refine below_set ?_ GE141.out) | exact HB.out)) hb); clear BK135; clear BK137; clear BK141; clear HB; have BK135 := n0_; have BK137 := n1_; have BK141 := n2_; have HB := n3_; clear n0_ n1_ n2_ n3_; (try clear hb); (try clear hb2); (try clear hk); (try clear hi)))
                                go_roundg k3
                                case measure => have := HK1.out; have := HK2.out; have := HK3.out; omega
                                case rel => exact ⟨(wrap64 (x61_3 + 1)), (by first | rfl | (simp; done) | (simp [*]; done)), H', ⟨by have := HK1.out; have := HK2.out; have := HK3.out; omega⟩, ⟨by (with_reducible repeat (first | refine blk_drewN ?_ _ | refine blk_drew ?_ | refine blk_alloc ?_ _)); exact BK135.out⟩, ⟨by (with_reducible repeat (first | refine blk_drewN ?_ _ | refine blk_drew ?_ | refine blk_alloc ?_ _)); exact BK137.out⟩, ⟨by repeat (first | (with_reducible first | exact HB.out | apply below_alloc | apply pw_below_drewN | apply below_drew1 | refine below_set ?_ GE135.out | refine below_set ?_ GE137.out | refine below_set ?_ GE141.out) | exact HB.out)⟩⟩
                            · rw [if_neg c24] at H
                              exact absurd H (by simp)
                          · rw [if_neg c23] at H
                            exact absurd H (by simp)
                        · rw [if_neg c22] at H
                          have c22b0 : decide (x61_3 < (((rd_T45 l0_1 x24_1).f3).length : Int)) = false := decide_eq_false c22
                          clear c22
                          by_cases c37 : x3_2 > 3000
                          · rw [if_pos c37] at H
                            have c37b0 : decide (3000 < x3_2) = true := decide_eq_true c37
                            clear c37
                            obtain rfl := Option.some.inj H
                            go_wp2
                            go_ret
                            exact ⟨by first | rfl | (simp [errW_none, errW_some] <;> rfl) | (simp [*, errW_none, errW_some] <;> rfl), by repeat (first | (with_reducible first | exact HB.out | apply below_alloc | apply pw_below_drewN | apply below_drew1 | refine below_set ?_ GE135.out | refine below_set ?_ GE137.out) | exact HB.out)⟩
                          · rw [if_neg c37] at H
                            have c37b0 : decide (3000 < x3_2) = false := decide_eq_false c37
                            clear c37
                            have H' := Aside0.mk H
                            clear H
                            go_wp2
                            go_roundg k3
                            case measure => have := HK1.out; have := HK2.out; have := HK3.out; omega
                            case rel => exact ⟨(x3_2), (wrap64 (x24_1 + 1)), (by first | rfl | (simp; done) | (simp [*]; done)), (by first | rfl | (simp; done) | (simp [*]; done)), H', ⟨by have := HK1.out; have := HK2.out; have := HK3.out; omega⟩, ⟨by (with_reducible repeat (first | refine blk_drewN ?_ _ | refine blk_drew ?_ | refine blk_alloc ?_ _)); exact BK135.out⟩, ⟨by repeat (first | (with_reducible first | exact HB.out | apply below_alloc | apply pw_below_drewN | apply below_drew1 | refine below_set ?_ GE135.out | refine below_set ?_ GE137.out) | exact HB.out)⟩⟩
            · rw [if_neg c9] at H
              exact absurd H (by simp)
          · rw [if_neg c8] at H
            exact absurd H (by simp)
        · rw [if_neg c7] at H
          have c7b0 : decide (x24_1 < (l0_1.length : Int)) = false := decide_eq_false c7
          clear c7
          have H' := Aside0.mk H
          clear H
          have hcz38_0 : wr.cell? ⟨gb135, 0, none⟩ = some (.int .i64 a0_0) := (blk_cell BK135.out 0).trans rfl
          have hcz38_1 : wr.cell? ⟨gb135, 1, none⟩ = some (.slice A0_1 l0_1.length c0_1) := (blk_cell BK135.out 1).trans rfl
          have hcz38_2 : wr.cell? ⟨gb135, 2, none⟩ = some (.slice A0_2 l0_2.length c0_2) := (blk_cell BK135.out 2).trans rfl
          have hfz38_0 := blk_frozen BK135.out 0
          have hfz38_1 := blk_frozen BK135.out 1
          have hfz38_2 := blk_frozen BK135.out 2
          go_wp2
          go_loopg [3, 74] k1 (fun kq v3 v74 w' => ∃ (x3_2 : Int) (x74_2 : Int), v3 = .int .i64 x3_2 ∧ v74 = .int .i64 x74_2 ∧ Aside0 (mortmainref09_Great.l3 kq x3_2 l0_2 (l0_2.length : Int) x74_2 = some r) ∧ Aside0 (kq ≤ k1) ∧ Aside0 (w'.heap[gb135]? = some (.cells #[.int .i64 a0_0, (.slice A0_1 l0_1.length c0_1), (.slice A0_2 l0_2.length c0_2)] 25 (0, 0))) ∧ Aside0 (Below w.heap.size w w'))
          case atStart => exact ⟨(x3_1), (0), (by first | rfl | (simp; done) | (simp [*]; done)), (by first | rfl | (simp; done) | (simp [*]; done)), H', ⟨Nat.le_refl _⟩, ⟨by (with_reducible repeat (first | refine blk_drewN ?_ _ | refine blk_drew ?_ | refine blk_alloc ?_ _)); exact BK135.out⟩, ⟨by repeat (first | (with_reducible first | exact HB.out | apply below_alloc | apply pw_below_drewN | apply below_drew1 | refine below_set ?_ GE135.out) | exact HB.out)⟩⟩
          case round =>
            clear H'
            try clear c1
            try clear p1
            try clear q1
            try clear hx1
            try clear c2
            try clear c2b0
            try clear p2
            try clear c3
            try clear c4
            try clear p6
            try clear c7
            try clear c7b0
            try clear c8
            try clear c8b0
            try clear c9
            try clear c9b0
            try clear c11
            try clear c13
            try clear c13b0
            try clear p13
            try clear q13
            try clear hx13
            try clear c14
            try clear c14b0
            try clear p14
            try clear q14
            try clear hx14
            try clear c15
            try clear c15b0
            try clear c17
            try clear c18
            try clear c20
            try clear c22
            try clear c22b0
            try clear c23
            try clear c23b0
            try clear c24
            try clear c24b0
            try clear c26
            try clear c28
            try clear c29
            try clear c33
            try clear c34
            try clear c37
            try clear c37b0
            try clear hcz12_0
            try clear hcz12_1
            try clear hcz12_2
            try clear hcz12_3
            try clear hcz19_0
            try clear hcz19_1
            try clear hcz19_2
            try clear hcz19_3
            try clear hcz19_4
            try clear hcz19_5
            try clear hcz21_0
            try clear hcz21_1
            try clear hcz21_2
            try clear hcz21_3
            try clear hcz30_0
            try clear hcz30_1
            try clear hcz30_2
            try clear hcz30_3
            try clear hcz30_4
            try clear hcz30_5
            try clear hcz35_0
            try clear hcz35_1
            try clear hcz35_2
            try clear hcz35_3
            try clear hcz35_4
            try clear hcz35_5
            try clear hcz38_0
            try clear hcz38_1
            try clear hcz38_2
            try clear hcz4_0
            try clear hcz4_1
            try clear hcz4_2
            try clear hcz6_0
            try clear hcz6_1
            try clear hcz6_2
            try clear hfz12_0
            try clear hfz12_1
            try clear hfz12_2
            try clear hfz12_3
            try clear hfz19_0
            try clear hfz19_1
            try clear hfz19_2
            try clear hfz19_3
            try clear hfz19_4
            try clear hfz19_5
            try clear hfz21_0
            try clear hfz21_1
            try clear hfz21_2
            try clear hfz21_3
            try clear hfz30_0
            try clear hfz30_1
            try clear hfz30_2
            try clear hfz30_3
            try clear hfz30_4
            try clear hfz30_5
            try clear hfz35_0
            try clear hfz35_1
            try clear hfz35_2
            try clear hfz35_3
            try clear hfz35_4
            try clear hfz35_5
            try clear hfz38_0
            try clear hfz38_1
            try clear hfz38_2
            try clear hfz4_0
            try clear hfz4_1
            try clear hfz4_2
            try clear hfz6_0
            try clear hfz6_1
            try clear hfz6_2
            try clear hx136_0
            try clear hx136_1
            try clear hx136_2
            try clear hx136_3
            try clear hx138_0
            try clear hx138_1
            try clear hx138_2
            try clear hx138_3
            try clear hx138_4
            try clear hx138_5
            try clear hx140_0
            try clear hx140_1
            try clear hx140_2
            try clear hx140_3
            try clear hx140_4
            try clear hx140_5
            try clear p1
            try clear p13
            try clear p136
            try clear p138
            try clear p140
            try clear p2
            try clear p6
            try clear q1
            try clear q13
            try clear q136
            try clear q138
            try clear q140
            obtain ⟨x3_2, x74_2, rfl, rfl, HA, HK2, BK135, HB⟩ := hrel
            cases gk with
            | zero => exact absurd HA.out (by simp [mortmainref09_Great.l3])
            | succ k2 =>
              have H := HA.out
              clear HA
              simp only [mortmainref09_Great.l3] at H
              by_cases c39 : x74_2 < (l0_2.length : Int)
              · rw [if_pos c39] at H
                have c39b0 : decide (x74_2 < (l0_2.length : Int)) = true := decide_eq_true c39
                clear c39
                by_cases c40 : 0 ≤ x74_2
                · rw [if_pos c40] at H
                  have c40b0 : decide (0 ≤ x74_2) = true := decide_eq_true c40
                  clear c40
                  by_cases c41 : x74_2 < (l0_2.length : Int)
                  · rw [if_pos c41] at H
                    have c41b0 : decide (x74_2 < (l0_2.length : Int)) = true := decide_eq_true c41
                    clear c41
                    have H' := Aside0.mk H
                    clear H
                    have p143 : 0 ≤ (x74_2 : Int) := of_decide_eq_true (by first | (with_reducible assumption) | assumption)
                    have q143 : x74_2 < (l0_2.length : Int) := of_decide_eq_true (by first | (with_reducible assumption) | assumption)
                    obtain ⟨ad143, e143, hx143_0, hx143_1, hx143_2⟩ := at_T27 HR0_2.out x74_2 p143 q143
                    cases e143
                    replace hx143_0 := (HB.out.cell (World.block_lt_of_cell? w _ hx143_0)).trans hx143_0
                    replace hx143_1 := (HB.out.cell (World.block_lt_of_cell? w _ hx143_1)).trans hx143_1
                    replace hx143_2 := (HB.out.cell (World.block_lt_of_cell? w _ hx143_2)).trans hx143_2
                    replace p143 := eq_true p143
                    replace q143 := eq_true q143
                    go_wp2_with (first | ((with_reducible refine gate_dst (N := 11) rfl ?_); refine box_event ?hg (N := 11) ?hd (cs := #[.int .i64 0, .string (⟨#[]⟩ : ByteArray), .int .i64 0]) (t := 27) ?hr ?_; (case hd => rfl); (case hg => rfl); (case hr => first | (go_simp; done) | (go_simp; rfl)); intro gb144 hg w42 hbox hb; have n0_ := Aside0.mk (blk_below (g := gb135) (o := .cells #[.int .i64 a0_0, .slice A0_1 l0_1.length c0_1, .slice (some ad143) l0_2.length c0_2] 25 (0, 0)) (by (with_reducible repeat (first | refine blk_drewN ?_ _ | refine blk_drew ?_ | refine blk_alloc ?_ _)); exact BK135.out) hb); have n1_ := Aside0.mk (below_step (by repeat (first | (with_reducible first | exact HB.out | apply below_alloc | apply pw_below_drewN | apply below_drew1 | refine below_set ?_ GE135.out) | exact HB.out)) hb); have n2_ := Aside0.mk (hbox); have n3_ := Aside0.mk ((by rw [hg]; exact (below_size (by repeat (first | (with_reducible first | exact HB.out | apply below_alloc | apply pw_below_drewN | apply below_drew1 | refine below_set ?_ GE135.out) | exact HB.out))) : w.heap.size ≤ gb144)); have n4_ := Aside0.mk ((by rw [hg]; exact (below_size (by repeat (first | (with_reducible first | exact HB.out | apply below_alloc | apply pw_below_drewN | apply below_drew1 | refine below_set ?_ GE135.out) | exact HB.out))) : w.heap.size ≤ gb144)); have n5_ := Aside0.mk ((by rw [hg]; exact Nat.ne_of_lt (blk_lt (g := gb135) (o := .cells #[.int .i64 a0_0, .slice A0_1 l0_1.length c0_1, .slice (some ad143) l0_2.length c0_2] 25 (0, 0)) (by (with_reducible repeat (first | refine blk_drewN ?_ _ | refine blk_drew ?_ | refine blk_alloc ?_ _)); exact BK135.out)) : gb135 ≠ gb144)); have n6_ := Aside0.mk ((by rw [hg]; exact Nat.ne_of_gt (blk_lt (g := gb135) (o := .cells #[.int .i64 a0_0, .slice A0_1 l0_1.length c0_1, .slice (some ad143) l0_2.length c0_2] 25 (0, 0)) (by (with_reducible repeat (first | refine blk_drewN ?_ _ | refine blk_drew ?_ | refine blk_alloc ?_ _)); exact BK135.out)) : gb144 ≠ gb135)); clear BK135; clear HB; have BK135 := n0_; have HB := n1_; have BK144 := n2_; have GW144 := n3_; have GE144 := n4_; have NB135_144 := n5_; have NB144_135 := n6_; clear n0_ n1_ n2_ n3_ n4_ n5_ n6_; clear hb hbox hg; have hnb43 := NB144_135.out; have hnc43 := NB135_144.out; have hcz44_0 : w42.cell? ⟨gb144, 0, none⟩ = some (.int .i64 0) := (blk_cell BK144.out 0).trans rfl; have hcz44_1 : w42.cell? ⟨gb144, 1, none⟩ = some (.string (⟨#[]⟩ : ByteArray)) := (blk_cell BK144.out 1).trans rfl; have hcz44_2 : w42.cell? ⟨gb144, 2, none⟩ = some (.int .i64 0) := (blk_cell BK144.out 2).trans rfl; have hfz44_0 := blk_frozen BK144.out 0; have hfz44_1 := blk_frozen BK144.out 1; have hfz44_2 := blk_frozen BK144.out 2))
                    go_roundg k2
                    case measure => have := HK1.out; have := HK2.out; omega
                    case rel => exact ⟨(wrap64 (x3_2 + (((rd_T27 l0_2 x74_2).f1).size : Int))), (wrap64 (x74_2 + 1)), (by first | rfl | (simp; done) | (simp [*]; done)), (by first | rfl | (simp; done) | (simp [*]; done)), H', ⟨by have := HK1.out; have := HK2.out; omega⟩, ⟨by (with_reducible repeat (first | refine blk_drewN ?_ _ | refine blk_drew ?_ | refine blk_alloc ?_ _)); refine blk_far ?_ NB135_144.out _; (with_reducible repeat (first | refine blk_drewN ?_ _ | refine blk_drew ?_ | refine blk_alloc ?_ _)); refine blk_far ?_ NB135_144.out _; (with_reducible repeat (first | refine blk_drewN ?_ _ | refine blk_drew ?_ | refine blk_alloc ?_ _)); refine blk_far ?_ NB135_144.out _; (with_reducible repeat (first | refine blk_drewN ?_ _ | refine blk_drew ?_ | refine blk_alloc ?_ _)); exact BK135.out⟩, ⟨by repeat (first | (with_reducible first | exact HB.out | apply below_alloc | apply pw_below_drewN | apply below_drew1 | refine below_set ?_ GE135.out | refine below_set ?_ GE144.out) | exact HB.out)⟩⟩
                  · rw [if_neg c41] at H
                    exact absurd H (by simp)
                · rw [if_neg c40] at H
                  exact absurd H (by simp)
              · rw [if_neg c39] at H
                have c39b0 : decide (x74_2 < (l0_2.length : Int)) = false := decide_eq_false c39
                clear c39
                obtain rfl := Option.some.inj H
                go_wp2
                go_ret
                exact ⟨by first | rfl | (simp [errW_none, errW_some] <;> rfl) | (simp [*, errW_none, errW_some] <;> rfl), by repeat (first | (with_reducible first | exact HB.out | apply below_alloc | apply pw_below_drewN | apply below_drew1 | refine below_set ?_ GE135.out) | exact HB.out)⟩

end Go.Proofs.YtefdfgmlmjnmlaaDoor.Rf
end

section
/- The reference Great ends, of every schema that is read. -/
namespace Go.Proofs.YtefdfgmlmjnmlaaDoor.My
open Go.RowKit Go.Proofs.YtefdfgmlmjnmlaaDoorW.PrintWords Go.Proofs.YtefdfgmlmjnmlaaDoor.Rf

/-- An expression whose lists are no longer than can be. -/
inductive OkE : S72 → Prop
  | mk (e : S72) (hl : e.f3.length ≤ 9223372036854775807) (h : ∀ x, x ∈ e.f3 → OkE x) : OkE e
theorem OkE.len {e : S72} (h : OkE e) : e.f3.length ≤ 9223372036854775807 := by cases h; assumption
theorem OkE.sub {e x : S72} (h : OkE e) (hx : x ∈ e.f3) : OkE x := by cases h with | mk _ _ h => exact h x hx
theorem mem_getD {α : Type} {l : List α} {z : α} {i : Nat} (h : i < l.length) : l.getD i z ∈ l := by
  simp [List.getD, List.getElem?_eq_getElem h]
theorem rd72_nat (l : List S72) (i : Nat) : rd_T72 l (i : Int) = l.getD i z72 := rfl
theorem rd59_nat (l : List S59) (i : Nat) : rd_T59 l (i : Int) = l.getD i z59 := rfl

theorem C_each {α : Type} {d : Kd α} {w : World} {A : Option Addr} {n : Nat} {xs : List α} (h : d.C w A n xs) {x : α} (hx : x ∈ xs) : ∃ c, d.K w x c := by
  obtain ⟨i, hi, rfl⟩ := List.getElem_of_mem hx
  have hl := Kd.C_len h
  obtain ⟨ad, c, _, _, hK, _⟩ := Kd.C_get h xs[i] (i : Int) (by omega) (by omega)
  refine ⟨c, ?_⟩
  simpa [List.getD, List.getElem?_eq_getElem hi] using hK
theorem okE_upto {w : World} : ∀ n x cs, (Kd.upto F72 6 [72] n).K w x cs → OkE x := by
  intro n
  induction n with
  | zero => intro x cs h; exact h.elim
  | succ n ih =>
    intro x cs h
    obtain ⟨_, _, rfl, rfl, ⟨_, _, rfl, rfl, ⟨_, _, rfl, s2, ⟨A5, c5, rfl, l5, g5⟩⟩⟩⟩ := h
    refine OkE.mk x (Kd.C_max g5) (fun y hy => ?_)
    obtain ⟨c, hc⟩ := C_each g5 hy
    exact ih y c hc
theorem okE_of {w : World} {x : S72} {cs : List Value} (h : k72.K w x cs) : OkE x := by
  obtain ⟨n, h⟩ := h
  exact okE_upto n x cs h

structure OkT (t : S45) : Prop where
  cols : t.f2.length ≤ 9223372036854775807
  checks : t.f3.length ≤ 9223372036854775807
  each : ∀ x, x ∈ t.f3 → OkE x
theorem okT_of {w : World} {t : S45} {cs : List Value} (h : k45.K w t cs) : OkT t := by
  obtain ⟨A2, c2, A3, c3, rfl, l2, g2, l3, g3⟩ := k45_open h
  refine ⟨Kd.C_max g2, Kd.C_max g3, fun x hx => ?_⟩
  obtain ⟨c, hc⟩ := C_each g3 hx
  exact okE_of hc

theorem size_l0 (l : List S72) (hl : l.length ≤ 9223372036854775807) (h : ∀ x, x ∈ l → ∃ r, Ev (fun k => mortmainref08_Size.f k x.f0 x.f1 x.f2.f0 x.f2.f1 x.f2.f2 x.f3) r) : ∀ d i a b, i + d = l.length →
    ∃ r, Ev (fun k => mortmainref08_Size.l0 k a b l (l.length : Int) (i : Int)) r := by
  intro d
  induction d with
  | zero =>
    intro i a b hi
    exact ⟨_, Ev.step (f := fun _ => some (a, wrap64 (b + 1))) (fun k => by simp only [mortmainref08_Size.l0]; rw [if_neg (by omega)]) (Ev.now _)⟩
  | succ d ih =>
    intro i a b hi
    have hlt : i < l.length := by omega
    obtain ⟨r, hr⟩ := h _ (mem_getD (z := z72) hlt)
    obtain ⟨r', hr'⟩ := ih (i + 1) (wrap64 (a + r.1)) (mx b r.2) (by omega)
    refine ⟨r', Ev.step (fun k => ?_) (Ev.bind (f := fun k bt => mortmainref08_Size.l0 k (wrap64 (a + bt.1)) (mx b bt.2) l (l.length : Int) ((i + 1 : Nat) : Int)) hr hr')⟩
    simp only [mortmainref08_Size.l0]
    rw [if_pos (by omega), if_pos (by omega), if_pos (by omega), rd72_nat]
    simp only [wrap_next hlt hl]
theorem size_ev {e : S72} (h : OkE e) : ∃ r, Ev (fun k => mortmainref08_Size.f k e.f0 e.f1 e.f2.f0 e.f2.f1 e.f2.f2 e.f3) r := by
  induction h with
  | mk e hl _ ih =>
    obtain ⟨r, hr⟩ := size_l0 e.f3 hl ih e.f3.length 0 1 0 (by omega)
    exact ⟨r, Ev.step (fun k => by simp only [mortmainref08_Size.f]; rfl) hr⟩

theorem long_l0 (a b c d' : Int) (s : ByteArray) (q l : List S72) (hl : l.length ≤ 9223372036854775807) (h : ∀ x, x ∈ l → ∃ r, Ev (fun k => mortmainref08_long.f k x.f0 x.f1 x.f2.f0 x.f2.f1 x.f2.f2 x.f3) r) : ∀ d i, i + d = l.length →
    ∃ r, Ev (fun k => mortmainref08_long.l0 k l (l.length : Int) (i : Int) a b c d' s q) r := by
  intro d
  induction d with
  | zero =>
    intro i hi
    exact ⟨_, Ev.step (f := fun _ => some (decide ((s.size : Int) > 200))) (fun k => by simp only [mortmainref08_long.l0]; rw [if_neg (by omega)]) (Ev.now _)⟩
  | succ d ih =>
    intro i hi
    have hlt : i < l.length := by omega
    obtain ⟨r, hr⟩ := h _ (mem_getD (z := z72) hlt)
    obtain ⟨r', hr'⟩ := ih (i + 1) (by omega)
    have hstep : ∀ k, mortmainref08_long.l0 (k + 1) l (l.length : Int) (i : Int) a b c d' s q = (mortmainref08_long.f k (l.getD i z72).f0 (l.getD i z72).f1 (l.getD i z72).f2.f0 (l.getD i z72).f2.f1 (l.getD i z72).f2.f2 (l.getD i z72).f3).bind fun t => if t = true then some true else mortmainref08_long.l0 k l (l.length : Int) ((i + 1 : Nat) : Int) a b c d' s q := by
      intro k
      simp only [mortmainref08_long.l0]
      rw [if_pos (by omega), if_pos (by omega), if_pos (by omega), rd72_nat, wrap_next hlt hl]
    cases r with
    | true => exact ⟨true, Ev.step hstep (Ev.bind hr (Ev.now _))⟩
    | false => exact ⟨r', Ev.step hstep (Ev.bind hr (by simpa using hr'))⟩
theorem long_ev {e : S72} (h : OkE e) : ∃ r, Ev (fun k => mortmainref08_long.f k e.f0 e.f1 e.f2.f0 e.f2.f1 e.f2.f2 e.f3) r := by
  induction h with
  | mk e hl _ ih =>
    obtain ⟨r, hr⟩ := long_l0 e.f0 e.f1 e.f2.f0 e.f2.f1 e.f2.f2 e.f3 e.f3 hl ih e.f3.length 0 (by omega)
    exact ⟨r, Ev.step (fun k => by simp only [mortmainref08_long.f]; rfl) hr⟩
theorem great8_ev {e : S72} (h : OkE e) : ∃ r, Ev (fun k => mortmainref08_Great.f k e.f0 e.f1 e.f2.f0 e.f2.f1 e.f2.f2 e.f3) r := by
  obtain ⟨r, hr⟩ := size_ev h
  obtain ⟨r', hr'⟩ := long_ev h
  by_cases h1 : r.1 > 300
  · exact ⟨true, Ev.bind hr (by simpa [h1] using Ev.now true)⟩
  · by_cases h2 : r.2 > 60
    · exact ⟨true, Ev.bind hr (by simpa [h1, h2] using Ev.now true)⟩
    · exact ⟨r', Ev.bind hr (by simpa [h1, h2] using Ev.bind hr' (Ev.now r'))⟩

theorem great_l3 (gs : List S27) (hl : gs.length ≤ 9223372036854775807) : ∀ d i a, i + d = gs.length → ∃ r, Ev (fun k => mortmainref09_Great.l3 k a gs (gs.length : Int) (i : Int)) r := by
  intro d
  induction d with
  | zero =>
    intro i a hi
    exact ⟨_, Ev.step (f := fun _ => some (decide (a > 3000))) (fun k => by simp only [mortmainref09_Great.l3]; rw [if_neg (by omega)]) (Ev.now _)⟩
  | succ d ih =>
    intro i a hi
    have hlt : i < gs.length := by omega
    obtain ⟨r, hr⟩ := ih (i + 1) (wrap64 (a + ((rd_T27 gs (i : Int)).f1.size : Int))) (by omega)
    refine ⟨r, Ev.step (fun k => ?_) hr⟩
    simp only [mortmainref09_Great.l3]
    rw [if_pos (by omega), if_pos (by omega), if_pos (by omega), wrap_next hlt hl]

theorem great_l2 (ts : List S45) (n : Int) (i0 : Int) (v : Int) (q : List S45) (gs : List S27) (l : List S72) (hl : l.length ≤ 9223372036854775807) (h : ∀ x, x ∈ l → OkE x) (a : Int)
    (hnext : ∃ r, Ev (fun k => mortmainref09_Great.l0 k a ts n (wrap64 (i0 + 1)) v q gs) r) : ∀ d i, i + d = l.length →
    ∃ r, Ev (fun k => mortmainref09_Great.l2 k a ts n i0 l (l.length : Int) (i : Int) v q gs) r := by
  intro d
  induction d with
  | zero =>
    intro i hi
    by_cases h3 : a > 3000
    · exact ⟨_, Ev.step (f := fun _ => some true) (fun k => by simp only [mortmainref09_Great.l2]; rw [if_neg (by omega), if_pos h3]) (Ev.now _)⟩
    · obtain ⟨r, hr⟩ := hnext
      exact ⟨r, Ev.step (fun k => by simp only [mortmainref09_Great.l2]; rw [if_neg (by omega), if_neg h3]) hr⟩
  | succ d ih =>
    intro i hi
    have hlt : i < l.length := by omega
    obtain ⟨r, hr⟩ := great8_ev (h _ (mem_getD (z := z72) hlt))
    obtain ⟨r', hr'⟩ := ih (i + 1) (by omega)
    have hstep : ∀ k, mortmainref09_Great.l2 (k + 1) a ts n i0 l (l.length : Int) (i : Int) v q gs = (mortmainref08_Great.f k (l.getD i z72).f0 (l.getD i z72).f1 (l.getD i z72).f2.f0 (l.getD i z72).f2.f1 (l.getD i z72).f2.f2 (l.getD i z72).f3).bind fun t => if t = true then some true else mortmainref09_Great.l2 k a ts n i0 l (l.length : Int) ((i + 1 : Nat) : Int) v q gs := by
      intro k
      simp only [mortmainref09_Great.l2]
      rw [if_pos (by omega), if_pos (by omega), if_pos (by omega), rd72_nat, wrap_next hlt hl]
    cases r with
    | true => exact ⟨true, Ev.step hstep (Ev.bind hr (Ev.now _))⟩
    | false => exact ⟨r', Ev.step hstep (Ev.bind hr (by simpa using hr'))⟩

theorem great_l1 (ts : List S45) (n : Int) (i0 : Int) (v : Int) (q : List S45) (gs : List S27) (nm : ByteArray) (o : Int) (c2 : List S59) (cks : List S72) (cols : List S59) (hl : cols.length ≤ 9223372036854775807)
    (hnext : ∀ a, ∃ r, Ev (fun k => mortmainref09_Great.l2 k a ts n i0 cks (cks.length : Int) 0 v q gs) r) : ∀ d i a, i + d = cols.length →
    ∃ r, Ev (fun k => mortmainref09_Great.l1 k a ts n i0 cols (cols.length : Int) (i : Int) v q gs nm o c2 cks) r := by
  intro d
  induction d with
  | zero =>
    intro i a hi
    obtain ⟨r, hr⟩ := hnext a
    exact ⟨r, Ev.step (fun k => by simp only [mortmainref09_Great.l1]; rw [if_neg (by omega)]) hr⟩
  | succ d ih =>
    intro i a hi
    have hlt : i < cols.length := by omega
    obtain ⟨r, hr⟩ := ih (i + 1) (wrap64 ((wrap64 (a + ((rd_T59 cols (i : Int)).f0.size : Int))) + ((rd_T59 cols (i : Int)).f4.size : Int))) (by omega)
    refine ⟨r, Ev.step (fun k => ?_) hr⟩
    simp only [mortmainref09_Great.l1]
    rw [if_pos (by omega), if_pos (by omega), if_pos (by omega), wrap_next hlt hl]

theorem great_l0 (v : Int) (q : List S45) (gs : List S27) (ts : List S45) (hl : ts.length ≤ 9223372036854775807) (hg : gs.length ≤ 9223372036854775807) (h : ∀ t, t ∈ ts → OkT t) : ∀ d i a, i + d = ts.length →
    ∃ r, Ev (fun k => mortmainref09_Great.l0 k a ts (ts.length : Int) (i : Int) v q gs) r := by
  intro d
  induction d with
  | zero =>
    intro i a hi
    obtain ⟨r, hr⟩ := great_l3 gs hg gs.length 0 a (by omega)
    exact ⟨r, Ev.step (fun k => by simp only [mortmainref09_Great.l0]; rw [if_neg (by omega)]; rfl) hr⟩
  | succ d ih =>
    intro i a hi
    have hlt : i < ts.length := by omega
    have hT := h _ (mem_getD (z := z45) hlt)
    obtain ⟨r, hr⟩ := great_l1 ts (ts.length : Int) (i : Int) v q gs (ts.getD i z45).f0 (ts.getD i z45).f1 (ts.getD i z45).f2 (ts.getD i z45).f3 (ts.getD i z45).f2 hT.cols
      (fun b => great_l2 ts (ts.length : Int) (i : Int) v q gs (ts.getD i z45).f3 hT.checks hT.each b (by rw [wrap_next hlt hl]; exact ih (i + 1) b (by omega)) (ts.getD i z45).f3.length 0 (by omega)) (ts.getD i z45).f2.length 0
      (wrap64 ((wrap64 ((wrap64 (a + ((ts.getD i z45).f0.size : Int))) + ((ts.getD i z45).f2.length : Int))) + ((ts.getD i z45).f3.length : Int))) (by omega)
    refine ⟨r, Ev.step (fun k => ?_) hr⟩
    simp only [mortmainref09_Great.l0]
    rw [if_pos (by omega), if_pos (by omega), if_pos (by omega), rd45_nat]
    rfl
theorem great_ev (v : Int) (ts : List S45) (gs : List S27) (hl : ts.length ≤ 9223372036854775807) (hg : gs.length ≤ 9223372036854775807) (h : ∀ t, t ∈ ts → OkT t) : ∃ r, Ev (fun k => mortmainref09_Great.f k v ts gs) r := by
  by_cases h1 : wrap64 ((ts.length : Int) + (gs.length : Int)) > 200
  · exact ⟨true, 0, fun k _ => by simp only [mortmainref09_Great.f]; rw [if_pos h1]⟩
  · obtain ⟨r, hr⟩ := great_l0 v ts gs ts hl hg h ts.length 0 (wrap64 ((ts.length : Int) + (gs.length : Int))) (by omega)
    exact ⟨r, Ev.congr (fun k => by simp only [mortmainref09_Great.f]; rw [if_neg h1]; rfl) hr⟩
end Go.Proofs.YtefdfgmlmjnmlaaDoor.My
end

section
set_option linter.unusedSimpArgs false
set_option linter.unusedVariables false
/- The law GrantTakes: it answers true, of all grants that are read. -/
namespace Go.Proofs.YtefdfgmlmjnmlaaDoor.My
open Go.RowKit Go.Proofs.YtefdfgmlmjnmlaaDoorW.PrintWords Go.Proofs.YtefdfgmlmjnmlaaDoor.Rf
open Go.Proofs.YtefdfgmlmjnmlaaDoorW.PrintLast Go.Proofs.YtefdfgmlmjnmlaaDoorW.PrintMore

theorem eqA27 (d : Nat) (w : World) (x0 y0 : Int) (x1 y1 : ByteArray) (x2 y2 : Int) :
    (Op.equalIn (d + 2) 27 (.agg #[.int .i64 x0, .string x1, .int .i64 x2]) (.agg #[.int .i64 y0, .string y1, .int .i64 y2])).run Tryd.prog w = .ok (x0 == y0 && (x1.toList == y1.toList && (x2 == y2))) w := by
  refine eqA_of Tryd.underlying27 (by kernel_rfl) ?_
  refine eqf_cons (by rfl) (by go_simp; rfl) (by go_simp; rfl) (by go_simp) ?_
  refine eqf_cons (by rfl) (by go_simp; rfl) (by go_simp; rfl) (by go_simp) ?_
  exact eqf_last (by rfl) (by go_simp; rfl) (by go_simp; rfl) (by go_simp)
attribute [local go_sem high] eqA27

structure TakePost2 (l : List S27) (g : S27) (w : World) (e : Ending) (w' : World) : Prop where
  out : ∃ (A : Option Addr) (n c : Nat) (er : Int), e = .returned (.tuple #[.slice A n c, .int .i64 er]) ∧ (goodG g = false → n = 0 ∧ er = 1) ∧ (goodG g = true → n = (takeL l g).length ∧ er = 0 ∧ n ≤ c ∧ Kd.C k27 w' A (takeL l g).length (takeL l g))
  below : Below w.heap.size w w'
theorem take_calls2 (l : List S27) (A : Option Addr) (c : Nat) (g : S27) (w : World) (hr : Kd.C k27 w A l.length l) (hl : l.length * 32 ≤ 140737488355328) (hgs : g.f1.size ≤ 9223372036854775807) (hT : Tabs w) :
    Calls Tryd.prog 24 #[.slice A l.length c, .agg #[.int .i64 g.f0, .string g.f1, .int .i64 g.f2]] w (TakePost2 l g w) := by
  refine (take_calls l A c g w hr hl hgs hT).mono ?_
  rintro e w' ⟨h1, h2, h3⟩
  refine ⟨?_, h3⟩
  cases hg : goodG g with
  | false => exact ⟨none, 0, 0, 1, h1 hg, fun _ => ⟨rfl, rfl⟩, fun h => (by cases h)⟩
  | true =>
    obtain ⟨A2, c2, e2, hle, hC⟩ := h2 hg
    exact ⟨A2, _, c2, 0, e2, fun h => (by cases h), fun _ => ⟨rfl, rfl, hle, hC⟩⟩

theorem notG_next {l : List S27} {k : Nat} (h : k < l.length) (nm : ByteArray) : notG nm (l.take (k + 1)) = notG nm (l.take k) ++ (if isG nm (l.getD k z27) = true then [] else [l.getD k z27]) := by
  rw [List.take_succ_eq_append_getElem h, notG, List.filter_append, ← notG]
  rw [show l.getD k z27 = l[k] by simp [List.getD, List.getElem?_eq_getElem h]]
  cases hi : isG nm l[k] <;> simp [hi]
theorem notG_at {l : List S27} {k : Nat} (h : k < l.length) (nm : ByteArray) (hi : isG nm (l.getD k z27) = false) : (notG nm (l.take k)).length < (notG nm l).length ∧ (notG nm l).getD (notG nm (l.take k)).length z27 = l.getD k z27 := by
  have h1 := notG_next h nm
  rw [hi] at h1
  have h2 : notG nm l = notG nm (l.take k) ++ l.getD k z27 :: notG nm (l.drop (k + 1)) := by
    have h3 : notG nm l = notG nm (l.take (k + 1)) ++ notG nm (l.drop (k + 1)) := by
      unfold notG
      rw [← List.filter_append, List.take_append_drop]
    rw [h3, h1]
    simp
  constructor
  · have := congrArg List.length h2
    simp at this
    omega
  · rw [h2, List.getD, List.getElem?_append_right (Nat.le_refl _)]
    simp
theorem good_size {x : S27} (h : goodG x = true) : x.f1.size ≤ 9223372036854775807 := by
  obtain ⟨_, _, h, _, _⟩ := good_parts h
  simp only [isName, Bool.and_eq_true, decide_eq_true_eq] at h
  omega
theorem okS_good {l : List S27} (h : Good64 l) : okS l := fun x hx => good_size (h.good x hx)
theorem take_had {l : List S27} {g : S27} (h : Good64 l) (hg : goodG g = true) {x : S27} (hx : x ∈ takeL l g) : bitsR x.f0 x.f1 l ≠ 0 := by
  intro h0
  have h1 := take_good h hg
  have h2 := bits_own h1.rise hx
  obtain ⟨_, _, _, h3, _⟩ := good_parts (h1.good x hx)
  obtain ⟨_, _, _, g0, g1⟩ := good_parts hg
  rw [take_bits h hg, h0, (zero_bits (Int.le_of_lt g0) g1).1] at h2
  split at h2 <;> omega
set_option maxHeartbeats 4000000 in
set_option maxRecDepth 100000 in
theorem takes_law (l : List S27) (A : Option Addr) (c : Nat) (g : S27) (w : World) (hr : Kd.C k27 w A l.length l) (hc : l.length ≤ c) (hT : Tabs w) (hs : okS l) (hgs : g.f1.size ≤ 9223372036854775807) :
    Calls Tryd.prog 4 #[.slice A l.length c, .agg #[.int .i64 g.f0, .string g.f1, .int .i64 g.f2]] w (BoolPost true w) := by
  have hnl : l.length ≤ 9223372036854775807 := hr.2.1
  obtain ⟨bG, kG, hG⟩ := great10_ev l hnl
  obtain ⟨kS, hS⟩ := sorted_ev l hs hnl
  have hG := Aside0.mk (hG kG (Nat.le_refl _))
  have hS := Aside0.mk (hS kS (Nat.le_refl _))
  have HC := Aside0.mk hc
  have b1 := below1 w (.cells #[.int .i64 g.f0, .string g.f1, .int .i64 g.f2] 27)
  have HB := Aside0.mk b1
  have HT := Aside0.mk (hT.below b1)
  have HR := Aside0.mk (Kd.C_below hr b1)
  have HK := Aside0.mk (blk_new w (.cells #[.int .i64 g.f0, .string g.f1, .int .i64 g.f2] 27))
  clear hr hc hT b1
  by_cases hgr : (decide (80 < l.length) || bG) = true
  · have hG := Aside0.mk (hgr ▸ hG.out)
    go_enter Tryd.func4, Tryd.ntmps4
    go_wp2_with (first
      | (go_at_call 12; refine (alive_calls _).mono ?_; rintro e w2 ⟨rfl, hb2⟩; have HK2 := Aside0.mk (blk_below HK.out hb2); have HR2 := Aside0.mk (Kd.C_below HR.out hb2); have HB2 := Aside0.mk (below_step HB.out hb2))
      | (go_at_call 23; refine (mortmainlaw10_great.calls kG A c l true _ HR2.out HC.out hG.out).mono ?_; rintro e w3 ⟨rfl, hb3⟩))
    go_ret
    exact ⟨rfl, below_step HB2.out hb3⟩
  · have hgr : (decide (80 < l.length) || bG) = false := by simpa using hgr
    have hG := Aside0.mk (hgr ▸ hG.out)
    have h80 : l.length ≤ 80 := by simp at hgr; omega
    by_cases hlen : 200 < (g.f1.size : Int)
    · have hlen1 := decide_eq_true hlen
      go_enter Tryd.func4, Tryd.ntmps4
      go_wp2_with (first
        | (go_at_call 12; refine (alive_calls _).mono ?_; rintro e w2 ⟨rfl, hb2⟩; have HK2 := Aside0.mk (blk_below HK.out hb2); have HR2 := Aside0.mk (Kd.C_below HR.out hb2); have HB2 := Aside0.mk (below_step HB.out hb2))
        | (go_at_call 23; refine (mortmainlaw10_great.calls kG A c l false _ HR2.out HC.out hG.out).mono ?_; rintro e w3 ⟨rfl, hb3⟩; have HK3 := Aside0.mk (blk_below HK2.out hb3); have a1 := blk_cell HK3.out 1))
      go_ret
      exact ⟨rfl, below_step HB2.out hb3⟩
    · have hlen1 := decide_eq_false hlen
      cases hsr : refS l 0 l.length with
      | false =>
        have hS := Aside0.mk (hsr ▸ hS.out)
        go_enter Tryd.func4, Tryd.ntmps4
        go_wp2_with (first
          | (go_at_call 12; refine (alive_calls _).mono ?_; rintro e w2 ⟨rfl, hb2⟩; have HK2 := Aside0.mk (blk_below HK.out hb2); have HR2 := Aside0.mk (Kd.C_below HR.out hb2); have HB2 := Aside0.mk (below_step HB.out hb2))
          | (go_at_call 23; refine (mortmainlaw10_great.calls kG A c l false _ HR2.out HC.out hG.out).mono ?_; rintro e w3 ⟨rfl, hb3⟩; have HK3 := Aside0.mk (blk_below HK2.out hb3); have HR3 := Aside0.mk (Kd.C_below HR2.out hb3); have HB3 := Aside0.mk (below_step HB2.out hb3); have a1 := blk_cell HK3.out 1)
          | (go_at_call 14; refine (mortmainref10_Sorted.calls kS A c l false _ HR3.out HC.out hS.out).mono ?_; rintro e w4 ⟨rfl, hb4⟩))
        go_ret
        exact ⟨rfl, below_step HB3.out hb4⟩
      | true =>
        have hS := Aside0.mk (hsr ▸ hS.out)
        have h64 := (refS_iff l).1 hsr
        have HG64 := Aside0.mk h64
        have hl32 : l.length * 32 ≤ 140737488355328 := by omega
        clear hsr h64 hgr
        go_enter Tryd.func4, Tryd.ntmps4
        go_wp2_with (first
          | (go_at_call 12; refine (alive_calls _).mono ?_; rintro e w2 ⟨rfl, hb2⟩; have HK2 := Aside0.mk (blk_below HK.out hb2); have HR2 := Aside0.mk (Kd.C_below HR.out hb2); have HB2 := Aside0.mk (below_step HB.out hb2); have HT2 := Aside0.mk (HT.out.below hb2))
          | (go_at_call 23; refine (mortmainlaw10_great.calls kG A c l false _ HR2.out HC.out hG.out).mono ?_; rintro e w3 ⟨rfl, hb3⟩; have HK3 := Aside0.mk (blk_below HK2.out hb3); have HR3 := Aside0.mk (Kd.C_below HR2.out hb3); have HB3 := Aside0.mk (below_step HB2.out hb3); have HT3 := Aside0.mk (HT2.out.below hb3); have a1 := blk_cell HK3.out 1)
          | (go_at_call 14; refine (mortmainref10_Sorted.calls kS A c l true _ HR3.out HC.out hS.out).mono ?_; rintro e w4 ⟨rfl, hb4⟩; have HK4 := Aside0.mk (blk_below HK3.out hb4); have HR4 := Aside0.mk (Kd.C_below HR3.out hb4); have HB4 := Aside0.mk (below_step HB3.out hb4); have HT4 := Aside0.mk (HT3.out.below hb4); clear a1; have a0 := blk_cell HK4.out 0; have a1 := blk_cell HK4.out 1; have a2 := blk_cell HK4.out 2)
          | (go_at_call 24; refine (take_calls2 l A c g _ HR4.out hl32 hgs HT4.out).mono ?_; rintro e w5 ⟨⟨A5, n5, c5, er, rfl, hbad, hgood⟩, hb5⟩; have HBAD := Aside0.mk hbad; have HGOOD := Aside0.mk hgood; clear hbad hgood; have HK5 := Aside0.mk (blk_below HK4.out hb5); have HR5 := Aside0.mk (Kd.C_below HR4.out hb5); have HB5 := Aside0.mk (below_step HB4.out hb5); have HT5 := Aside0.mk (HT4.out.below hb5); clear a0 a1 a2; have a0 := blk_cell HK5.out 0; have a1 := blk_cell HK5.out 1; have a2 := blk_cell HK5.out 2)
          | (go_at_call 25; refine (without_calls l A c g.f1 _ HR5.out hl32).mono ?_; rintro e w6 ⟨⟨A6, c6, rfl, hc6, hC6⟩, hb6⟩; have HC6 := Aside0.mk hC6; have HH6 := Aside0.mk hc6; have HB56 := Aside0.mk hb6; have HK6 := Aside0.mk (blk_below HK5.out hb6); have HR6 := Aside0.mk (Kd.C_below HR5.out hb6); have HB6 := Aside0.mk (below_step HB5.out hb6); have HT6 := Aside0.mk (HT5.out.below hb6); clear a0 a1 a2 hC6 hc6))
        clear hb2 hb3 hb4 hb5 hb6
        have hnf : (notG g.f1 l).length ≤ l.length := List.length_filter_le _ _
        go_loopw [8, 10, 43] (fun t8 _ t43 wr => ∃ (n k : Nat), t8 = .int .i64 n ∧ t43 = .int .i64 k ∧ k ≤ l.length ∧ Aside0 (n = (notG g.f1 (l.take k)).length) ∧ Aside0 (Below w6.heap.size w6 wr)) (fun _ _ t43 _ => l.length - (intOf t43).toNat)
        case atStart => exact ⟨0, 0, rfl, rfl, Nat.zero_le _, ⟨rfl⟩, ⟨Below.refl _ _⟩⟩
        case round =>
          obtain ⟨n, k, rfl, rfl, hk, HN, HBr⟩ := hrel
          by_cases hlt : k < l.length
          · obtain ⟨ad, e, hc0, hc1, hc2⟩ := at_T27 HR6.out (k : Int) (by omega) (by omega)
            subst e
            simp only [Int.toNat_natCast, rd_T27] at hc0 hc1 hc2
            have hnx := notG_next hlt g.f1
            have hna := notG_at hlt g.f1
            generalize hx : l.getD k z27 = x at hc0 hc1 hc2 hnx hna
            have HNX := Aside0.mk hnx
            have HNA := Aside0.mk hna
            have d0 := cell_now HBr.out hc0
            have d1 := cell_now HBr.out hc1
            have d2 := cell_now HBr.out hc2
            have HKr := Aside0.mk (blk_below HK6.out HBr.out)
            have gk := blk_lt HKr.out
            have g1 := blk_cell HKr.out 1
            clear hc0 hc1 hc2 hx hnx hna
            have hi0 : (0 : Int) ≤ (k : Int) := by omega
            have hi1 : (k : Int) < (l.length : Int) := by omega
            cases hp : (x.f1.toList == g.f1.toList) with
            | true =>
              go_wp2
              go_roundw
              case rel => exact ⟨n, k + 1, rfl, by go_num, by omega, ⟨by rw [HNX.out, if_pos (show isG g.f1 x = true from hp), List.append_nil]; exact HN.out⟩, ⟨below_alloc HBr.out _⟩⟩
              case measure => simp [intOf]; omega
            | false =>
              obtain ⟨hn1, hn2⟩ := HNA.out hp
              rw [← HN.out] at hn1 hn2
              obtain ⟨ad2, e2, hc0, hc1, hc2⟩ := at_T27 HC6.out (n : Int) (by omega) (by omega)
              subst e2
              simp only [Int.toNat_natCast, rd_T27] at hc0 hc1 hc2
              rw [hn2] at hc0 hc1 hc2
              have r0 := cell_now HBr.out hc0
              have r1 := cell_now HBr.out hc1
              have r2 := cell_now HBr.out hc2
              have gr := World.block_lt_of_cell? _ _ r0
              have hn3 : decide (((notG g.f1 l).length : Int) ≤ (n : Int)) = false := decide_eq_false (by omega)
              have hn4 : (0 : Int) ≤ (n : Int) := by omega
              have hn5 : (n : Int) < ((notG g.f1 l).length : Int) := by omega
              clear hc0 hc1 hc2 hn2
              go_wp2
              go_quiet (fail)
              go_wp2
              go_roundw
              case rel => exact ⟨n + 1, k + 1, by go_num, by go_num, by omega, ⟨by rw [HNX.out, if_neg (by rw [show isG g.f1 x = false from hp]; decide), List.length_append, HN.out]; rfl⟩, ⟨pw_below_drewN (below_alloc HBr.out _) _⟩⟩
              case measure => simp [intOf]; omega
          · have hkk : k = l.length := by omega
            subst hkk
            have hnn : n = (notG g.f1 l).length := by have := HN.out; rwa [List.take_length] at this
            have hne : ((n : Int) != ((notG g.f1 l).length : Int)) = false := by rw [hnn]; simp
            have HKr := Aside0.mk (blk_below HK6.out HBr.out)
            have g0 := blk_cell HKr.out 0
            have g1 := blk_cell HKr.out 1
            have g2 := blk_cell HKr.out 2
            obtain ⟨kO, hO⟩ := good_ev g hgs
            have hO := Aside0.mk (hO kO (Nat.le_refl _))
            cases hg : goodG g with
            | false =>
              obtain ⟨rfl, rfl⟩ := HBAD.out hg
              go_wp2_with (go_at_call 17; refine (mortmainref10_Good.calls kO g.f0 g.f1 g.f2 (goodG g) _ hO.out).mono ?_; rintro e w7 ⟨rfl, hb7⟩; rw [hg])
              go_ret
              exact ⟨rfl, below_step (below_step HB6.out HBr.out) hb7⟩
            | true =>
              obtain ⟨rfl, rfl, hn5, hC5⟩ := HGOOD.out hg
              have HC5 := Aside0.mk hC5
              have HH5 := Aside0.mk hn5
              clear hC5 hn5
              have hG2 := take_good HG64.out hg
              have hS2 := (refS_iff _).2 hG2
              have hL2 := take_len g HG64.out.rise
              obtain ⟨kS2, hE2⟩ := sorted_ev (takeL l g) (okS_good hG2) (by omega)
              rw [hS2] at hE2
              have hE2 := Aside0.mk (hE2 kS2 (Nat.le_refl _))
              have HTB := Aside0.mk (take_bits HG64.out hg)
              have HTH := Aside0.mk (fun x => take_had (x := x) HG64.out hg)
              have HGT := Aside0.mk hG2
              have hgt : decide (((takeL l g).length : Int) > (l.length : Int)) = false := decide_eq_false (by omega)
              have hgt2 : decide ((l.length : Int) < ((takeL l g).length : Int)) = false := decide_eq_false (by omega)
              clear hG2 hS2
              generalize takeL l g = L at *
              go_wp2_with (first
                | (go_at_call 17; refine (mortmainref10_Good.calls kO g.f0 g.f1 g.f2 (goodG g) _ hO.out).mono ?_; rintro e w7 ⟨rfl, hb7⟩; rw [hg]; have HK7 := Aside0.mk (blk_below HKr.out hb7); have HB7 := Aside0.mk (below_step HBr.out hb7); clear g0 g1 g2)
                | (go_at_call 14; refine (mortmainref10_Sorted.calls kS2 A5 c5 L true _ (Kd.C_below (Kd.C_below HC5.out HB56.out) HB7.out) HH5.out hE2.out).mono ?_; rintro e w8 ⟨rfl, hb8⟩; have HK8 := Aside0.mk (blk_below HK7.out hb8); have HB8 := Aside0.mk (below_step HB7.out hb8); have HR8 := Aside0.mk (Kd.C_below HR6.out HB8.out); have HC8 := Aside0.mk (Kd.C_below (Kd.C_below HC5.out HB56.out) HB8.out); clear hb7 hb8))
              have hgt3 : decide (l.length < L.length) = false := decide_eq_false (by omega)
              simp only [hgt3]
              clear hgt hgt2 hgt3
              go_loopw [12, 13, 97] (fun _ _ t97 wq => ∃ k : Nat, t97 = .int .i64 k ∧ k ≤ l.length ∧ Aside0 (Below w8.heap.size w8 wq)) (fun _ _ t97 _ => l.length - (intOf t97).toNat)
              case atStart => exact ⟨0, rfl, Nat.zero_le _, ⟨Below.refl _ _⟩⟩
              case round =>
                obtain ⟨k, rfl, hk2, HBq⟩ := hrel
                by_cases hlt2 : k < l.length
                · obtain ⟨ad, e, hc0, hc1, hc2⟩ := at_T27 HR8.out (k : Int) (by omega) (by omega)
                  subst e
                  simp only [Int.toNat_natCast, rd_T27] at hc0 hc1 hc2
                  have hmem := mem_getD (z := z27) hlt2
                  generalize hx : l.getD k z27 = x at hc0 hc1 hc2 hmem
                  have hbo := bits_own HG64.out.rise hmem
                  have htb := HTB.out x.f0 x.f1
                  rw [hbo] at htb
                  obtain ⟨kB, hB⟩ := bits_ev L x.f0 x.f1 (Kd.C_max HC8.out)
                  have hB := Aside0.mk (hB kB (Nat.le_refl _))
                  have d0 := cell_now HBq.out hc0
                  have d1 := cell_now HBq.out hc1
                  have d2 := cell_now HBq.out hc2
                  have HKq := Aside0.mk (blk_below HK8.out HBq.out)
                  have gk := blk_lt HKq.out
                  have g0 := blk_cell HKq.out 0
                  have g1 := blk_cell HKq.out 1
                  have g2 := blk_cell HKq.out 2
                  have HCq := Aside0.mk (Kd.C_alloc (Kd.C_below HC8.out HBq.out) (.cells #[.int .i64 x.f0, .string x.f1, .int .i64 x.f2] 27))
                  have HBa := Aside0.mk (below_alloc HBq.out (.cells #[.int .i64 x.f0, .string x.f1, .int .i64 x.f2] 27))
                  have hj0 : (0 : Int) ≤ (k : Int) := by omega
                  have hj1 : (k : Int) < (l.length : Int) := by omega
                  clear hc0 hc1 hc2 hx hmem hbo
                  cases hq0 : (x.f0 == g.f0) with
                  | false =>
                    rw [if_neg (by simp only [same, Bool.and_eq_true, beq_iff_eq]; intro hh; simp [hh.1] at hq0)] at htb
                    have HTQ := Aside0.mk htb
                    clear htb
                    go_wp2_with (go_at_call 26; refine (mortmainref10_Bits.calls kB A5 c5 L x.f0 x.f1 _ _ HCq.out HH5.out hB.out).mono ?_; rintro e w9 ⟨rfl, hb9⟩; rw [HTQ.out])
                    go_roundw
                    case rel => exact ⟨k + 1, by go_num, by omega, ⟨below_step HBa.out hb9⟩⟩
                    case measure => simp [intOf]; omega
                  | true =>
                    cases hq1 : (x.f1.toList == g.f1.toList) with
                    | false =>
                      rw [if_neg (by simp only [same, Bool.and_eq_true, beq_iff_eq]; intro hh; simp [hh.2] at hq1)] at htb
                      have HTQ := Aside0.mk htb
                      clear htb
                      go_wp2_with (go_at_call 26; refine (mortmainref10_Bits.calls kB A5 c5 L x.f0 x.f1 _ _ HCq.out HH5.out hB.out).mono ?_; rintro e w9 ⟨rfl, hb9⟩; rw [HTQ.out])
                      go_roundw
                      case rel => exact ⟨k + 1, by go_num, by omega, ⟨below_step HBa.out hb9⟩⟩
                      case measure => simp [intOf]; omega
                    | true =>
                      rw [if_pos (by simp only [same, Bool.and_eq_true, beq_iff_eq]; simp at hq0 hq1; exact ⟨hq0.symm, hq1.symm⟩)] at htb
                      have HTQ := Aside0.mk htb
                      clear htb
                      go_wp2_with (go_at_call 26; refine (mortmainref10_Bits.calls kB A5 c5 L x.f0 x.f1 _ _ HCq.out HH5.out hB.out).mono ?_; rintro e w9 ⟨rfl, hb9⟩; rw [HTQ.out])
                      go_roundw
                      case rel => exact ⟨k + 1, by go_num, by omega, ⟨below_step HBa.out hb9⟩⟩
                      case measure => simp [intOf]; omega
                · have hkk : k = l.length := by omega
                  subst hkk
                  go_wp2
                  have HRq := Aside0.mk (Kd.C_below HR8.out HBq.out)
                  have HCq := Aside0.mk (Kd.C_below HC8.out HBq.out)
                  have HBW := Aside0.mk (below_step (below_step HB6.out HB8.out) HBq.out)
                  have hLm := Kd.C_max HC8.out
                  go_loopw [15, 131] (fun _ t131 wz => ∃ k : Nat, t131 = .int .i64 k ∧ k ≤ L.length ∧ Aside0 (Below wr.heap.size wr wz)) (fun _ t131 _ => L.length - (intOf t131).toNat)
                  case atStart => exact ⟨0, rfl, Nat.zero_le _, ⟨Below.refl _ _⟩⟩
                  case round =>
                    obtain ⟨k, rfl, hk3, HBz⟩ := hrel
                    by_cases hlt3 : k < L.length
                    · obtain ⟨ad, e, hc0, hc1, hc2⟩ := at_T27 HCq.out (k : Int) (by omega) (by omega)
                      subst e
                      simp only [Int.toNat_natCast, rd_T27] at hc0 hc1 hc2
                      have hmem := mem_getD (z := z27) hlt3
                      generalize hx : L.getD k z27 = x at hc0 hc1 hc2 hmem
                      have hne0 : (bitsR x.f0 x.f1 l == 0) = false := beq_eq_false_iff_ne.2 (HTH.out x hmem)
                      obtain ⟨kB, hB⟩ := bits_ev l x.f0 x.f1 hnl
                      have hB := Aside0.mk (hB kB (Nat.le_refl _))
                      have d0 := cell_now HBz.out hc0
                      have d1 := cell_now HBz.out hc1
                      have d2 := cell_now HBz.out hc2
                      have HRz := Aside0.mk (Kd.C_alloc (Kd.C_below HRq.out HBz.out) (.cells #[.int .i64 x.f0, .string x.f1, .int .i64 x.f2] 27))
                      have HBa := Aside0.mk (below_alloc HBz.out (.cells #[.int .i64 x.f0, .string x.f1, .int .i64 x.f2] 27))
                      have hj0 : (0 : Int) ≤ (k : Int) := by omega
                      have hj1 : (k : Int) < (L.length : Int) := by omega
                      clear hc0 hc1 hc2 hx hmem
                      go_wp2_with (go_at_call 26; refine (mortmainref10_Bits.calls kB A c l x.f0 x.f1 _ _ HRz.out HC.out hB.out).mono ?_; rintro e w9 ⟨rfl, hb9⟩)
                      go_roundw
                      case rel => exact ⟨k + 1, by go_num, by omega, ⟨below_step HBa.out hb9⟩⟩
                      case measure => simp [intOf]; omega
                    · have hkk : k = L.length := by omega
                      subst hkk
                      go_wp2
                      go_ret
                      exact ⟨rfl, below_step HBW.out HBz.out⟩
end Go.Proofs.YtefdfgmlmjnmlaaDoor.My
end

section
set_option linter.unusedVariables false
/- The row and the card of the law GrantTakes. -/
namespace Go.Proofs.YtefdfgmlmjnmlaaDoor.My
open Go.ChangeShapes Go.WideShapes Go.ChangeAt Go.RowKit
open Go.ChangeMaps (open_string shut_string)
open Go.Proofs.YtefdfgmlmjnmlaaDoorW.PrintWords Go.Proofs.YtefdfgmlmjnmlaaDoor.Rf
open Go.Proofs.YtefdfgmlmjnmlaaDoor

set_option maxRecDepth 100000 in
theorem grantTakes_lifted (os : Os) (started : os.Started) (H : Type) (enc : TypeId × Value → H) :
    ReturnsInHanded {} Tryd.checked os 4 .any (fun w args => (Rows.grantTakesSpec.pre enc Tryd.prog Tryd.f4 Rows.grantTakesRow.domain false w args ∧ laidMetH Tryd.prog tabs w) ∧ sizedMet enc Tryd.prog Tryd.f4 (OpenSpec.ofChange Rows.grantTakesSpec) false w args)
      (Rows.grantTakesSpec.post enc Tryd.prog Tryd.f4 false true false false) := by
  refine returnsInHanded_of_change_and (C := Tryd.checked) (X := (fun w _ => laidMetH Tryd.prog tabs w)) (fun _ _ _ hh h => h.of_heap hh) own started (by kernel_rfl) Tryd.func4
    (ChangeSpec.witness_shaped (enc := enc) (C := Tryd.checked) (os := os) (X := (fun w _ => laidMetH Tryd.prog tabs w)) false (World.laidAll Tryd.prog os tabs) #[.slice none 0 0, .agg #[.int .i64 0, .string ByteArray.empty, .int .i64 0]] 8 (World.laidAll_os _ _ _)
      (World.shaped_of_ZipB (by kernel_rfl) (by kernel_rfl)) (by kernel_rfl) (by kernel_rfl) (by kernel_rfl)
      (by rw [MakeChecks.laidMetH_plain _ _ _ (by kernel_rfl)]; exact laidMet_laidAll _ (by kernel_rfl) (by kernel_rfl))) ?_
  intro W base args ds gs before hval0 hW hc _ hL _
  have hval : ∀ (j : Nat) t v, Tryd.f4.params[j]? = some t → args[j]? = some v → Value.okWide Tryd.prog W .any base t v := hval0
  have hW' := hW
  obtain ⟨p, q, hA0, hV, rfl, _, _⟩ := hW
  have hA : DataW.TrodAll enc Tryd.prog W 0 (fun _ => true) true Tryd.f4.params.toList args.toList ds p := hA0
  rw [Tryd.params4] at hA hval
  obtain ⟨v0, vs0, d0, ds0, p0, q0, hargs, rfl, rfl, h0, r0⟩ := trodAll_cons hA
  obtain ⟨v1, vs1, d1, ds1, p1, q1, rfl, rfl, rfl, h1, r1⟩ := trodAll_cons r0
  obtain ⟨rfl, rfl, rfl⟩ := trodAll_nil r1
  obtain rfl : args = #[v0, v1] := by cases args; simp_all
  obtain ⟨rfl, rfl⟩ := trodVars_none hV
  have k0 := h0
  have lt0 : ∀ x ∈ p0, x.block < W.heap.size := by obtain ⟨m, hm⟩ := k0; exact DataW.trod_lt m _ _ _ hm
  obtain ⟨x0, y0, z0, rfl⟩ := okWide_slice Tryd.underlying23 (hval 0 23 v0 rfl rfl)
  obtain ⟨fu0, hf0⟩ := h0
  obtain ⟨A0, c0, l0, e0, lc0, hC0, q0⟩ := open23 hf0
  simp only [Value.cells, List.cons.injEq, Value.slice.injEq, and_true] at e0
  obtain ⟨rfl, rfl, rfl⟩ := e0
  have k1 := h1
  have lt1 : ∀ x ∈ p1, x.block < W.heap.size := by obtain ⟨m, hm⟩ := k1; exact DataW.trod_lt m _ _ _ hm
  obtain ⟨cs1, rfl, _⟩ := okWide_struct Tryd.underlying27 (hval 1 27 v1 rfl rfl)
  obtain ⟨fu1, hf1⟩ := h1
  obtain ⟨g1, e1, q1⟩ := open27 hf1
  have e1 := k27_open e1
  have e1 : cs1 = #[.int .i64 g1.f0, .string g1.f1, .int .i64 g1.f2] := Array.toList_inj.1 e1
  subst e1
  have hT := tabs_of hL
  clear hA0 hval0
  refine (takes_law l0 x0 z0 g1 W hC0 lc0 hT (fun g hg => (q0 g hg).b) q1.b).mono fun e W' ⟨he, bel⟩ => ?_
  subst he
  exact ⟨_, rfl, _, _, _, [], _, [], hW', trodAll_mk1 (shut_bool Tryd.underlying4 _), (trodAll_cons_mk (Below.trod laidOut (by kernel_rfl) (of_decide_eq_true (by kernel_rfl)) k0 bel lt0) (trodAll_cons_mk (Below.trod laidOut (by kernel_rfl) (of_decide_eq_true (by kernel_rfl)) k1 bel lt1) trodAll_mk0)), rfl, bel.frame _, fun h => by cases h⟩

theorem grantTakes_holds : Rows.GrantTakesSaid :=
  OpenClaim.holds_of_wide 4 Tryd.f4 rfl rfl rfl rfl rfl rfl rfl ⟨rfl, rfl, rfl, rfl, rfl⟩ rfl rfl rfl rfl rfl (by kernel_rfl) Tryd.func4 (by kernel_rfl)
    (of_decide_eq_true (by kernel_rfl)) (by unfold Func.isWrapper; first | (rw [if_pos (by decide +kernel)]; kernel_rfl) | (rw [if_neg (by decide +kernel)]; exact ⟨rfl, rfl⟩))
    (fun os started H enc _ => grantTakes_lifted os started H enc)

theorem grantTakes_card : Rows.GrantTakesCardSaid :=
  Claim7.holds_tied_plain_at .later [] [.data, .pinned] true (true, "ad361f8c9010d8bc8c83665426ff667c1a83a32d80b366ff0bd14d2eb2135fde") true grantTakes_holds (fun _ h => by cases h) (by kernel_rfl) (fun _ h => by cases h) grantTakes_row_tie rfl ⟨rfl, rfl⟩ (by kernel_rfl) rfl
    (fun f fn hf hfn => by
      obtain rfl : f = 4 := Option.some.inj ((show Tryd.prog.funcNamed "mortmain/mortmainlaw10.GrantTakes" = some 4 by kernel_rfl).symm.trans hf) |>.symm
      obtain rfl : fn = Tryd.f4 := (Option.some.inj (Tryd.func4.symm.trans hfn)).symm
      exact ⟨by kernel_rfl, fun j t ht => by
        rw [Tryd.params4] at ht
        have hm : t ∈ [23, 27] := by simpa using Array.mem_of_getElem? ht
        have hall : ([23, 27].all fun u => !Tryd.prog.wantsStandIn u) = true := by kernel_rfl
        exact (show Tryd.prog.wantsStandIn t = false by simpa using List.all_eq_true.1 hall t hm)⟩)
    (by kernel_rfl)
#print axioms grantTakes_card
end Go.Proofs.YtefdfgmlmjnmlaaDoor.My
end
