/- Lemmas for the law SchemaLinks: what the functions that it reaches compute. No condition. Joined out of this session's smaller texts (part 2 of 3). -/
import Derived.Test.YtefdfgmlmjnmlaaDoorZSchemaLinks1
import Derived.Test.YtefdfgmlmjnmlaaDoorRows
section
set_option linter.unusedVariables false
set_option linter.unusedSimpArgs false
/- What the kit's print.py wrote of one Go function of this seat's translation (run by a program of this session, one function a text): the function as a plain Lean function, and that the call computes it. -/
namespace Go.Proofs.YtefdfgmlmjnmlaaDoor.Rf
open Go.RowKit Go.Proofs.YtefdfgmlmjnmlaaDoorW.PrintWords Go.Proofs.YtefdfgmlmjnmlaaDoorW.PrintLast Go.Proofs.YtefdfgmlmjnmlaaDoorW.PrintMore
attribute [local go_sem] max2_int min2_int max_two min_two max_three min_three max_four min_four   -- for this text's walks alone

/-! ### mortmainref08_long: function 80 -/
mutual
def mortmainref08_long.l0 : Nat → List (S72) → Int → Int → Int → Int → Int → Int → ByteArray → List (S72) → Option (Bool)
  | 0, _, _, _, _, _, _, _, _, _ => none
  | k + 1, x6, x7, x8, x128000, x128001, x128002, x128003, x128004, x128005 => if x8 < x7 then (if 0 ≤ x8 then (if x8 < (x6.length : Int) then ((mortmainref08_long.f k ((rd_T72 x6 x8).f0) ((rd_T72 x6 x8).f1) ((rd_T72 x6 x8).f2.f0) ((rd_T72 x6 x8).f2.f1) ((rd_T72 x6 x8).f2.f2) ((rd_T72 x6 x8).f3)).bind fun t130 => (if t130 = true then (some true) else (mortmainref08_long.l0 k x6 x7 (wrap64 (x8 + 1)) x128000 x128001 x128002 x128003 x128004 x128005))) else (none)) else (none)) else (some (decide ((x128004.size : Int) > 200)))
def mortmainref08_long.f : Nat → Int → Int → Int → Int → ByteArray → List (S72) → Option (Bool)
  | 0, _, _, _, _, _, _ => none
  | k + 1, a0_0, a0_1, a0_2, a0_3, a0_4, l0_5 => mortmainref08_long.l0 k l0_5 (l0_5.length : Int) 0 a0_0 a0_1 a0_2 a0_3 a0_4 l0_5
end
theorem mortmainref08_long.mono_l : ∀ k, (∀ y0 y1 y2 y3 y4 y5, LeO (mortmainref08_long.f k y0 y1 y2 y3 y4 y5) (mortmainref08_long.f (k + 1) y0 y1 y2 y3 y4 y5)) ∧ (∀ y0 y1 y2 y3 y4 y5 y6 y7 y8, LeO (mortmainref08_long.l0 k y0 y1 y2 y3 y4 y5 y6 y7 y8) (mortmainref08_long.l0 (k + 1) y0 y1 y2 y3 y4 y5 y6 y7 y8))
  | 0 => ⟨fun _ _ _ _ _ _ r h => by simp [mortmainref08_long.f] at h, fun _ _ _ _ _ _ _ _ _ r h => by simp [mortmainref08_long.l0] at h⟩
  | k + 1 => by
    obtain ⟨ih0, ih1⟩ := mortmainref08_long.mono_l k
    refine ⟨?_, ?_⟩
    · intro y0 y1 y2 y3 y4 y5
      unfold mortmainref08_long.f
      repeat' first
      | (with_reducible exact ih0 _ _ _ _ _ _)
      | (with_reducible exact ih1 _ _ _ _ _ _ _ _ _)
      | (with_reducible exact LeO.refl _)
      | (with_reducible exact LeO.none _)
      | (with_reducible refine LeO.ite ?_ ?_)
      | (with_reducible refine LeO.bind ?_ (fun _ => ?_))
      | exact ih0 _ _ _ _ _ _
      | exact ih1 _ _ _ _ _ _ _ _ _
      | exact LeO.none _
      | refine LeO.ite ?_ ?_
      | refine LeO.bind ?_ (fun _ => ?_)
    · intro y0 y1 y2 y3 y4 y5 y6 y7 y8
      unfold mortmainref08_long.l0
      repeat' first
      | (with_reducible exact ih0 _ _ _ _ _ _)
      | (with_reducible exact ih1 _ _ _ _ _ _ _ _ _)
      | (with_reducible exact LeO.refl _)
      | (with_reducible exact LeO.none _)
      | (with_reducible refine LeO.ite ?_ ?_)
      | (with_reducible refine LeO.bind ?_ (fun _ => ?_))
      | exact ih0 _ _ _ _ _ _
      | exact ih1 _ _ _ _ _ _ _ _ _
      | exact LeO.none _
      | refine LeO.ite ?_ ?_
      | refine LeO.bind ?_ (fun _ => ?_)
theorem mortmainref08_long.mono : ∀ a0 a1 a2 a3 a4 a5 k, LeO (mortmainref08_long.f k a0 a1 a2 a3 a4 a5) (mortmainref08_long.f (k + 1) a0 a1 a2 a3 a4 a5) := by
  intro a0 a1 a2 a3 a4 a5 k
  obtain ⟨ih0, ih1⟩ := mortmainref08_long.mono_l k
  exact ih0 a0 a1 a2 a3 a4 a5
set_option maxHeartbeats 8000000 in
set_option maxRecDepth 100000 in
theorem mortmainref08_long.calls (k : Nat) : ∀ (a0_0 : Int) (a0_1 : Int) (a0_2 : Int) (a0_3 : Int) (a0_4 : ByteArray) (A0_5 : Option Addr) (c0_5 : Nat) (l0_5 : List (S72)) (r : Bool) (w : World) (hr0_5 : Kd.C k72 w A0_5 l0_5.length l0_5) (hc0_5 : l0_5.length ≤ c0_5) (h : mortmainref08_long.f k a0_0 a0_1 a0_2 a0_3 a0_4 l0_5 = some r),
    Calls Tryd.prog 80 #[.agg #[.int .i64 a0_0, .int .i64 a0_1, .int .i64 a0_2, .int .i64 a0_3, .string a0_4, .slice A0_5 l0_5.length c0_5]] w fun e w' => e = .returned (.bool r) ∧ Below w.heap.size w w' := by
  induction k using Nat.strongRecOn with
  | _ k ih =>
  intro a0_0 a0_1 a0_2 a0_3 a0_4 A0_5 c0_5 l0_5 r w hr0_5 hc0_5 h
  cases k with
  | zero => exact absurd h (by simp [mortmainref08_long.f])
  | succ k =>
  simp only [mortmainref08_long.f] at h
  have hu72 := Tryd.underlying72
  have HR0_5 := Aside0.mk hr0_5
  have HC0_5 := Aside0.mk hc0_5
  clear hr0_5 hc0_5
  have HB := Aside0.mk (Below.refl w.heap.size w)
  have H : (mortmainref08_long.l0 k l0_5 (l0_5.length : Int) 0 a0_0 a0_1 a0_2 a0_3 a0_4 l0_5) = some r := h
  clear h
  have H' := Aside0.mk H
  clear H
  go_enter Tryd.func80, Tryd.ntmps80
  go_wp2_with (first | ((with_reducible refine gate_dst (N := 1) rfl ?_); refine box_event ?hg (N := 1) ?hd (cs := #[.int .i64 a0_0, .int .i64 a0_1, .int .i64 a0_2, .int .i64 a0_3, .string a0_4, .slice A0_5 l0_5.length c0_5]) (t := 72) ?hr ?_; (case hd => rfl); (case hg => rfl); (case hr => first | (go_simp; done) | (go_simp; rfl)); intro gb127 hg w2 hbox hb; have n0_ := Aside0.mk (below_step (by repeat (first | (with_reducible first | exact HB.out | apply below_alloc | apply pw_below_drewN | apply below_drew1) | exact HB.out)) hb); have n1_ := Aside0.mk (hbox); have n2_ := Aside0.mk ((by rw [hg]; exact (below_size (by repeat (first | (with_reducible first | exact HB.out | apply below_alloc | apply pw_below_drewN | apply below_drew1) | exact HB.out))) : w.heap.size ≤ gb127)); have n3_ := Aside0.mk ((by rw [hg]; exact (below_size (by repeat (first | (with_reducible first | exact HB.out | apply below_alloc | apply pw_below_drewN | apply below_drew1) | exact HB.out))) : w.heap.size ≤ gb127)); clear HB; have HB := n0_; have BK127 := n1_; have GW127 := n2_; have GE127 := n3_; clear n0_ n1_ n2_ n3_; clear hb hbox hg; have hcz3_0 : w2.cell? ⟨gb127, 0, none⟩ = some (.int .i64 a0_0) := (blk_cell BK127.out 0).trans rfl; have hcz3_1 : w2.cell? ⟨gb127, 1, none⟩ = some (.int .i64 a0_1) := (blk_cell BK127.out 1).trans rfl; have hcz3_2 : w2.cell? ⟨gb127, 2, none⟩ = some (.int .i64 a0_2) := (blk_cell BK127.out 2).trans rfl; have hcz3_3 : w2.cell? ⟨gb127, 3, none⟩ = some (.int .i64 a0_3) := (blk_cell BK127.out 3).trans rfl; have hcz3_4 : w2.cell? ⟨gb127, 4, none⟩ = some (.string a0_4) := (blk_cell BK127.out 4).trans rfl; have hcz3_5 : w2.cell? ⟨gb127, 5, none⟩ = some (.slice A0_5 l0_5.length c0_5) := (blk_cell BK127.out 5).trans rfl; have hfz3_0 := blk_frozen BK127.out 0; have hfz3_1 := blk_frozen BK127.out 1; have hfz3_2 := blk_frozen BK127.out 2; have hfz3_3 := blk_frozen BK127.out 3; have hfz3_4 := blk_frozen BK127.out 4; have hfz3_5 := blk_frozen BK127.out 5))
  go_loopg [8] k (fun kq v8 w' => ∃ (x8_1 : Int), v8 = .int .i64 x8_1 ∧ Aside0 (mortmainref08_long.l0 kq l0_5 (l0_5.length : Int) x8_1 a0_0 a0_1 a0_2 a0_3 a0_4 l0_5 = some r) ∧ Aside0 (kq ≤ k) ∧ Aside0 (w'.heap[gb127]? = some (.cells #[.int .i64 a0_0, .int .i64 a0_1, .int .i64 a0_2, .int .i64 a0_3, .string a0_4, (.slice A0_5 l0_5.length c0_5)] 72 (0, 0))) ∧ Aside0 (Below w.heap.size w w'))
  case atStart => exact ⟨(0), (by first | rfl | (simp; done) | (simp [*]; done)), H', ⟨Nat.le_refl _⟩, ⟨by (with_reducible repeat (first | refine blk_drewN ?_ _ | refine blk_drew ?_ | refine blk_alloc ?_ _)); exact BK127.out⟩, ⟨by repeat (first | (with_reducible first | exact HB.out | apply below_alloc | apply pw_below_drewN | apply below_drew1 | refine below_set ?_ GE127.out) | exact HB.out)⟩⟩
  case round =>
    clear H'
    try clear p2
    try clear hcz3_0
    try clear hcz3_1
    try clear hcz3_2
    try clear hcz3_3
    try clear hcz3_4
    try clear hcz3_5
    try clear hfz3_0
    try clear hfz3_1
    try clear hfz3_2
    try clear hfz3_3
    try clear hfz3_4
    try clear hfz3_5
    obtain ⟨x8_1, rfl, HA, HK1, BK127, HB⟩ := hrel
    cases gk with
    | zero => exact absurd HA.out (by simp [mortmainref08_long.l0])
    | succ k1 =>
      have H := HA.out
      clear HA
      simp only [mortmainref08_long.l0] at H
      by_cases c4 : x8_1 < (l0_5.length : Int)
      · rw [if_pos c4] at H
        have c4b0 : decide (x8_1 < (l0_5.length : Int)) = true := decide_eq_true c4
        clear c4
        by_cases c5 : 0 ≤ x8_1
        · rw [if_pos c5] at H
          have c5b0 : decide (0 ≤ x8_1) = true := decide_eq_true c5
          clear c5
          by_cases c6 : x8_1 < (l0_5.length : Int)
          · rw [if_pos c6] at H
            have c6b0 : decide (x8_1 < (l0_5.length : Int)) = true := decide_eq_true c6
            clear c6
            replace H := Option.bind_eq_some_iff.mp H
            obtain ⟨t130, A70, H⟩ := H
            replace H : (if t130 = true then (some true) else (mortmainref08_long.l0 k1 l0_5 (l0_5.length : Int) (wrap64 (x8_1 + 1)) a0_0 a0_1 a0_2 a0_3 a0_4 l0_5)) = some r := H
            have A7 := Aside0.mk A70
            clear A70
            by_cases c8 : t130 = true
            · subst c8
              have H1 : (some true) = some r := by rw [if_pos rfl] at H; exact H
              clear H
              have H := H1
              clear H1
              obtain rfl := Option.some.inj H
              have p128 : 0 ≤ (x8_1 : Int) := of_decide_eq_true (by first | (with_reducible assumption) | assumption)
              have q128 : x8_1 < (l0_5.length : Int) := of_decide_eq_true (by first | (with_reducible assumption) | assumption)
              obtain ⟨ad128, A128_5, c128_5, e128, hx128_0, hx128_1, hx128_2, hx128_3, hx128_4, hx128_5, hl128_5, hi128_5⟩ := at_T72 HR0_5.out x8_1 p128 q128
              cases e128
              replace hx128_0 := (HB.out.cell (World.block_lt_of_cell? w _ hx128_0)).trans hx128_0
              replace hx128_1 := (HB.out.cell (World.block_lt_of_cell? w _ hx128_1)).trans hx128_1
              replace hx128_2 := (HB.out.cell (World.block_lt_of_cell? w _ hx128_2)).trans hx128_2
              replace hx128_3 := (HB.out.cell (World.block_lt_of_cell? w _ hx128_3)).trans hx128_3
              replace hx128_4 := (HB.out.cell (World.block_lt_of_cell? w _ hx128_4)).trans hx128_4
              replace hx128_5 := (HB.out.cell (World.block_lt_of_cell? w _ hx128_5)).trans hx128_5
              have HR128_5 := Aside0.mk hi128_5
              have HC128_5 := Aside0.mk hl128_5
              clear hi128_5 hl128_5
              replace p128 := eq_true p128
              replace q128 := eq_true q128
              go_wp2_with (first | ((with_reducible refine gate_dst (N := 4) rfl ?_); refine box_event ?hg (N := 4) ?hd (cs := #[.int .i64 0, .int .i64 0, .int .i64 0, .int .i64 0, .string (⟨#[]⟩ : ByteArray), .slice none 0 0]) (t := 72) ?hr ?_; (case hd => rfl); (case hg => rfl); (case hr => first | (go_simp; done) | (go_simp; rfl)); intro gb129 hg w9 hbox hb; have n0_ := Aside0.mk (blk_below (g := gb127) (o := .cells #[.int .i64 a0_0, .int .i64 a0_1, .int .i64 a0_2, .int .i64 a0_3, .string a0_4, .slice (some ad128) l0_5.length c0_5] 72 (0, 0)) (by (with_reducible repeat (first | refine blk_drewN ?_ _ | refine blk_drew ?_ | refine blk_alloc ?_ _)); exact BK127.out) hb); have n1_ := Aside0.mk (below_step (by repeat (first | (with_reducible first | exact HB.out | apply below_alloc | apply pw_below_drewN | apply below_drew1 | refine below_set ?_ GE127.out) | exact HB.out)) hb); have n2_ := Aside0.mk (hbox); have n3_ := Aside0.mk ((by rw [hg]; exact (below_size (by repeat (first | (with_reducible first | exact HB.out | apply below_alloc | apply pw_below_drewN | apply below_drew1 | refine below_set ?_ GE127.out) | exact HB.out))) : w.heap.size ≤ gb129)); have n4_ := Aside0.mk ((by rw [hg]; exact (below_size (by repeat (first | (with_reducible first | exact HB.out | apply below_alloc | apply pw_below_drewN | apply below_drew1 | refine below_set ?_ GE127.out) | exact HB.out))) : w.heap.size ≤ gb129)); have n5_ := Aside0.mk ((by rw [hg]; exact Nat.ne_of_lt (blk_lt (g := gb127) (o := .cells #[.int .i64 a0_0, .int .i64 a0_1, .int .i64 a0_2, .int .i64 a0_3, .string a0_4, .slice (some ad128) l0_5.length c0_5] 72 (0, 0)) (by (with_reducible repeat (first | refine blk_drewN ?_ _ | refine blk_drew ?_ | refine blk_alloc ?_ _)); exact BK127.out)) : gb127 ≠ gb129)); have n6_ := Aside0.mk ((by rw [hg]; exact Nat.ne_of_gt (blk_lt (g := gb127) (o := .cells #[.int .i64 a0_0, .int .i64 a0_1, .int .i64 a0_2, .int .i64 a0_3, .string a0_4, .slice (some ad128) l0_5.length c0_5] 72 (0, 0)) (by (with_reducible repeat (first | refine blk_drewN ?_ _ | refine blk_drew ?_ | refine blk_alloc ?_ _)); exact BK127.out)) : gb129 ≠ gb127)); clear BK127; clear HB; have BK127 := n0_; have HB := n1_; have BK129 := n2_; have GW129 := n3_; have GE129 := n4_; have NB127_129 := n5_; have NB129_127 := n6_; clear n0_ n1_ n2_ n3_ n4_ n5_ n6_; clear hb hbox hg; have hnb10 := NB129_127.out; have hnc10 := NB127_129.out; have hcz11_0 : w9.cell? ⟨gb129, 0, none⟩ = some (.int .i64 0) := (blk_cell BK129.out 0).trans rfl; have hcz11_1 : w9.cell? ⟨gb129, 1, none⟩ = some (.int .i64 0) := (blk_cell BK129.out 1).trans rfl; have hcz11_2 : w9.cell? ⟨gb129, 2, none⟩ = some (.int .i64 0) := (blk_cell BK129.out 2).trans rfl; have hcz11_3 : w9.cell? ⟨gb129, 3, none⟩ = some (.int .i64 0) := (blk_cell BK129.out 3).trans rfl; have hcz11_4 : w9.cell? ⟨gb129, 4, none⟩ = some (.string (⟨#[]⟩ : ByteArray)) := (blk_cell BK129.out 4).trans rfl; have hcz11_5 : w9.cell? ⟨gb129, 5, none⟩ = some (.slice none 0 0) := (blk_cell BK129.out 5).trans rfl; have hfz11_0 := blk_frozen BK129.out 0; have hfz11_1 := blk_frozen BK129.out 1; have hfz11_2 := blk_frozen BK129.out 2; have hfz11_3 := blk_frozen BK129.out 3; have hfz11_4 := blk_frozen BK129.out 4; have hfz11_5 := blk_frozen BK129.out 5) | ((with_reducible refine gate_callee (f := 80) rfl ?_); refine goesL_ (some 13) rfl rfl Tryd.func80 (by kernel_rfl) rfl #[.agg #[.int .i64 ((rd_T72 l0_5 x8_1).f0), .int .i64 ((rd_T72 l0_5 x8_1).f1), .int .i64 ((rd_T72 l0_5 x8_1).f2.f0), .int .i64 ((rd_T72 l0_5 x8_1).f2.f1), .string ((rd_T72 l0_5 x8_1).f2.f2), .slice A128_5 ((rd_T72 l0_5 x8_1).f3).length c128_5]] rfl (by (try simp only [List.map_toArray, List.map_cons, List.map_nil]); first | done | rfl | (simp only [List.length_drop, List.length_take]; rfl)) ?_; (with_reducible refine (ih k1 (by have := HK1.out; omega) ((rd_T72 l0_5 x8_1).f0) ((rd_T72 l0_5 x8_1).f1) ((rd_T72 l0_5 x8_1).f2.f0) ((rd_T72 l0_5 x8_1).f2.f1) ((rd_T72 l0_5 x8_1).f2.f2) _ _ ((rd_T72 l0_5 x8_1).f3) true _ ?side1 ?side2 A7.out).mono ?_); (case side1 => exact Kd.C_below HR128_5.out (by repeat (first | (with_reducible first | exact HB.out | apply below_alloc | apply pw_below_drewN | apply below_drew1 | refine below_set ?_ GE127.out | refine below_set ?_ GE129.out) | exact HB.out))); (case side2 => exact HC128_5.out); rintro e w12 ⟨rfl, hb⟩; refine ⟨_, rfl, ?_⟩; have n0_ := Aside0.mk (blk_below (g := gb127) (o := .cells #[.int .i64 a0_0, .int .i64 a0_1, .int .i64 a0_2, .int .i64 a0_3, .string a0_4, .slice (some ad128) l0_5.length c0_5] 72 (0, 0)) (by (with_reducible repeat (first | refine blk_drewN ?_ _ | refine blk_drew ?_ | refine blk_alloc ?_ _)); refine blk_far ?_ NB127_129.out _; (with_reducible repeat (first | refine blk_drewN ?_ _ | refine blk_drew ?_ | refine blk_alloc ?_ _)); refine blk_far ?_ NB127_129.out _; (with_reducible repeat (first | refine blk_drewN ?_ _ | refine blk_drew ?_ | refine blk_alloc ?_ _)); refine blk_far ?_ NB127_129.out _; (with_reducible repeat (first | refine blk_drewN ?_ _ | refine blk_drew ?_ | refine blk_alloc ?_ _)); refine blk_far ?_ NB127_129.out _; (with_reducible repeat (first | refine blk_drewN ?_ _ | refine blk_drew ?_ | refine blk_alloc ?_ _)); refine blk_far ?_ NB127_129.out _; (with_reducible repeat (first | refine blk_drewN ?_ _ | refine blk_drew ?_ | refine blk_alloc ?_ _)); refine blk_far ?_ NB127_129.out _; (with_reducible repeat (first | refine blk_drewN ?_ _ | refine blk_drew ?_ | refine blk_alloc ?_ _)); exact BK127.out) hb); have n1_ := Aside0.mk (blk_below (g := gb129) (o := .cells #[.int .i64 ((rd_T72 l0_5 x8_1).f0), .int .i64 ((rd_T72 l0_5 x8_1).f1), .int .i64 ((rd_T72 l0_5 x8_1).f2.f0), .int .i64 ((rd_T72 l0_5 x8_1).f2.f1), .string ((rd_T72 l0_5 x8_1).f2.f2), .slice A128_5 ((rd_T72 l0_5 x8_1).f3).length c128_5] 72 (0, 0)) (by (with_reducible repeat (first | refine blk_drewN ?_ _ | refine blk_drew ?_ | refine blk_alloc ?_ _)); refine blk_put (cs := #[.int .i64 ((rd_T72 l0_5 x8_1).f0), .int .i64 ((rd_T72 l0_5 x8_1).f1), .int .i64 ((rd_T72 l0_5 x8_1).f2.f0), .int .i64 ((rd_T72 l0_5 x8_1).f2.f1), .string ((rd_T72 l0_5 x8_1).f2.f2), .slice none 0 0]) ?_ 5 _ rfl; (with_reducible repeat (first | refine blk_drewN ?_ _ | refine blk_drew ?_ | refine blk_alloc ?_ _)); refine blk_put (cs := #[.int .i64 ((rd_T72 l0_5 x8_1).f0), .int .i64 ((rd_T72 l0_5 x8_1).f1), .int .i64 ((rd_T72 l0_5 x8_1).f2.f0), .int .i64 ((rd_T72 l0_5 x8_1).f2.f1), .string (⟨#[]⟩ : ByteArray), .slice none 0 0]) ?_ 4 _ rfl; (with_reducible repeat (first | refine blk_drewN ?_ _ | refine blk_drew ?_ | refine blk_alloc ?_ _)); refine blk_put (cs := #[.int .i64 ((rd_T72 l0_5 x8_1).f0), .int .i64 ((rd_T72 l0_5 x8_1).f1), .int .i64 ((rd_T72 l0_5 x8_1).f2.f0), .int .i64 0, .string (⟨#[]⟩ : ByteArray), .slice none 0 0]) ?_ 3 _ rfl; (with_reducible repeat (first | refine blk_drewN ?_ _ | refine blk_drew ?_ | refine blk_alloc ?_ _)); refine blk_put (cs := #[.int .i64 ((rd_T72 l0_5 x8_1).f0), .int .i64 ((rd_T72 l0_5 x8_1).f1), .int .i64 0, .int .i64 0, .string (⟨#[]⟩ : ByteArray), .slice none 0 0]) ?_ 2 _ rfl; (with_reducible repeat (first | refine blk_drewN ?_ _ | refine blk_drew ?_ | refine blk_alloc ?_ _)); refine blk_put (cs := #[.int .i64 ((rd_T72 l0_5 x8_1).f0), .int .i64 0, .int .i64 0, .int .i64 0, .string (⟨#[]⟩ : ByteArray), .slice none 0 0]) ?_ 1 _ rfl; (with_reducible repeat (first | refine blk_drewN ?_ _ | refine blk_drew ?_ | refine blk_alloc ?_ _)); refine blk_put (cs := #[.int .i64 0, .int .i64 0, .int .i64 0, .int .i64 0, .string (⟨#[]⟩ : ByteArray), .slice none 0 0]) ?_ 0 _ rfl; (with_reducible repeat (first | refine blk_drewN ?_ _ | refine blk_drew ?_ | refine blk_alloc ?_ _)); exact BK129.out) hb); have n2_ := Aside0.mk (below_step (by repeat (first | (with_reducible first | exact HB.out | apply below_alloc | apply pw_below_drewN | apply below_drew1 | refine below_set ?_ GE127.out | refine below_set ?_ GE129.out) | exact HB.out)) hb); clear BK127; clear BK129; clear HB; have BK127 := n0_; have BK129 := n1_; have HB := n2_; clear n0_ n1_ n2_; (try clear hb); (try clear hb2); (try clear hk); (try clear hi)))
              go_ret
              exact ⟨by first | rfl | (simp [errW_none, errW_some] <;> rfl) | (simp [*, errW_none, errW_some] <;> rfl), by repeat (first | (with_reducible first | exact HB.out | apply below_alloc | apply pw_below_drewN | apply below_drew1 | refine below_set ?_ GE127.out | refine below_set ?_ GE129.out) | exact HB.out)⟩
            · replace c8 := Bool.eq_false_iff.mpr c8
              subst c8
              have H1 : (mortmainref08_long.l0 k1 l0_5 (l0_5.length : Int) (wrap64 (x8_1 + 1)) a0_0 a0_1 a0_2 a0_3 a0_4 l0_5) = some r := by rw [if_neg (show ¬ (false = true) by decide)] at H; exact H
              clear H
              have H := H1
              clear H1
              have H' := Aside0.mk H
              clear H
              have p128 : 0 ≤ (x8_1 : Int) := of_decide_eq_true (by first | (with_reducible assumption) | assumption)
              have q128 : x8_1 < (l0_5.length : Int) := of_decide_eq_true (by first | (with_reducible assumption) | assumption)
              obtain ⟨ad128, A128_5, c128_5, e128, hx128_0, hx128_1, hx128_2, hx128_3, hx128_4, hx128_5, hl128_5, hi128_5⟩ := at_T72 HR0_5.out x8_1 p128 q128
              cases e128
              replace hx128_0 := (HB.out.cell (World.block_lt_of_cell? w _ hx128_0)).trans hx128_0
              replace hx128_1 := (HB.out.cell (World.block_lt_of_cell? w _ hx128_1)).trans hx128_1
              replace hx128_2 := (HB.out.cell (World.block_lt_of_cell? w _ hx128_2)).trans hx128_2
              replace hx128_3 := (HB.out.cell (World.block_lt_of_cell? w _ hx128_3)).trans hx128_3
              replace hx128_4 := (HB.out.cell (World.block_lt_of_cell? w _ hx128_4)).trans hx128_4
              replace hx128_5 := (HB.out.cell (World.block_lt_of_cell? w _ hx128_5)).trans hx128_5
              have HR128_5 := Aside0.mk hi128_5
              have HC128_5 := Aside0.mk hl128_5
              clear hi128_5 hl128_5
              replace p128 := eq_true p128
              replace q128 := eq_true q128
              go_wp2_with (first | ((with_reducible refine gate_dst (N := 4) rfl ?_); refine box_event ?hg (N := 4) ?hd (cs := #[.int .i64 0, .int .i64 0, .int .i64 0, .int .i64 0, .string (⟨#[]⟩ : ByteArray), .slice none 0 0]) (t := 72) ?hr ?_; (case hd => rfl); (case hg => rfl); (case hr => first | (go_simp; done) | (go_simp; rfl)); intro gb129 hg w13 hbox hb; have n0_ := Aside0.mk (blk_below (g := gb127) (o := .cells #[.int .i64 a0_0, .int .i64 a0_1, .int .i64 a0_2, .int .i64 a0_3, .string a0_4, .slice (some ad128) l0_5.length c0_5] 72 (0, 0)) (by (with_reducible repeat (first | refine blk_drewN ?_ _ | refine blk_drew ?_ | refine blk_alloc ?_ _)); exact BK127.out) hb); have n1_ := Aside0.mk (below_step (by repeat (first | (with_reducible first | exact HB.out | apply below_alloc | apply pw_below_drewN | apply below_drew1 | refine below_set ?_ GE127.out) | exact HB.out)) hb); have n2_ := Aside0.mk (hbox); have n3_ := Aside0.mk ((by rw [hg]; exact (below_size (by repeat (first | (with_reducible first | exact HB.out | apply below_alloc | apply pw_below_drewN | apply below_drew1 | refine below_set ?_ GE127.out) | exact HB.out))) : w.heap.size ≤ gb129)); have n4_ := Aside0.mk ((by rw [hg]; exact (below_size (by repeat (first | (with_reducible first | exact HB.out | apply below_alloc | apply pw_below_drewN | apply below_drew1 | refine below_set ?_ GE127.out) | exact HB.out))) : w.heap.size ≤ gb129)); have n5_ := Aside0.mk ((by rw [hg]; exact Nat.ne_of_lt (blk_lt (g := gb127) (o := .cells #[.int .i64 a0_0, .int .i64 a0_1, .int .i64 a0_2, .int .i64 a0_3, .string a0_4, .slice (some ad128) l0_5.length c0_5] 72 (0, 0)) (by (with_reducible repeat (first | refine blk_drewN ?_ _ | refine blk_drew ?_ | refine blk_alloc ?_ _)); exact BK127.out)) : gb127 ≠ gb129)); have n6_ := Aside0.mk ((by rw [hg]; exact Nat.ne_of_gt (blk_lt (g := gb127) (o := .cells #[.int .i64 a0_0, .int .i64 a0_1, .int .i64 a0_2, .int .i64 a0_3, .string a0_4, .slice (some ad128) l0_5.length c0_5] 72 (0, 0)) (by (with_reducible repeat (first | refine blk_drewN ?_ _ | refine blk_drew ?_ | refine blk_alloc ?_ _)); exact BK127.out)) : gb129 ≠ gb127)); clear BK127; clear HB; have BK127 := n0_; have HB := n1_; have BK129 := n2_; have GW129 := n3_; have GE129 := n4_; have NB127_129 := n5_; have NB129_127 := n6_; clear n0_ n1_ n2_ n3_ n4_ n5_ n6_; clear hb hbox hg; have hnb14 := NB129_127.out; have hnc14 := NB127_129.out; have hcz15_0 : w13.cell? ⟨gb129, 0, none⟩ = some (.int .i64 0) := (blk_cell BK129.out 0).trans rfl; have hcz15_1 : w13.cell? ⟨gb129, 1, none⟩ = some (.int .i64 0) := (blk_cell BK129.out 1).trans rfl; have hcz15_2 : w13.cell? ⟨gb129, 2, none⟩ = some (.int .i64 0) := (blk_cell BK129.out 2).trans rfl; have hcz15_3 : w13.cell? ⟨gb129, 3, none⟩ = some (.int .i64 0) := (blk_cell BK129.out 3).trans rfl; have hcz15_4 : w13.cell? ⟨gb129, 4, none⟩ = some (.string (⟨#[]⟩ : ByteArray)) := (blk_cell BK129.out 4).trans rfl; have hcz15_5 : w13.cell? ⟨gb129, 5, none⟩ = some (.slice none 0 0) := (blk_cell BK129.out 5).trans rfl; have hfz15_0 := blk_frozen BK129.out 0; have hfz15_1 := blk_frozen BK129.out 1; have hfz15_2 := blk_frozen BK129.out 2; have hfz15_3 := blk_frozen BK129.out 3; have hfz15_4 := blk_frozen BK129.out 4; have hfz15_5 := blk_frozen BK129.out 5) | ((with_reducible refine gate_callee (f := 80) rfl ?_); refine goesL_ (some 13) rfl rfl Tryd.func80 (by kernel_rfl) rfl #[.agg #[.int .i64 ((rd_T72 l0_5 x8_1).f0), .int .i64 ((rd_T72 l0_5 x8_1).f1), .int .i64 ((rd_T72 l0_5 x8_1).f2.f0), .int .i64 ((rd_T72 l0_5 x8_1).f2.f1), .string ((rd_T72 l0_5 x8_1).f2.f2), .slice A128_5 ((rd_T72 l0_5 x8_1).f3).length c128_5]] rfl (by (try simp only [List.map_toArray, List.map_cons, List.map_nil]); first | done | rfl | (simp only [List.length_drop, List.length_take]; rfl)) ?_; (with_reducible refine (ih k1 (by have := HK1.out; omega) ((rd_T72 l0_5 x8_1).f0) ((rd_T72 l0_5 x8_1).f1) ((rd_T72 l0_5 x8_1).f2.f0) ((rd_T72 l0_5 x8_1).f2.f1) ((rd_T72 l0_5 x8_1).f2.f2) _ _ ((rd_T72 l0_5 x8_1).f3) false _ ?side1 ?side2 A7.out).mono ?_); (case side1 => exact Kd.C_below HR128_5.out (by repeat (first | (with_reducible first | exact HB.out | apply below_alloc | apply pw_below_drewN | apply below_drew1 | refine below_set ?_ GE127.out | refine below_set ?_ GE129.out) | exact HB.out))); (case side2 => exact HC128_5.out); rintro e w16 ⟨rfl, hb⟩; refine ⟨_, rfl, ?_⟩; have n0_ := Aside0.mk (blk_below (g := gb127) (o := .cells #[.int .i64 a0_0, .int .i64 a0_1, .int .i64 a0_2, .int .i64 a0_3, .string a0_4, .slice (some ad128) l0_5.length c0_5] 72 (0, 0)) (by (with_reducible repeat (first | refine blk_drewN ?_ _ | refine blk_drew ?_ | refine blk_alloc ?_ _)); refine blk_far ?_ NB127_129.out _; (with_reducible repeat (first | refine blk_drewN ?_ _ | refine blk_drew ?_ | refine blk_alloc ?_ _)); refine blk_far ?_ NB127_129.out _; (with_reducible repeat (first | refine blk_drewN ?_ _ | refine blk_drew ?_ | refine blk_alloc ?_ _)); refine blk_far ?_ NB127_129.out _; (with_reducible repeat (first | refine blk_drewN ?_ _ | refine blk_drew ?_ | refine blk_alloc ?_ _)); refine blk_far ?_ NB127_129.out _; (with_reducible repeat (first | refine blk_drewN ?_ _ | refine blk_drew ?_ | refine blk_alloc ?_ _)); refine blk_far ?_ NB127_129.out _; (with_reducible repeat (first | refine blk_drewN ?_ _ | refine blk_drew ?_ | refine blk_alloc ?_ _)); refine blk_far ?_ NB127_129.out _; (with_reducible repeat (first | refine blk_drewN ?_ _ | refine blk_drew ?_ | refine blk_alloc ?_ _)); exact BK127.out) hb); have n1_ := Aside0.mk (blk_below (g := gb129) (o := .cells #[.int .i64 ((rd_T72 l0_5 x8_1).f0), .int .i64 ((rd_T72 l0_5 x8_1).f1), .int .i64 ((rd_T72 l0_5 x8_1).f2.f0), .int .i64 ((rd_T72 l0_5 x8_1).f2.f1), .string ((rd_T72 l0_5 x8_1).f2.f2), .slice A128_5 ((rd_T72 l0_5 x8_1).f3).length c128_5] 72 (0, 0)) (by (with_reducible repeat (first | refine blk_drewN ?_ _ | refine blk_drew ?_ | refine blk_alloc ?_ _)); refine blk_put (cs := #[.int .i64 ((rd_T72 l0_5 x8_1).f0), .int .i64 ((rd_T72 l0_5 x8_1).f1), .int .i64 ((rd_T72 l0_5 x8_1).f2.f0), .int .i64 ((rd_T72 l0_5 x8_1).f2.f1), .string ((rd_T72 l0_5 x8_1).f2.f2), .slice none 0 0]) ?_ 5 _ rfl; (with_reducible repeat (first | refine blk_drewN ?_ _ | refine blk_drew ?_ | refine blk_alloc ?_ _)); refine blk_put (cs := #[.int .i64 ((rd_T72 l0_5 x8_1).f0), .int .i64 ((rd_T72 l0_5 x8_1).f1), .int .i64 ((rd_T72 l0_5 x8_1).f2.f0), .int .i64 ((rd_T72 l0_5 x8_1).f2.f1), .string (⟨#[]⟩ : ByteArray), .slice none 0 0]) ?_ 4 _ rfl; (with_reducible repeat (first | refine blk_drewN ?_ _ | refine blk_drew ?_ | refine blk_alloc ?_ _)); refine blk_put (cs := #[.int .i64 ((rd_T72 l0_5 x8_1).f0), .int .i64 ((rd_T72 l0_5 x8_1).f1), .int .i64 ((rd_T72 l0_5 x8_1).f2.f0), .int .i64 0, .string (⟨#[]⟩ : ByteArray), .slice none 0 0]) ?_ 3 _ rfl; (with_reducible repeat (first | refine blk_drewN ?_ _ | refine blk_drew ?_ | refine blk_alloc ?_ _)); refine blk_put (cs := #[.int .i64 ((rd_T72 l0_5 x8_1).f0), .int .i64 ((rd_T72 l0_5 x8_1).f1), .int .i64 0, .int .i64 0, .string (⟨#[]⟩ : ByteArray), .slice none 0 0]) ?_ 2 _ rfl; (with_reducible repeat (first | refine blk_drewN ?_ _ | refine blk_drew ?_ | refine blk_alloc ?_ _)); refine blk_put (cs := #[.int .i64 ((rd_T72 l0_5 x8_1).f0), .int .i64 0, .int .i64 0, .int .i64 0, .string (⟨#[]⟩ : ByteArray), .slice none 0 0]) ?_ 1 _ rfl; (with_reducible repeat (first | refine blk_drewN ?_ _ | refine blk_drew ?_ | refine blk_alloc ?_ _)); refine blk_put (cs := #[.int .i64 0, .int .i64 0, .int .i64 0, .int .i64 0, .string (⟨#[]⟩ : ByteArray), .slice none 0 0]) ?_ 0 _ rfl; (with_reducible repeat (first | refine blk_drewN ?_ _ | refine blk_drew ?_ | refine blk_alloc ?_ _)); exact BK129.out) hb); have n2_ := Aside0.mk (below_step (by repeat (first | (with_reducible first | exact HB.out | apply below_alloc | apply pw_below_drewN | apply below_drew1 | refine below_set ?_ GE127.out | refine below_set ?_ GE129.out) | exact HB.out)) hb); clear BK127; clear BK129; clear HB; have BK127 := n0_; have BK129 := n1_; have HB := n2_; clear n0_ n1_ n2_; (try clear hb); (try clear hb2); (try clear hk); (try clear hi)))
              go_roundg k1
              case measure => have := HK1.out; omega
              case rel => exact ⟨(wrap64 (x8_1 + 1)), (by first | rfl | (simp; done) | (simp [*]; done)), H', ⟨by have := HK1.out; omega⟩, ⟨by (with_reducible repeat (first | refine blk_drewN ?_ _ | refine blk_drew ?_ | refine blk_alloc ?_ _)); exact BK127.out⟩, ⟨by repeat (first | (with_reducible first | exact HB.out | apply below_alloc | apply pw_below_drewN | apply below_drew1 | refine below_set ?_ GE127.out | refine below_set ?_ GE129.out) | exact HB.out)⟩⟩
          · rw [if_neg c6] at H
            exact absurd H (by simp)
        · rw [if_neg c5] at H
          exact absurd H (by simp)
      · rw [if_neg c4] at H
        have c4b0 : decide (x8_1 < (l0_5.length : Int)) = false := decide_eq_false c4
        clear c4
        obtain rfl := Option.some.inj H
        have hcz17_0 : wr.cell? ⟨gb127, 0, none⟩ = some (.int .i64 a0_0) := (blk_cell BK127.out 0).trans rfl
        have hcz17_1 : wr.cell? ⟨gb127, 1, none⟩ = some (.int .i64 a0_1) := (blk_cell BK127.out 1).trans rfl
        have hcz17_2 : wr.cell? ⟨gb127, 2, none⟩ = some (.int .i64 a0_2) := (blk_cell BK127.out 2).trans rfl
        have hcz17_3 : wr.cell? ⟨gb127, 3, none⟩ = some (.int .i64 a0_3) := (blk_cell BK127.out 3).trans rfl
        have hcz17_4 : wr.cell? ⟨gb127, 4, none⟩ = some (.string a0_4) := (blk_cell BK127.out 4).trans rfl
        have hcz17_5 : wr.cell? ⟨gb127, 5, none⟩ = some (.slice A0_5 l0_5.length c0_5) := (blk_cell BK127.out 5).trans rfl
        have hfz17_0 := blk_frozen BK127.out 0
        have hfz17_1 := blk_frozen BK127.out 1
        have hfz17_2 := blk_frozen BK127.out 2
        have hfz17_3 := blk_frozen BK127.out 3
        have hfz17_4 := blk_frozen BK127.out 4
        have hfz17_5 := blk_frozen BK127.out 5
        go_wp2
        go_ret
        exact ⟨by first | rfl | (simp [errW_none, errW_some] <;> rfl) | (simp [*, errW_none, errW_some] <;> rfl), by repeat (first | (with_reducible first | exact HB.out | apply below_alloc | apply pw_below_drewN | apply below_drew1 | refine below_set ?_ GE127.out) | exact HB.out)⟩

end Go.Proofs.YtefdfgmlmjnmlaaDoor.Rf
end

section
set_option linter.unusedVariables false
set_option linter.unusedSimpArgs false
/- What the kit's print.py wrote of one Go function of this seat's translation (run by a program of this session, one function a text): the function as a plain Lean function, and that the call computes it. -/
namespace Go.Proofs.YtefdfgmlmjnmlaaDoor.Rf
open Go.RowKit Go.Proofs.YtefdfgmlmjnmlaaDoorW.PrintWords Go.Proofs.YtefdfgmlmjnmlaaDoorW.PrintLast Go.Proofs.YtefdfgmlmjnmlaaDoorW.PrintMore
attribute [local go_sem] max2_int min2_int max_two min_two max_three min_three max_four min_four   -- for this text's walks alone

/-! ### mortmainref08_Great: function 45 -/
def mortmainref08_Great.f (k : Nat) (a0_0 : Int) (a0_1 : Int) (a0_2 : Int) (a0_3 : Int) (a0_4 : ByteArray) (l0_5 : List (S72)) : Option (Bool) := (mortmainref08_Size.f k a0_0 a0_1 a0_2 a0_3 a0_4 l0_5).bind fun bt132 => (if bt132.1 > 300 then (some true) else (if bt132.2 > 60 then (some true) else ((mortmainref08_long.f k a0_0 a0_1 a0_2 a0_3 a0_4 l0_5).bind fun t134 => (some t134))))
theorem mortmainref08_Great.mono : ∀ a0 a1 a2 a3 a4 a5 k, LeO (mortmainref08_Great.f k a0 a1 a2 a3 a4 a5) (mortmainref08_Great.f (k + 1) a0 a1 a2 a3 a4 a5) := by
  intro a0 a1 a2 a3 a4 a5 k
  unfold mortmainref08_Great.f
  repeat' first
      | (with_reducible exact mortmainref08_Size.mono _ _ _ _ _ _ _)
      | (with_reducible exact mortmainref08_long.mono _ _ _ _ _ _ _)
      | (with_reducible exact LeO.refl _)
      | (with_reducible exact LeO.none _)
      | (with_reducible refine LeO.ite ?_ ?_)
      | (with_reducible refine LeO.bind ?_ (fun _ => ?_))
      | exact mortmainref08_Size.mono _ _ _ _ _ _ _
      | exact mortmainref08_long.mono _ _ _ _ _ _ _
      | exact LeO.none _
      | refine LeO.ite ?_ ?_
      | refine LeO.bind ?_ (fun _ => ?_)
set_option maxHeartbeats 8000000 in
set_option maxRecDepth 100000 in
theorem mortmainref08_Great.calls (k : Nat) (a0_0 : Int) (a0_1 : Int) (a0_2 : Int) (a0_3 : Int) (a0_4 : ByteArray) (A0_5 : Option Addr) (c0_5 : Nat) (l0_5 : List (S72)) (r : Bool) (w : World) (hr0_5 : Kd.C k72 w A0_5 l0_5.length l0_5) (hc0_5 : l0_5.length ≤ c0_5) (h : mortmainref08_Great.f k a0_0 a0_1 a0_2 a0_3 a0_4 l0_5 = some r) :
    Calls Tryd.prog 45 #[.agg #[.int .i64 a0_0, .int .i64 a0_1, .int .i64 a0_2, .int .i64 a0_3, .string a0_4, .slice A0_5 l0_5.length c0_5]] w fun e w' => e = .returned (.bool r) ∧ Below w.heap.size w w' := by
  have hu72 := Tryd.underlying72
  have HR0_5 := Aside0.mk hr0_5
  have HC0_5 := Aside0.mk hc0_5
  clear hr0_5 hc0_5
  have HB := Aside0.mk (Below.refl w.heap.size w)
  have H : ((mortmainref08_Size.f k a0_0 a0_1 a0_2 a0_3 a0_4 l0_5).bind fun bt132 => (if bt132.1 > 300 then (some true) else (if bt132.2 > 60 then (some true) else ((mortmainref08_long.f k a0_0 a0_1 a0_2 a0_3 a0_4 l0_5).bind fun t134 => (some t134))))) = some r := h
  clear h
  replace H := Option.bind_eq_some_iff.mp H
  obtain ⟨⟨t132, t133⟩, A20, H⟩ := H
  replace H : (if t132 > 300 then (some true) else (if t133 > 60 then (some true) else ((mortmainref08_long.f k a0_0 a0_1 a0_2 a0_3 a0_4 l0_5).bind fun t134 => (some t134)))) = some r := H
  have A2 := Aside0.mk A20
  clear A20
  by_cases c3 : t132 > 300
  · rw [if_pos c3] at H
    have c3b0 : decide (300 < t132) = true := decide_eq_true c3
    clear c3
    obtain rfl := Option.some.inj H
    go_enter Tryd.func45, Tryd.ntmps45
    go_wp2_with (first | ((with_reducible refine gate_dst (N := 1) rfl ?_); refine box_event ?hg (N := 1) ?hd (cs := #[.int .i64 a0_0, .int .i64 a0_1, .int .i64 a0_2, .int .i64 a0_3, .string a0_4, .slice A0_5 l0_5.length c0_5]) (t := 72) ?hr ?_; (case hd => rfl); (case hg => rfl); (case hr => first | (go_simp; done) | (go_simp; rfl)); intro gb131 hg w4 hbox hb; have n0_ := Aside0.mk (below_step (by repeat (first | (with_reducible first | exact HB.out | apply below_alloc | apply pw_below_drewN | apply below_drew1) | exact HB.out)) hb); have n1_ := Aside0.mk (hbox); have n2_ := Aside0.mk ((by rw [hg]; exact (below_size (by repeat (first | (with_reducible first | exact HB.out | apply below_alloc | apply pw_below_drewN | apply below_drew1) | exact HB.out))) : w.heap.size ≤ gb131)); have n3_ := Aside0.mk ((by rw [hg]; exact (below_size (by repeat (first | (with_reducible first | exact HB.out | apply below_alloc | apply pw_below_drewN | apply below_drew1) | exact HB.out))) : w.heap.size ≤ gb131)); clear HB; have HB := n0_; have BK131 := n1_; have GW131 := n2_; have GE131 := n3_; clear n0_ n1_ n2_ n3_; clear hb hbox hg; have hcz5_0 : w4.cell? ⟨gb131, 0, none⟩ = some (.int .i64 a0_0) := (blk_cell BK131.out 0).trans rfl; have hcz5_1 : w4.cell? ⟨gb131, 1, none⟩ = some (.int .i64 a0_1) := (blk_cell BK131.out 1).trans rfl; have hcz5_2 : w4.cell? ⟨gb131, 2, none⟩ = some (.int .i64 a0_2) := (blk_cell BK131.out 2).trans rfl; have hcz5_3 : w4.cell? ⟨gb131, 3, none⟩ = some (.int .i64 a0_3) := (blk_cell BK131.out 3).trans rfl; have hcz5_4 : w4.cell? ⟨gb131, 4, none⟩ = some (.string a0_4) := (blk_cell BK131.out 4).trans rfl; have hcz5_5 : w4.cell? ⟨gb131, 5, none⟩ = some (.slice A0_5 l0_5.length c0_5) := (blk_cell BK131.out 5).trans rfl; have hfz5_0 := blk_frozen BK131.out 0; have hfz5_1 := blk_frozen BK131.out 1; have hfz5_2 := blk_frozen BK131.out 2; have hfz5_3 := blk_frozen BK131.out 3; have hfz5_4 := blk_frozen BK131.out 4; have hfz5_5 := blk_frozen BK131.out 5) | ((with_reducible refine gate_callee (f := 79) rfl ?_); refine goesL_ (some 7) rfl rfl Tryd.func79 (by kernel_rfl) rfl #[.agg #[.int .i64 a0_0, .int .i64 a0_1, .int .i64 a0_2, .int .i64 a0_3, .string a0_4, .slice A0_5 l0_5.length c0_5]] rfl (by (try simp only [List.map_toArray, List.map_cons, List.map_nil]); first | done | rfl | (simp only [List.length_drop, List.length_take]; rfl)) ?_; (with_reducible refine (mortmainref08_Size.calls k a0_0 a0_1 a0_2 a0_3 a0_4 _ _ l0_5 t132 t133 _ ?side1 ?side2 A2.out).mono ?_); (case side1 => repeat (first | exact (Kd.C_below HR0_5.out HB.out) | (with_reducible refine Kd.C_alloc ?_ _) | (with_reducible refine Kd.C_drewN ?_ _) | (with_reducible refine Kd.C_drew ?_))); (case side2 => exact HC0_5.out); rintro e w6 ⟨rfl, hb⟩; refine ⟨_, rfl, ?_⟩; have n0_ := Aside0.mk (blk_below (g := gb131) (o := .cells #[.int .i64 a0_0, .int .i64 a0_1, .int .i64 a0_2, .int .i64 a0_3, .string a0_4, .slice A0_5 l0_5.length c0_5] 72 (0, 0)) (by (with_reducible repeat (first | refine blk_drewN ?_ _ | refine blk_drew ?_ | refine blk_alloc ?_ _)); exact BK131.out) hb); have n1_ := Aside0.mk (below_step (by repeat (first | (with_reducible first | exact HB.out | apply below_alloc | apply pw_below_drewN | apply below_drew1 | refine below_set ?_ GE131.out) | exact HB.out)) hb); clear BK131; clear HB; have BK131 := n0_; have HB := n1_; clear n0_ n1_; (try clear hb); (try clear hb2); (try clear hk); (try clear hi)))
    go_ret
    exact ⟨by first | rfl | (simp [errW_none, errW_some] <;> rfl) | (simp [*, errW_none, errW_some] <;> rfl), by repeat (first | (with_reducible first | exact HB.out | apply below_alloc | apply pw_below_drewN | apply below_drew1 | refine below_set ?_ GE131.out) | exact HB.out)⟩
  · rw [if_neg c3] at H
    have c3b0 : decide (300 < t132) = false := decide_eq_false c3
    clear c3
    by_cases c7 : t133 > 60
    · rw [if_pos c7] at H
      have c7b0 : decide (60 < t133) = true := decide_eq_true c7
      clear c7
      obtain rfl := Option.some.inj H
      go_enter Tryd.func45, Tryd.ntmps45
      go_wp2_with (first | ((with_reducible refine gate_dst (N := 1) rfl ?_); refine box_event ?hg (N := 1) ?hd (cs := #[.int .i64 a0_0, .int .i64 a0_1, .int .i64 a0_2, .int .i64 a0_3, .string a0_4, .slice A0_5 l0_5.length c0_5]) (t := 72) ?hr ?_; (case hd => rfl); (case hg => rfl); (case hr => first | (go_simp; done) | (go_simp; rfl)); intro gb131 hg w8 hbox hb; have n0_ := Aside0.mk (below_step (by repeat (first | (with_reducible first | exact HB.out | apply below_alloc | apply pw_below_drewN | apply below_drew1) | exact HB.out)) hb); have n1_ := Aside0.mk (hbox); have n2_ := Aside0.mk ((by rw [hg]; exact (below_size (by repeat (first | (with_reducible first | exact HB.out | apply below_alloc | apply pw_below_drewN | apply below_drew1) | exact HB.out))) : w.heap.size ≤ gb131)); have n3_ := Aside0.mk ((by rw [hg]; exact (below_size (by repeat (first | (with_reducible first | exact HB.out | apply below_alloc | apply pw_below_drewN | apply below_drew1) | exact HB.out))) : w.heap.size ≤ gb131)); clear HB; have HB := n0_; have BK131 := n1_; have GW131 := n2_; have GE131 := n3_; clear n0_ n1_ n2_ n3_; clear hb hbox hg; have hcz9_0 : w8.cell? ⟨gb131, 0, none⟩ = some (.int .i64 a0_0) := (blk_cell BK131.out 0).trans rfl; have hcz9_1 : w8.cell? ⟨gb131, 1, none⟩ = some (.int .i64 a0_1) := (blk_cell BK131.out 1).trans rfl; have hcz9_2 : w8.cell? ⟨gb131, 2, none⟩ = some (.int .i64 a0_2) := (blk_cell BK131.out 2).trans rfl; have hcz9_3 : w8.cell? ⟨gb131, 3, none⟩ = some (.int .i64 a0_3) := (blk_cell BK131.out 3).trans rfl; have hcz9_4 : w8.cell? ⟨gb131, 4, none⟩ = some (.string a0_4) := (blk_cell BK131.out 4).trans rfl; have hcz9_5 : w8.cell? ⟨gb131, 5, none⟩ = some (.slice A0_5 l0_5.length c0_5) := (blk_cell BK131.out 5).trans rfl; have hfz9_0 := blk_frozen BK131.out 0; have hfz9_1 := blk_frozen BK131.out 1; have hfz9_2 := blk_frozen BK131.out 2; have hfz9_3 := blk_frozen BK131.out 3; have hfz9_4 := blk_frozen BK131.out 4; have hfz9_5 := blk_frozen BK131.out 5) | ((with_reducible refine gate_callee (f := 79) rfl ?_); refine goesL_ (some 7) rfl rfl Tryd.func79 (by kernel_rfl) rfl #[.agg #[.int .i64 a0_0, .int .i64 a0_1, .int .i64 a0_2, .int .i64 a0_3, .string a0_4, .slice A0_5 l0_5.length c0_5]] rfl (by (try simp only [List.map_toArray, List.map_cons, List.map_nil]); first | done | rfl | (simp only [List.length_drop, List.length_take]; rfl)) ?_; (with_reducible refine (mortmainref08_Size.calls k a0_0 a0_1 a0_2 a0_3 a0_4 _ _ l0_5 t132 t133 _ ?side1 ?side2 A2.out).mono ?_); (case side1 => repeat (first | exact (Kd.C_below HR0_5.out HB.out) | (with_reducible refine Kd.C_alloc ?_ _) | (with_reducible refine Kd.C_drewN ?_ _) | (with_reducible refine Kd.C_drew ?_))); (case side2 => exact HC0_5.out); rintro e w10 ⟨rfl, hb⟩; refine ⟨_, rfl, ?_⟩; have n0_ := Aside0.mk (blk_below (g := gb131) (o := .cells #[.int .i64 a0_0, .int .i64 a0_1, .int .i64 a0_2, .int .i64 a0_3, .string a0_4, .slice A0_5 l0_5.length c0_5] 72 (0, 0)) (by (with_reducible repeat (first | refine blk_drewN ?_ _ | refine blk_drew ?_ | refine blk_alloc ?_ _)); exact BK131.out) hb); have n1_ := Aside0.mk (below_step (by repeat (first | (with_reducible first | exact HB.out | apply below_alloc | apply pw_below_drewN | apply below_drew1 | refine below_set ?_ GE131.out) | exact HB.out)) hb); clear BK131; clear HB; have BK131 := n0_; have HB := n1_; clear n0_ n1_; (try clear hb); (try clear hb2); (try clear hk); (try clear hi)))
      go_ret
      exact ⟨by first | rfl | (simp [errW_none, errW_some] <;> rfl) | (simp [*, errW_none, errW_some] <;> rfl), by repeat (first | (with_reducible first | exact HB.out | apply below_alloc | apply pw_below_drewN | apply below_drew1 | refine below_set ?_ GE131.out) | exact HB.out)⟩
    · rw [if_neg c7] at H
      have c7b0 : decide (60 < t133) = false := decide_eq_false c7
      clear c7
      replace H := Option.bind_eq_some_iff.mp H
      obtain ⟨t134, A110, H⟩ := H
      replace H : (some t134) = some r := H
      have A11 := Aside0.mk A110
      clear A110
      obtain rfl := Option.some.inj H
      go_enter Tryd.func45, Tryd.ntmps45
      go_wp2_with (first | ((with_reducible refine gate_dst (N := 1) rfl ?_); refine box_event ?hg (N := 1) ?hd (cs := #[.int .i64 a0_0, .int .i64 a0_1, .int .i64 a0_2, .int .i64 a0_3, .string a0_4, .slice A0_5 l0_5.length c0_5]) (t := 72) ?hr ?_; (case hd => rfl); (case hg => rfl); (case hr => first | (go_simp; done) | (go_simp; rfl)); intro gb131 hg w12 hbox hb; have n0_ := Aside0.mk (below_step (by repeat (first | (with_reducible first | exact HB.out | apply below_alloc | apply pw_below_drewN | apply below_drew1) | exact HB.out)) hb); have n1_ := Aside0.mk (hbox); have n2_ := Aside0.mk ((by rw [hg]; exact (below_size (by repeat (first | (with_reducible first | exact HB.out | apply below_alloc | apply pw_below_drewN | apply below_drew1) | exact HB.out))) : w.heap.size ≤ gb131)); have n3_ := Aside0.mk ((by rw [hg]; exact (below_size (by repeat (first | (with_reducible first | exact HB.out | apply below_alloc | apply pw_below_drewN | apply below_drew1) | exact HB.out))) : w.heap.size ≤ gb131)); clear HB; have HB := n0_; have BK131 := n1_; have GW131 := n2_; have GE131 := n3_; clear n0_ n1_ n2_ n3_; clear hb hbox hg; have hcz13_0 : w12.cell? ⟨gb131, 0, none⟩ = some (.int .i64 a0_0) := (blk_cell BK131.out 0).trans rfl; have hcz13_1 : w12.cell? ⟨gb131, 1, none⟩ = some (.int .i64 a0_1) := (blk_cell BK131.out 1).trans rfl; have hcz13_2 : w12.cell? ⟨gb131, 2, none⟩ = some (.int .i64 a0_2) := (blk_cell BK131.out 2).trans rfl; have hcz13_3 : w12.cell? ⟨gb131, 3, none⟩ = some (.int .i64 a0_3) := (blk_cell BK131.out 3).trans rfl; have hcz13_4 : w12.cell? ⟨gb131, 4, none⟩ = some (.string a0_4) := (blk_cell BK131.out 4).trans rfl; have hcz13_5 : w12.cell? ⟨gb131, 5, none⟩ = some (.slice A0_5 l0_5.length c0_5) := (blk_cell BK131.out 5).trans rfl; have hfz13_0 := blk_frozen BK131.out 0; have hfz13_1 := blk_frozen BK131.out 1; have hfz13_2 := blk_frozen BK131.out 2; have hfz13_3 := blk_frozen BK131.out 3; have hfz13_4 := blk_frozen BK131.out 4; have hfz13_5 := blk_frozen BK131.out 5) | ((with_reducible refine gate_callee (f := 79) rfl ?_); refine goesL_ (some 7) rfl rfl Tryd.func79 (by kernel_rfl) rfl #[.agg #[.int .i64 a0_0, .int .i64 a0_1, .int .i64 a0_2, .int .i64 a0_3, .string a0_4, .slice A0_5 l0_5.length c0_5]] rfl (by (try simp only [List.map_toArray, List.map_cons, List.map_nil]); first | done | rfl | (simp only [List.length_drop, List.length_take]; rfl)) ?_; (with_reducible refine (mortmainref08_Size.calls k a0_0 a0_1 a0_2 a0_3 a0_4 _ _ l0_5 t132 t133 _ ?side1 ?side2 A2.out).mono ?_); (case side1 => repeat (first | exact (Kd.C_below HR0_5.out HB.out) | (with_reducible refine Kd.C_alloc ?_ _) | (with_reducible refine Kd.C_drewN ?_ _) | (with_reducible refine Kd.C_drew ?_))); (case side2 => exact HC0_5.out); rintro e w14 ⟨rfl, hb⟩; refine ⟨_, rfl, ?_⟩; have n0_ := Aside0.mk (blk_below (g := gb131) (o := .cells #[.int .i64 a0_0, .int .i64 a0_1, .int .i64 a0_2, .int .i64 a0_3, .string a0_4, .slice A0_5 l0_5.length c0_5] 72 (0, 0)) (by (with_reducible repeat (first | refine blk_drewN ?_ _ | refine blk_drew ?_ | refine blk_alloc ?_ _)); exact BK131.out) hb); have n1_ := Aside0.mk (below_step (by repeat (first | (with_reducible first | exact HB.out | apply below_alloc | apply pw_below_drewN | apply below_drew1 | refine below_set ?_ GE131.out) | exact HB.out)) hb); clear BK131; clear HB; have BK131 := n0_; have HB := n1_; clear n0_ n1_; (try clear hb); (try clear hb2); (try clear hk); (try clear hi); have hcz15_0 : w14.cell? ⟨gb131, 0, none⟩ = some (.int .i64 a0_0) := (blk_cell BK131.out 0).trans rfl; have hcz15_1 : w14.cell? ⟨gb131, 1, none⟩ = some (.int .i64 a0_1) := (blk_cell BK131.out 1).trans rfl; have hcz15_2 : w14.cell? ⟨gb131, 2, none⟩ = some (.int .i64 a0_2) := (blk_cell BK131.out 2).trans rfl; have hcz15_3 : w14.cell? ⟨gb131, 3, none⟩ = some (.int .i64 a0_3) := (blk_cell BK131.out 3).trans rfl; have hcz15_4 : w14.cell? ⟨gb131, 4, none⟩ = some (.string a0_4) := (blk_cell BK131.out 4).trans rfl; have hcz15_5 : w14.cell? ⟨gb131, 5, none⟩ = some (.slice A0_5 l0_5.length c0_5) := (blk_cell BK131.out 5).trans rfl; have hfz15_0 := blk_frozen BK131.out 0; have hfz15_1 := blk_frozen BK131.out 1; have hfz15_2 := blk_frozen BK131.out 2; have hfz15_3 := blk_frozen BK131.out 3; have hfz15_4 := blk_frozen BK131.out 4; have hfz15_5 := blk_frozen BK131.out 5) | (go_at_call 80; (with_reducible refine (mortmainref08_long.calls k a0_0 a0_1 a0_2 a0_3 a0_4 _ _ l0_5 t134 _ ?side1 ?side2 A11.out).mono ?_); (case side1 => repeat (first | exact (Kd.C_below HR0_5.out HB.out) | (with_reducible refine Kd.C_alloc ?_ _) | (with_reducible refine Kd.C_drewN ?_ _) | (with_reducible refine Kd.C_drew ?_))); (case side2 => exact HC0_5.out); rintro e w16 ⟨rfl, hb⟩; have n0_ := Aside0.mk (blk_below (g := gb131) (o := .cells #[.int .i64 a0_0, .int .i64 a0_1, .int .i64 a0_2, .int .i64 a0_3, .string a0_4, .slice A0_5 l0_5.length c0_5] 72 (0, 0)) (by (with_reducible repeat (first | refine blk_drewN ?_ _ | refine blk_drew ?_ | refine blk_alloc ?_ _)); exact BK131.out) hb); have n1_ := Aside0.mk (below_step (by repeat (first | (with_reducible first | exact HB.out | apply below_alloc | apply pw_below_drewN | apply below_drew1 | refine below_set ?_ GE131.out) | exact HB.out)) hb); clear BK131; clear HB; have BK131 := n0_; have HB := n1_; clear n0_ n1_; (try clear hb); (try clear hb2); (try clear hk); (try clear hi)))
      go_ret
      exact ⟨by first | rfl | (simp [errW_none, errW_some] <;> rfl) | (simp [*, errW_none, errW_some] <;> rfl), by repeat (first | (with_reducible first | exact HB.out | apply below_alloc | apply pw_below_drewN | apply below_drew1 | refine below_set ?_ GE131.out) | exact HB.out)⟩

end Go.Proofs.YtefdfgmlmjnmlaaDoor.Rf
end

section
set_option linter.unusedVariables false
set_option linter.unusedSimpArgs false
/- What the kit's print.py wrote of one Go function of this seat's translation (run by a program of this session, one function a text): the function as a plain Lean function, and that the call computes it. -/
namespace Go.Proofs.YtefdfgmlmjnmlaaDoor.Rf
open Go.RowKit Go.Proofs.YtefdfgmlmjnmlaaDoorW.PrintWords Go.Proofs.YtefdfgmlmjnmlaaDoorW.PrintLast Go.Proofs.YtefdfgmlmjnmlaaDoorW.PrintMore
attribute [local go_sem] max2_int min2_int max_two min_two max_three min_three max_four min_four   -- for this text's walks alone

/-! ### mortmainref09_Great: function 13 -/
mutual
def mortmainref09_Great.l0 : Nat → Int → List (S45) → Int → Int → Int → List (S45) → List (S27) → Option (Bool)
  | 0, _, _, _, _, _, _, _ => none
  | k + 1, x3, x22, x23, x24, x136000, x136001, x136002 => if x24 < x23 then (if 0 ≤ x24 then (if x24 < (x22.length : Int) then (mortmainref09_Great.l1 k (wrap64 ((wrap64 ((wrap64 (x3 + (((rd_T45 x22 x24).f0).size : Int))) + (((rd_T45 x22 x24).f2).length : Int))) + (((rd_T45 x22 x24).f3).length : Int))) x22 x23 x24 ((rd_T45 x22 x24).f2) (((rd_T45 x22 x24).f2).length : Int) 0 x136000 x136001 x136002 ((rd_T45 x22 x24).f0) ((rd_T45 x22 x24).f1) ((rd_T45 x22 x24).f2) ((rd_T45 x22 x24).f3)) else (none)) else (none)) else (mortmainref09_Great.l3 k x3 x136002 (x136002.length : Int) 0)
def mortmainref09_Great.l1 : Nat → Int → List (S45) → Int → Int → List (S59) → Int → Int → Int → List (S45) → List (S27) → ByteArray → Int → List (S59) → List (S72) → Option (Bool)
  | 0, _, _, _, _, _, _, _, _, _, _, _, _, _, _ => none
  | k + 1, x3, x22, x23, x24, x42, x43, x44, x136000, x136001, x136002, x138000, x138001, x138002, x138003 => if x44 < x43 then (if 0 ≤ x44 then (if x44 < (x42.length : Int) then (mortmainref09_Great.l1 k (wrap64 ((wrap64 (x3 + (((rd_T59 x42 x44).f0).size : Int))) + (((rd_T59 x42 x44).f4).size : Int))) x22 x23 x24 x42 x43 (wrap64 (x44 + 1)) x136000 x136001 x136002 x138000 x138001 x138002 x138003) else (none)) else (none)) else (mortmainref09_Great.l2 k x3 x22 x23 x24 x138003 (x138003.length : Int) 0 x136000 x136001 x136002)
def mortmainref09_Great.l2 : Nat → Int → List (S45) → Int → Int → List (S72) → Int → Int → Int → List (S45) → List (S27) → Option (Bool)
  | 0, _, _, _, _, _, _, _, _, _, _ => none
  | k + 1, x3, x22, x23, x24, x59, x60, x61, x136000, x136001, x136002 => if x61 < x60 then (if 0 ≤ x61 then (if x61 < (x59.length : Int) then ((mortmainref08_Great.f k ((rd_T72 x59 x61).f0) ((rd_T72 x59 x61).f1) ((rd_T72 x59 x61).f2.f0) ((rd_T72 x59 x61).f2.f1) ((rd_T72 x59 x61).f2.f2) ((rd_T72 x59 x61).f3)).bind fun t142 => (if t142 = true then (some true) else (mortmainref09_Great.l2 k x3 x22 x23 x24 x59 x60 (wrap64 (x61 + 1)) x136000 x136001 x136002))) else (none)) else (none)) else (if x3 > 3000 then (some true) else (mortmainref09_Great.l0 k x3 x22 x23 (wrap64 (x24 + 1)) x136000 x136001 x136002))
def mortmainref09_Great.l3 : Nat → Int → List (S27) → Int → Int → Option (Bool)
  | 0, _, _, _, _ => none
  | k + 1, x3, x72, x73, x74 => if x74 < x73 then (if 0 ≤ x74 then (if x74 < (x72.length : Int) then (mortmainref09_Great.l3 k (wrap64 (x3 + (((rd_T27 x72 x74).f1).size : Int))) x72 x73 (wrap64 (x74 + 1))) else (none)) else (none)) else (some (decide (x3 > 3000)))
end
def mortmainref09_Great.f (k : Nat) (a0_0 : Int) (l0_1 : List (S45)) (l0_2 : List (S27)) : Option (Bool) := if (wrap64 ((l0_1.length : Int) + (l0_2.length : Int))) > 200 then (some true) else (mortmainref09_Great.l0 k (wrap64 ((l0_1.length : Int) + (l0_2.length : Int))) l0_1 (l0_1.length : Int) 0 a0_0 l0_1 l0_2)
theorem mortmainref09_Great.mono_l : ∀ k, (∀ y0 y1 y2 y3 y4 y5 y6, LeO (mortmainref09_Great.l0 k y0 y1 y2 y3 y4 y5 y6) (mortmainref09_Great.l0 (k + 1) y0 y1 y2 y3 y4 y5 y6)) ∧ (∀ y0 y1 y2 y3 y4 y5 y6 y7 y8 y9 y10 y11 y12 y13, LeO (mortmainref09_Great.l1 k y0 y1 y2 y3 y4 y5 y6 y7 y8 y9 y10 y11 y12 y13) (mortmainref09_Great.l1 (k + 1) y0 y1 y2 y3 y4 y5 y6 y7 y8 y9 y10 y11 y12 y13)) ∧ (∀ y0 y1 y2 y3 y4 y5 y6 y7 y8 y9, LeO (mortmainref09_Great.l2 k y0 y1 y2 y3 y4 y5 y6 y7 y8 y9) (mortmainref09_Great.l2 (k + 1) y0 y1 y2 y3 y4 y5 y6 y7 y8 y9)) ∧ (∀ y0 y1 y2 y3, LeO (mortmainref09_Great.l3 k y0 y1 y2 y3) (mortmainref09_Great.l3 (k + 1) y0 y1 y2 y3))
  | 0 => ⟨fun _ _ _ _ _ _ _ r h => by simp [mortmainref09_Great.l0] at h, fun _ _ _ _ _ _ _ _ _ _ _ _ _ _ r h => by simp [mortmainref09_Great.l1] at h, fun _ _ _ _ _ _ _ _ _ _ r h => by simp [mortmainref09_Great.l2] at h, fun _ _ _ _ r h => by simp [mortmainref09_Great.l3] at h⟩
  | k + 1 => by
    obtain ⟨ih0, ih1, ih2, ih3⟩ := mortmainref09_Great.mono_l k
    refine ⟨?_, ?_, ?_, ?_⟩
    · intro y0 y1 y2 y3 y4 y5 y6
      unfold mortmainref09_Great.l0
      repeat' first
      | (with_reducible exact ih0 _ _ _ _ _ _ _)
      | (with_reducible exact ih1 _ _ _ _ _ _ _ _ _ _ _ _ _ _)
      | (with_reducible exact ih2 _ _ _ _ _ _ _ _ _ _)
      | (with_reducible exact ih3 _ _ _ _)
      | (with_reducible exact mortmainref08_Great.mono _ _ _ _ _ _ _)
      | (with_reducible exact LeO.refl _)
      | (with_reducible exact LeO.none _)
      | (with_reducible refine LeO.ite ?_ ?_)
      | (with_reducible refine LeO.bind ?_ (fun _ => ?_))
      | exact ih0 _ _ _ _ _ _ _
      | exact ih1 _ _ _ _ _ _ _ _ _ _ _ _ _ _
      | exact ih2 _ _ _ _ _ _ _ _ _ _
      | exact ih3 _ _ _ _
      | exact mortmainref08_Great.mono _ _ _ _ _ _ _
      | exact LeO.none _
      | refine LeO.ite ?_ ?_
      | refine LeO.bind ?_ (fun _ => ?_)
    · intro y0 y1 y2 y3 y4 y5 y6 y7 y8 y9 y10 y11 y12 y13
      unfold mortmainref09_Great.l1
      repeat' first
      | (with_reducible exact ih0 _ _ _ _ _ _ _)
      | (with_reducible exact ih1 _ _ _ _ _ _ _ _ _ _ _ _ _ _)
      | (with_reducible exact ih2 _ _ _ _ _ _ _ _ _ _)
      | (with_reducible exact ih3 _ _ _ _)
      | (with_reducible exact mortmainref08_Great.mono _ _ _ _ _ _ _)
      | (with_reducible exact LeO.refl _)
      | (with_reducible exact LeO.none _)
      | (with_reducible refine LeO.ite ?_ ?_)
      | (with_reducible refine LeO.bind ?_ (fun _ => ?_))
      | exact ih0 _ _ _ _ _ _ _
      | exact ih1 _ _ _ _ _ _ _ _ _ _ _ _ _ _
      | exact ih2 _ _ _ _ _ _ _ _ _ _
      | exact ih3 _ _ _ _
      | exact mortmainref08_Great.mono _ _ _ _ _ _ _
      | exact LeO.none _
      | refine LeO.ite ?_ ?_
      | refine LeO.bind ?_ (fun _ => ?_)
    · intro y0 y1 y2 y3 y4 y5 y6 y7 y8 y9
      unfold mortmainref09_Great.l2
      repeat' first
      | (with_reducible exact ih0 _ _ _ _ _ _ _)
      | (with_reducible exact ih1 _ _ _ _ _ _ _ _ _ _ _ _ _ _)
      | (with_reducible exact ih2 _ _ _ _ _ _ _ _ _ _)
      | (with_reducible exact ih3 _ _ _ _)
      | (with_reducible exact mortmainref08_Great.mono _ _ _ _ _ _ _)
      | (with_reducible exact LeO.refl _)
      | (with_reducible exact LeO.none _)
      | (with_reducible refine LeO.ite ?_ ?_)
      | (with_reducible refine LeO.bind ?_ (fun _ => ?_))
      | exact ih0 _ _ _ _ _ _ _
      | exact ih1 _ _ _ _ _ _ _ _ _ _ _ _ _ _
      | exact ih2 _ _ _ _ _ _ _ _ _ _
      | exact ih3 _ _ _ _
      | exact mortmainref08_Great.mono _ _ _ _ _ _ _
      | exact LeO.none _
      | refine LeO.ite ?_ ?_
      | refine LeO.bind ?_ (fun _ => ?_)
    · intro y0 y1 y2 y3
      unfold mortmainref09_Great.l3
      repeat' first
      | (with_reducible exact ih0 _ _ _ _ _ _ _)
      | (with_reducible exact ih1 _ _ _ _ _ _ _ _ _ _ _ _ _ _)
      | (with_reducible exact ih2 _ _ _ _ _ _ _ _ _ _)
      | (with_reducible exact ih3 _ _ _ _)
      | (with_reducible exact mortmainref08_Great.mono _ _ _ _ _ _ _)
      | (with_reducible exact LeO.refl _)
      | (with_reducible exact LeO.none _)
      | (with_reducible refine LeO.ite ?_ ?_)
      | (with_reducible refine LeO.bind ?_ (fun _ => ?_))
      | exact ih0 _ _ _ _ _ _ _
      | exact ih1 _ _ _ _ _ _ _ _ _ _ _ _ _ _
      | exact ih2 _ _ _ _ _ _ _ _ _ _
      | exact ih3 _ _ _ _
      | exact mortmainref08_Great.mono _ _ _ _ _ _ _
      | exact LeO.none _
      | refine LeO.ite ?_ ?_
      | refine LeO.bind ?_ (fun _ => ?_)
theorem mortmainref09_Great.mono : ∀ a0 a1 a2 k, LeO (mortmainref09_Great.f k a0 a1 a2) (mortmainref09_Great.f (k + 1) a0 a1 a2) := by
  intro a0 a1 a2 k
  obtain ⟨ih0, ih1, ih2, ih3⟩ := mortmainref09_Great.mono_l k
  unfold mortmainref09_Great.f
  repeat' first
      | (with_reducible exact ih0 _ _ _ _ _ _ _)
      | (with_reducible exact ih1 _ _ _ _ _ _ _ _ _ _ _ _ _ _)
      | (with_reducible exact ih2 _ _ _ _ _ _ _ _ _ _)
      | (with_reducible exact ih3 _ _ _ _)
      | (with_reducible exact mortmainref08_Great.mono _ _ _ _ _ _ _)
      | (with_reducible exact LeO.refl _)
      | (with_reducible exact LeO.none _)
      | (with_reducible refine LeO.ite ?_ ?_)
      | (with_reducible refine LeO.bind ?_ (fun _ => ?_))
      | exact ih0 _ _ _ _ _ _ _
      | exact ih1 _ _ _ _ _ _ _ _ _ _ _ _ _ _
      | exact ih2 _ _ _ _ _ _ _ _ _ _
      | exact ih3 _ _ _ _
      | exact mortmainref08_Great.mono _ _ _ _ _ _ _
      | exact LeO.none _
      | refine LeO.ite ?_ ?_
      | refine LeO.bind ?_ (fun _ => ?_)
set_option maxHeartbeats 8000000 in
set_option maxRecDepth 100000 in
theorem mortmainref09_Great.calls (k : Nat) (a0_0 : Int) (A0_1 : Option Addr) (c0_1 : Nat) (l0_1 : List (S45)) (A0_2 : Option Addr) (c0_2 : Nat) (l0_2 : List (S27)) (r : Bool) (w : World) (hr0_1 : Kd.C k45 w A0_1 l0_1.length l0_1) (hc0_1 : l0_1.length ≤ c0_1) (hr0_2 : Kd.C k27 w A0_2 l0_2.length l0_2) (hc0_2 : l0_2.length ≤ c0_2) (h : mortmainref09_Great.f k a0_0 l0_1 l0_2 = some r) :
    Calls Tryd.prog 13 #[.agg #[.int .i64 a0_0, .slice A0_1 l0_1.length c0_1, .slice A0_2 l0_2.length c0_2]] w fun e w' => e = .returned (.bool r) ∧ Below w.heap.size w w' := by
  have hu25 := Tryd.underlying25
  have hu45 := Tryd.underlying45
  have hu59 := Tryd.underlying59
  have hu72 := Tryd.underlying72
  have hu27 := Tryd.underlying27
  have HR0_1 := Aside0.mk hr0_1
  have HC0_1 := Aside0.mk hc0_1
  clear hr0_1 hc0_1
  have HR0_2 := Aside0.mk hr0_2
  have HC0_2 := Aside0.mk hc0_2
  clear hr0_2 hc0_2
  have HB := Aside0.mk (Below.refl w.heap.size w)
  have H : (if (wrap64 ((l0_1.length : Int) + (l0_2.length : Int))) > 200 then (some true) else (mortmainref09_Great.l0 k (wrap64 ((l0_1.length : Int) + (l0_2.length : Int))) l0_1 (l0_1.length : Int) 0 a0_0 l0_1 l0_2)) = some r := h
  clear h
  by_cases c2 : (wrap64 ((l0_1.length : Int) + (l0_2.length : Int))) > 200
  · rw [if_pos c2] at H
    have c2b0 : decide (200 < (wrap64 ((l0_1.length : Int) + (l0_2.length : Int)))) = true := decide_eq_true c2
    clear c2
    obtain rfl := Option.some.inj H
    go_enter Tryd.func13, Tryd.ntmps13
    go_wp2_with (first | ((with_reducible refine gate_dst (N := 1) rfl ?_); refine box_event ?hg (N := 1) ?hd (cs := #[.int .i64 a0_0, .slice A0_1 l0_1.length c0_1, .slice A0_2 l0_2.length c0_2]) (t := 25) ?hr ?_; (case hd => rfl); (case hg => rfl); (case hr => first | (go_simp; done) | (go_simp; rfl)); intro gb135 hg w3 hbox hb; have n0_ := Aside0.mk (below_step (by repeat (first | (with_reducible first | exact HB.out | apply below_alloc | apply pw_below_drewN | apply below_drew1) | exact HB.out)) hb); have n1_ := Aside0.mk (hbox); have n2_ := Aside0.mk ((by rw [hg]; exact (below_size (by repeat (first | (with_reducible first | exact HB.out | apply below_alloc | apply pw_below_drewN | apply below_drew1) | exact HB.out))) : w.heap.size ≤ gb135)); have n3_ := Aside0.mk ((by rw [hg]; exact (below_size (by repeat (first | (with_reducible first | exact HB.out | apply below_alloc | apply pw_below_drewN | apply below_drew1) | exact HB.out))) : w.heap.size ≤ gb135)); clear HB; have HB := n0_; have BK135 := n1_; have GW135 := n2_; have GE135 := n3_; clear n0_ n1_ n2_ n3_; clear hb hbox hg; have hcz4_0 : w3.cell? ⟨gb135, 0, none⟩ = some (.int .i64 a0_0) := (blk_cell BK135.out 0).trans rfl; have hcz4_1 : w3.cell? ⟨gb135, 1, none⟩ = some (.slice A0_1 l0_1.length c0_1) := (blk_cell BK135.out 1).trans rfl; have hcz4_2 : w3.cell? ⟨gb135, 2, none⟩ = some (.slice A0_2 l0_2.length c0_2) := (blk_cell BK135.out 2).trans rfl; have hfz4_0 := blk_frozen BK135.out 0; have hfz4_1 := blk_frozen BK135.out 1; have hfz4_2 := blk_frozen BK135.out 2))
    go_ret
    exact ⟨by first | rfl | (simp [errW_none, errW_some] <;> rfl) | (simp [*, errW_none, errW_some] <;> rfl), by repeat (first | (with_reducible first | exact HB.out | apply below_alloc | apply pw_below_drewN | apply below_drew1 | refine below_set ?_ GE135.out) | exact HB.out)⟩
  · rw [if_neg c2] at H
    have c2b0 : decide (200 < (wrap64 ((l0_1.length : Int) + (l0_2.length : Int)))) = false := decide_eq_false c2
    clear c2
    have H' := Aside0.mk H
    clear H
    go_enter Tryd.func13, Tryd.ntmps13
    go_wp2_with (first | ((with_reducible refine gate_dst (N := 1) rfl ?_); refine box_event ?hg (N := 1) ?hd (cs := #[.int .i64 a0_0, .slice A0_1 l0_1.length c0_1, .slice A0_2 l0_2.length c0_2]) (t := 25) ?hr ?_; (case hd => rfl); (case hg => rfl); (case hr => first | (go_simp; done) | (go_simp; rfl)); intro gb135 hg w5 hbox hb; have n0_ := Aside0.mk (below_step (by repeat (first | (with_reducible first | exact HB.out | apply below_alloc | apply pw_below_drewN | apply below_drew1) | exact HB.out)) hb); have n1_ := Aside0.mk (hbox); have n2_ := Aside0.mk ((by rw [hg]; exact (below_size (by repeat (first | (with_reducible first | exact HB.out | apply below_alloc | apply pw_below_drewN | apply below_drew1) | exact HB.out))) : w.heap.size ≤ gb135)); have n3_ := Aside0.mk ((by rw [hg]; exact (below_size (by repeat (first | (with_reducible first | exact HB.out | apply below_alloc | apply pw_below_drewN | apply below_drew1) | exact HB.out))) : w.heap.size ≤ gb135)); clear HB; have HB := n0_; have BK135 := n1_; have GW135 := n2_; have GE135 := n3_; clear n0_ n1_ n2_ n3_; clear hb hbox hg; have hcz6_0 : w5.cell? ⟨gb135, 0, none⟩ = some (.int .i64 a0_0) := (blk_cell BK135.out 0).trans rfl; have hcz6_1 : w5.cell? ⟨gb135, 1, none⟩ = some (.slice A0_1 l0_1.length c0_1) := (blk_cell BK135.out 1).trans rfl; have hcz6_2 : w5.cell? ⟨gb135, 2, none⟩ = some (.slice A0_2 l0_2.length c0_2) := (blk_cell BK135.out 2).trans rfl; have hfz6_0 := blk_frozen BK135.out 0; have hfz6_1 := blk_frozen BK135.out 1; have hfz6_2 := blk_frozen BK135.out 2))
    go_loopg [3, 24] k (fun kq v3 v24 w' => ∃ (x3_1 : Int) (x24_1 : Int), v3 = .int .i64 x3_1 ∧ v24 = .int .i64 x24_1 ∧ Aside0 (mortmainref09_Great.l0 kq x3_1 l0_1 (l0_1.length : Int) x24_1 a0_0 l0_1 l0_2 = some r) ∧ Aside0 (kq ≤ k) ∧ Aside0 (w'.heap[gb135]? = some (.cells #[.int .i64 a0_0, (.slice A0_1 l0_1.length c0_1), (.slice A0_2 l0_2.length c0_2)] 25 (0, 0))) ∧ Aside0 (Below w.heap.size w w'))
    case atStart => exact ⟨(wrap64 ((l0_1.length : Int) + (l0_2.length : Int))), (0), (by first | rfl | (simp; done) | (simp [*]; done)), (by first | rfl | (simp; done) | (simp [*]; done)), H', ⟨Nat.le_refl _⟩, ⟨by (with_reducible repeat (first | refine blk_drewN ?_ _ | refine blk_drew ?_ | refine blk_alloc ?_ _)); exact BK135.out⟩, ⟨by repeat (first | (with_reducible first | exact HB.out | apply below_alloc | apply pw_below_drewN | apply below_drew1 | refine below_set ?_ GE135.out) | exact HB.out)⟩⟩
    case round =>
      clear H'
      try clear c1
      try clear c2
      try clear c2b0
      try clear p2
      try clear p6
      try clear hcz4_0
      try clear hcz4_1
      try clear hcz4_2
      try clear hcz6_0
      try clear hcz6_1
      try clear hcz6_2
      try clear hfz4_0
      try clear hfz4_1
      try clear hfz4_2
      try clear hfz6_0
      try clear hfz6_1
      try clear hfz6_2
      obtain ⟨x3_1, x24_1, rfl, rfl, HA, HK1, BK135, HB⟩ := hrel
      cases gk with
      | zero => exact absurd HA.out (by simp [mortmainref09_Great.l0])
      | succ k1 =>
        have H := HA.out
        clear HA
        simp only [mortmainref09_Great.l0] at H
        by_cases c7 : x24_1 < (l0_1.length : Int)
        · rw [if_pos c7] at H
          have c7b0 : decide (x24_1 < (l0_1.length : Int)) = true := decide_eq_true c7
          clear c7
          by_cases c8 : 0 ≤ x24_1
          · rw [if_pos c8] at H
            have c8b0 : decide (0 ≤ x24_1) = true := decide_eq_true c8
            clear c8
            by_cases c9 : x24_1 < (l0_1.length : Int)
            · rw [if_pos c9] at H
              have c9b0 : decide (x24_1 < (l0_1.length : Int)) = true := decide_eq_true c9
              clear c9
              have H' := Aside0.mk H
              clear H
              have p136 : 0 ≤ (x24_1 : Int) := of_decide_eq_true (by first | (with_reducible assumption) | assumption)
              have q136 : x24_1 < (l0_1.length : Int) := of_decide_eq_true (by first | (with_reducible assumption) | assumption)
              obtain ⟨ad136, A136_2, c136_2, A136_3, c136_3, e136, hx136_0, hx136_1, hx136_2, hx136_3, hl136_2, hi136_2, hl136_3, hi136_3⟩ := at_T45 HR0_1.out x24_1 p136 q136
              cases e136
              replace hx136_0 := (HB.out.cell (World.block_lt_of_cell? w _ hx136_0)).trans hx136_0
              replace hx136_1 := (HB.out.cell (World.block_lt_of_cell? w _ hx136_1)).trans hx136_1
              replace hx136_2 := (HB.out.cell (World.block_lt_of_cell? w _ hx136_2)).trans hx136_2
              replace hx136_3 := (HB.out.cell (World.block_lt_of_cell? w _ hx136_3)).trans hx136_3
              have HR136_2 := Aside0.mk hi136_2
              have HC136_2 := Aside0.mk hl136_2
              clear hi136_2 hl136_2
              have HR136_3 := Aside0.mk hi136_3
              have HC136_3 := Aside0.mk hl136_3
              clear hi136_3 hl136_3
              replace p136 := eq_true p136
              replace q136 := eq_true q136
              go_wp2_with (first | ((with_reducible refine gate_dst (N := 5) rfl ?_); refine box_event ?hg (N := 5) ?hd (cs := #[.string (⟨#[]⟩ : ByteArray), .int .i64 0, .slice none 0 0, .slice none 0 0]) (t := 45) ?hr ?_; (case hd => rfl); (case hg => rfl); (case hr => first | (go_simp; done) | (go_simp; rfl)); intro gb137 hg w10 hbox hb; have n0_ := Aside0.mk (blk_below (g := gb135) (o := .cells #[.int .i64 a0_0, .slice (some ad136) l0_1.length c0_1, .slice A0_2 l0_2.length c0_2] 25 (0, 0)) (by (with_reducible repeat (first | refine blk_drewN ?_ _ | refine blk_drew ?_ | refine blk_alloc ?_ _)); exact BK135.out) hb); have n1_ := Aside0.mk (below_step (by repeat (first | (with_reducible first | exact HB.out | apply below_alloc | apply pw_below_drewN | apply below_drew1 | refine below_set ?_ GE135.out) | exact HB.out)) hb); have n2_ := Aside0.mk (hbox); have n3_ := Aside0.mk ((by rw [hg]; exact (below_size (by repeat (first | (with_reducible first | exact HB.out | apply below_alloc | apply pw_below_drewN | apply below_drew1 | refine below_set ?_ GE135.out) | exact HB.out))) : w.heap.size ≤ gb137)); have n4_ := Aside0.mk ((by rw [hg]; exact (below_size (by repeat (first | (with_reducible first | exact HB.out | apply below_alloc | apply pw_below_drewN | apply below_drew1 | refine below_set ?_ GE135.out) | exact HB.out))) : w.heap.size ≤ gb137)); have n5_ := Aside0.mk ((by rw [hg]; exact Nat.ne_of_lt (blk_lt (g := gb135) (o := .cells #[.int .i64 a0_0, .slice (some ad136) l0_1.length c0_1, .slice A0_2 l0_2.length c0_2] 25 (0, 0)) (by (with_reducible repeat (first | refine blk_drewN ?_ _ | refine blk_drew ?_ | refine blk_alloc ?_ _)); exact BK135.out)) : gb135 ≠ gb137)); have n6_ := Aside0.mk ((by rw [hg]; exact Nat.ne_of_gt (blk_lt (g := gb135) (o := .cells #[.int .i64 a0_0, .slice (some ad136) l0_1.length c0_1, .slice A0_2 l0_2.length c0_2] 25 (0, 0)) (by (with_reducible repeat (first | refine blk_drewN ?_ _ | refine blk_drew ?_ | refine blk_alloc ?_ _)); exact BK135.out)) : gb137 ≠ gb135)); clear BK135; clear HB; have BK135 := n0_; have HB := n1_; have BK137 := n2_; have GW137 := n3_; have GE137 := n4_; have NB135_137 := n5_; have NB137_135 := n6_; clear n0_ n1_ n2_ n3_ n4_ n5_ n6_; clear hb hbox hg; have hnb11 := NB137_135.out; have hnc11 := NB135_137.out; have hcz12_0 : w10.cell? ⟨gb137, 0, none⟩ = some (.string (⟨#[]⟩ : ByteArray)) := (blk_cell BK137.out 0).trans rfl; have hcz12_1 : w10.cell? ⟨gb137, 1, none⟩ = some (.int .i64 0) := (blk_cell BK137.out 1).trans rfl; have hcz12_2 : w10.cell? ⟨gb137, 2, none⟩ = some (.slice none 0 0) := (blk_cell BK137.out 2).trans rfl; have hcz12_3 : w10.cell? ⟨gb137, 3, none⟩ = some (.slice none 0 0) := (blk_cell BK137.out 3).trans rfl; have hfz12_0 := blk_frozen BK137.out 0; have hfz12_1 := blk_frozen BK137.out 1; have hfz12_2 := blk_frozen BK137.out 2; have hfz12_3 := blk_frozen BK137.out 3))
              go_loopg [3, 44] k1 (fun kq v3 v44 w' => ∃ (x3_2 : Int) (x44_2 : Int), v3 = .int .i64 x3_2 ∧ v44 = .int .i64 x44_2 ∧ Aside0 (mortmainref09_Great.l1 kq x3_2 l0_1 (l0_1.length : Int) x24_1 ((rd_T45 l0_1 x24_1).f2) (((rd_T45 l0_1 x24_1).f2).length : Int) x44_2 a0_0 l0_1 l0_2 ((rd_T45 l0_1 x24_1).f0) ((rd_T45 l0_1 x24_1).f1) ((rd_T45 l0_1 x24_1).f2) ((rd_T45 l0_1 x24_1).f3) = some r) ∧ Aside0 (kq ≤ k1) ∧ Aside0 (w'.heap[gb135]? = some (.cells #[.int .i64 a0_0, (.slice (some ad136) l0_1.length c0_1), (.slice A0_2 l0_2.length c0_2)] 25 (0, 0))) ∧ Aside0 (w'.heap[gb137]? = some (.cells #[.string ((rd_T45 l0_1 x24_1).f0), .int .i64 ((rd_T45 l0_1 x24_1).f1), (.slice A136_2 ((rd_T45 l0_1 x24_1).f2).length c136_2), (.slice A136_3 ((rd_T45 l0_1 x24_1).f3).length c136_3)] 45 (0, 0))) ∧ Aside0 (Below w.heap.size w w'))
              case atStart => exact ⟨(wrap64 ((wrap64 ((wrap64 (x3_1 + (((rd_T45 l0_1 x24_1).f0).size : Int))) + (((rd_T45 l0_1 x24_1).f2).length : Int))) + (((rd_T45 l0_1 x24_1).f3).length : Int))), (0), (by first | rfl | (simp; done) | (simp [*]; done)), (by first | rfl | (simp; done) | (simp [*]; done)), H', ⟨Nat.le_refl _⟩, ⟨by (with_reducible repeat (first | refine blk_drewN ?_ _ | refine blk_drew ?_ | refine blk_alloc ?_ _)); refine blk_far ?_ NB135_137.out _; (with_reducible repeat (first | refine blk_drewN ?_ _ | refine blk_drew ?_ | refine blk_alloc ?_ _)); refine blk_far ?_ NB135_137.out _; (with_reducible repeat (first | refine blk_drewN ?_ _ | refine blk_drew ?_ | refine blk_alloc ?_ _)); refine blk_far ?_ NB135_137.out _; (with_reducible repeat (first | refine blk_drewN ?_ _ | refine blk_drew ?_ | refine blk_alloc ?_ _)); refine blk_far ?_ NB135_137.out _; (with_reducible repeat (first | refine blk_drewN ?_ _ | refine blk_drew ?_ | refine blk_alloc ?_ _)); exact BK135.out⟩, ⟨by (with_reducible repeat (first | refine blk_drewN ?_ _ | refine blk_drew ?_ | refine blk_alloc ?_ _)); refine blk_put (cs := #[.string ((rd_T45 l0_1 x24_1).f0), .int .i64 ((rd_T45 l0_1 x24_1).f1), .slice A136_2 ((rd_T45 l0_1 x24_1).f2).length c136_2, .slice none 0 0]) ?_ 3 _ rfl; (with_reducible repeat (first | refine blk_drewN ?_ _ | refine blk_drew ?_ | refine blk_alloc ?_ _)); refine blk_put (cs := #[.string ((rd_T45 l0_1 x24_1).f0), .int .i64 ((rd_T45 l0_1 x24_1).f1), .slice none 0 0, .slice none 0 0]) ?_ 2 _ rfl; (with_reducible repeat (first | refine blk_drewN ?_ _ | refine blk_drew ?_ | refine blk_alloc ?_ _)); refine blk_put (cs := #[.string ((rd_T45 l0_1 x24_1).f0), .int .i64 0, .slice none 0 0, .slice none 0 0]) ?_ 1 _ rfl; (with_reducible repeat (first | refine blk_drewN ?_ _ | refine blk_drew ?_ | refine blk_alloc ?_ _)); refine blk_put (cs := #[.string (⟨#[]⟩ : ByteArray), .int .i64 0, .slice none 0 0, .slice none 0 0]) ?_ 0 _ rfl; (with_reducible repeat (first | refine blk_drewN ?_ _ | refine blk_drew ?_ | refine blk_alloc ?_ _)); exact BK137.out⟩, ⟨by repeat (first | (with_reducible first | exact HB.out | apply below_alloc | apply pw_below_drewN | apply below_drew1 | refine below_set ?_ GE135.out | refine below_set ?_ GE137.out) | exact HB.out)⟩⟩
              case round =>
                clear H'
                try clear c1
                try clear p1
                try clear q1
                try clear hx1
                try clear c2
                try clear c2b0
                try clear p2
                try clear p6
                try clear c7
                try clear c7b0
                try clear c8
                try clear c8b0
                try clear c9
                try clear c9b0
                try clear c11
                try clear hcz12_0
                try clear hcz12_1
                try clear hcz12_2
                try clear hcz12_3
                try clear hcz4_0
                try clear hcz4_1
                try clear hcz4_2
                try clear hcz6_0
                try clear hcz6_1
                try clear hcz6_2
                try clear hfz12_0
                try clear hfz12_1
                try clear hfz12_2
                try clear hfz12_3
                try clear hfz4_0
                try clear hfz4_1
                try clear hfz4_2
                try clear hfz6_0
                try clear hfz6_1
                try clear hfz6_2
                try clear hx136_0
                try clear hx136_1
                try clear hx136_2
                try clear hx136_3
                try clear p136
                try clear p2
                try clear p6
                try clear q136
                obtain ⟨x3_2, x44_2, rfl, rfl, HA, HK2, BK135, BK137, HB⟩ := hrel
                cases gk with
                | zero => exact absurd HA.out (by simp [mortmainref09_Great.l1])
                | succ k2 =>
                  have H := HA.out
                  clear HA
                  simp only [mortmainref09_Great.l1] at H
                  by_cases c13 : x44_2 < (((rd_T45 l0_1 x24_1).f2).length : Int)
                  · rw [if_pos c13] at H
                    have c13b0 : decide (x44_2 < (((rd_T45 l0_1 x24_1).f2).length : Int)) = true := decide_eq_true c13
                    clear c13
                    by_cases c14 : 0 ≤ x44_2
                    · rw [if_pos c14] at H
                      have c14b0 : decide (0 ≤ x44_2) = true := decide_eq_true c14
                      clear c14
                      by_cases c15 : x44_2 < (((rd_T45 l0_1 x24_1).f2).length : Int)
                      · rw [if_pos c15] at H
                        have c15b0 : decide (x44_2 < (((rd_T45 l0_1 x24_1).f2).length : Int)) = true := decide_eq_true c15
                        clear c15
                        have H' := Aside0.mk H
                        clear H
                        have p138 : 0 ≤ (x44_2 : Int) := of_decide_eq_true (by first | (with_reducible assumption) | assumption)
                        have q138 : x44_2 < (((rd_T45 l0_1 x24_1).f2).length : Int) := of_decide_eq_true (by first | (with_reducible assumption) | assumption)
                        obtain ⟨ad138, e138, hx138_0, hx138_1, hx138_2, hx138_3, hx138_4, hx138_5⟩ := at_T59 HR136_2.out x44_2 p138 q138
                        cases e138
                        replace hx138_0 := (HB.out.cell (World.block_lt_of_cell? w _ hx138_0)).trans hx138_0
                        replace hx138_1 := (HB.out.cell (World.block_lt_of_cell? w _ hx138_1)).trans hx138_1
                        replace hx138_2 := (HB.out.cell (World.block_lt_of_cell? w _ hx138_2)).trans hx138_2
                        replace hx138_3 := (HB.out.cell (World.block_lt_of_cell? w _ hx138_3)).trans hx138_3
                        replace hx138_4 := (HB.out.cell (World.block_lt_of_cell? w _ hx138_4)).trans hx138_4
                        replace hx138_5 := (HB.out.cell (World.block_lt_of_cell? w _ hx138_5)).trans hx138_5
                        replace p138 := eq_true p138
                        replace q138 := eq_true q138
                        go_wp2_with (first | ((with_reducible refine gate_dst (N := 7) rfl ?_); refine box_event ?hg (N := 7) ?hd (cs := #[.string (⟨#[]⟩ : ByteArray), .int .i64 0, .bool false, .bool false, .string (⟨#[]⟩ : ByteArray), .int .i64 0]) (t := 59) ?hr ?_; (case hd => rfl); (case hg => rfl); (case hr => first | (go_simp; done) | (go_simp; rfl)); intro gb139 hg w16 hbox hb; have n0_ := Aside0.mk (blk_below (g := gb135) (o := .cells #[.int .i64 a0_0, .slice (some ad136) l0_1.length c0_1, .slice A0_2 l0_2.length c0_2] 25 (0, 0)) (by (with_reducible repeat (first | refine blk_drewN ?_ _ | refine blk_drew ?_ | refine blk_alloc ?_ _)); exact BK135.out) hb); have n1_ := Aside0.mk (blk_below (g := gb137) (o := .cells #[.string ((rd_T45 l0_1 x24_1).f0), .int .i64 ((rd_T45 l0_1 x24_1).f1), .slice (some ad138) ((rd_T45 l0_1 x24_1).f2).length c136_2, .slice A136_3 ((rd_T45 l0_1 x24_1).f3).length c136_3] 45 (0, 0)) (by (with_reducible repeat (first | refine blk_drewN ?_ _ | refine blk_drew ?_ | refine blk_alloc ?_ _)); exact BK137.out) hb); have n2_ := Aside0.mk (below_step (by repeat (first | (with_reducible first | exact HB.out | apply below_alloc | apply pw_below_drewN | apply below_drew1 | refine below_set ?_ GE135.out | refine below_set ?_ GE137.out) | exact HB.out)) hb); have n3_ := Aside0.mk (hbox); have n4_ := Aside0.mk ((by rw [hg]; exact (below_size (by repeat (first | (with_reducible first | exact HB.out | apply below_alloc | apply pw_below_drewN | apply below_drew1 | refine below_set ?_ GE135.out | refine below_set ?_ GE137.out) | exact HB.out))) : w.heap.size ≤ gb139)); have n5_ := Aside0.mk ((by rw [hg]; exact (below_size (by repeat (first | (with_reducible first | exact HB.out | apply below_alloc | apply pw_below_drewN | apply below_drew1 | refine below_set ?_ GE135.out | refine below_set ?_ GE137.out) | exact HB.out))) : w.heap.size ≤ gb139)); have n6_ := Aside0.mk ((by rw [hg]; exact Nat.ne_of_lt (blk_lt (g := gb135) (o := .cells #[.int .i64 a0_0, .slice (some ad136) l0_1.length c0_1, .slice A0_2 l0_2.length c0_2] 25 (0, 0)) (by (with_reducible repeat (first | refine blk_drewN ?_ _ | refine blk_drew ?_ | refine blk_alloc ?_ _)); exact BK135.out)) : gb135 ≠ gb139)); have n7_ := Aside0.mk ((by rw [hg]; exact Nat.ne_of_gt (blk_lt (g := gb135) (o := .cells #[.int .i64 a0_0, .slice (some ad136) l0_1.length c0_1, .slice A0_2 l0_2.length c0_2] 25 (0, 0)) (by (with_reducible repeat (first | refine blk_drewN ?_ _ | refine blk_drew ?_ | refine blk_alloc ?_ _)); exact BK135.out)) : gb139 ≠ gb135)); have n8_ := Aside0.mk ((by rw [hg]; exact Nat.ne_of_lt (blk_lt (g := gb137) (o := .cells #[.string ((rd_T45 l0_1 x24_1).f0), .int .i64 ((rd_T45 l0_1 x24_1).f1), .slice (some ad138) ((rd_T45 l0_1 x24_1).f2).length c136_2, .slice A136_3 ((rd_T45 l0_1 x24_1).f3).length c136_3] 45 (0, 0)) (by (with_reducible repeat (first | refine blk_drewN ?_ _ | refine blk_drew ?_ | refine blk_alloc ?_ _)); exact BK137.out)) : gb137 ≠ gb139)); have n9_ := Aside0.mk ((by rw [hg]; exact Nat.ne_of_gt (blk_lt (g := gb137) (o := .cells #[.string ((rd_T45 l0_1 x24_1).f0), .int .i64 ((rd_T45 l0_1 x24_1).f1), .slice (some ad138) ((rd_T45 l0_1 x24_1).f2).length c136_2, .slice A136_3 ((rd_T45 l0_1 x24_1).f3).length c136_3] 45 (0, 0)) (by (with_reducible repeat (first | refine blk_drewN ?_ _ | refine blk_drew ?_ | refine blk_alloc ?_ _)); exact BK137.out)) : gb139 ≠ gb137)); clear BK135; clear BK137; clear HB; have BK135 := n0_; have BK137 := n1_; have HB := n2_; have BK139 := n3_; have GW139 := n4_; have GE139 := n5_; have NB135_139 := n6_; have NB139_135 := n7_; have NB137_139 := n8_; have NB139_137 := n9_; clear n0_ n1_ n2_ n3_ n4_ n5_ n6_ n7_ n8_ n9_; clear hb hbox hg; have hnb17 := NB139_135.out; have hnc17 := NB135_139.out; have hnb18 := NB139_137.out; have hnc18 := NB137_139.out; have hcz19_0 : w16.cell? ⟨gb139, 0, none⟩ = some (.string (⟨#[]⟩ : ByteArray)) := (blk_cell BK139.out 0).trans rfl; have hcz19_1 : w16.cell? ⟨gb139, 1, none⟩ = some (.int .i64 0) := (blk_cell BK139.out 1).trans rfl; have hcz19_2 : w16.cell? ⟨gb139, 2, none⟩ = some (.bool false) := (blk_cell BK139.out 2).trans rfl; have hcz19_3 : w16.cell? ⟨gb139, 3, none⟩ = some (.bool false) := (blk_cell BK139.out 3).trans rfl; have hcz19_4 : w16.cell? ⟨gb139, 4, none⟩ = some (.string (⟨#[]⟩ : ByteArray)) := (blk_cell BK139.out 4).trans rfl; have hcz19_5 : w16.cell? ⟨gb139, 5, none⟩ = some (.int .i64 0) := (blk_cell BK139.out 5).trans rfl; have hfz19_0 := blk_frozen BK139.out 0; have hfz19_1 := blk_frozen BK139.out 1; have hfz19_2 := blk_frozen BK139.out 2; have hfz19_3 := blk_frozen BK139.out 3; have hfz19_4 := blk_frozen BK139.out 4; have hfz19_5 := blk_frozen BK139.out 5))
                        go_roundg k2
                        case measure => have := HK1.out; have := HK2.out; omega
                        case rel => exact ⟨(wrap64 ((wrap64 (x3_2 + (((rd_T59 ((rd_T45 l0_1 x24_1).f2) x44_2).f0).size : Int))) + (((rd_T59 ((rd_T45 l0_1 x24_1).f2) x44_2).f4).size : Int))), (wrap64 (x44_2 + 1)), (by first | rfl | (simp; done) | (simp [*]; done)), (by first | rfl | (simp; done) | (simp [*]; done)), H', ⟨by have := HK1.out; have := HK2.out; omega⟩, ⟨by (with_reducible repeat (first | refine blk_drewN ?_ _ | refine blk_drew ?_ | refine blk_alloc ?_ _)); refine blk_far ?_ NB135_139.out _; (with_reducible repeat (first | refine blk_drewN ?_ _ | refine blk_drew ?_ | refine blk_alloc ?_ _)); refine blk_far ?_ NB135_139.out _; (with_reducible repeat (first | refine blk_drewN ?_ _ | refine blk_drew ?_ | refine blk_alloc ?_ _)); refine blk_far ?_ NB135_139.out _; (with_reducible repeat (first | refine blk_drewN ?_ _ | refine blk_drew ?_ | refine blk_alloc ?_ _)); refine blk_far ?_ NB135_139.out _; (with_reducible repeat (first | refine blk_drewN ?_ _ | refine blk_drew ?_ | refine blk_alloc ?_ _)); refine blk_far ?_ NB135_139.out _; (with_reducible repeat (first | refine blk_drewN ?_ _ | refine blk_drew ?_ | refine blk_alloc ?_ _)); refine blk_far ?_ NB135_139.out _; (with_reducible repeat (first | refine blk_drewN ?_ _ | refine blk_drew ?_ | refine blk_alloc ?_ _)); exact BK135.out⟩, ⟨by (with_reducible repeat (first | refine blk_drewN ?_ _ | refine blk_drew ?_ | refine blk_alloc ?_ _)); refine blk_far ?_ NB137_139.out _; (with_reducible repeat (first | refine blk_drewN ?_ _ | refine blk_drew ?_ | refine blk_alloc ?_ _)); refine blk_far ?_ NB137_139.out _; (with_reducible repeat (first | refine blk_drewN ?_ _ | refine blk_drew ?_ | refine blk_alloc ?_ _)); refine blk_far ?_ NB137_139.out _; (with_reducible repeat (first | refine blk_drewN ?_ _ | refine blk_drew ?_ | refine blk_alloc ?_ _)); refine blk_far ?_ NB137_139.out _; (with_reducible repeat (first | refine blk_drewN ?_ _ | refine blk_drew ?_ | refine blk_alloc ?_ _)); refine blk_far ?_ NB137_139.out _; (with_reducible repeat (first | refine blk_drewN ?_ _ | refine blk_drew ?_ | refine blk_alloc ?_ _)); refine blk_far ?_ NB137_139.out _; (with_reducible repeat (first | refine blk_drewN ?_ _ | refine blk_drew ?_ | refine blk_alloc ?_ _)); exact BK137.out⟩, ⟨by repeat (first | (with_reducible first | exact HB.out | apply below_alloc | apply pw_below_drewN | apply below_drew1 | refine below_set ?_ GE135.out | refine below_set ?_ GE137.out | refine below_set ?_ GE139.out) | exact HB.out)⟩⟩
                      · rw [if_neg c15] at H
                        exact absurd H (by simp)
                    · rw [if_neg c14] at H
                      exact absurd H (by simp)
                  · rw [if_neg c13] at H
                    have c13b0 : decide (x44_2 < (((rd_T45 l0_1 x24_1).f2).length : Int)) = false := decide_eq_false c13
                    clear c13
                    have H' := Aside0.mk H
                    clear H
                    have hnb20 := NB137_135.out
                    have hnc20 := NB135_137.out
                    have hcz21_0 : wr.cell? ⟨gb137, 0, none⟩ = some (.string ((rd_T45 l0_1 x24_1).f0)) := (blk_cell BK137.out 0).trans rfl
                    have hcz21_1 : wr.cell? ⟨gb137, 1, none⟩ = some (.int .i64 ((rd_T45 l0_1 x24_1).f1)) := (blk_cell BK137.out 1).trans rfl
                    have hcz21_2 : wr.cell? ⟨gb137, 2, none⟩ = some (.slice A136_2 ((rd_T45 l0_1 x24_1).f2).length c136_2) := (blk_cell BK137.out 2).trans rfl
                    have hcz21_3 : wr.cell? ⟨gb137, 3, none⟩ = some (.slice A136_3 ((rd_T45 l0_1 x24_1).f3).length c136_3) := (blk_cell BK137.out 3).trans rfl
                    have hfz21_0 := blk_frozen BK137.out 0
                    have hfz21_1 := blk_frozen BK137.out 1
                    have hfz21_2 := blk_frozen BK137.out 2
                    have hfz21_3 := blk_frozen BK137.out 3
                    go_wp2
                    go_loopg [61] k2 (fun kq v61 w' => ∃ (x61_3 : Int), v61 = .int .i64 x61_3 ∧ Aside0 (mortmainref09_Great.l2 kq x3_2 l0_1 (l0_1.length : Int) x24_1 ((rd_T45 l0_1 x24_1).f3) (((rd_T45 l0_1 x24_1).f3).length : Int) x61_3 a0_0 l0_1 l0_2 = some r) ∧ Aside0 (kq ≤ k2) ∧ Aside0 (w'.heap[gb135]? = some (.cells #[.int .i64 a0_0, (.slice (some ad136) l0_1.length c0_1), (.slice A0_2 l0_2.length c0_2)] 25 (0, 0))) ∧ Aside0 (w'.heap[gb137]? = some (.cells #[.string ((rd_T45 l0_1 x24_1).f0), .int .i64 ((rd_T45 l0_1 x24_1).f1), (.slice A136_2 ((rd_T45 l0_1 x24_1).f2).length c136_2), (.slice A136_3 ((rd_T45 l0_1 x24_1).f3).length c136_3)] 45 (0, 0))) ∧ Aside0 (Below w.heap.size w w'))
                    case atStart => exact ⟨(0), (by first | rfl | (simp; done) | (simp [*]; done)), H', ⟨Nat.le_refl _⟩, ⟨by (with_reducible repeat (first | refine blk_drewN ?_ _ | refine blk_drew ?_ | refine blk_alloc ?_ _)); exact BK135.out⟩, ⟨by (with_reducible repeat (first | refine blk_drewN ?_ _ | refine blk_drew ?_ | refine blk_alloc ?_ _)); exact BK137.out⟩, ⟨by repeat (first | (with_reducible first | exact HB.out | apply below_alloc | apply pw_below_drewN | apply below_drew1 | refine below_set ?_ GE135.out | refine below_set ?_ GE137.out) | exact HB.out)⟩⟩
                    case round =>
                      clear H'
                      try clear c1
                      try clear p1
                      try clear q1
                      try clear hx1
                      try clear c2
                      try clear c2b0
                      try clear p2
                      try clear p6
                      try clear c7
                      try clear c7b0
                      try clear c8
                      try clear c8b0
                      try clear c9
                      try clear c9b0
                      try clear c11
                      try clear c13
                      try clear c13b0
                      try clear p13
                      try clear q13
                      try clear hx13
                      try clear c14
                      try clear c14b0
                      try clear c15
                      try clear c15b0
                      try clear c17
                      try clear c18
                      try clear c20
                      try clear hcz12_0
                      try clear hcz12_1
                      try clear hcz12_2
                      try clear hcz12_3
                      try clear hcz19_0
                      try clear hcz19_1
                      try clear hcz19_2
                      try clear hcz19_3
                      try clear hcz19_4
                      try clear hcz19_5
                      try clear hcz21_0
                      try clear hcz21_1
                      try clear hcz21_2
                      try clear hcz21_3
                      try clear hcz4_0
                      try clear hcz4_1
                      try clear hcz4_2
                      try clear hcz6_0
                      try clear hcz6_1
                      try clear hcz6_2
                      try clear hfz12_0
                      try clear hfz12_1
                      try clear hfz12_2
                      try clear hfz12_3
                      try clear hfz19_0
                      try clear hfz19_1
                      try clear hfz19_2
                      try clear hfz19_3
                      try clear hfz19_4
                      try clear hfz19_5
                      try clear hfz21_0
                      try clear hfz21_1
                      try clear hfz21_2
                      try clear hfz21_3
                      try clear hfz4_0
                      try clear hfz4_1
                      try clear hfz4_2
                      try clear hfz6_0
                      try clear hfz6_1
                      try clear hfz6_2
                      try clear hx136_0
                      try clear hx136_1
                      try clear hx136_2
                      try clear hx136_3
                      try clear hx138_0
                      try clear hx138_1
                      try clear hx138_2
                      try clear hx138_3
                      try clear hx138_4
                      try clear hx138_5
                      try clear p1
                      try clear p136
                      try clear p138
                      try clear p2
                      try clear p6
                      try clear q1
                      try clear q136
                      try clear q138
                      obtain ⟨x61_3, rfl, HA, HK3, BK135, BK137, HB⟩ := hrel
                      cases gk with
                      | zero => exact absurd HA.out (by simp [mortmainref09_Great.l2])
                      | succ k3 =>
                        have H := HA.out
                        clear HA
                        simp only [mortmainref09_Great.l2] at H
                        by_cases c22 : x61_3 < (((rd_T45 l0_1 x24_1).f3).length : Int)
                        · rw [if_pos c22] at H
                          have c22b0 : decide (x61_3 < (((rd_T45 l0_1 x24_1).f3).length : Int)) = true := decide_eq_true c22
                          clear c22
                          by_cases c23 : 0 ≤ x61_3
                          · rw [if_pos c23] at H
                            have c23b0 : decide (0 ≤ x61_3) = true := decide_eq_true c23
                            clear c23
                            by_cases c24 : x61_3 < (((rd_T45 l0_1 x24_1).f3).length : Int)
                            · rw [if_pos c24] at H
                              have c24b0 : decide (x61_3 < (((rd_T45 l0_1 x24_1).f3).length : Int)) = true := decide_eq_true c24
                              clear c24
                              replace H := Option.bind_eq_some_iff.mp H
                              obtain ⟨t142, A250, H⟩ := H
                              replace H : (if t142 = true then (some true) else (mortmainref09_Great.l2 k3 x3_2 l0_1 (l0_1.length : Int) x24_1 ((rd_T45 l0_1 x24_1).f3) (((rd_T45 l0_1 x24_1).f3).length : Int) (wrap64 (x61_3 + 1)) a0_0 l0_1 l0_2)) = some r := H
                              have A25 := Aside0.mk A250
                              clear A250
                              by_cases c26 : t142 = true
                              · subst c26
                                have H1 : (some true) = some r := by rw [if_pos rfl] at H; exact H
                                clear H
                                have H := H1
                                clear H1
                                obtain rfl := Option.some.inj H
                                have p140 : 0 ≤ (x61_3 : Int) := of_decide_eq_true (by first | (with_reducible assumption) | assumption)
                                have q140 : x61_3 < (((rd_T45 l0_1 x24_1).f3).length : Int) := of_decide_eq_true (by first | (with_reducible assumption) | assumption)
                                obtain ⟨ad140, A140_5, c140_5, e140, hx140_0, hx140_1, hx140_2, hx140_3, hx140_4, hx140_5, hl140_5, hi140_5⟩ := at_T72 HR136_3.out x61_3 p140 q140
                                cases e140
                                replace hx140_0 := (HB.out.cell (World.block_lt_of_cell? w _ hx140_0)).trans hx140_0
                                replace hx140_1 := (HB.out.cell (World.block_lt_of_cell? w _ hx140_1)).trans hx140_1
                                replace hx140_2 := (HB.out.cell (World.block_lt_of_cell? w _ hx140_2)).trans hx140_2
                                replace hx140_3 := (HB.out.cell (World.block_lt_of_cell? w _ hx140_3)).trans hx140_3
                                replace hx140_4 := (HB.out.cell (World.block_lt_of_cell? w _ hx140_4)).trans hx140_4
                                replace hx140_5 := (HB.out.cell (World.block_lt_of_cell? w _ hx140_5)).trans hx140_5
                                have HR140_5 := Aside0.mk hi140_5
                                have HC140_5 := Aside0.mk hl140_5
                                clear hi140_5 hl140_5
                                replace p140 := eq_true p140
                                replace q140 := eq_true q140
                                go_wp2_with (first | ((with_reducible refine gate_dst (N := 9) rfl ?_); refine box_event ?hg (N := 9) ?hd (cs := #[.int .i64 0, .int .i64 0, .int .i64 0, .int .i64 0, .string (⟨#[]⟩ : ByteArray), .slice none 0 0]) (t := 72) ?hr ?_; (case hd => rfl); (case hg => rfl); (case hr => first | (go_simp; done) | (go_simp; rfl)); intro gb141 hg w27 hbox hb; have n0_ := Aside0.mk (blk_below (g := gb135) (o := .cells #[.int .i64 a0_0, .slice (some ad136) l0_1.length c0_1, .slice A0_2 l0_2.length c0_2] 25 (0, 0)) (by (with_reducible repeat (first | refine blk_drewN ?_ _ | refine blk_drew ?_ | refine blk_alloc ?_ _)); exact BK135.out) hb); have n1_ := Aside0.mk (blk_below (g := gb137) (o := .cells #[.string ((rd_T45 l0_1 x24_1).f0), .int .i64 ((rd_T45 l0_1 x24_1).f1), .slice A136_2 ((rd_T45 l0_1 x24_1).f2).length c136_2, .slice (some ad140) ((rd_T45 l0_1 x24_1).f3).length c136_3] 45 (0, 0)) (by (with_reducible repeat (first | refine blk_drewN ?_ _ | refine blk_drew ?_ | refine blk_alloc ?_ _)); exact BK137.out) hb); have n2_ := Aside0.mk (below_step (by repeat (first | (with_reducible first | exact HB.out | apply below_alloc | apply pw_below_drewN | apply below_drew1 | refine below_set ?_ GE135.out | refine below_set ?_ GE137.out) | exact HB.out)) hb); have n3_ := Aside0.mk (hbox); have n4_ := Aside0.mk ((by rw [hg]; exact (below_size (by repeat (first | (with_reducible first | exact HB.out | apply below_alloc | apply pw_below_drewN | apply below_drew1 | refine below_set ?_ GE135.out | refine below_set ?_ GE137.out) | exact HB.out))) : w.heap.size ≤ gb141)); have n5_ := Aside0.mk ((by rw [hg]; exact (below_size (by repeat (first | (with_reducible first | exact HB.out | apply below_alloc | apply pw_below_drewN | apply below_drew1 | refine below_set ?_ GE135.out | refine below_set ?_ GE137.out) | exact HB.out))) : w.heap.size ≤ gb141)); have n6_ := Aside0.mk ((by rw [hg]; exact Nat.ne_of_lt (blk_lt (g := gb135) (o := .cells #[.int .i64 a0_0, .slice (some ad136) l0_1.length c0_1, .slice A0_2 l0_2.length c0_2] 25 (0, 0)) (by (with_reducible repeat (first | refine blk_drewN ?_ _ | refine blk_drew ?_ | refine blk_alloc ?_ _)); exact BK135.out)) : gb135 ≠ gb141)); have n7_ := Aside0.mk ((by rw [hg]; exact Nat.ne_of_gt (blk_lt (g := gb135) (o := .cells #[.int .i64 a0_0, .slice (some ad136) l0_1.length c0_1, .slice A0_2 l0_2.length c0_2] 25 (0, 0)) (by (with_reducible repeat (first | refine blk_drewN ?_ _ | refine blk_drew ?_ | refine blk_alloc ?_ _)); exact BK135.out)) : gb141 ≠ gb135)); have n8_ := Aside0.mk ((by rw [hg]; exact Nat.ne_of_lt (blk_lt (g := gb137) (o := .cells #[.string ((rd_T45 l0_1 x24_1).f0), .int .i64 ((rd_T45 l0_1 x24_1).f1), .slice A136_2 ((rd_T45 l0_1 x24_1).f2).length c136_2, .slice (some ad140) ((rd_T45 l0_1 x24_1).f3).length c136_3] 45 (0, 0)) (by (with_reducible repeat (first | refine blk_drewN ?_ _ | refine blk_drew ?_ | refine blk_alloc ?_ _)); exact BK137.out)) : gb137 ≠ gb141)); have n9_ := Aside0.mk ((by rw [hg]; exact Nat.ne_of_gt (blk_lt (g := gb137) (o := .cells #[.string ((rd_T45 l0_1 x24_1).f0), .int .i64 ((rd_T45 l0_1 x24_1).f1), .slice A136_2 ((rd_T45 l0_1 x24_1).f2).length c136_2, .slice (some ad140) ((rd_T45 l0_1 x24_1).f3).length c136_3] 45 (0, 0)) (by (with_reducible repeat (first | refine blk_drewN ?_ _ | refine blk_drew ?_ | refine blk_alloc ?_ _)); exact BK137.out)) : gb141 ≠ gb137)); clear BK135; clear BK137; clear HB; have BK135 := n0_; have BK137 := n1_; have HB := n2_; have BK141 := n3_; have GW141 := n4_; have GE141 := n5_; have NB135_141 := n6_; have NB141_135 := n7_; have NB137_141 := n8_; have NB141_137 := n9_; clear n0_ n1_ n2_ n3_ n4_ n5_ n6_ n7_ n8_ n9_; clear hb hbox hg; have hnb28 := NB141_135.out; have hnc28 := NB135_141.out; have hnb29 := NB141_137.out; have hnc29 := NB137_141.out; have hcz30_0 : w27.cell? ⟨gb141, 0, none⟩ = some (.int .i64 0) := (blk_cell BK141.out 0).trans rfl; have hcz30_1 : w27.cell? ⟨gb141, 1, none⟩ = some (.int .i64 0) := (blk_cell BK141.out 1).trans rfl; have hcz30_2 : w27.cell? ⟨gb141, 2, none⟩ = some (.int .i64 0) := (blk_cell BK141.out 2).trans rfl; have hcz30_3 : w27.cell? ⟨gb141, 3, none⟩ = some (.int .i64 0) := (blk_cell BK141.out 3).trans rfl; have hcz30_4 : w27.cell? ⟨gb141, 4, none⟩ = some (.string (⟨#[]⟩ : ByteArray)) := (blk_cell BK141.out 4).trans rfl; have hcz30_5 : w27.cell? ⟨gb141, 5, none⟩ = some (.slice none 0 0) := (blk_cell BK141.out 5).trans rfl; have hfz30_0 := blk_frozen BK141.out 0; have hfz30_1 := blk_frozen BK141.out 1; have hfz30_2 := blk_frozen BK141.out 2; have hfz30_3 := blk_frozen BK141.out 3; have hfz30_4 := blk_frozen BK141.out 4; have hfz30_5 := blk_frozen BK141.out 5) | ((with_reducible refine gate_callee (f := 45) rfl ?_); refine goesL_ (some 66) rfl rfl Tryd.func45 (by kernel_rfl) rfl #[.agg #[.int .i64 ((rd_T72 ((rd_T45 l0_1 x24_1).f3) x61_3).f0), .int .i64 ((rd_T72 ((rd_T45 l0_1 x24_1).f3) x61_3).f1), .int .i64 ((rd_T72 ((rd_T45 l0_1 x24_1).f3) x61_3).f2.f0), .int .i64 ((rd_T72 ((rd_T45 l0_1 x24_1).f3) x61_3).f2.f1), .string ((rd_T72 ((rd_T45 l0_1 x24_1).f3) x61_3).f2.f2), .slice A140_5 ((rd_T72 ((rd_T45 l0_1 x24_1).f3) x61_3).f3).length c140_5]] rfl (by (try simp only [List.map_toArray, List.map_cons, List.map_nil]); first | done | rfl | (simp only [List.length_drop, List.length_take]; rfl)) ?_; (with_reducible refine (mortmainref08_Great.calls k3 ((rd_T72 ((rd_T45 l0_1 x24_1).f3) x61_3).f0) ((rd_T72 ((rd_T45 l0_1 x24_1).f3) x61_3).f1) ((rd_T72 ((rd_T45 l0_1 x24_1).f3) x61_3).f2.f0) ((rd_T72 ((rd_T45 l0_1 x24_1).f3) x61_3).f2.f1) ((rd_T72 ((rd_T45 l0_1 x24_1).f3) x61_3).f2.f2) _ _ ((rd_T72 ((rd_T45 l0_1 x24_1).f3) x61_3).f3) true _ ?side1 ?side2 A25.out).mono ?_); (case side1 => exact Kd.C_below HR140_5.out (by repeat (first | (with_reducible first | exact HB.out | apply below_alloc | apply pw_below_drewN | apply below_drew1 | refine below_set ?_ GE135.out | refine below_set ?_ GE137.out | refine below_set ?_ GE141.out) | exact HB.out))); (case side2 => exact HC140_5.out); rintro e w31 ⟨rfl, hb⟩; refine ⟨_, rfl, ?_⟩; have n0_ := Aside0.mk (blk_below (g := gb135) (o := .cells #[.int .i64 a0_0, .slice (some ad136) l0_1.length c0_1, .slice A0_2 l0_2.length c0_2] 25 (0, 0)) (by (with_reducible repeat (first | refine blk_drewN ?_ _ | refine blk_drew ?_ | refine blk_alloc ?_ _)); refine blk_far ?_ NB135_141.out _; (with_reducible repeat (first | refine blk_drewN ?_ _ | refine blk_drew ?_ | refine blk_alloc ?_ _)); refine blk_far ?_ NB135_141.out _; (with_reducible repeat (first | refine blk_drewN ?_ _ | refine blk_drew ?_ | refine blk_alloc ?_ _)); refine blk_far ?_ NB135_141.out _; (with_reducible repeat (first | refine blk_drewN ?_ _ | refine blk_drew ?_ | refine blk_alloc ?_ _)); refine blk_far ?_ NB135_141.out _; (with_reducible repeat (first | refine blk_drewN ?_ _ | refine blk_drew ?_ | refine blk_alloc ?_ _)); refine blk_far ?_ NB135_141.out _; (with_reducible repeat (first | refine blk_drewN ?_ _ | refine blk_drew ?_ | refine blk_alloc ?_ _)); refine blk_far ?_ NB135_141.out _; (with_reducible repeat (first | refine blk_drewN ?_ _ | refine blk_drew ?_ | refine blk_alloc ?_ _)); exact BK135.out) hb); have n1_ := Aside0.mk (blk_below (g := gb137) (o := .cells #[.string ((rd_T45 l0_1 x24_1).f0), .int .i64 ((rd_T45 l0_1 x24_1).f1), .slice A136_2 ((rd_T45 l0_1 x24_1).f2).length c136_2, .slice (some ad140) ((rd_T45 l0_1 x24_1).f3).length c136_3] 45 (0, 0)) (by (with_reducible repeat (first | refine blk_drewN ?_ _ | refine blk_drew ?_ | refine blk_alloc ?_ _)); refine blk_far ?_ NB137_141.out _; (with_reducible repeat (first | refine blk_drewN ?_ _ | refine blk_drew ?_ | refine blk_alloc ?_ _)); refine blk_far ?_ NB137_141.out _; (with_reducible repeat (first | refine blk_drewN ?_ _ | refine blk_drew ?_ | refine blk_alloc ?_ _)); refine blk_far ?_ NB137_141.out _; (with_reducible repeat (first | refine blk_drewN ?_ _ | refine blk_drew ?_ | refine blk_alloc ?_ _)); refine blk_far ?_ NB137_141.out _; (with_reducible repeat (first | refine blk_drewN ?_ _ | refine blk_drew ?_ | refine blk_alloc ?_ _)); refine blk_far ?_ NB137_141.out _; (with_reducible repeat (first | refine blk_drewN ?_ _ | refine blk_drew ?_ | refine blk_alloc ?_ _)); refine blk_far ?_ NB137_141.out _; (with_reducible repeat (first | refine blk_drewN ?_ _ | refine blk_drew ?_ | refine blk_alloc ?_ _)); exact BK137.out) hb); have n2_ := Aside0.mk (blk_below (g := gb141) (o := .cells #[.int .i64 ((rd_T72 ((rd_T45 l0_1 x24_1).f3) x61_3).f0), .int .i64 ((rd_T72 ((rd_T45 l0_1 x24_1).f3) x61_3).f1), .int .i64 ((rd_T72 ((rd_T45 l0_1 x24_1).f3) x61_3).f2.f0), .int .i64 ((rd_T72 ((rd_T45 l0_1 x24_1).f3) x61_3).f2.f1), .string ((rd_T72 ((rd_T45 l0_1 x24_1).f3) x61_3).f2.f2), .slice A140_5 ((rd_T72 ((rd_T45 l0_1 x24_1).f3) x61_3).f3).length c140_5] 72 (0, 0)) (by (with_reducible repeat (first | refine blk_drewN ?_ _ | refine blk_drew ?_ | refine blk_alloc ?_ _)); refine blk_put (cs := #[.int .i64 ((rd_T72 ((rd_T45 l0_1 x24_1).f3) x61_3).f0), .int .i64 ((rd_T72 ((rd_T45 l0_1 x24_1).f3) x61_3).f1), .int .i64 ((rd_T72 ((rd_T45 l0_1 x24_1).f3) x61_3).f2.f0), .int .i64 ((rd_T72 ((rd_T45 l0_1 x24_1).f3) x61_3).f2.f1), .string ((rd_T72 ((rd_T45 l0_1 x24_1).f3) x61_3).f2.f2), .slice none 0 0]) ?_ 5 _ rfl; (with_reducible repeat (first | refine blk_drewN ?_ _ | refine blk_drew ?_ | refine blk_alloc ?_ _)); refine blk_put (cs := #[.int .i64 ((rd_T72 ((rd_T45 l0_1 x24_1).f3) x61_3).f0), .int .i64 ((rd_T72 ((rd_T45 l0_1 x24_1).f3) x61_3).f1), .int .i64 ((rd_T72 ((rd_T45 l0_1 x24_1).f3) x61_3).f2.f0), .int .i64 ((rd_T72 ((rd_T45 l0_1 x24_1).f3) x61_3).f2.f1), .string (⟨#[]⟩ : ByteArray), .slice none 0 0]) ?_ 4 _ rfl; (with_reducible repeat (first | refine blk_drewN ?_ _ | refine blk_drew ?_ | refine blk_alloc ?_ _)); refine blk_put (cs := #[.int .i64 ((rd_T72 ((rd_T45 l0_1 x24_1).f3) x61_3).f0), .int .i64 ((rd_T72 ((rd_T45 l0_1 x24_1).f3) x61_3).f1), .int .i64 ((rd_T72 ((rd_T45 l0_1 x24_1).f3) x61_3).f2.f0), .int .i64 0, .string (⟨#[]⟩ : ByteArray), .slice none 0 0]) ?_ 3 _ rfl; (with_reducible repeat (first | refine blk_drewN ?_ _ | refine blk_drew ?_ | refine blk_alloc ?_ _)); refine blk_put (cs := #[.int .i64 ((rd_T72 ((rd_T45 l0_1 x24_1).f3) x61_3).f0), .int .i64 ((rd_T72 ((rd_T45 l0_1 x24_1).f3) x61_3).f1), .int .i64 0, .int .i64 0, .string (⟨#[]⟩ : ByteArray), .slice none 0 0]) ?_ 2 _ rfl; (with_reducible repeat (first | refine blk_drewN ?_ _ | refine blk_drew ?_ | refine blk_alloc ?_ _)); refine blk_put (cs := #[.int .i64 ((rd_T72 ((rd_T45 l0_1 x24_1).f3) x61_3).f0), .int .i64 0, .int .i64 0, .int .i64 0, .string (⟨#[]⟩ : ByteArray), .slice none 0 0]) ?_ 1 _ rfl; (with_reducible repeat (first | refine blk_drewN ?_ _ | refine blk_drew ?_ | refine blk_alloc ?_ _)); refine blk_put (cs := #[.int .i64 0, .int .i64 0, .int .i64 0, .int .i64 0, .string (⟨#[]⟩ : ByteArray), .slice none 0 0]) ?_ 0 _ rfl; (with_reducible repeat (first | refine blk_drewN ?_ _ | refine blk_drew ?_ | refine blk_alloc ?_ _)); exact BK141.out) hb); have n3_ := Aside0.mk (below_step (by repeat (first | (with_reducible first | exact HB.out | apply below_alloc | apply pw_below_drewN | apply below_drew1 | refine below_set ?_ GE135.out | refine below_set ?_ GE137.out | refine below_set ?_ GE141.out) | exact HB.out)) hb); clear BK135; clear BK137; clear BK141; clear HB; have BK135 := n0_; have BK137 := n1_; have BK141 := n2_; have HB := n3_; clear n0_ n1_ n2_ n3_; (try clear hb); (try clear hb2); (try clear hk); (try clear hi)))
                                go_ret
                                exact ⟨by first | rfl | (simp [errW_none, errW_some] <;> rfl) | (simp [*, errW_none, errW_some] <;> rfl), by repeat (first | (with_reducible first | exact HB.out | apply below_alloc | apply pw_below_drewN | apply below_drew1 | refine below_set ?_ GE135.out | refine below_set ?_ GE137.out | refine below_set ?_ GE141.out) | exact HB.out)⟩
                              · replace c26 := Bool.eq_false_iff.mpr c26
                                subst c26
                                have H1 : (mortmainref09_Great.l2 k3 x3_2 l0_1 (l0_1.length : Int) x24_1 ((rd_T45 l0_1 x24_1).f3) (((rd_T45 l0_1 x24_1).f3).length : Int) (wrap64 (x61_3 + 1)) a0_0 l0_1 l0_2) = some r := by rw [if_neg (show ¬ (false = true) by decide)] at H; exact H
                                clear H
                                have H := H1
                                clear H1
                                have H' := Aside0.mk H
                                clear H
                                have p140 : 0 ≤ (x61_3 : Int) := of_decide_eq_true (by first | (with_reducible assumption) | assumption)
                                have q140 : x61_3 < (((rd_T45 l0_1 x24_1).f3).length : Int) := of_decide_eq_true (by first | (with_reducible assumption) | assumption)
                                obtain ⟨ad140, A140_5, c140_5, e140, hx140_0, hx140_1, hx140_2, hx140_3, hx140_4, hx140_5, hl140_5, hi140_5⟩ := at_T72 HR136_3.out x61_3 p140 q140
                                cases e140
                                replace hx140_0 := (HB.out.cell (World.block_lt_of_cell? w _ hx140_0)).trans hx140_0
                                replace hx140_1 := (HB.out.cell (World.block_lt_of_cell? w _ hx140_1)).trans hx140_1
                                replace hx140_2 := (HB.out.cell (World.block_lt_of_cell? w _ hx140_2)).trans hx140_2
                                replace hx140_3 := (HB.out.cell (World.block_lt_of_cell? w _ hx140_3)).trans hx140_3
                                replace hx140_4 := (HB.out.cell (World.block_lt_of_cell? w _ hx140_4)).trans hx140_4
                                replace hx140_5 := (HB.out.cell (World.block_lt_of_cell? w _ hx140_5)).trans hx140_5
                                have HR140_5 := Aside0.mk hi140_5
                                have HC140_5 := Aside0.mk hl140_5
                                clear hi140_5 hl140_5
                                replace p140 := eq_true p140
                                replace q140 := eq_true q140
                                go_wp2_with (first | ((with_reducible refine gate_dst (N := 9) rfl ?_); refine box_event ?hg (N := 9) ?hd (cs := #[.int .i64 0, .int .i64 0, .int .i64 0, .int .i64 0, .string (⟨#[]⟩ : ByteArray), .slice none 0 0]) (t := 72) ?hr ?_; (case hd => rfl); (case hg => rfl); (case hr => first | (go_simp; done) | (go_simp; rfl)); intro gb141 hg w32 hbox hb; have n0_ := Aside0.mk (blk_below (g := gb135) (o := .cells #[.int .i64 a0_0, .slice (some ad136) l0_1.length c0_1, .slice A0_2 l0_2.length c0_2] 25 (0, 0)) (by (with_reducible repeat (first | refine blk_drewN ?_ _ | refine blk_drew ?_ | refine blk_alloc ?_ _)); exact BK135.out) hb); have n1_ := Aside0.mk (blk_below (g := gb137) (o := .cells #[.string ((rd_T45 l0_1 x24_1).f0), .int .i64 ((rd_T45 l0_1 x24_1).f1), .slice A136_2 ((rd_T45 l0_1 x24_1).f2).length c136_2, .slice (some ad140) ((rd_T45 l0_1 x24_1).f3).length c136_3] 45 (0, 0)) (by (with_reducible repeat (first | refine blk_drewN ?_ _ | refine blk_drew ?_ | refine blk_alloc ?_ _)); exact BK137.out) hb); have n2_ := Aside0.mk (below_step (by repeat (first | (with_reducible first | exact HB.out | apply below_alloc | apply pw_below_drewN | apply below_drew1 | refine below_set ?_ GE135.out | refine below_set ?_ GE137.out) | exact HB.out)) hb); have n3_ := Aside0.mk (hbox); have n4_ := Aside0.mk ((by rw [hg]; exact (below_size (by repeat (first | (with_reducible first | exact HB.out | apply below_alloc | apply pw_below_drewN | apply below_drew1 | refine below_set ?_ GE135.out | refine below_set ?_ GE137.out) | exact HB.out))) : w.heap.size ≤ gb141)); have n5_ := Aside0.mk ((by rw [hg]; exact (below_size (by repeat (first | (with_reducible first | exact HB.out | apply below_alloc | apply pw_below_drewN | apply below_drew1 | refine below_set ?_ GE135.out | refine below_set ?_ GE137.out) | exact HB.out))) : w.heap.size ≤ gb141)); have n6_ := Aside0.mk ((by rw [hg]; exact Nat.ne_of_lt (blk_lt (g := gb135) (o := .cells #[.int .i64 a0_0, .slice (some ad136) l0_1.length c0_1, .slice A0_2 l0_2.length c0_2] 25 (0, 0)) (by (with_reducible repeat (first | refine blk_drewN ?_ _ | refine blk_drew ?_ | refine blk_alloc ?_ _)); exact BK135.out)) : gb135 ≠ gb141)); have n7_ := Aside0.mk ((by rw [hg]; exact Nat.ne_of_gt (blk_lt (g := gb135) (o := .cells #[.int .i64 a0_0, .slice (some ad136) l0_1.length c0_1, .slice A0_2 l0_2.length c0_2] 25 (0, 0)) (by (with_reducible repeat (first | refine blk_drewN ?_ _ | refine blk_drew ?_ | refine blk_alloc ?_ _)); exact BK135.out)) : gb141 ≠ gb135)); have n8_ := Aside0.mk ((by rw [hg]; exact Nat.ne_of_lt (blk_lt (g := gb137) (o := .cells #[.string ((rd_T45 l0_1 x24_1).f0), .int .i64 ((rd_T45 l0_1 x24_1).f1), .slice A136_2 ((rd_T45 l0_1 x24_1).f2).length c136_2, .slice (some ad140) ((rd_T45 l0_1 x24_1).f3).length c136_3] 45 (0, 0)) (by (with_reducible repeat (first | refine blk_drewN ?_ _ | refine blk_drew ?_ | refine blk_alloc ?_ _)); exact BK137.out)) : gb137 ≠ gb141)); have n9_ := Aside0.mk ((by rw [hg]; exact Nat.ne_of_gt (blk_lt (g := gb137) (o := .cells #[.string ((rd_T45 l0_1 x24_1).f0), .int .i64 ((rd_T45 l0_1 x24_1).f1), .slice A136_2 ((rd_T45 l0_1 x24_1).f2).length c136_2, .slice (some ad140) ((rd_T45 l0_1 x24_1).f3).length c136_3] 45 (0, 0)) (by (with_reducible repeat (first | refine blk_drewN ?_ _ | refine blk_drew ?_ | refine blk_alloc ?_ _)); exact BK137.out)) : gb141 ≠ gb137)); clear BK135; clear BK137; clear HB; have BK135 := n0_; have BK137 := n1_; have HB := n2_; have BK141 := n3_; have GW141 := n4_; have GE141 := n5_; have NB135_141 := n6_; have NB141_135 := n7_; have NB137_141 := n8_; have NB141_137 := n9_; clear n0_ n1_ n2_ n3_ n4_ n5_ n6_ n7_ n8_ n9_; clear hb hbox hg; have hnb33 := NB141_135.out; have hnc33 := NB135_141.out; have hnb34 := NB141_137.out; have hnc34 := NB137_141.out; have hcz35_0 : w32.cell? ⟨gb141, 0, none⟩ = some (.int .i64 0) := (blk_cell BK141.out 0).trans rfl; have hcz35_1 : w32.cell? ⟨gb141, 1, none⟩ = some (.int .i64 0) := (blk_cell BK141.out 1).trans rfl; have hcz35_2 : w32.cell? ⟨gb141, 2, none⟩ = some (.int .i64 0) := (blk_cell BK141.out 2).trans rfl; have hcz35_3 : w32.cell? ⟨gb141, 3, none⟩ = some (.int .i64 0) := (blk_cell BK141.out 3).trans rfl; have hcz35_4 : w32.cell? ⟨gb141, 4, none⟩ = some (.string (⟨#[]⟩ : ByteArray)) := (blk_cell BK141.out 4).trans rfl; have hcz35_5 : w32.cell? ⟨gb141, 5, none⟩ = some (.slice none 0 0) := (blk_cell BK141.out 5).trans rfl; have hfz35_0 := blk_frozen BK141.out 0; have hfz35_1 := blk_frozen BK141.out 1; have hfz35_2 := blk_frozen BK141.out 2; have hfz35_3 := blk_frozen BK141.out 3; have hfz35_4 := blk_frozen BK141.out 4; have hfz35_5 := blk_frozen BK141.out 5) | ((with_reducible refine gate_callee (f := 45) rfl ?_); refine goesL_ (some 66) rfl rfl Tryd.func45 (by kernel_rfl) rfl #[.agg #[.int .i64 ((rd_T72 ((rd_T45 l0_1 x24_1).f3) x61_3).f0), .int .i64 ((rd_T72 ((rd_T45 l0_1 x24_1).f3) x61_3).f1), .int .i64 ((rd_T72 ((rd_T45 l0_1 x24_1).f3) x61_3).f2.f0), .int .i64 ((rd_T72 ((rd_T45 l0_1 x24_1).f3) x61_3).f2.f1), .string ((rd_T72 ((rd_T45 l0_1 x24_1).f3) x61_3).f2.f2), .slice A140_5 ((rd_T72 ((rd_T45 l0_1 x24_1).f3) x61_3).f3).length c140_5]] rfl (by (try simp only [List.map_toArray, List.map_cons, List.map_nil]); first | done | rfl | (simp only [List.length_drop, List.length_take]; rfl)) ?_; (with_reducible refine (mortmainref08_Great.calls k3 ((rd_T72 ((rd_T45 l0_1 x24_1).f3) x61_3).f0) ((rd_T72 ((rd_T45 l0_1 x24_1).f3) x61_3).f1) ((rd_T72 ((rd_T45 l0_1 x24_1).f3) x61_3).f2.f0) ((rd_T72 ((rd_T45 l0_1 x24_1).f3) x61_3).f2.f1) ((rd_T72 ((rd_T45 l0_1 x24_1).f3) x61_3).f2.f2) _ _ ((rd_T72 ((rd_T45 l0_1 x24_1).f3) x61_3).f3) false _ ?side1 ?side2 A25.out).mono ?_); (case side1 => exact Kd.C_below HR140_5.out (by repeat (first | (with_reducible first | exact HB.out | apply below_alloc | apply pw_below_drewN | apply below_drew1 | refine below_set ?_ GE135.out | refine below_set ?_ GE137.out | refine below_set ?_ GE141.out) | exact HB.out))); (case side2 => exact HC140_5.out); rintro e w36 ⟨rfl, hb⟩; refine ⟨_, rfl, ?_⟩; have n0_ := Aside0.mk (blk_below (g := gb135) (o := .cells #[.int .i64 a0_0, .slice (some ad136) l0_1.length c0_1, .slice A0_2 l0_2.length c0_2] 25 (0, 0)) (by (with_reducible repeat (first | refine blk_drewN ?_ _ | refine blk_drew ?_ | refine blk_alloc ?_ _)); refine blk_far ?_ NB135_141.out _; (with_reducible repeat (first | refine blk_drewN ?_ _ | refine blk_drew ?_ | refine blk_alloc ?_ _)); refine blk_far ?_ NB135_141.out _; (with_reducible repeat (first | refine blk_drewN ?_ _ | refine blk_drew ?_ | refine blk_alloc ?_ _)); refine blk_far ?_ NB135_141.out _; (with_reducible repeat (first | refine blk_drewN ?_ _ | refine blk_drew ?_ | refine blk_alloc ?_ _)); refine blk_far ?_ NB135_141.out _; (with_reducible repeat (first | refine blk_drewN ?_ _ | refine blk_drew ?_ | refine blk_alloc ?_ _)); refine blk_far ?_ NB135_141.out _; (with_reducible repeat (first | refine blk_drewN ?_ _ | refine blk_drew ?_ | refine blk_alloc ?_ _)); refine blk_far ?_ NB135_141.out _; (with_reducible repeat (first | refine blk_drewN ?_ _ | refine blk_drew ?_ | refine blk_alloc ?_ _)); exact BK135.out) hb); have n1_ := Aside0.mk (blk_below (g := gb137) (o := .cells #[.string ((rd_T45 l0_1 x24_1).f0), .int .i64 ((rd_T45 l0_1 x24_1).f1), .slice A136_2 ((rd_T45 l0_1 x24_1).f2).length c136_2, .slice (some ad140) ((rd_T45 l0_1 x24_1).f3).length c136_3] 45 (0, 0)) (by (with_reducible repeat (first | refine blk_drewN ?_ _ | refine blk_drew ?_ | refine blk_alloc ?_ _)); refine blk_far ?_ NB137_141.out _; (with_reducible repeat (first | refine blk_drewN ?_ _ | refine blk_drew ?_ | refine blk_alloc ?_ _)); refine blk_far ?_ NB137_141.out _; (with_reducible repeat (first | refine blk_drewN ?_ _ | refine blk_drew ?_ | refine blk_alloc ?_ _)); refine blk_far ?_ NB137_141.out _; (with_reducible repeat (first | refine blk_drewN ?_ _ | refine blk_drew ?_ | refine blk_alloc ?_ _)); refine blk_far ?_ NB137_141.out _; (with_reducible repeat (first | refine blk_drewN ?_ _ | refine blk_drew ?_ | refine blk_alloc ?_ _)); refine blk_far ?_ NB137_141.out _; (with_reducible repeat (first | refine blk_drewN ?_ _ | refine blk_drew ?_ | refine blk_alloc ?_ _)); refine blk_far ?_ NB137_141.out _; (with_reducible repeat (first | refine blk_drewN ?_ _ | refine blk_drew ?_ | refine blk_alloc ?_ _)); exact BK137.out) hb); have n2_ := Aside0.mk (blk_below (g := gb141) (o := .cells #[.int .i64 ((rd_T72 ((rd_T45 l0_1 x24_1).f3) x61_3).f0), .int .i64 ((rd_T72 ((rd_T45 l0_1 x24_1).f3) x61_3).f1), .int .i64 ((rd_T72 ((rd_T45 l0_1 x24_1).f3) x61_3).f2.f0), .int .i64 ((rd_T72 ((rd_T45 l0_1 x24_1).f3) x61_3).f2.f1), .string ((rd_T72 ((rd_T45 l0_1 x24_1).f3) x61_3).f2.f2), .slice A140_5 ((rd_T72 ((rd_T45 l0_1 x24_1).f3) x61_3).f3).length c140_5] 72 (0, 0)) (by (with_reducible repeat (first | refine blk_drewN ?_ _ | refine blk_drew ?_ | refine blk_alloc ?_ _)); refine blk_put (cs := #[.int .i64 ((rd_T72 ((rd_T45 l0_1 x24_1).f3) x61_3).f0), .int .i64 ((rd_T72 ((rd_T45 l0_1 x24_1).f3) x61_3).f1), .int .i64 ((rd_T72 ((rd_T45 l0_1 x24_1).f3) x61_3).f2.f0), .int .i64 ((rd_T72 ((rd_T45 l0_1 x24_1).f3) x61_3).f2.f1), .string ((rd_T72 ((rd_T45 l0_1 x24_1).f3) x61_3).f2.f2), .slice none 0 0]) ?_ 5 _ rfl; (with_reducible repeat (first | refine blk_drewN ?_ _ | refine blk_drew ?_ | refine blk_alloc ?_ _)); refine blk_put (cs := #[.int .i64 ((rd_T72 ((rd_T45 l0_1 x24_1).f3) x61_3).f0), .int .i64 ((rd_T72 ((rd_T45 l0_1 x24_1).f3) x61_3).f1), .int .i64 ((rd_T72 ((rd_T45 l0_1 x24_1).f3) x61_3).f2.f0), .int .i64 ((rd_T72 ((rd_T45 l0_1 x24_1).f3) x61_3).f2.f1), .string (⟨#[]⟩ : ByteArray), .slice none 0 0]) ?_ 4 _ rfl; (with_reducible repeat (first | refine blk_drewN ?_ _ | refine blk_drew ?_ | refine blk_alloc ?_ _)); refine blk_put (cs := #[.int .i64 ((rd_T72 ((rd_T45 l0_1 x24_1).f3) x61_3).f0), .int .i64 ((rd_T72 ((rd_T45 l0_1 x24_1).f3) x61_3).f1), .int .i64 ((rd_T72 ((rd_T45 l0_1 x24_1).f3) x61_3).f2.f0), .int .i64 0, .string (⟨#[]⟩ : ByteArray), .slice none 0 0]) ?_ 3 _ rfl; (with_reducible repeat (first | refine blk_drewN ?_ _ | refine blk_drew ?_ | refine blk_alloc ?_ _)); refine blk_put (cs := #[.int .i64 ((rd_T72 ((rd_T45 l0_1 x24_1).f3) x61_3).f0), .int .i64 ((rd_T72 ((rd_T45 l0_1 x24_1).f3) x61_3).f1), .int .i64 0, .int .i64 0, .string (⟨#[]⟩ : ByteArray), .slice none 0 0]) ?_ 2 _ rfl; (with_reducible repeat (first | refine blk_drewN ?_ _ | refine blk_drew ?_ | refine blk_alloc ?_ _)); refine blk_put (cs := #[.int .i64 ((rd_T72 ((rd_T45 l0_1 x24_1).f3) x61_3).f0), .int .i64 0, .int .i64 0, .int .i64 0, .string (⟨#[]⟩ : ByteArray), .slice none 0 0]) ?_ 1 _ rfl; (with_reducible repeat (first | refine blk_drewN ?_ _ | refine blk_drew ?_ | refine blk_alloc ?_ _)); refine blk_put (cs := #[.int .i64 0, .int .i64 0, .int .i64 0, .int .i64 0, .string (⟨#[]⟩ : ByteArray), .slice none 0 0]) ?_ 0 _ rfl; (with_reducible repeat (first | refine blk_drewN ?_ _ | refine blk_drew ?_ | refine blk_alloc ?_ _)); exact BK141.out) hb); have n3_ := Aside0.mk (below_step (by repeat (first | (with_reducible first | exact HB.out | apply below_alloc | apply pw_below_drewN | apply below_drew1 | refine below_set ?_ GE135.out | refine below_set ?_ GE137.out | refine below_set ?_ GE141.out) | exact HB.out)) hb); clear BK135; clear BK137; clear BK141; clear HB; have BK135 := n0_; have BK137 := n1_; have BK141 := n2_; have HB := n3_; clear n0_ n1_ n2_ n3_; (try clear hb); (try clear hb2); (try clear hk); (try clear hi)))
                                go_roundg k3
                                case measure => have := HK1.out; have := HK2.out; have := HK3.out; omega
                                case rel => exact ⟨(wrap64 (x61_3 + 1)), (by first | rfl | (simp; done) | (simp [*]; done)), H', ⟨by have := HK1.out; have := HK2.out; have := HK3.out; omega⟩, ⟨by (with_reducible repeat (first | refine blk_drewN ?_ _ | refine blk_drew ?_ | refine blk_alloc ?_ _)); exact BK135.out⟩, ⟨by (with_reducible repeat (first | refine blk_drewN ?_ _ | refine blk_drew ?_ | refine blk_alloc ?_ _)); exact BK137.out⟩, ⟨by repeat (first | (with_reducible first | exact HB.out | apply below_alloc | apply pw_below_drewN | apply below_drew1 | refine below_set ?_ GE135.out | refine below_set ?_ GE137.out | refine below_set ?_ GE141.out) | exact HB.out)⟩⟩
                            · rw [if_neg c24] at H
                              exact absurd H (by simp)
                          · rw [if_neg c23] at H
                            exact absurd H (by simp)
                        · rw [if_neg c22] at H
                          have c22b0 : decide (x61_3 < (((rd_T45 l0_1 x24_1).f3).length : Int)) = false := decide_eq_false c22
                          clear c22
                          by_cases c37 : x3_2 > 3000
                          · rw [if_pos c37] at H
                            have c37b0 : decide (3000 < x3_2) = true := decide_eq_true c37
                            clear c37
                            obtain rfl := Option.some.inj H
                            go_wp2
                            go_ret
                            exact ⟨by first | rfl | (simp [errW_none, errW_some] <;> rfl) | (simp [*, errW_none, errW_some] <;> rfl), by repeat (first | (with_reducible first | exact HB.out | apply below_alloc | apply pw_below_drewN | apply below_drew1 | refine below_set ?_ GE135.out | refine below_set ?_ GE137.out) | exact HB.out)⟩
                          · rw [if_neg c37] at H
                            have c37b0 : decide (3000 < x3_2) = false := decide_eq_false c37
                            clear c37
                            have H' := Aside0.mk H
                            clear H
                            go_wp2
                            go_roundg k3
                            case measure => have := HK1.out; have := HK2.out; have := HK3.out; omega
                            case rel => exact ⟨(x3_2), (wrap64 (x24_1 + 1)), (by first | rfl | (simp; done) | (simp [*]; done)), (by first | rfl | (simp; done) | (simp [*]; done)), H', ⟨by have := HK1.out; have := HK2.out; have := HK3.out; omega⟩, ⟨by (with_reducible repeat (first | refine blk_drewN ?_ _ | refine blk_drew ?_ | refine blk_alloc ?_ _)); exact BK135.out⟩, ⟨by repeat (first | (with_reducible first | exact HB.out | apply below_alloc | apply pw_below_drewN | apply below_drew1 | refine below_set ?_ GE135.out | refine below_set ?_ GE137.out) | exact HB.out)⟩⟩
            · rw [if_neg c9] at H
              exact absurd H (by simp)
          · rw [if_neg c8] at H
            exact absurd H (by simp)
        · rw [if_neg c7] at H
          have c7b0 : decide (x24_1 < (l0_1.length : Int)) = false := decide_eq_false c7
          clear c7
          have H' := Aside0.mk H
          clear H
          have hcz38_0 : wr.cell? ⟨gb135, 0, none⟩ = some (.int .i64 a0_0) := (blk_cell BK135.out 0).trans rfl
          have hcz38_1 : wr.cell? ⟨gb135, 1, none⟩ = some (.slice A0_1 l0_1.length c0_1) := (blk_cell BK135.out 1).trans rfl
          have hcz38_2 : wr.cell? ⟨gb135, 2, none⟩ = some (.slice A0_2 l0_2.length c0_2) := (blk_cell BK135.out 2).trans rfl
          have hfz38_0 := blk_frozen BK135.out 0
          have hfz38_1 := blk_frozen BK135.out 1
          have hfz38_2 := blk_frozen BK135.out 2
          go_wp2
          go_loopg [3, 74] k1 (fun kq v3 v74 w' => ∃ (x3_2 : Int) (x74_2 : Int), v3 = .int .i64 x3_2 ∧ v74 = .int .i64 x74_2 ∧ Aside0 (mortmainref09_Great.l3 kq x3_2 l0_2 (l0_2.length : Int) x74_2 = some r) ∧ Aside0 (kq ≤ k1) ∧ Aside0 (w'.heap[gb135]? = some (.cells #[.int .i64 a0_0, (.slice A0_1 l0_1.length c0_1), (.slice A0_2 l0_2.length c0_2)] 25 (0, 0))) ∧ Aside0 (Below w.heap.size w w'))
          case atStart => exact ⟨(x3_1), (0), (by first | rfl | (simp; done) | (simp [*]; done)), (by first | rfl | (simp; done) | (simp [*]; done)), H', ⟨Nat.le_refl _⟩, ⟨by (with_reducible repeat (first | refine blk_drewN ?_ _ | refine blk_drew ?_ | refine blk_alloc ?_ _)); exact BK135.out⟩, ⟨by repeat (first | (with_reducible first | exact HB.out | apply below_alloc | apply pw_below_drewN | apply below_drew1 | refine below_set ?_ GE135.out) | exact HB.out)⟩⟩
          case round =>
            clear H'
            try clear c1
            try clear p1
            try clear q1
            try clear hx1
            try clear c2
            try clear c2b0
            try clear p2
            try clear c3
            try clear c4
            try clear p6
            try clear c7
            try clear c7b0
            try clear c8
            try clear c8b0
            try clear c9
            try clear c9b0
            try clear c11
            try clear c13
            try clear c13b0
            try clear p13
            try clear q13
            try clear hx13
            try clear c14
            try clear c14b0
            try clear p14
            try clear q14
            try clear hx14
            try clear c15
            try clear c15b0
            try clear c17
            try clear c18
            try clear c20
            try clear c22
            try clear c22b0
            try clear c23
            try clear c23b0
            try clear c24
            try clear c24b0
            try clear c26
            try clear c28
            try clear c29
            try clear c33
            try clear c34
            try clear c37
            try clear c37b0
            try clear hcz12_0
            try clear hcz12_1
            try clear hcz12_2
            try clear hcz12_3
            try clear hcz19_0
            try clear hcz19_1
            try clear hcz19_2
            try clear hcz19_3
            try clear hcz19_4
            try clear hcz19_5
            try clear hcz21_0
            try clear hcz21_1
            try clear hcz21_2
            try clear hcz21_3
            try clear hcz30_0
            try clear hcz30_1
            try clear hcz30_2
            try clear hcz30_3
            try clear hcz30_4
            try clear hcz30_5
            try clear hcz35_0
            try clear hcz35_1
            try clear hcz35_2
            try clear hcz35_3
            try clear hcz35_4
            try clear hcz35_5
            try clear hcz38_0
            try clear hcz38_1
            try clear hcz38_2
            try clear hcz4_0
            try clear hcz4_1
            try clear hcz4_2
            try clear hcz6_0
            try clear hcz6_1
            try clear hcz6_2
            try clear hfz12_0
            try clear hfz12_1
            try clear hfz12_2
            try clear hfz12_3
            try clear hfz19_0
            try clear hfz19_1
            try clear hfz19_2
            try clear hfz19_3
            try clear hfz19_4
            try clear hfz19_5
            try clear hfz21_0
            try clear hfz21_1
            try clear hfz21_2
            try clear hfz21_3
            try clear hfz30_0
            try clear hfz30_1
            try clear hfz30_2
            try clear hfz30_3
            try clear hfz30_4
            try clear hfz30_5
            try clear hfz35_0
            try clear hfz35_1
            try clear hfz35_2
            try clear hfz35_3
            try clear hfz35_4
            try clear hfz35_5
            try clear hfz38_0
            try clear hfz38_1
            try clear hfz38_2
            try clear hfz4_0
            try clear hfz4_1
            try clear hfz4_2
            try clear hfz6_0
            try clear hfz6_1
            try clear hfz6_2
            try clear hx136_0
            try clear hx136_1
            try clear hx136_2
            try clear hx136_3
            try clear hx138_0
            try clear hx138_1
            try clear hx138_2
            try clear hx138_3
            try clear hx138_4
            try clear hx138_5
            try clear hx140_0
            try clear hx140_1
            try clear hx140_2
            try clear hx140_3
            try clear hx140_4
            try clear hx140_5
            try clear p1
            try clear p13
            try clear p136
            try clear p138
            try clear p140
            try clear p2
            try clear p6
            try clear q1
            try clear q13
            try clear q136
            try clear q138
            try clear q140
            obtain ⟨x3_2, x74_2, rfl, rfl, HA, HK2, BK135, HB⟩ := hrel
            cases gk with
            | zero => exact absurd HA.out (by simp [mortmainref09_Great.l3])
            | succ k2 =>
              have H := HA.out
              clear HA
              simp only [mortmainref09_Great.l3] at H
              by_cases c39 : x74_2 < (l0_2.length : Int)
              · rw [if_pos c39] at H
                have c39b0 : decide (x74_2 < (l0_2.length : Int)) = true := decide_eq_true c39
                clear c39
                by_cases c40 : 0 ≤ x74_2
                · rw [if_pos c40] at H
                  have c40b0 : decide (0 ≤ x74_2) = true := decide_eq_true c40
                  clear c40
                  by_cases c41 : x74_2 < (l0_2.length : Int)
                  · rw [if_pos c41] at H
                    have c41b0 : decide (x74_2 < (l0_2.length : Int)) = true := decide_eq_true c41
                    clear c41
                    have H' := Aside0.mk H
                    clear H
                    have p143 : 0 ≤ (x74_2 : Int) := of_decide_eq_true (by first | (with_reducible assumption) | assumption)
                    have q143 : x74_2 < (l0_2.length : Int) := of_decide_eq_true (by first | (with_reducible assumption) | assumption)
                    obtain ⟨ad143, e143, hx143_0, hx143_1, hx143_2⟩ := at_T27 HR0_2.out x74_2 p143 q143
                    cases e143
                    replace hx143_0 := (HB.out.cell (World.block_lt_of_cell? w _ hx143_0)).trans hx143_0
                    replace hx143_1 := (HB.out.cell (World.block_lt_of_cell? w _ hx143_1)).trans hx143_1
                    replace hx143_2 := (HB.out.cell (World.block_lt_of_cell? w _ hx143_2)).trans hx143_2
                    replace p143 := eq_true p143
                    replace q143 := eq_true q143
                    go_wp2_with (first | ((with_reducible refine gate_dst (N := 11) rfl ?_); refine box_event ?hg (N := 11) ?hd (cs := #[.int .i64 0, .string (⟨#[]⟩ : ByteArray), .int .i64 0]) (t := 27) ?hr ?_; (case hd => rfl); (case hg => rfl); (case hr => first | (go_simp; done) | (go_simp; rfl)); intro gb144 hg w42 hbox hb; have n0_ := Aside0.mk (blk_below (g := gb135) (o := .cells #[.int .i64 a0_0, .slice A0_1 l0_1.length c0_1, .slice (some ad143) l0_2.length c0_2] 25 (0, 0)) (by (with_reducible repeat (first | refine blk_drewN ?_ _ | refine blk_drew ?_ | refine blk_alloc ?_ _)); exact BK135.out) hb); have n1_ := Aside0.mk (below_step (by repeat (first | (with_reducible first | exact HB.out | apply below_alloc | apply pw_below_drewN | apply below_drew1 | refine below_set ?_ GE135.out) | exact HB.out)) hb); have n2_ := Aside0.mk (hbox); have n3_ := Aside0.mk ((by rw [hg]; exact (below_size (by repeat (first | (with_reducible first | exact HB.out | apply below_alloc | apply pw_below_drewN | apply below_drew1 | refine below_set ?_ GE135.out) | exact HB.out))) : w.heap.size ≤ gb144)); have n4_ := Aside0.mk ((by rw [hg]; exact (below_size (by repeat (first | (with_reducible first | exact HB.out | apply below_alloc | apply pw_below_drewN | apply below_drew1 | refine below_set ?_ GE135.out) | exact HB.out))) : w.heap.size ≤ gb144)); have n5_ := Aside0.mk ((by rw [hg]; exact Nat.ne_of_lt (blk_lt (g := gb135) (o := .cells #[.int .i64 a0_0, .slice A0_1 l0_1.length c0_1, .slice (some ad143) l0_2.length c0_2] 25 (0, 0)) (by (with_reducible repeat (first | refine blk_drewN ?_ _ | refine blk_drew ?_ | refine blk_alloc ?_ _)); exact BK135.out)) : gb135 ≠ gb144)); have n6_ := Aside0.mk ((by rw [hg]; exact Nat.ne_of_gt (blk_lt (g := gb135) (o := .cells #[.int .i64 a0_0, .slice A0_1 l0_1.length c0_1, .slice (some ad143) l0_2.length c0_2] 25 (0, 0)) (by (with_reducible repeat (first | refine blk_drewN ?_ _ | refine blk_drew ?_ | refine blk_alloc ?_ _)); exact BK135.out)) : gb144 ≠ gb135)); clear BK135; clear HB; have BK135 := n0_; have HB := n1_; have BK144 := n2_; have GW144 := n3_; have GE144 := n4_; have NB135_144 := n5_; have NB144_135 := n6_; clear n0_ n1_ n2_ n3_ n4_ n5_ n6_; clear hb hbox hg; have hnb43 := NB144_135.out; have hnc43 := NB135_144.out; have hcz44_0 : w42.cell? ⟨gb144, 0, none⟩ = some (.int .i64 0) := (blk_cell BK144.out 0).trans rfl; have hcz44_1 : w42.cell? ⟨gb144, 1, none⟩ = some (.string (⟨#[]⟩ : ByteArray)) := (blk_cell BK144.out 1).trans rfl; have hcz44_2 : w42.cell? ⟨gb144, 2, none⟩ = some (.int .i64 0) := (blk_cell BK144.out 2).trans rfl; have hfz44_0 := blk_frozen BK144.out 0; have hfz44_1 := blk_frozen BK144.out 1; have hfz44_2 := blk_frozen BK144.out 2))
                    go_roundg k2
                    case measure => have := HK1.out; have := HK2.out; omega
                    case rel => exact ⟨(wrap64 (x3_2 + (((rd_T27 l0_2 x74_2).f1).size : Int))), (wrap64 (x74_2 + 1)), (by first | rfl | (simp; done) | (simp [*]; done)), (by first | rfl | (simp; done) | (simp [*]; done)), H', ⟨by have := HK1.out; have := HK2.out; omega⟩, ⟨by (with_reducible repeat (first | refine blk_drewN ?_ _ | refine blk_drew ?_ | refine blk_alloc ?_ _)); refine blk_far ?_ NB135_144.out _; (with_reducible repeat (first | refine blk_drewN ?_ _ | refine blk_drew ?_ | refine blk_alloc ?_ _)); refine blk_far ?_ NB135_144.out _; (with_reducible repeat (first | refine blk_drewN ?_ _ | refine blk_drew ?_ | refine blk_alloc ?_ _)); refine blk_far ?_ NB135_144.out _; (with_reducible repeat (first | refine blk_drewN ?_ _ | refine blk_drew ?_ | refine blk_alloc ?_ _)); exact BK135.out⟩, ⟨by repeat (first | (with_reducible first | exact HB.out | apply below_alloc | apply pw_below_drewN | apply below_drew1 | refine below_set ?_ GE135.out | refine below_set ?_ GE144.out) | exact HB.out)⟩⟩
                  · rw [if_neg c41] at H
                    exact absurd H (by simp)
                · rw [if_neg c40] at H
                  exact absurd H (by simp)
              · rw [if_neg c39] at H
                have c39b0 : decide (x74_2 < (l0_2.length : Int)) = false := decide_eq_false c39
                clear c39
                obtain rfl := Option.some.inj H
                go_wp2
                go_ret
                exact ⟨by first | rfl | (simp [errW_none, errW_some] <;> rfl) | (simp [*, errW_none, errW_some] <;> rfl), by repeat (first | (with_reducible first | exact HB.out | apply below_alloc | apply pw_below_drewN | apply below_drew1 | refine below_set ?_ GE135.out) | exact HB.out)⟩

end Go.Proofs.YtefdfgmlmjnmlaaDoor.Rf
end

section
/- The reference Great ends, of every schema that is read. -/
namespace Go.Proofs.YtefdfgmlmjnmlaaDoor.My
open Go.RowKit Go.Proofs.YtefdfgmlmjnmlaaDoorW.PrintWords Go.Proofs.YtefdfgmlmjnmlaaDoor.Rf

/-- An expression whose lists are no longer than can be. -/
inductive OkE : S72 → Prop
  | mk (e : S72) (hl : e.f3.length ≤ 9223372036854775807) (h : ∀ x, x ∈ e.f3 → OkE x) : OkE e
theorem OkE.len {e : S72} (h : OkE e) : e.f3.length ≤ 9223372036854775807 := by cases h; assumption
theorem OkE.sub {e x : S72} (h : OkE e) (hx : x ∈ e.f3) : OkE x := by cases h with | mk _ _ h => exact h x hx
theorem mem_getD {α : Type} {l : List α} {z : α} {i : Nat} (h : i < l.length) : l.getD i z ∈ l := by
  simp [List.getD, List.getElem?_eq_getElem h]
theorem rd72_nat (l : List S72) (i : Nat) : rd_T72 l (i : Int) = l.getD i z72 := rfl
theorem rd59_nat (l : List S59) (i : Nat) : rd_T59 l (i : Int) = l.getD i z59 := rfl

theorem C_each {α : Type} {d : Kd α} {w : World} {A : Option Addr} {n : Nat} {xs : List α} (h : d.C w A n xs) {x : α} (hx : x ∈ xs) : ∃ c, d.K w x c := by
  obtain ⟨i, hi, rfl⟩ := List.getElem_of_mem hx
  have hl := Kd.C_len h
  obtain ⟨ad, c, _, _, hK, _⟩ := Kd.C_get h xs[i] (i : Int) (by omega) (by omega)
  refine ⟨c, ?_⟩
  simpa [List.getD, List.getElem?_eq_getElem hi] using hK
theorem okE_upto {w : World} : ∀ n x cs, (Kd.upto F72 6 [72] n).K w x cs → OkE x := by
  intro n
  induction n with
  | zero => intro x cs h; exact h.elim
  | succ n ih =>
    intro x cs h
    obtain ⟨_, _, rfl, rfl, ⟨_, _, rfl, rfl, ⟨_, _, rfl, s2, ⟨A5, c5, rfl, l5, g5⟩⟩⟩⟩ := h
    refine OkE.mk x (Kd.C_max g5) (fun y hy => ?_)
    obtain ⟨c, hc⟩ := C_each g5 hy
    exact ih y c hc
theorem okE_of {w : World} {x : S72} {cs : List Value} (h : k72.K w x cs) : OkE x := by
  obtain ⟨n, h⟩ := h
  exact okE_upto n x cs h

structure OkT (t : S45) : Prop where
  cols : t.f2.length ≤ 9223372036854775807
  checks : t.f3.length ≤ 9223372036854775807
  each : ∀ x, x ∈ t.f3 → OkE x
theorem okT_of {w : World} {t : S45} {cs : List Value} (h : k45.K w t cs) : OkT t := by
  obtain ⟨A2, c2, A3, c3, rfl, l2, g2, l3, g3⟩ := k45_open h
  refine ⟨Kd.C_max g2, Kd.C_max g3, fun x hx => ?_⟩
  obtain ⟨c, hc⟩ := C_each g3 hx
  exact okE_of hc

theorem size_l0 (l : List S72) (hl : l.length ≤ 9223372036854775807) (h : ∀ x, x ∈ l → ∃ r, Ev (fun k => mortmainref08_Size.f k x.f0 x.f1 x.f2.f0 x.f2.f1 x.f2.f2 x.f3) r) : ∀ d i a b, i + d = l.length →
    ∃ r, Ev (fun k => mortmainref08_Size.l0 k a b l (l.length : Int) (i : Int)) r := by
  intro d
  induction d with
  | zero =>
    intro i a b hi
    exact ⟨_, Ev.step (f := fun _ => some (a, wrap64 (b + 1))) (fun k => by simp only [mortmainref08_Size.l0]; rw [if_neg (by omega)]) (Ev.now _)⟩
  | succ d ih =>
    intro i a b hi
    have hlt : i < l.length := by omega
    obtain ⟨r, hr⟩ := h _ (mem_getD (z := z72) hlt)
    obtain ⟨r', hr'⟩ := ih (i + 1) (wrap64 (a + r.1)) (mx b r.2) (by omega)
    refine ⟨r', Ev.step (fun k => ?_) (Ev.bind (f := fun k bt => mortmainref08_Size.l0 k (wrap64 (a + bt.1)) (mx b bt.2) l (l.length : Int) ((i + 1 : Nat) : Int)) hr hr')⟩
    simp only [mortmainref08_Size.l0]
    rw [if_pos (by omega), if_pos (by omega), if_pos (by omega), rd72_nat]
    simp only [wrap_next hlt hl]
theorem size_ev {e : S72} (h : OkE e) : ∃ r, Ev (fun k => mortmainref08_Size.f k e.f0 e.f1 e.f2.f0 e.f2.f1 e.f2.f2 e.f3) r := by
  induction h with
  | mk e hl _ ih =>
    obtain ⟨r, hr⟩ := size_l0 e.f3 hl ih e.f3.length 0 1 0 (by omega)
    exact ⟨r, Ev.step (fun k => by simp only [mortmainref08_Size.f]; rfl) hr⟩

theorem long_l0 (a b c d' : Int) (s : ByteArray) (q l : List S72) (hl : l.length ≤ 9223372036854775807) (h : ∀ x, x ∈ l → ∃ r, Ev (fun k => mortmainref08_long.f k x.f0 x.f1 x.f2.f0 x.f2.f1 x.f2.f2 x.f3) r) : ∀ d i, i + d = l.length →
    ∃ r, Ev (fun k => mortmainref08_long.l0 k l (l.length : Int) (i : Int) a b c d' s q) r := by
  intro d
  induction d with
  | zero =>
    intro i hi
    exact ⟨_, Ev.step (f := fun _ => some (decide ((s.size : Int) > 200))) (fun k => by simp only [mortmainref08_long.l0]; rw [if_neg (by omega)]) (Ev.now _)⟩
  | succ d ih =>
    intro i hi
    have hlt : i < l.length := by omega
    obtain ⟨r, hr⟩ := h _ (mem_getD (z := z72) hlt)
    obtain ⟨r', hr'⟩ := ih (i + 1) (by omega)
    have hstep : ∀ k, mortmainref08_long.l0 (k + 1) l (l.length : Int) (i : Int) a b c d' s q = (mortmainref08_long.f k (l.getD i z72).f0 (l.getD i z72).f1 (l.getD i z72).f2.f0 (l.getD i z72).f2.f1 (l.getD i z72).f2.f2 (l.getD i z72).f3).bind fun t => if t = true then some true else mortmainref08_long.l0 k l (l.length : Int) ((i + 1 : Nat) : Int) a b c d' s q := by
      intro k
      simp only [mortmainref08_long.l0]
      rw [if_pos (by omega), if_pos (by omega), if_pos (by omega), rd72_nat, wrap_next hlt hl]
    cases r with
    | true => exact ⟨true, Ev.step hstep (Ev.bind hr (Ev.now _))⟩
    | false => exact ⟨r', Ev.step hstep (Ev.bind hr (by simpa using hr'))⟩
theorem long_ev {e : S72} (h : OkE e) : ∃ r, Ev (fun k => mortmainref08_long.f k e.f0 e.f1 e.f2.f0 e.f2.f1 e.f2.f2 e.f3) r := by
  induction h with
  | mk e hl _ ih =>
    obtain ⟨r, hr⟩ := long_l0 e.f0 e.f1 e.f2.f0 e.f2.f1 e.f2.f2 e.f3 e.f3 hl ih e.f3.length 0 (by omega)
    exact ⟨r, Ev.step (fun k => by simp only [mortmainref08_long.f]; rfl) hr⟩
theorem great8_ev {e : S72} (h : OkE e) : ∃ r, Ev (fun k => mortmainref08_Great.f k e.f0 e.f1 e.f2.f0 e.f2.f1 e.f2.f2 e.f3) r := by
  obtain ⟨r, hr⟩ := size_ev h
  obtain ⟨r', hr'⟩ := long_ev h
  by_cases h1 : r.1 > 300
  · exact ⟨true, Ev.bind hr (by simpa [h1] using Ev.now true)⟩
  · by_cases h2 : r.2 > 60
    · exact ⟨true, Ev.bind hr (by simpa [h1, h2] using Ev.now true)⟩
    · exact ⟨r', Ev.bind hr (by simpa [h1, h2] using Ev.bind hr' (Ev.now r'))⟩

theorem great_l3 (gs : List S27) (hl : gs.length ≤ 9223372036854775807) : ∀ d i a, i + d = gs.length → ∃ r, Ev (fun k => mortmainref09_Great.l3 k a gs (gs.length : Int) (i : Int)) r := by
  intro d
  induction d with
  | zero =>
    intro i a hi
    exact ⟨_, Ev.step (f := fun _ => some (decide (a > 3000))) (fun k => by simp only [mortmainref09_Great.l3]; rw [if_neg (by omega)]) (Ev.now _)⟩
  | succ d ih =>
    intro i a hi
    have hlt : i < gs.length := by omega
    obtain ⟨r, hr⟩ := ih (i + 1) (wrap64 (a + ((rd_T27 gs (i : Int)).f1.size : Int))) (by omega)
    refine ⟨r, Ev.step (fun k => ?_) hr⟩
    simp only [mortmainref09_Great.l3]
    rw [if_pos (by omega), if_pos (by omega), if_pos (by omega), wrap_next hlt hl]

theorem great_l2 (ts : List S45) (n : Int) (i0 : Int) (v : Int) (q : List S45) (gs : List S27) (l : List S72) (hl : l.length ≤ 9223372036854775807) (h : ∀ x, x ∈ l → OkE x) (a : Int)
    (hnext : ∃ r, Ev (fun k => mortmainref09_Great.l0 k a ts n (wrap64 (i0 + 1)) v q gs) r) : ∀ d i, i + d = l.length →
    ∃ r, Ev (fun k => mortmainref09_Great.l2 k a ts n i0 l (l.length : Int) (i : Int) v q gs) r := by
  intro d
  induction d with
  | zero =>
    intro i hi
    by_cases h3 : a > 3000
    · exact ⟨_, Ev.step (f := fun _ => some true) (fun k => by simp only [mortmainref09_Great.l2]; rw [if_neg (by omega), if_pos h3]) (Ev.now _)⟩
    · obtain ⟨r, hr⟩ := hnext
      exact ⟨r, Ev.step (fun k => by simp only [mortmainref09_Great.l2]; rw [if_neg (by omega), if_neg h3]) hr⟩
  | succ d ih =>
    intro i hi
    have hlt : i < l.length := by omega
    obtain ⟨r, hr⟩ := great8_ev (h _ (mem_getD (z := z72) hlt))
    obtain ⟨r', hr'⟩ := ih (i + 1) (by omega)
    have hstep : ∀ k, mortmainref09_Great.l2 (k + 1) a ts n i0 l (l.length : Int) (i : Int) v q gs = (mortmainref08_Great.f k (l.getD i z72).f0 (l.getD i z72).f1 (l.getD i z72).f2.f0 (l.getD i z72).f2.f1 (l.getD i z72).f2.f2 (l.getD i z72).f3).bind fun t => if t = true then some true else mortmainref09_Great.l2 k a ts n i0 l (l.length : Int) ((i + 1 : Nat) : Int) v q gs := by
      intro k
      simp only [mortmainref09_Great.l2]
      rw [if_pos (by omega), if_pos (by omega), if_pos (by omega), rd72_nat, wrap_next hlt hl]
    cases r with
    | true => exact ⟨true, Ev.step hstep (Ev.bind hr (Ev.now _))⟩
    | false => exact ⟨r', Ev.step hstep (Ev.bind hr (by simpa using hr'))⟩

theorem great_l1 (ts : List S45) (n : Int) (i0 : Int) (v : Int) (q : List S45) (gs : List S27) (nm : ByteArray) (o : Int) (c2 : List S59) (cks : List S72) (cols : List S59) (hl : cols.length ≤ 9223372036854775807)
    (hnext : ∀ a, ∃ r, Ev (fun k => mortmainref09_Great.l2 k a ts n i0 cks (cks.length : Int) 0 v q gs) r) : ∀ d i a, i + d = cols.length →
    ∃ r, Ev (fun k => mortmainref09_Great.l1 k a ts n i0 cols (cols.length : Int) (i : Int) v q gs nm o c2 cks) r := by
  intro d
  induction d with
  | zero =>
    intro i a hi
    obtain ⟨r, hr⟩ := hnext a
    exact ⟨r, Ev.step (fun k => by simp only [mortmainref09_Great.l1]; rw [if_neg (by omega)]) hr⟩
  | succ d ih =>
    intro i a hi
    have hlt : i < cols.length := by omega
    obtain ⟨r, hr⟩ := ih (i + 1) (wrap64 ((wrap64 (a + ((rd_T59 cols (i : Int)).f0.size : Int))) + ((rd_T59 cols (i : Int)).f4.size : Int))) (by omega)
    refine ⟨r, Ev.step (fun k => ?_) hr⟩
    simp only [mortmainref09_Great.l1]
    rw [if_pos (by omega), if_pos (by omega), if_pos (by omega), wrap_next hlt hl]

theorem great_l0 (v : Int) (q : List S45) (gs : List S27) (ts : List S45) (hl : ts.length ≤ 9223372036854775807) (hg : gs.length ≤ 9223372036854775807) (h : ∀ t, t ∈ ts → OkT t) : ∀ d i a, i + d = ts.length →
    ∃ r, Ev (fun k => mortmainref09_Great.l0 k a ts (ts.length : Int) (i : Int) v q gs) r := by
  intro d
  induction d with
  | zero =>
    intro i a hi
    obtain ⟨r, hr⟩ := great_l3 gs hg gs.length 0 a (by omega)
    exact ⟨r, Ev.step (fun k => by simp only [mortmainref09_Great.l0]; rw [if_neg (by omega)]; rfl) hr⟩
  | succ d ih =>
    intro i a hi
    have hlt : i < ts.length := by omega
    have hT := h _ (mem_getD (z := z45) hlt)
    obtain ⟨r, hr⟩ := great_l1 ts (ts.length : Int) (i : Int) v q gs (ts.getD i z45).f0 (ts.getD i z45).f1 (ts.getD i z45).f2 (ts.getD i z45).f3 (ts.getD i z45).f2 hT.cols
      (fun b => great_l2 ts (ts.length : Int) (i : Int) v q gs (ts.getD i z45).f3 hT.checks hT.each b (by rw [wrap_next hlt hl]; exact ih (i + 1) b (by omega)) (ts.getD i z45).f3.length 0 (by omega)) (ts.getD i z45).f2.length 0
      (wrap64 ((wrap64 ((wrap64 (a + ((ts.getD i z45).f0.size : Int))) + ((ts.getD i z45).f2.length : Int))) + ((ts.getD i z45).f3.length : Int))) (by omega)
    refine ⟨r, Ev.step (fun k => ?_) hr⟩
    simp only [mortmainref09_Great.l0]
    rw [if_pos (by omega), if_pos (by omega), if_pos (by omega), rd45_nat]
    rfl
theorem great_ev (v : Int) (ts : List S45) (gs : List S27) (hl : ts.length ≤ 9223372036854775807) (hg : gs.length ≤ 9223372036854775807) (h : ∀ t, t ∈ ts → OkT t) : ∃ r, Ev (fun k => mortmainref09_Great.f k v ts gs) r := by
  by_cases h1 : wrap64 ((ts.length : Int) + (gs.length : Int)) > 200
  · exact ⟨true, 0, fun k _ => by simp only [mortmainref09_Great.f]; rw [if_pos h1]⟩
  · obtain ⟨r, hr⟩ := great_l0 v ts gs ts hl hg h ts.length 0 (wrap64 ((ts.length : Int) + (gs.length : Int))) (by omega)
    exact ⟨r, Ev.congr (fun k => by simp only [mortmainref09_Great.f]; rw [if_neg h1]; rfl) hr⟩
end Go.Proofs.YtefdfgmlmjnmlaaDoor.My
end

section
set_option linter.unusedVariables false
set_option linter.unusedSimpArgs false
/- What the kit's print.py wrote of one Go function of this seat's translation (run by a program of this session, one function a text): the function as a plain Lean function, and that the call computes it. -/
namespace Go.Proofs.YtefdfgmlmjnmlaaDoor.Rf
open Go.RowKit Go.Proofs.YtefdfgmlmjnmlaaDoorW.PrintWords Go.Proofs.YtefdfgmlmjnmlaaDoorW.PrintLast Go.Proofs.YtefdfgmlmjnmlaaDoorW.PrintMore
attribute [local go_sem] max2_int min2_int max_two min_two max_three min_three max_four min_four   -- for this text's walks alone

/-! ### schema_Links: function 38 -/
mutual
def schema_Links.l0 : Nat → ByteArray → List (S61) → List (S45) → Int → Int → Option ((List (S61)))
  | 0, _, _, _, _, _ => none
  | k + 1, x1, x5, x11, x12, x13 => if x13 < x12 then (if 0 ≤ x13 then (if x13 < (x11.length : Int) then (schema_Links.l1 k x1 x5 x11 x12 x13 ((rd_T45 x11 x13).f2) (((rd_T45 x11 x13).f2).length : Int) 0 ((rd_T45 x11 x13).f0) ((rd_T45 x11 x13).f1) ((rd_T45 x11 x13).f2) ((rd_T45 x11 x13).f3)) else (none)) else (none)) else (some x5)
def schema_Links.l1 : Nat → ByteArray → List (S61) → List (S45) → Int → Int → List (S59) → Int → Int → ByteArray → Int → List (S59) → List (S72) → Option ((List (S61)))
  | 0, _, _, _, _, _, _, _, _, _, _, _, _ => none
  | k + 1, x1, x5, x11, x12, x13, x18, x19, x20, x245000, x245001, x245002, x245003 => if x20 < x19 then (if 0 ≤ x20 then (if x20 < (x18.length : Int) then (if ((rd_T59 x18 x20).f4).toList = x1.toList then (if x1.toList = ([] : List UInt8) then (schema_Links.l1 k x1 x5 x11 x12 x13 x18 x19 (wrap64 (x20 + 1)) x245000 x245001 x245002 x245003) else (if x5.length < 5864062014805 then (schema_Links.l1 k x1 (x5 ++ [(⟨x245000, x20⟩ : S61)]) x11 x12 x13 x18 x19 (wrap64 (x20 + 1)) x245000 x245001 x245002 x245003) else (none))) else (schema_Links.l1 k x1 x5 x11 x12 x13 x18 x19 (wrap64 (x20 + 1)) x245000 x245001 x245002 x245003)) else (none)) else (none)) else (schema_Links.l0 k x1 x5 x11 x12 (wrap64 (x13 + 1)))
end
def schema_Links.f (k : Nat) (a0_0 : Int) (l0_1 : List (S45)) (l0_2 : List (S27)) (a1 : ByteArray) : Option ((List (S61))) := schema_Links.l0 k a1 ([] : List (S61)) l0_1 (l0_1.length : Int) 0
theorem schema_Links.mono_l : ∀ k, (∀ y0 y1 y2 y3 y4, LeO (schema_Links.l0 k y0 y1 y2 y3 y4) (schema_Links.l0 (k + 1) y0 y1 y2 y3 y4)) ∧ (∀ y0 y1 y2 y3 y4 y5 y6 y7 y8 y9 y10 y11, LeO (schema_Links.l1 k y0 y1 y2 y3 y4 y5 y6 y7 y8 y9 y10 y11) (schema_Links.l1 (k + 1) y0 y1 y2 y3 y4 y5 y6 y7 y8 y9 y10 y11))
  | 0 => ⟨fun _ _ _ _ _ r h => by simp [schema_Links.l0] at h, fun _ _ _ _ _ _ _ _ _ _ _ _ r h => by simp [schema_Links.l1] at h⟩
  | k + 1 => by
    obtain ⟨ih0, ih1⟩ := schema_Links.mono_l k
    refine ⟨?_, ?_⟩
    · intro y0 y1 y2 y3 y4
      unfold schema_Links.l0
      repeat' first
      | (with_reducible exact ih0 _ _ _ _ _)
      | (with_reducible exact ih1 _ _ _ _ _ _ _ _ _ _ _ _)
      | (with_reducible exact LeO.refl _)
      | (with_reducible exact LeO.none _)
      | (with_reducible refine LeO.ite ?_ ?_)
      | (with_reducible refine LeO.bind ?_ (fun _ => ?_))
      | exact ih0 _ _ _ _ _
      | exact ih1 _ _ _ _ _ _ _ _ _ _ _ _
      | exact LeO.none _
      | refine LeO.ite ?_ ?_
      | refine LeO.bind ?_ (fun _ => ?_)
    · intro y0 y1 y2 y3 y4 y5 y6 y7 y8 y9 y10 y11
      unfold schema_Links.l1
      repeat' first
      | (with_reducible exact ih0 _ _ _ _ _)
      | (with_reducible exact ih1 _ _ _ _ _ _ _ _ _ _ _ _)
      | (with_reducible exact LeO.refl _)
      | (with_reducible exact LeO.none _)
      | (with_reducible refine LeO.ite ?_ ?_)
      | (with_reducible refine LeO.bind ?_ (fun _ => ?_))
      | exact ih0 _ _ _ _ _
      | exact ih1 _ _ _ _ _ _ _ _ _ _ _ _
      | exact LeO.none _
      | refine LeO.ite ?_ ?_
      | refine LeO.bind ?_ (fun _ => ?_)
theorem schema_Links.mono : ∀ a0 a1 a2 a3 k, LeO (schema_Links.f k a0 a1 a2 a3) (schema_Links.f (k + 1) a0 a1 a2 a3) := by
  intro a0 a1 a2 a3 k
  obtain ⟨ih0, ih1⟩ := schema_Links.mono_l k
  unfold schema_Links.f
  repeat' first
      | (with_reducible exact ih0 _ _ _ _ _)
      | (with_reducible exact ih1 _ _ _ _ _ _ _ _ _ _ _ _)
      | (with_reducible exact LeO.refl _)
      | (with_reducible exact LeO.none _)
      | (with_reducible refine LeO.ite ?_ ?_)
      | (with_reducible refine LeO.bind ?_ (fun _ => ?_))
      | exact ih0 _ _ _ _ _
      | exact ih1 _ _ _ _ _ _ _ _ _ _ _ _
      | exact LeO.none _
      | refine LeO.ite ?_ ?_
      | refine LeO.bind ?_ (fun _ => ?_)
set_option maxHeartbeats 8000000 in
set_option maxRecDepth 100000 in
theorem schema_Links.calls (k : Nat) (a0_0 : Int) (A0_1 : Option Addr) (c0_1 : Nat) (l0_1 : List (S45)) (A0_2 : Option Addr) (c0_2 : Nat) (l0_2 : List (S27)) (a1 : ByteArray) (r : List (S61)) (w : World) (hr0_1 : Kd.C k45 w A0_1 l0_1.length l0_1) (hc0_1 : l0_1.length ≤ c0_1) (hr0_2 : Kd.C k27 w A0_2 l0_2.length l0_2) (hc0_2 : l0_2.length ≤ c0_2) (h : schema_Links.f k a0_0 l0_1 l0_2 a1 = some r) :
    Calls Tryd.prog 38 #[.agg #[.int .i64 a0_0, .slice A0_1 l0_1.length c0_1, .slice A0_2 l0_2.length c0_2], .string a1] w fun e w' => ∃ v0_ : Value, e = .returned (v0_) ∧ Kd.R k61 61 w' w.heap.size (fun _ => True) v0_ r ∧ Below w.heap.size w w' := by
  have hu25 := Tryd.underlying25
  have hu45 := Tryd.underlying45
  have hu59 := Tryd.underlying59
  have hu61 := Tryd.underlying61
  have HR0_1 := Aside0.mk hr0_1
  have HC0_1 := Aside0.mk hc0_1
  clear hr0_1 hc0_1
  have HR0_2 := Aside0.mk hr0_2
  have HC0_2 := Aside0.mk hc0_2
  clear hr0_2 hc0_2
  have HB := Aside0.mk (Below.refl w.heap.size w)
  have H : (schema_Links.l0 k a1 ([] : List (S61)) l0_1 (l0_1.length : Int) 0) = some r := h
  clear h
  have H' := Aside0.mk H
  clear H
  go_enter Tryd.func38, Tryd.ntmps38
  go_wp2_with (first | ((with_reducible refine gate_dst (N := 2) rfl ?_); refine box_event ?hg (N := 2) ?hd (cs := #[.int .i64 a0_0, .slice A0_1 l0_1.length c0_1, .slice A0_2 l0_2.length c0_2]) (t := 25) ?hr ?_; (case hd => rfl); (case hg => rfl); (case hr => first | (go_simp; done) | (go_simp; rfl)); intro gb242 hg w3 hbox hb; have n0_ := Aside0.mk (below_step (by repeat (first | (with_reducible first | exact HB.out | apply below_alloc | apply pw_below_drewN | apply below_drew1) | exact HB.out)) hb); have n1_ := Aside0.mk (hbox); have n2_ := Aside0.mk ((by rw [hg]; exact (below_size (by repeat (first | (with_reducible first | exact HB.out | apply below_alloc | apply pw_below_drewN | apply below_drew1) | exact HB.out))) : w.heap.size ≤ gb242)); have n3_ := Aside0.mk ((by rw [hg]; exact (below_size (by repeat (first | (with_reducible first | exact HB.out | apply below_alloc | apply pw_below_drewN | apply below_drew1) | exact HB.out))) : w.heap.size ≤ gb242)); clear HB; have HB := n0_; have BK242 := n1_; have GW242 := n2_; have GE242 := n3_; clear n0_ n1_ n2_ n3_; clear hb hbox hg; have hcz4_0 : w3.cell? ⟨gb242, 0, none⟩ = some (.int .i64 a0_0) := (blk_cell BK242.out 0).trans rfl; have hcz4_1 : w3.cell? ⟨gb242, 1, none⟩ = some (.slice A0_1 l0_1.length c0_1) := (blk_cell BK242.out 1).trans rfl; have hcz4_2 : w3.cell? ⟨gb242, 2, none⟩ = some (.slice A0_2 l0_2.length c0_2) := (blk_cell BK242.out 2).trans rfl; have hfz4_0 := blk_frozen BK242.out 0; have hfz4_1 := blk_frozen BK242.out 1; have hfz4_2 := blk_frozen BK242.out 2))
  go_loopg [5, 13] k (fun kq v5 v13 w' => ∃ (x5_1 : List (S61)) (x13_1 : Int), v13 = .int .i64 x13_1 ∧ Aside0 (schema_Links.l0 kq a1 x5_1 l0_1 (l0_1.length : Int) x13_1 = some r) ∧ Aside0 (kq ≤ k) ∧ Aside0 (Kd.R k61 61 w' w.heap.size (fun _ => True) v5 x5_1) ∧ Aside0 (w'.heap[gb242]? = some (.cells #[.int .i64 a0_0, (.slice A0_1 l0_1.length c0_1), (.slice A0_2 l0_2.length c0_2)] 25 (0, 0))) ∧ Aside0 (Below w.heap.size w w'))
  case atStart => exact ⟨(([] : List (S61))), (0), (by first | rfl | (simp; done) | (simp [*]; done)), H', ⟨Nat.le_refl _⟩, ⟨by first | exact Kd.R_nil _ _ _ _ _ | exact Kd.N_nil _ _ _ _ _ | exact Kd.V_nil _ _ _ _ _ | exact Kd.Q_nil _ _ _ _ _ | exact Kd.S_nil _ _ _ _ _⟩, ⟨by (with_reducible repeat (first | refine blk_drewN ?_ _ | refine blk_drew ?_ | refine blk_alloc ?_ _)); exact BK242.out⟩, ⟨by repeat (first | (with_reducible first | exact HB.out | apply below_alloc | apply pw_below_drewN | apply below_drew1 | refine below_set ?_ GE242.out) | exact HB.out)⟩⟩
  case round =>
    clear H'
    try clear p2
    try clear c3
    try clear hcz4_0
    try clear hcz4_1
    try clear hcz4_2
    try clear hfz4_0
    try clear hfz4_1
    try clear hfz4_2
    obtain ⟨x5_1, x13_1, rfl, HA, HK1, HO_5, BK242, HB⟩ := hrel
    cases gk with
    | zero => exact absurd HA.out (by simp [schema_Links.l0])
    | succ k1 =>
      have H := HA.out
      clear HA
      simp only [schema_Links.l0] at H
      by_cases c5 : x13_1 < (l0_1.length : Int)
      · rw [if_pos c5] at H
        have c5b0 : decide (x13_1 < (l0_1.length : Int)) = true := decide_eq_true c5
        clear c5
        by_cases c6 : 0 ≤ x13_1
        · rw [if_pos c6] at H
          have c6b0 : decide (0 ≤ x13_1) = true := decide_eq_true c6
          clear c6
          by_cases c7 : x13_1 < (l0_1.length : Int)
          · rw [if_pos c7] at H
            have c7b0 : decide (x13_1 < (l0_1.length : Int)) = true := decide_eq_true c7
            clear c7
            have H' := Aside0.mk H
            clear H
            have p243 : 0 ≤ (x13_1 : Int) := of_decide_eq_true (by first | (with_reducible assumption) | assumption)
            have q243 : x13_1 < (l0_1.length : Int) := of_decide_eq_true (by first | (with_reducible assumption) | assumption)
            obtain ⟨ad243, A243_2, c243_2, A243_3, c243_3, e243, hx243_0, hx243_1, hx243_2, hx243_3, hl243_2, hi243_2, hl243_3, hi243_3⟩ := at_T45 HR0_1.out x13_1 p243 q243
            cases e243
            replace hx243_0 := (HB.out.cell (World.block_lt_of_cell? w _ hx243_0)).trans hx243_0
            replace hx243_1 := (HB.out.cell (World.block_lt_of_cell? w _ hx243_1)).trans hx243_1
            replace hx243_2 := (HB.out.cell (World.block_lt_of_cell? w _ hx243_2)).trans hx243_2
            replace hx243_3 := (HB.out.cell (World.block_lt_of_cell? w _ hx243_3)).trans hx243_3
            have HR243_2 := Aside0.mk hi243_2
            have HC243_2 := Aside0.mk hl243_2
            clear hi243_2 hl243_2
            have HR243_3 := Aside0.mk hi243_3
            have HC243_3 := Aside0.mk hl243_3
            clear hi243_3 hl243_3
            replace p243 := eq_true p243
            replace q243 := eq_true q243
            go_wp2_with (first | ((with_reducible refine gate_dst (N := 7) rfl ?_); refine box_event ?hg (N := 7) ?hd (cs := #[.string (⟨#[]⟩ : ByteArray), .int .i64 0, .slice none 0 0, .slice none 0 0]) (t := 45) ?hr ?_; (case hd => rfl); (case hg => rfl); (case hr => first | (go_simp; done) | (go_simp; rfl)); intro gb244 hg w8 hbox hb; have n0_ := Aside0.mk (Kd.R_below (by (with_reducible repeat (first | apply Kd.R_alloc | apply Kd.R_drewN | apply Kd.R_drew)); exact HO_5.out) hb); have n1_ := Aside0.mk (blk_below (g := gb242) (o := .cells #[.int .i64 a0_0, .slice (some ad243) l0_1.length c0_1, .slice A0_2 l0_2.length c0_2] 25 (0, 0)) (by (with_reducible repeat (first | refine blk_drewN ?_ _ | refine blk_drew ?_ | refine blk_alloc ?_ _)); exact BK242.out) hb); have n2_ := Aside0.mk (below_step (by repeat (first | (with_reducible first | exact HB.out | apply below_alloc | apply pw_below_drewN | apply below_drew1 | refine below_set ?_ GE242.out) | exact HB.out)) hb); have n3_ := Aside0.mk (hbox); have n4_ := Aside0.mk ((by rw [hg]; exact (below_size (by repeat (first | (with_reducible first | exact HB.out | apply below_alloc | apply pw_below_drewN | apply below_drew1 | refine below_set ?_ GE242.out) | exact HB.out))) : w.heap.size ≤ gb244)); have n5_ := Aside0.mk ((by rw [hg]; exact (below_size (by repeat (first | (with_reducible first | exact HB.out | apply below_alloc | apply pw_below_drewN | apply below_drew1 | refine below_set ?_ GE242.out) | exact HB.out))) : w.heap.size ≤ gb244)); have n6_ := Aside0.mk ((by rw [hg]; exact Nat.ne_of_lt (blk_lt (g := gb242) (o := .cells #[.int .i64 a0_0, .slice (some ad243) l0_1.length c0_1, .slice A0_2 l0_2.length c0_2] 25 (0, 0)) (by (with_reducible repeat (first | refine blk_drewN ?_ _ | refine blk_drew ?_ | refine blk_alloc ?_ _)); exact BK242.out)) : gb242 ≠ gb244)); have n7_ := Aside0.mk ((by rw [hg]; exact Nat.ne_of_gt (blk_lt (g := gb242) (o := .cells #[.int .i64 a0_0, .slice (some ad243) l0_1.length c0_1, .slice A0_2 l0_2.length c0_2] 25 (0, 0)) (by (with_reducible repeat (first | refine blk_drewN ?_ _ | refine blk_drew ?_ | refine blk_alloc ?_ _)); exact BK242.out)) : gb244 ≠ gb242)); clear HO_5; clear BK242; clear HB; have HO_5 := n0_; have BK242 := n1_; have HB := n2_; have BK244 := n3_; have GW244 := n4_; have GE244 := n5_; have NB242_244 := n6_; have NB244_242 := n7_; clear n0_ n1_ n2_ n3_ n4_ n5_ n6_ n7_; clear hb hbox hg; have hnb9 := NB244_242.out; have hnc9 := NB242_244.out; have hcz10_0 : w8.cell? ⟨gb244, 0, none⟩ = some (.string (⟨#[]⟩ : ByteArray)) := (blk_cell BK244.out 0).trans rfl; have hcz10_1 : w8.cell? ⟨gb244, 1, none⟩ = some (.int .i64 0) := (blk_cell BK244.out 1).trans rfl; have hcz10_2 : w8.cell? ⟨gb244, 2, none⟩ = some (.slice none 0 0) := (blk_cell BK244.out 2).trans rfl; have hcz10_3 : w8.cell? ⟨gb244, 3, none⟩ = some (.slice none 0 0) := (blk_cell BK244.out 3).trans rfl; have hfz10_0 := blk_frozen BK244.out 0; have hfz10_1 := blk_frozen BK244.out 1; have hfz10_2 := blk_frozen BK244.out 2; have hfz10_3 := blk_frozen BK244.out 3))
            go_loopg [5, 20] k1 (fun kq v5 v20 w' => ∃ (x5_2 : List (S61)) (x20_2 : Int), v20 = .int .i64 x20_2 ∧ Aside0 (schema_Links.l1 kq a1 x5_2 l0_1 (l0_1.length : Int) x13_1 ((rd_T45 l0_1 x13_1).f2) (((rd_T45 l0_1 x13_1).f2).length : Int) x20_2 ((rd_T45 l0_1 x13_1).f0) ((rd_T45 l0_1 x13_1).f1) ((rd_T45 l0_1 x13_1).f2) ((rd_T45 l0_1 x13_1).f3) = some r) ∧ Aside0 (kq ≤ k1) ∧ Aside0 (Kd.R k61 61 w' w.heap.size (fun _ => True) v5 x5_2) ∧ Aside0 (w'.heap[gb242]? = some (.cells #[.int .i64 a0_0, (.slice (some ad243) l0_1.length c0_1), (.slice A0_2 l0_2.length c0_2)] 25 (0, 0))) ∧ Aside0 (w'.heap[gb244]? = some (.cells #[.string ((rd_T45 l0_1 x13_1).f0), .int .i64 ((rd_T45 l0_1 x13_1).f1), (.slice A243_2 ((rd_T45 l0_1 x13_1).f2).length c243_2), (.slice A243_3 ((rd_T45 l0_1 x13_1).f3).length c243_3)] 45 (0, 0))) ∧ Aside0 (Below w.heap.size w w'))
            case atStart => exact ⟨(x5_1), (0), (by first | rfl | (simp; done) | (simp [*]; done)), H', ⟨Nat.le_refl _⟩, ⟨by (with_reducible repeat (first | apply Kd.R_alloc | apply Kd.R_drewN | apply Kd.R_drew)); exact Kd.R_mono (Kd.R_far (p := ⟨gb244, 3, none⟩) (Kd.R_far (p := ⟨gb244, 2, none⟩) (Kd.R_far (p := ⟨gb244, 1, none⟩) (Kd.R_far (p := ⟨gb244, 0, none⟩) (Kd.R_types HO_5.out BK244.out (by decide)) (fun _ hk => hk.2) (.string ((rd_T45 l0_1 x13_1).f0))) (fun _ hk => hk.2) (.int .i64 ((rd_T45 l0_1 x13_1).f1))) (fun _ hk => hk.2) (.slice A243_2 ((rd_T45 l0_1 x13_1).f2).length c243_2)) (fun _ hk => hk.2) (.slice A243_3 ((rd_T45 l0_1 x13_1).f3).length c243_3)) (fun _ hk => trivial)⟩, ⟨by (with_reducible repeat (first | refine blk_drewN ?_ _ | refine blk_drew ?_ | refine blk_alloc ?_ _)); refine blk_far ?_ NB242_244.out _; (with_reducible repeat (first | refine blk_drewN ?_ _ | refine blk_drew ?_ | refine blk_alloc ?_ _)); refine blk_far ?_ NB242_244.out _; (with_reducible repeat (first | refine blk_drewN ?_ _ | refine blk_drew ?_ | refine blk_alloc ?_ _)); refine blk_far ?_ NB242_244.out _; (with_reducible repeat (first | refine blk_drewN ?_ _ | refine blk_drew ?_ | refine blk_alloc ?_ _)); refine blk_far ?_ NB242_244.out _; (with_reducible repeat (first | refine blk_drewN ?_ _ | refine blk_drew ?_ | refine blk_alloc ?_ _)); exact BK242.out⟩, ⟨by (with_reducible repeat (first | refine blk_drewN ?_ _ | refine blk_drew ?_ | refine blk_alloc ?_ _)); refine blk_put (cs := #[.string ((rd_T45 l0_1 x13_1).f0), .int .i64 ((rd_T45 l0_1 x13_1).f1), .slice A243_2 ((rd_T45 l0_1 x13_1).f2).length c243_2, .slice none 0 0]) ?_ 3 _ rfl; (with_reducible repeat (first | refine blk_drewN ?_ _ | refine blk_drew ?_ | refine blk_alloc ?_ _)); refine blk_put (cs := #[.string ((rd_T45 l0_1 x13_1).f0), .int .i64 ((rd_T45 l0_1 x13_1).f1), .slice none 0 0, .slice none 0 0]) ?_ 2 _ rfl; (with_reducible repeat (first | refine blk_drewN ?_ _ | refine blk_drew ?_ | refine blk_alloc ?_ _)); refine blk_put (cs := #[.string ((rd_T45 l0_1 x13_1).f0), .int .i64 0, .slice none 0 0, .slice none 0 0]) ?_ 1 _ rfl; (with_reducible repeat (first | refine blk_drewN ?_ _ | refine blk_drew ?_ | refine blk_alloc ?_ _)); refine blk_put (cs := #[.string (⟨#[]⟩ : ByteArray), .int .i64 0, .slice none 0 0, .slice none 0 0]) ?_ 0 _ rfl; (with_reducible repeat (first | refine blk_drewN ?_ _ | refine blk_drew ?_ | refine blk_alloc ?_ _)); exact BK244.out⟩, ⟨by repeat (first | (with_reducible first | exact HB.out | apply below_alloc | apply pw_below_drewN | apply below_drew1 | refine below_set ?_ GE242.out | refine below_set ?_ GE244.out) | exact HB.out)⟩⟩
            case round =>
              clear H'
              try clear c2
              try clear p2
              try clear q2
              try clear hx2
              try clear c3
              try clear c5
              try clear c5b0
              try clear c6
              try clear c6b0
              try clear c7
              try clear c7b0
              try clear c9
              try clear hcz10_0
              try clear hcz10_1
              try clear hcz10_2
              try clear hcz10_3
              try clear hcz4_0
              try clear hcz4_1
              try clear hcz4_2
              try clear hfz10_0
              try clear hfz10_1
              try clear hfz10_2
              try clear hfz10_3
              try clear hfz4_0
              try clear hfz4_1
              try clear hfz4_2
              try clear hx243_0
              try clear hx243_1
              try clear hx243_2
              try clear hx243_3
              try clear p2
              try clear p243
              try clear q243
              obtain ⟨x5_2, x20_2, rfl, HA, HK2, HO_5, BK242, BK244, HB⟩ := hrel
              cases gk with
              | zero => exact absurd HA.out (by simp [schema_Links.l1])
              | succ k2 =>
                have H := HA.out
                clear HA
                simp only [schema_Links.l1] at H
                by_cases c11 : x20_2 < (((rd_T45 l0_1 x13_1).f2).length : Int)
                · rw [if_pos c11] at H
                  have c11b0 : decide (x20_2 < (((rd_T45 l0_1 x13_1).f2).length : Int)) = true := decide_eq_true c11
                  clear c11
                  by_cases c12 : 0 ≤ x20_2
                  · rw [if_pos c12] at H
                    have c12b0 : decide (0 ≤ x20_2) = true := decide_eq_true c12
                    clear c12
                    by_cases c13 : x20_2 < (((rd_T45 l0_1 x13_1).f2).length : Int)
                    · rw [if_pos c13] at H
                      have c13b0 : decide (x20_2 < (((rd_T45 l0_1 x13_1).f2).length : Int)) = true := decide_eq_true c13
                      clear c13
                      by_cases c14 : ((rd_T59 ((rd_T45 l0_1 x13_1).f2) x20_2).f4).toList = a1.toList
                      · rw [if_pos c14] at H
                        have c14b0 : (((rd_T59 ((rd_T45 l0_1 x13_1).f2) x20_2).f4).toList == a1.toList) = true := beq_iff_eq.mpr c14
                        have c14b1 : (((rd_T59 ((rd_T45 l0_1 x13_1).f2) x20_2).f4).toList != a1.toList) = false := bne_eq_false_iff_eq.mpr c14
                        clear c14
                        by_cases c15 : a1.toList = ([] : List UInt8)
                        · rw [if_pos c15] at H
                          have c15b0 : (a1.toList == ([] : List UInt8)) = true := beq_iff_eq.mpr c15
                          have c15b1 : (a1.toList != ([] : List UInt8)) = false := bne_eq_false_iff_eq.mpr c15
                          clear c15
                          have H' := Aside0.mk H
                          clear H
                          have p245 : 0 ≤ (x20_2 : Int) := of_decide_eq_true (by first | (with_reducible assumption) | assumption)
                          have q245 : x20_2 < (((rd_T45 l0_1 x13_1).f2).length : Int) := of_decide_eq_true (by first | (with_reducible assumption) | assumption)
                          obtain ⟨ad245, e245, hx245_0, hx245_1, hx245_2, hx245_3, hx245_4, hx245_5⟩ := at_T59 HR243_2.out x20_2 p245 q245
                          cases e245
                          replace hx245_0 := (HB.out.cell (World.block_lt_of_cell? w _ hx245_0)).trans hx245_0
                          replace hx245_1 := (HB.out.cell (World.block_lt_of_cell? w _ hx245_1)).trans hx245_1
                          replace hx245_2 := (HB.out.cell (World.block_lt_of_cell? w _ hx245_2)).trans hx245_2
                          replace hx245_3 := (HB.out.cell (World.block_lt_of_cell? w _ hx245_3)).trans hx245_3
                          replace hx245_4 := (HB.out.cell (World.block_lt_of_cell? w _ hx245_4)).trans hx245_4
                          replace hx245_5 := (HB.out.cell (World.block_lt_of_cell? w _ hx245_5)).trans hx245_5
                          replace p245 := eq_true p245
                          replace q245 := eq_true q245
                          go_wp2_with (first | ((with_reducible refine gate_dst (N := 9) rfl ?_); refine box_event ?hg (N := 9) ?hd (cs := #[.string (⟨#[]⟩ : ByteArray), .int .i64 0, .bool false, .bool false, .string (⟨#[]⟩ : ByteArray), .int .i64 0]) (t := 59) ?hr ?_; (case hd => rfl); (case hg => rfl); (case hr => first | (go_simp; done) | (go_simp; rfl)); intro gb246 hg w16 hbox hb; have n0_ := Aside0.mk (Kd.R_below (by (with_reducible repeat (first | apply Kd.R_alloc | apply Kd.R_drewN | apply Kd.R_drew)); exact HO_5.out) hb); have n1_ := Aside0.mk (blk_below (g := gb242) (o := .cells #[.int .i64 a0_0, .slice (some ad243) l0_1.length c0_1, .slice A0_2 l0_2.length c0_2] 25 (0, 0)) (by (with_reducible repeat (first | refine blk_drewN ?_ _ | refine blk_drew ?_ | refine blk_alloc ?_ _)); exact BK242.out) hb); have n2_ := Aside0.mk (blk_below (g := gb244) (o := .cells #[.string ((rd_T45 l0_1 x13_1).f0), .int .i64 ((rd_T45 l0_1 x13_1).f1), .slice (some ad245) ((rd_T45 l0_1 x13_1).f2).length c243_2, .slice A243_3 ((rd_T45 l0_1 x13_1).f3).length c243_3] 45 (0, 0)) (by (with_reducible repeat (first | refine blk_drewN ?_ _ | refine blk_drew ?_ | refine blk_alloc ?_ _)); exact BK244.out) hb); have n3_ := Aside0.mk (below_step (by repeat (first | (with_reducible first | exact HB.out | apply below_alloc | apply pw_below_drewN | apply below_drew1 | refine below_set ?_ GE242.out | refine below_set ?_ GE244.out) | exact HB.out)) hb); have n4_ := Aside0.mk (hbox); have n5_ := Aside0.mk ((by rw [hg]; exact (below_size (by repeat (first | (with_reducible first | exact HB.out | apply below_alloc | apply pw_below_drewN | apply below_drew1 | refine below_set ?_ GE242.out | refine below_set ?_ GE244.out) | exact HB.out))) : w.heap.size ≤ gb246)); have n6_ := Aside0.mk ((by rw [hg]; exact (below_size (by repeat (first | (with_reducible first | exact HB.out | apply below_alloc | apply pw_below_drewN | apply below_drew1 | refine below_set ?_ GE242.out | refine below_set ?_ GE244.out) | exact HB.out))) : w.heap.size ≤ gb246)); have n7_ := Aside0.mk ((by rw [hg]; exact Nat.ne_of_lt (blk_lt (g := gb242) (o := .cells #[.int .i64 a0_0, .slice (some ad243) l0_1.length c0_1, .slice A0_2 l0_2.length c0_2] 25 (0, 0)) (by (with_reducible repeat (first | refine blk_drewN ?_ _ | refine blk_drew ?_ | refine blk_alloc ?_ _)); exact BK242.out)) : gb242 ≠ gb246)); have n8_ := Aside0.mk ((by rw [hg]; exact Nat.ne_of_gt (blk_lt (g := gb242) (o := .cells #[.int .i64 a0_0, .slice (some ad243) l0_1.length c0_1, .slice A0_2 l0_2.length c0_2] 25 (0, 0)) (by (with_reducible repeat (first | refine blk_drewN ?_ _ | refine blk_drew ?_ | refine blk_alloc ?_ _)); exact BK242.out)) : gb246 ≠ gb242)); have n9_ := Aside0.mk ((by rw [hg]; exact Nat.ne_of_lt (blk_lt (g := gb244) (o := .cells #[.string ((rd_T45 l0_1 x13_1).f0), .int .i64 ((rd_T45 l0_1 x13_1).f1), .slice (some ad245) ((rd_T45 l0_1 x13_1).f2).length c243_2, .slice A243_3 ((rd_T45 l0_1 x13_1).f3).length c243_3] 45 (0, 0)) (by (with_reducible repeat (first | refine blk_drewN ?_ _ | refine blk_drew ?_ | refine blk_alloc ?_ _)); exact BK244.out)) : gb244 ≠ gb246)); have n10_ := Aside0.mk ((by rw [hg]; exact Nat.ne_of_gt (blk_lt (g := gb244) (o := .cells #[.string ((rd_T45 l0_1 x13_1).f0), .int .i64 ((rd_T45 l0_1 x13_1).f1), .slice (some ad245) ((rd_T45 l0_1 x13_1).f2).length c243_2, .slice A243_3 ((rd_T45 l0_1 x13_1).f3).length c243_3] 45 (0, 0)) (by (with_reducible repeat (first | refine blk_drewN ?_ _ | refine blk_drew ?_ | refine blk_alloc ?_ _)); exact BK244.out)) : gb246 ≠ gb244)); clear HO_5; clear BK242; clear BK244; clear HB; have HO_5 := n0_; have BK242 := n1_; have BK244 := n2_; have HB := n3_; have BK246 := n4_; have GW246 := n5_; have GE246 := n6_; have NB242_246 := n7_; have NB246_242 := n8_; have NB244_246 := n9_; have NB246_244 := n10_; clear n0_ n1_ n2_ n3_ n4_ n5_ n6_ n7_ n8_ n9_ n10_; clear hb hbox hg; have hnb17 := NB246_242.out; have hnc17 := NB242_246.out; have hnb18 := NB246_244.out; have hnc18 := NB244_246.out; have hcz19_0 : w16.cell? ⟨gb246, 0, none⟩ = some (.string (⟨#[]⟩ : ByteArray)) := (blk_cell BK246.out 0).trans rfl; have hcz19_1 : w16.cell? ⟨gb246, 1, none⟩ = some (.int .i64 0) := (blk_cell BK246.out 1).trans rfl; have hcz19_2 : w16.cell? ⟨gb246, 2, none⟩ = some (.bool false) := (blk_cell BK246.out 2).trans rfl; have hcz19_3 : w16.cell? ⟨gb246, 3, none⟩ = some (.bool false) := (blk_cell BK246.out 3).trans rfl; have hcz19_4 : w16.cell? ⟨gb246, 4, none⟩ = some (.string (⟨#[]⟩ : ByteArray)) := (blk_cell BK246.out 4).trans rfl; have hcz19_5 : w16.cell? ⟨gb246, 5, none⟩ = some (.int .i64 0) := (blk_cell BK246.out 5).trans rfl; have hfz19_0 := blk_frozen BK246.out 0; have hfz19_1 := blk_frozen BK246.out 1; have hfz19_2 := blk_frozen BK246.out 2; have hfz19_3 := blk_frozen BK246.out 3; have hfz19_4 := blk_frozen BK246.out 4; have hfz19_5 := blk_frozen BK246.out 5))
                          go_roundg k2
                          case measure => have := HK1.out; have := HK2.out; omega
                          case rel => exact ⟨(x5_2), (wrap64 (x20_2 + 1)), (by first | rfl | (simp; done) | (simp [*]; done)), H', ⟨by have := HK1.out; have := HK2.out; omega⟩, ⟨by (with_reducible repeat (first | apply Kd.R_alloc | apply Kd.R_drewN | apply Kd.R_drew)); exact Kd.R_mono (Kd.R_far (p := ⟨gb246, 5, none⟩) (Kd.R_far (p := ⟨gb246, 4, none⟩) (Kd.R_far (p := ⟨gb246, 3, none⟩) (Kd.R_far (p := ⟨gb246, 2, none⟩) (Kd.R_far (p := ⟨gb246, 1, none⟩) (Kd.R_far (p := ⟨gb246, 0, none⟩) (Kd.R_types HO_5.out BK246.out (by decide)) (fun _ hk => hk.2) (.string ((rd_T59 ((rd_T45 l0_1 x13_1).f2) x20_2).f0))) (fun _ hk => hk.2) (.int .i64 ((rd_T59 ((rd_T45 l0_1 x13_1).f2) x20_2).f1))) (fun _ hk => hk.2) (.bool ((rd_T59 ((rd_T45 l0_1 x13_1).f2) x20_2).f2))) (fun _ hk => hk.2) (.bool ((rd_T59 ((rd_T45 l0_1 x13_1).f2) x20_2).f3))) (fun _ hk => hk.2) (.string ((rd_T59 ((rd_T45 l0_1 x13_1).f2) x20_2).f4))) (fun _ hk => hk.2) (.int .i64 ((rd_T59 ((rd_T45 l0_1 x13_1).f2) x20_2).f5))) (fun _ hk => trivial)⟩, ⟨by (with_reducible repeat (first | refine blk_drewN ?_ _ | refine blk_drew ?_ | refine blk_alloc ?_ _)); refine blk_far ?_ NB242_246.out _; (with_reducible repeat (first | refine blk_drewN ?_ _ | refine blk_drew ?_ | refine blk_alloc ?_ _)); refine blk_far ?_ NB242_246.out _; (with_reducible repeat (first | refine blk_drewN ?_ _ | refine blk_drew ?_ | refine blk_alloc ?_ _)); refine blk_far ?_ NB242_246.out _; (with_reducible repeat (first | refine blk_drewN ?_ _ | refine blk_drew ?_ | refine blk_alloc ?_ _)); refine blk_far ?_ NB242_246.out _; (with_reducible repeat (first | refine blk_drewN ?_ _ | refine blk_drew ?_ | refine blk_alloc ?_ _)); refine blk_far ?_ NB242_246.out _; (with_reducible repeat (first | refine blk_drewN ?_ _ | refine blk_drew ?_ | refine blk_alloc ?_ _)); refine blk_far ?_ NB242_246.out _; (with_reducible repeat (first | refine blk_drewN ?_ _ | refine blk_drew ?_ | refine blk_alloc ?_ _)); exact BK242.out⟩, ⟨by (with_reducible repeat (first | refine blk_drewN ?_ _ | refine blk_drew ?_ | refine blk_alloc ?_ _)); refine blk_far ?_ NB244_246.out _; (with_reducible repeat (first | refine blk_drewN ?_ _ | refine blk_drew ?_ | refine blk_alloc ?_ _)); refine blk_far ?_ NB244_246.out _; (with_reducible repeat (first | refine blk_drewN ?_ _ | refine blk_drew ?_ | refine blk_alloc ?_ _)); refine blk_far ?_ NB244_246.out _; (with_reducible repeat (first | refine blk_drewN ?_ _ | refine blk_drew ?_ | refine blk_alloc ?_ _)); refine blk_far ?_ NB244_246.out _; (with_reducible repeat (first | refine blk_drewN ?_ _ | refine blk_drew ?_ | refine blk_alloc ?_ _)); refine blk_far ?_ NB244_246.out _; (with_reducible repeat (first | refine blk_drewN ?_ _ | refine blk_drew ?_ | refine blk_alloc ?_ _)); refine blk_far ?_ NB244_246.out _; (with_reducible repeat (first | refine blk_drewN ?_ _ | refine blk_drew ?_ | refine blk_alloc ?_ _)); exact BK244.out⟩, ⟨by repeat (first | (with_reducible first | exact HB.out | apply below_alloc | apply pw_below_drewN | apply below_drew1 | refine below_set ?_ GE242.out | refine below_set ?_ GE244.out | refine below_set ?_ GE246.out) | exact HB.out)⟩⟩
                        · rw [if_neg c15] at H
                          have c15b0 : (a1.toList == ([] : List UInt8)) = false := beq_eq_false_iff_ne.mpr c15
                          have c15b1 : (a1.toList != ([] : List UInt8)) = true := bne_iff_ne.mpr c15
                          by_cases c20 : x5_2.length < 5864062014805
                          · rw [if_pos c20] at H
                            have LMc20 := Aside0.mk c20
                            clear c20
                            obtain ⟨y247, hy247⟩ : ∃ y_ : List (S61), y_ = (x5_2 ++ [(⟨((rd_T45 l0_1 x13_1).f0), x20_2⟩ : S61)]) := ⟨_, rfl⟩
                            replace H : (schema_Links.l1 k2 a1 y247 l0_1 (l0_1.length : Int) x13_1 ((rd_T45 l0_1 x13_1).f2) (((rd_T45 l0_1 x13_1).f2).length : Int) (wrap64 (x20_2 + 1)) ((rd_T45 l0_1 x13_1).f0) ((rd_T45 l0_1 x13_1).f1) ((rd_T45 l0_1 x13_1).f2) ((rd_T45 l0_1 x13_1).f3)) = some r := by first | (rw [hy247]; with_reducible exact H) | (have H2_ := (Option.bind_some _ _).symm.trans H; rw [hy247]; with_reducible exact H2_) | (have H2_ := (Option.bind_some _ _).symm.trans H; with_reducible exact H2_) | with_reducible exact H | (rw [hy247]; exact H) | exact H
                            have Ny247 := Aside0.mk hy247
                            clear hy247
                            have H' := Aside0.mk H
                            clear H
                            have p245 : 0 ≤ (x20_2 : Int) := of_decide_eq_true (by first | (with_reducible assumption) | assumption)
                            have q245 : x20_2 < (((rd_T45 l0_1 x13_1).f2).length : Int) := of_decide_eq_true (by first | (with_reducible assumption) | assumption)
                            obtain ⟨ad245, e245, hx245_0, hx245_1, hx245_2, hx245_3, hx245_4, hx245_5⟩ := at_T59 HR243_2.out x20_2 p245 q245
                            cases e245
                            replace hx245_0 := (HB.out.cell (World.block_lt_of_cell? w _ hx245_0)).trans hx245_0
                            replace hx245_1 := (HB.out.cell (World.block_lt_of_cell? w _ hx245_1)).trans hx245_1
                            replace hx245_2 := (HB.out.cell (World.block_lt_of_cell? w _ hx245_2)).trans hx245_2
                            replace hx245_3 := (HB.out.cell (World.block_lt_of_cell? w _ hx245_3)).trans hx245_3
                            replace hx245_4 := (HB.out.cell (World.block_lt_of_cell? w _ hx245_4)).trans hx245_4
                            replace hx245_5 := (HB.out.cell (World.block_lt_of_cell? w _ hx245_5)).trans hx245_5
                            replace p245 := eq_true p245
                            replace q245 := eq_true q245
                            go_wp2_with (first | ((with_reducible refine gate_dst (N := 9) rfl ?_); refine box_event ?hg (N := 9) ?hd (cs := #[.string (⟨#[]⟩ : ByteArray), .int .i64 0, .bool false, .bool false, .string (⟨#[]⟩ : ByteArray), .int .i64 0]) (t := 59) ?hr ?_; (case hd => rfl); (case hg => rfl); (case hr => first | (go_simp; done) | (go_simp; rfl)); intro gb246 hg w21 hbox hb; have n0_ := Aside0.mk (Kd.R_below (by (with_reducible repeat (first | apply Kd.R_alloc | apply Kd.R_drewN | apply Kd.R_drew)); exact HO_5.out) hb); have n1_ := Aside0.mk (blk_below (g := gb242) (o := .cells #[.int .i64 a0_0, .slice (some ad243) l0_1.length c0_1, .slice A0_2 l0_2.length c0_2] 25 (0, 0)) (by (with_reducible repeat (first | refine blk_drewN ?_ _ | refine blk_drew ?_ | refine blk_alloc ?_ _)); exact BK242.out) hb); have n2_ := Aside0.mk (blk_below (g := gb244) (o := .cells #[.string ((rd_T45 l0_1 x13_1).f0), .int .i64 ((rd_T45 l0_1 x13_1).f1), .slice (some ad245) ((rd_T45 l0_1 x13_1).f2).length c243_2, .slice A243_3 ((rd_T45 l0_1 x13_1).f3).length c243_3] 45 (0, 0)) (by (with_reducible repeat (first | refine blk_drewN ?_ _ | refine blk_drew ?_ | refine blk_alloc ?_ _)); exact BK244.out) hb); have n3_ := Aside0.mk (below_step (by repeat (first | (with_reducible first | exact HB.out | apply below_alloc | apply pw_below_drewN | apply below_drew1 | refine below_set ?_ GE242.out | refine below_set ?_ GE244.out) | exact HB.out)) hb); have n4_ := Aside0.mk (hbox); have n5_ := Aside0.mk ((by rw [hg]; exact (below_size (by repeat (first | (with_reducible first | exact HB.out | apply below_alloc | apply pw_below_drewN | apply below_drew1 | refine below_set ?_ GE242.out | refine below_set ?_ GE244.out) | exact HB.out))) : w.heap.size ≤ gb246)); have n6_ := Aside0.mk ((by rw [hg]; exact (below_size (by repeat (first | (with_reducible first | exact HB.out | apply below_alloc | apply pw_below_drewN | apply below_drew1 | refine below_set ?_ GE242.out | refine below_set ?_ GE244.out) | exact HB.out))) : w.heap.size ≤ gb246)); have n7_ := Aside0.mk ((by rw [hg]; exact Nat.ne_of_lt (blk_lt (g := gb242) (o := .cells #[.int .i64 a0_0, .slice (some ad243) l0_1.length c0_1, .slice A0_2 l0_2.length c0_2] 25 (0, 0)) (by (with_reducible repeat (first | refine blk_drewN ?_ _ | refine blk_drew ?_ | refine blk_alloc ?_ _)); exact BK242.out)) : gb242 ≠ gb246)); have n8_ := Aside0.mk ((by rw [hg]; exact Nat.ne_of_gt (blk_lt (g := gb242) (o := .cells #[.int .i64 a0_0, .slice (some ad243) l0_1.length c0_1, .slice A0_2 l0_2.length c0_2] 25 (0, 0)) (by (with_reducible repeat (first | refine blk_drewN ?_ _ | refine blk_drew ?_ | refine blk_alloc ?_ _)); exact BK242.out)) : gb246 ≠ gb242)); have n9_ := Aside0.mk ((by rw [hg]; exact Nat.ne_of_lt (blk_lt (g := gb244) (o := .cells #[.string ((rd_T45 l0_1 x13_1).f0), .int .i64 ((rd_T45 l0_1 x13_1).f1), .slice (some ad245) ((rd_T45 l0_1 x13_1).f2).length c243_2, .slice A243_3 ((rd_T45 l0_1 x13_1).f3).length c243_3] 45 (0, 0)) (by (with_reducible repeat (first | refine blk_drewN ?_ _ | refine blk_drew ?_ | refine blk_alloc ?_ _)); exact BK244.out)) : gb244 ≠ gb246)); have n10_ := Aside0.mk ((by rw [hg]; exact Nat.ne_of_gt (blk_lt (g := gb244) (o := .cells #[.string ((rd_T45 l0_1 x13_1).f0), .int .i64 ((rd_T45 l0_1 x13_1).f1), .slice (some ad245) ((rd_T45 l0_1 x13_1).f2).length c243_2, .slice A243_3 ((rd_T45 l0_1 x13_1).f3).length c243_3] 45 (0, 0)) (by (with_reducible repeat (first | refine blk_drewN ?_ _ | refine blk_drew ?_ | refine blk_alloc ?_ _)); exact BK244.out)) : gb246 ≠ gb244)); clear HO_5; clear BK242; clear BK244; clear HB; have HO_5 := n0_; have BK242 := n1_; have BK244 := n2_; have HB := n3_; have BK246 := n4_; have GW246 := n5_; have GE246 := n6_; have NB242_246 := n7_; have NB246_242 := n8_; have NB244_246 := n9_; have NB246_244 := n10_; clear n0_ n1_ n2_ n3_ n4_ n5_ n6_ n7_ n8_ n9_ n10_; clear hb hbox hg; have hnb22 := NB246_242.out; have hnc22 := NB242_246.out; have hnb23 := NB246_244.out; have hnc23 := NB244_246.out; have hcz24_0 : w21.cell? ⟨gb246, 0, none⟩ = some (.string (⟨#[]⟩ : ByteArray)) := (blk_cell BK246.out 0).trans rfl; have hcz24_1 : w21.cell? ⟨gb246, 1, none⟩ = some (.int .i64 0) := (blk_cell BK246.out 1).trans rfl; have hcz24_2 : w21.cell? ⟨gb246, 2, none⟩ = some (.bool false) := (blk_cell BK246.out 2).trans rfl; have hcz24_3 : w21.cell? ⟨gb246, 3, none⟩ = some (.bool false) := (blk_cell BK246.out 3).trans rfl; have hcz24_4 : w21.cell? ⟨gb246, 4, none⟩ = some (.string (⟨#[]⟩ : ByteArray)) := (blk_cell BK246.out 4).trans rfl; have hcz24_5 : w21.cell? ⟨gb246, 5, none⟩ = some (.int .i64 0) := (blk_cell BK246.out 5).trans rfl; have hfz24_0 := blk_frozen BK246.out 0; have hfz24_1 := blk_frozen BK246.out 1; have hfz24_2 := blk_frozen BK246.out 2; have hfz24_3 := blk_frozen BK246.out 3; have hfz24_4 := blk_frozen BK246.out 4; have hfz24_5 := blk_frozen BK246.out 5; have hnb25 := NB244_242.out; have hnc25 := NB242_244.out; have hcz26_0 : w21.cell? ⟨gb244, 0, none⟩ = some (.string ((rd_T45 l0_1 x13_1).f0)) := (blk_cell BK244.out 0).trans rfl; have hcz26_1 : w21.cell? ⟨gb244, 1, none⟩ = some (.int .i64 ((rd_T45 l0_1 x13_1).f1)) := (blk_cell BK244.out 1).trans rfl; have hcz26_2 : w21.cell? ⟨gb244, 2, none⟩ = some (.slice (some ad245) ((rd_T45 l0_1 x13_1).f2).length c243_2) := (blk_cell BK244.out 2).trans rfl; have hcz26_3 : w21.cell? ⟨gb244, 3, none⟩ = some (.slice A243_3 ((rd_T45 l0_1 x13_1).f3).length c243_3) := (blk_cell BK244.out 3).trans rfl; have hfz26_0 := blk_frozen BK244.out 0; have hfz26_1 := blk_frozen BK244.out 1; have hfz26_2 := blk_frozen BK244.out 2; have hfz26_3 := blk_frozen BK244.out 3) | ((with_reducible refine gate_builtin (b := .append) (xs := #[.tmp 33, .tmp 38]) rfl ?_); at_builtin; refine Kd.R_append k61 (w0 := w) w.heap.size rfl (.tmp 33) (.tmp 38) 56 61 (.agg #[(.string ⟨#[]⟩), (.int .i64 0)]) 24 rfl Tryd.underlying56 info61 rfl (by decide) (by omega) u5 x5_2 (⟨((rd_T45 l0_1 x13_1).f0), x20_2⟩ : S61) [.string ((rd_T45 l0_1 x13_1).f0), .int .i64 x20_2] (fun _ => True) (fun _ => False) rfl (by first | (go_simp; done) | (go_simp; rfl)) ?aP (fun _ hk => hk.elim) ?aF ?aO ?aB ?aS ?aL ?_; (case aP => exact k61_mkM _ _ _ (⟨((rd_T45 l0_1 x13_1).f0), x20_2⟩ : S61)); (case aB => exact (by repeat (first | (with_reducible first | exact HB.out | apply below_alloc | apply pw_below_drewN | apply below_drew1 | refine below_set ?_ GE242.out | refine below_set ?_ GE244.out | refine below_set ?_ GE246.out) | exact HB.out))); (case aF => exact (fun _ _ => trivial)); (case aO => exact (by (with_reducible repeat (first | apply Kd.R_alloc | apply Kd.R_drewN | apply Kd.R_drew)); exact Kd.R_mono (Kd.R_far (p := ⟨gb246, 5, none⟩) (Kd.R_far (p := ⟨gb246, 4, none⟩) (Kd.R_far (p := ⟨gb246, 3, none⟩) (Kd.R_far (p := ⟨gb246, 2, none⟩) (Kd.R_far (p := ⟨gb246, 1, none⟩) (Kd.R_far (p := ⟨gb246, 0, none⟩) (Kd.R_types HO_5.out BK246.out (by decide)) (fun _ hk => hk.2) (.string ((rd_T59 ((rd_T45 l0_1 x13_1).f2) x20_2).f0))) (fun _ hk => hk.2) (.int .i64 ((rd_T59 ((rd_T45 l0_1 x13_1).f2) x20_2).f1))) (fun _ hk => hk.2) (.bool ((rd_T59 ((rd_T45 l0_1 x13_1).f2) x20_2).f2))) (fun _ hk => hk.2) (.bool ((rd_T59 ((rd_T45 l0_1 x13_1).f2) x20_2).f3))) (fun _ hk => hk.2) (.string ((rd_T59 ((rd_T45 l0_1 x13_1).f2) x20_2).f4))) (fun _ hk => hk.2) (.int .i64 ((rd_T59 ((rd_T45 l0_1 x13_1).f2) x20_2).f5))) (fun _ hk => trivial))); (case aS => exact (below_size (by repeat (first | (with_reducible first | exact HB.out | apply below_alloc | apply pw_below_drewN | apply below_drew1 | refine below_set ?_ GE242.out | refine below_set ?_ GE244.out | refine below_set ?_ GE246.out) | exact HB.out)))); (case aL => have := LMc20.out; omega); intro v248 w27 ho hb hg hat; rw [← Ny247.out] at ho; have n0_ := Aside0.mk (blk_grown (g := gb242) (o := .cells #[.int .i64 a0_0, .slice (some ad243) l0_1.length c0_1, .slice A0_2 l0_2.length c0_2] 25 (0, 0)) (by (with_reducible repeat (first | refine blk_drewN ?_ _ | refine blk_drew ?_ | refine blk_alloc ?_ _)); refine blk_far ?_ NB242_246.out _; (with_reducible repeat (first | refine blk_drewN ?_ _ | refine blk_drew ?_ | refine blk_alloc ?_ _)); refine blk_far ?_ NB242_246.out _; (with_reducible repeat (first | refine blk_drewN ?_ _ | refine blk_drew ?_ | refine blk_alloc ?_ _)); refine blk_far ?_ NB242_246.out _; (with_reducible repeat (first | refine blk_drewN ?_ _ | refine blk_drew ?_ | refine blk_alloc ?_ _)); refine blk_far ?_ NB242_246.out _; (with_reducible repeat (first | refine blk_drewN ?_ _ | refine blk_drew ?_ | refine blk_alloc ?_ _)); refine blk_far ?_ NB242_246.out _; (with_reducible repeat (first | refine blk_drewN ?_ _ | refine blk_drew ?_ | refine blk_alloc ?_ _)); refine blk_far ?_ NB242_246.out _; (with_reducible repeat (first | refine blk_drewN ?_ _ | refine blk_drew ?_ | refine blk_alloc ?_ _)); exact BK242.out) hg (Kd.R_ne HO_5.out BK242.out (by decide))); have n1_ := Aside0.mk (blk_grown (g := gb244) (o := .cells #[.string ((rd_T45 l0_1 x13_1).f0), .int .i64 ((rd_T45 l0_1 x13_1).f1), .slice (some ad245) ((rd_T45 l0_1 x13_1).f2).length c243_2, .slice A243_3 ((rd_T45 l0_1 x13_1).f3).length c243_3] 45 (0, 0)) (by (with_reducible repeat (first | refine blk_drewN ?_ _ | refine blk_drew ?_ | refine blk_alloc ?_ _)); refine blk_far ?_ NB244_246.out _; (with_reducible repeat (first | refine blk_drewN ?_ _ | refine blk_drew ?_ | refine blk_alloc ?_ _)); refine blk_far ?_ NB244_246.out _; (with_reducible repeat (first | refine blk_drewN ?_ _ | refine blk_drew ?_ | refine blk_alloc ?_ _)); refine blk_far ?_ NB244_246.out _; (with_reducible repeat (first | refine blk_drewN ?_ _ | refine blk_drew ?_ | refine blk_alloc ?_ _)); refine blk_far ?_ NB244_246.out _; (with_reducible repeat (first | refine blk_drewN ?_ _ | refine blk_drew ?_ | refine blk_alloc ?_ _)); refine blk_far ?_ NB244_246.out _; (with_reducible repeat (first | refine blk_drewN ?_ _ | refine blk_drew ?_ | refine blk_alloc ?_ _)); refine blk_far ?_ NB244_246.out _; (with_reducible repeat (first | refine blk_drewN ?_ _ | refine blk_drew ?_ | refine blk_alloc ?_ _)); exact BK244.out) hg (Kd.R_ne HO_5.out BK244.out (by decide))); have n2_ := Aside0.mk (blk_grown (g := gb246) (o := .cells #[.string ((rd_T59 ((rd_T45 l0_1 x13_1).f2) x20_2).f0), .int .i64 ((rd_T59 ((rd_T45 l0_1 x13_1).f2) x20_2).f1), .bool ((rd_T59 ((rd_T45 l0_1 x13_1).f2) x20_2).f2), .bool ((rd_T59 ((rd_T45 l0_1 x13_1).f2) x20_2).f3), .string ((rd_T59 ((rd_T45 l0_1 x13_1).f2) x20_2).f4), .int .i64 ((rd_T59 ((rd_T45 l0_1 x13_1).f2) x20_2).f5)] 59 (0, 0)) (by (with_reducible repeat (first | refine blk_drewN ?_ _ | refine blk_drew ?_ | refine blk_alloc ?_ _)); refine blk_put (cs := #[.string ((rd_T59 ((rd_T45 l0_1 x13_1).f2) x20_2).f0), .int .i64 ((rd_T59 ((rd_T45 l0_1 x13_1).f2) x20_2).f1), .bool ((rd_T59 ((rd_T45 l0_1 x13_1).f2) x20_2).f2), .bool ((rd_T59 ((rd_T45 l0_1 x13_1).f2) x20_2).f3), .string ((rd_T59 ((rd_T45 l0_1 x13_1).f2) x20_2).f4), .int .i64 0]) ?_ 5 _ rfl; (with_reducible repeat (first | refine blk_drewN ?_ _ | refine blk_drew ?_ | refine blk_alloc ?_ _)); refine blk_put (cs := #[.string ((rd_T59 ((rd_T45 l0_1 x13_1).f2) x20_2).f0), .int .i64 ((rd_T59 ((rd_T45 l0_1 x13_1).f2) x20_2).f1), .bool ((rd_T59 ((rd_T45 l0_1 x13_1).f2) x20_2).f2), .bool ((rd_T59 ((rd_T45 l0_1 x13_1).f2) x20_2).f3), .string (⟨#[]⟩ : ByteArray), .int .i64 0]) ?_ 4 _ rfl; (with_reducible repeat (first | refine blk_drewN ?_ _ | refine blk_drew ?_ | refine blk_alloc ?_ _)); refine blk_put (cs := #[.string ((rd_T59 ((rd_T45 l0_1 x13_1).f2) x20_2).f0), .int .i64 ((rd_T59 ((rd_T45 l0_1 x13_1).f2) x20_2).f1), .bool ((rd_T59 ((rd_T45 l0_1 x13_1).f2) x20_2).f2), .bool false, .string (⟨#[]⟩ : ByteArray), .int .i64 0]) ?_ 3 _ rfl; (with_reducible repeat (first | refine blk_drewN ?_ _ | refine blk_drew ?_ | refine blk_alloc ?_ _)); refine blk_put (cs := #[.string ((rd_T59 ((rd_T45 l0_1 x13_1).f2) x20_2).f0), .int .i64 ((rd_T59 ((rd_T45 l0_1 x13_1).f2) x20_2).f1), .bool false, .bool false, .string (⟨#[]⟩ : ByteArray), .int .i64 0]) ?_ 2 _ rfl; (with_reducible repeat (first | refine blk_drewN ?_ _ | refine blk_drew ?_ | refine blk_alloc ?_ _)); refine blk_put (cs := #[.string ((rd_T59 ((rd_T45 l0_1 x13_1).f2) x20_2).f0), .int .i64 0, .bool false, .bool false, .string (⟨#[]⟩ : ByteArray), .int .i64 0]) ?_ 1 _ rfl; (with_reducible repeat (first | refine blk_drewN ?_ _ | refine blk_drew ?_ | refine blk_alloc ?_ _)); refine blk_put (cs := #[.string (⟨#[]⟩ : ByteArray), .int .i64 0, .bool false, .bool false, .string (⟨#[]⟩ : ByteArray), .int .i64 0]) ?_ 0 _ rfl; (with_reducible repeat (first | refine blk_drewN ?_ _ | refine blk_drew ?_ | refine blk_alloc ?_ _)); exact BK246.out) hg (Kd.R_ne HO_5.out BK246.out (by decide))); have n3_ := Aside0.mk (hb); have n4_ := Aside0.mk (ho); clear BK242; clear BK244; clear BK246; clear HB; clear HO_5; have BK242 := n0_; have BK244 := n1_; have BK246 := n2_; have HB := n3_; have HO249 := n4_; clear n0_ n1_ n2_ n3_ n4_; clear ho hb hg hat))
                            go_roundg k2
                            case measure => have := HK1.out; have := HK2.out; omega
                            case rel => exact ⟨(y247), (wrap64 (x20_2 + 1)), (by first | rfl | (simp; done) | (simp [*]; done)), H', ⟨by have := HK1.out; have := HK2.out; omega⟩, ⟨by (with_reducible repeat (first | apply Kd.R_alloc | apply Kd.R_drewN | apply Kd.R_drew)); exact HO249.out⟩, ⟨by (with_reducible repeat (first | refine blk_drewN ?_ _ | refine blk_drew ?_ | refine blk_alloc ?_ _)); exact BK242.out⟩, ⟨by (with_reducible repeat (first | refine blk_drewN ?_ _ | refine blk_drew ?_ | refine blk_alloc ?_ _)); exact BK244.out⟩, ⟨by repeat (first | (with_reducible first | exact HB.out | apply below_alloc | apply pw_below_drewN | apply below_drew1 | refine below_set ?_ GE242.out | refine below_set ?_ GE244.out | refine below_set ?_ GE246.out) | exact HB.out)⟩⟩
                          · rw [if_neg c20] at H
                            exact absurd H (by simp)
                      · rw [if_neg c14] at H
                        have c14b0 : (((rd_T59 ((rd_T45 l0_1 x13_1).f2) x20_2).f4).toList == a1.toList) = false := beq_eq_false_iff_ne.mpr c14
                        have c14b1 : (((rd_T59 ((rd_T45 l0_1 x13_1).f2) x20_2).f4).toList != a1.toList) = true := bne_iff_ne.mpr c14
                        have H' := Aside0.mk H
                        clear H
                        have p245 : 0 ≤ (x20_2 : Int) := of_decide_eq_true (by first | (with_reducible assumption) | assumption)
                        have q245 : x20_2 < (((rd_T45 l0_1 x13_1).f2).length : Int) := of_decide_eq_true (by first | (with_reducible assumption) | assumption)
                        obtain ⟨ad245, e245, hx245_0, hx245_1, hx245_2, hx245_3, hx245_4, hx245_5⟩ := at_T59 HR243_2.out x20_2 p245 q245
                        cases e245
                        replace hx245_0 := (HB.out.cell (World.block_lt_of_cell? w _ hx245_0)).trans hx245_0
                        replace hx245_1 := (HB.out.cell (World.block_lt_of_cell? w _ hx245_1)).trans hx245_1
                        replace hx245_2 := (HB.out.cell (World.block_lt_of_cell? w _ hx245_2)).trans hx245_2
                        replace hx245_3 := (HB.out.cell (World.block_lt_of_cell? w _ hx245_3)).trans hx245_3
                        replace hx245_4 := (HB.out.cell (World.block_lt_of_cell? w _ hx245_4)).trans hx245_4
                        replace hx245_5 := (HB.out.cell (World.block_lt_of_cell? w _ hx245_5)).trans hx245_5
                        replace p245 := eq_true p245
                        replace q245 := eq_true q245
                        go_wp2_with (first | ((with_reducible refine gate_dst (N := 9) rfl ?_); refine box_event ?hg (N := 9) ?hd (cs := #[.string (⟨#[]⟩ : ByteArray), .int .i64 0, .bool false, .bool false, .string (⟨#[]⟩ : ByteArray), .int .i64 0]) (t := 59) ?hr ?_; (case hd => rfl); (case hg => rfl); (case hr => first | (go_simp; done) | (go_simp; rfl)); intro gb246 hg w28 hbox hb; have n0_ := Aside0.mk (Kd.R_below (by (with_reducible repeat (first | apply Kd.R_alloc | apply Kd.R_drewN | apply Kd.R_drew)); exact HO_5.out) hb); have n1_ := Aside0.mk (blk_below (g := gb242) (o := .cells #[.int .i64 a0_0, .slice (some ad243) l0_1.length c0_1, .slice A0_2 l0_2.length c0_2] 25 (0, 0)) (by (with_reducible repeat (first | refine blk_drewN ?_ _ | refine blk_drew ?_ | refine blk_alloc ?_ _)); exact BK242.out) hb); have n2_ := Aside0.mk (blk_below (g := gb244) (o := .cells #[.string ((rd_T45 l0_1 x13_1).f0), .int .i64 ((rd_T45 l0_1 x13_1).f1), .slice (some ad245) ((rd_T45 l0_1 x13_1).f2).length c243_2, .slice A243_3 ((rd_T45 l0_1 x13_1).f3).length c243_3] 45 (0, 0)) (by (with_reducible repeat (first | refine blk_drewN ?_ _ | refine blk_drew ?_ | refine blk_alloc ?_ _)); exact BK244.out) hb); have n3_ := Aside0.mk (below_step (by repeat (first | (with_reducible first | exact HB.out | apply below_alloc | apply pw_below_drewN | apply below_drew1 | refine below_set ?_ GE242.out | refine below_set ?_ GE244.out) | exact HB.out)) hb); have n4_ := Aside0.mk (hbox); have n5_ := Aside0.mk ((by rw [hg]; exact (below_size (by repeat (first | (with_reducible first | exact HB.out | apply below_alloc | apply pw_below_drewN | apply below_drew1 | refine below_set ?_ GE242.out | refine below_set ?_ GE244.out) | exact HB.out))) : w.heap.size ≤ gb246)); have n6_ := Aside0.mk ((by rw [hg]; exact (below_size (by repeat (first | (with_reducible first | exact HB.out | apply below_alloc | apply pw_below_drewN | apply below_drew1 | refine below_set ?_ GE242.out | refine below_set ?_ GE244.out) | exact HB.out))) : w.heap.size ≤ gb246)); have n7_ := Aside0.mk ((by rw [hg]; exact Nat.ne_of_lt (blk_lt (g := gb242) (o := .cells #[.int .i64 a0_0, .slice (some ad243) l0_1.length c0_1, .slice A0_2 l0_2.length c0_2] 25 (0, 0)) (by (with_reducible repeat (first | refine blk_drewN ?_ _ | refine blk_drew ?_ | refine blk_alloc ?_ _)); exact BK242.out)) : gb242 ≠ gb246)); have n8_ := Aside0.mk ((by rw [hg]; exact Nat.ne_of_gt (blk_lt (g := gb242) (o := .cells #[.int .i64 a0_0, .slice (some ad243) l0_1.length c0_1, .slice A0_2 l0_2.length c0_2] 25 (0, 0)) (by (with_reducible repeat (first | refine blk_drewN ?_ _ | refine blk_drew ?_ | refine blk_alloc ?_ _)); exact BK242.out)) : gb246 ≠ gb242)); have n9_ := Aside0.mk ((by rw [hg]; exact Nat.ne_of_lt (blk_lt (g := gb244) (o := .cells #[.string ((rd_T45 l0_1 x13_1).f0), .int .i64 ((rd_T45 l0_1 x13_1).f1), .slice (some ad245) ((rd_T45 l0_1 x13_1).f2).length c243_2, .slice A243_3 ((rd_T45 l0_1 x13_1).f3).length c243_3] 45 (0, 0)) (by (with_reducible repeat (first | refine blk_drewN ?_ _ | refine blk_drew ?_ | refine blk_alloc ?_ _)); exact BK244.out)) : gb244 ≠ gb246)); have n10_ := Aside0.mk ((by rw [hg]; exact Nat.ne_of_gt (blk_lt (g := gb244) (o := .cells #[.string ((rd_T45 l0_1 x13_1).f0), .int .i64 ((rd_T45 l0_1 x13_1).f1), .slice (some ad245) ((rd_T45 l0_1 x13_1).f2).length c243_2, .slice A243_3 ((rd_T45 l0_1 x13_1).f3).length c243_3] 45 (0, 0)) (by (with_reducible repeat (first | refine blk_drewN ?_ _ | refine blk_drew ?_ | refine blk_alloc ?_ _)); exact BK244.out)) : gb246 ≠ gb244)); clear HO_5; clear BK242; clear BK244; clear HB; have HO_5 := n0_; have BK242 := n1_; have BK244 := n2_; have HB := n3_; have BK246 := n4_; have GW246 := n5_; have GE246 := n6_; have NB242_246 := n7_; have NB246_242 := n8_; have NB244_246 := n9_; have NB246_244 := n10_; clear n0_ n1_ n2_ n3_ n4_ n5_ n6_ n7_ n8_ n9_ n10_; clear hb hbox hg; have hnb29 := NB246_242.out; have hnc29 := NB242_246.out; have hnb30 := NB246_244.out; have hnc30 := NB244_246.out; have hcz31_0 : w28.cell? ⟨gb246, 0, none⟩ = some (.string (⟨#[]⟩ : ByteArray)) := (blk_cell BK246.out 0).trans rfl; have hcz31_1 : w28.cell? ⟨gb246, 1, none⟩ = some (.int .i64 0) := (blk_cell BK246.out 1).trans rfl; have hcz31_2 : w28.cell? ⟨gb246, 2, none⟩ = some (.bool false) := (blk_cell BK246.out 2).trans rfl; have hcz31_3 : w28.cell? ⟨gb246, 3, none⟩ = some (.bool false) := (blk_cell BK246.out 3).trans rfl; have hcz31_4 : w28.cell? ⟨gb246, 4, none⟩ = some (.string (⟨#[]⟩ : ByteArray)) := (blk_cell BK246.out 4).trans rfl; have hcz31_5 : w28.cell? ⟨gb246, 5, none⟩ = some (.int .i64 0) := (blk_cell BK246.out 5).trans rfl; have hfz31_0 := blk_frozen BK246.out 0; have hfz31_1 := blk_frozen BK246.out 1; have hfz31_2 := blk_frozen BK246.out 2; have hfz31_3 := blk_frozen BK246.out 3; have hfz31_4 := blk_frozen BK246.out 4; have hfz31_5 := blk_frozen BK246.out 5))
                        go_roundg k2
                        case measure => have := HK1.out; have := HK2.out; omega
                        case rel => exact ⟨(x5_2), (wrap64 (x20_2 + 1)), (by first | rfl | (simp; done) | (simp [*]; done)), H', ⟨by have := HK1.out; have := HK2.out; omega⟩, ⟨by (with_reducible repeat (first | apply Kd.R_alloc | apply Kd.R_drewN | apply Kd.R_drew)); exact Kd.R_mono (Kd.R_far (p := ⟨gb246, 5, none⟩) (Kd.R_far (p := ⟨gb246, 4, none⟩) (Kd.R_far (p := ⟨gb246, 3, none⟩) (Kd.R_far (p := ⟨gb246, 2, none⟩) (Kd.R_far (p := ⟨gb246, 1, none⟩) (Kd.R_far (p := ⟨gb246, 0, none⟩) (Kd.R_types HO_5.out BK246.out (by decide)) (fun _ hk => hk.2) (.string ((rd_T59 ((rd_T45 l0_1 x13_1).f2) x20_2).f0))) (fun _ hk => hk.2) (.int .i64 ((rd_T59 ((rd_T45 l0_1 x13_1).f2) x20_2).f1))) (fun _ hk => hk.2) (.bool ((rd_T59 ((rd_T45 l0_1 x13_1).f2) x20_2).f2))) (fun _ hk => hk.2) (.bool ((rd_T59 ((rd_T45 l0_1 x13_1).f2) x20_2).f3))) (fun _ hk => hk.2) (.string ((rd_T59 ((rd_T45 l0_1 x13_1).f2) x20_2).f4))) (fun _ hk => hk.2) (.int .i64 ((rd_T59 ((rd_T45 l0_1 x13_1).f2) x20_2).f5))) (fun _ hk => trivial)⟩, ⟨by (with_reducible repeat (first | refine blk_drewN ?_ _ | refine blk_drew ?_ | refine blk_alloc ?_ _)); refine blk_far ?_ NB242_246.out _; (with_reducible repeat (first | refine blk_drewN ?_ _ | refine blk_drew ?_ | refine blk_alloc ?_ _)); refine blk_far ?_ NB242_246.out _; (with_reducible repeat (first | refine blk_drewN ?_ _ | refine blk_drew ?_ | refine blk_alloc ?_ _)); refine blk_far ?_ NB242_246.out _; (with_reducible repeat (first | refine blk_drewN ?_ _ | refine blk_drew ?_ | refine blk_alloc ?_ _)); refine blk_far ?_ NB242_246.out _; (with_reducible repeat (first | refine blk_drewN ?_ _ | refine blk_drew ?_ | refine blk_alloc ?_ _)); refine blk_far ?_ NB242_246.out _; (with_reducible repeat (first | refine blk_drewN ?_ _ | refine blk_drew ?_ | refine blk_alloc ?_ _)); refine blk_far ?_ NB242_246.out _; (with_reducible repeat (first | refine blk_drewN ?_ _ | refine blk_drew ?_ | refine blk_alloc ?_ _)); exact BK242.out⟩, ⟨by (with_reducible repeat (first | refine blk_drewN ?_ _ | refine blk_drew ?_ | refine blk_alloc ?_ _)); refine blk_far ?_ NB244_246.out _; (with_reducible repeat (first | refine blk_drewN ?_ _ | refine blk_drew ?_ | refine blk_alloc ?_ _)); refine blk_far ?_ NB244_246.out _; (with_reducible repeat (first | refine blk_drewN ?_ _ | refine blk_drew ?_ | refine blk_alloc ?_ _)); refine blk_far ?_ NB244_246.out _; (with_reducible repeat (first | refine blk_drewN ?_ _ | refine blk_drew ?_ | refine blk_alloc ?_ _)); refine blk_far ?_ NB244_246.out _; (with_reducible repeat (first | refine blk_drewN ?_ _ | refine blk_drew ?_ | refine blk_alloc ?_ _)); refine blk_far ?_ NB244_246.out _; (with_reducible repeat (first | refine blk_drewN ?_ _ | refine blk_drew ?_ | refine blk_alloc ?_ _)); refine blk_far ?_ NB244_246.out _; (with_reducible repeat (first | refine blk_drewN ?_ _ | refine blk_drew ?_ | refine blk_alloc ?_ _)); exact BK244.out⟩, ⟨by repeat (first | (with_reducible first | exact HB.out | apply below_alloc | apply pw_below_drewN | apply below_drew1 | refine below_set ?_ GE242.out | refine below_set ?_ GE244.out | refine below_set ?_ GE246.out) | exact HB.out)⟩⟩
                    · rw [if_neg c13] at H
                      exact absurd H (by simp)
                  · rw [if_neg c12] at H
                    exact absurd H (by simp)
                · rw [if_neg c11] at H
                  have c11b0 : decide (x20_2 < (((rd_T45 l0_1 x13_1).f2).length : Int)) = false := decide_eq_false c11
                  clear c11
                  have H' := Aside0.mk H
                  clear H
                  go_wp2
                  go_roundg k2
                  case measure => have := HK1.out; have := HK2.out; omega
                  case rel => exact ⟨(x5_2), (wrap64 (x13_1 + 1)), (by first | rfl | (simp; done) | (simp [*]; done)), H', ⟨by have := HK1.out; have := HK2.out; omega⟩, ⟨by (with_reducible repeat (first | apply Kd.R_alloc | apply Kd.R_drewN | apply Kd.R_drew)); exact HO_5.out⟩, ⟨by (with_reducible repeat (first | refine blk_drewN ?_ _ | refine blk_drew ?_ | refine blk_alloc ?_ _)); exact BK242.out⟩, ⟨by repeat (first | (with_reducible first | exact HB.out | apply below_alloc | apply pw_below_drewN | apply below_drew1 | refine below_set ?_ GE242.out | refine below_set ?_ GE244.out) | exact HB.out)⟩⟩
          · rw [if_neg c7] at H
            exact absurd H (by simp)
        · rw [if_neg c6] at H
          exact absurd H (by simp)
      · rw [if_neg c5] at H
        have c5b0 : decide (x13_1 < (l0_1.length : Int)) = false := decide_eq_false c5
        clear c5
        obtain rfl := Option.some.inj H
        go_wp2
        go_ret
        exact ⟨_, by first | rfl | (simp [errW_none, errW_some] <;> rfl) | (simp [*, errW_none, errW_some] <;> rfl), by (with_reducible repeat (first | apply Kd.R_alloc | apply Kd.R_drewN | apply Kd.R_drew)); exact HO_5.out, by repeat (first | (with_reducible first | exact HB.out | apply below_alloc | apply pw_below_drewN | apply below_drew1 | refine below_set ?_ GE242.out) | exact HB.out)⟩

end Go.Proofs.YtefdfgmlmjnmlaaDoor.Rf
end

section
/- schema.Links as a plain function: the columns that refer, table by table. -/
namespace Go.Proofs.YtefdfgmlmjnmlaaDoor.My
open Go.RowKit Go.Proofs.YtefdfgmlmjnmlaaDoorW.PrintWords Go.Proofs.YtefdfgmlmjnmlaaDoor.Rf

def isL (nm : ByteArray) (c : S59) : Bool := c.f4.toList == nm.toList && !nm.toList.isEmpty
def linksC (nm tn : ByteArray) : List S59 → Nat → List S61
  | [], _ => []
  | c :: cs, i => (if isL nm c then [⟨tn, i⟩] else []) ++ linksC nm tn cs (i + 1)
def linksT (nm : ByteArray) : List S45 → List S61
  | [] => []
  | t :: ts => linksC nm t.f0 t.f2 0 ++ linksT nm ts
def nCols : List S45 → Nat
  | [] => 0
  | t :: ts => t.f2.length + nCols ts
theorem linksC_len (nm tn : ByteArray) : ∀ (cs : List S59) (i : Nat), (linksC nm tn cs i).length ≤ cs.length := by
  intro cs
  induction cs with
  | nil => intro i; exact Nat.le_refl _
  | cons c cs ih =>
    intro i
    have := ih (i + 1)
    simp only [linksC, List.length_append, List.length_cons]
    split <;> simp <;> omega
theorem linksT_len (nm : ByteArray) : ∀ (ts : List S45), (linksT nm ts).length ≤ nCols ts := by
  intro ts
  induction ts with
  | nil => exact Nat.le_refl _
  | cons t ts ih =>
    have := linksC_len nm t.f0 t.f2 0
    simp only [linksT, nCols, List.length_append]
    omega
theorem drop_getD {α : Type} {l : List α} (z : α) {i : Nat} (h : i < l.length) : l.drop i = l.getD i z :: l.drop (i + 1) := by
  rw [List.drop_eq_getElem_cons h]
  simp [List.getD, List.getElem?_eq_getElem h]

theorem links_l1 (nm : ByteArray) (ts : List S45) (j : Int) (cs : List S59) (tn : ByteArray) (a : Int) (b : List S59) (c : List S72) (R : List S61) (M : Nat) (hM : M < 5864062014805) (hl : cs.length ≤ 9223372036854775807)
    (hnext : ∀ acc : List S61, acc.length ≤ M → Ev (fun k => schema_Links.l0 k nm acc ts (ts.length : Int) (wrap64 (j + 1))) (acc ++ R)) :
    ∀ d i (acc : List S61), i + d = cs.length → acc.length + d ≤ M → Ev (fun k => schema_Links.l1 k nm acc ts (ts.length : Int) j cs (cs.length : Int) (i : Int) tn a b c) (acc ++ (linksC nm tn (cs.drop i) i ++ R)) := by
  intro d
  induction d with
  | zero =>
    intro i acc hi hacc
    refine Ev.step (f := fun k => schema_Links.l0 k nm acc ts (ts.length : Int) (wrap64 (j + 1))) (fun k => ?_) ?_
    · simp only [schema_Links.l1]
      rw [if_neg (by omega)]
    · rw [List.drop_eq_nil_of_le (by omega)]
      exact hnext acc (by omega)
  | succ d ih =>
    intro i acc hi hacc
    have hlt : i < cs.length := by omega
    rw [drop_getD z59 hlt]
    simp only [linksC]
    have step : ∀ k, schema_Links.l1 (k + 1) nm acc ts (ts.length : Int) j cs (cs.length : Int) (i : Int) tn a b c = schema_Links.l1 k nm (acc ++ (if isL nm (cs.getD i z59) then [⟨tn, (i : Int)⟩] else [])) ts (ts.length : Int) j cs (cs.length : Int) ((i + 1 : Nat) : Int) tn a b c := by
      intro k
      simp only [schema_Links.l1]
      rw [if_pos (by omega), if_pos (by omega), if_pos (by omega), wrap_next hlt hl, rd59_nat]
      generalize cs.getD i z59 = x
      by_cases h1 : x.f4.toList = nm.toList
      · rw [if_pos h1]
        by_cases h2 : nm.toList = []
        · rw [if_pos h2, if_neg (by simp [isL, h2]), List.append_nil]
        · rw [if_neg h2, if_pos (by omega), if_pos (by simp [isL, h1, h2])]
      · rw [if_neg h1, if_neg (by simp [isL, h1]), List.append_nil]
    refine Ev.step step ?_
    have := ih (i + 1) (acc ++ (if isL nm (cs.getD i z59) then [⟨tn, (i : Int)⟩] else [])) (by omega) (by
      rw [List.length_append]
      split <;> simp <;> omega)
    rw [← List.append_assoc, ← List.append_assoc, List.append_assoc (acc ++ _)]
    exact this
theorem links_l0 (nm : ByteArray) (ts : List S45) (hl : ts.length ≤ 9223372036854775807) (hT : ∀ t, t ∈ ts → OkT t) : ∀ d j (acc : List S61), j + d = ts.length → acc.length + nCols (ts.drop j) < 5864062014805 →
    Ev (fun k => schema_Links.l0 k nm acc ts (ts.length : Int) (j : Int)) (acc ++ linksT nm (ts.drop j)) := by
  intro d
  induction d with
  | zero =>
    intro j acc hj hacc
    refine Ev.step (f := fun _ => some acc) (fun k => ?_) ?_
    · simp only [schema_Links.l0]
      rw [if_neg (by omega)]
    · rw [List.drop_eq_nil_of_le (by omega)]
      simp only [linksT, List.append_nil]
      exact Ev.now _
  | succ d ih =>
    intro j acc hj hacc
    have hlt : j < ts.length := by omega
    rw [drop_getD z45 hlt] at hacc ⊢
    simp only [nCols] at hacc
    simp only [linksT]
    have h := links_l1 nm ts (j : Int) (ts.getD j z45).f2 (ts.getD j z45).f0 (ts.getD j z45).f1 (ts.getD j z45).f2 (ts.getD j z45).f3 (linksT nm (ts.drop (j + 1))) (acc.length + (ts.getD j z45).f2.length) (by omega) (hT _ (mem_getD hlt)).cols
      (fun acc' h' => by rw [wrap_next hlt hl]; exact ih (j + 1) acc' (by omega) (by omega)) (ts.getD j z45).f2.length 0 acc (by omega) (by omega)
    refine Ev.step (fun k => ?_) h
    simp only [schema_Links.l0]
    rw [if_pos (by omega), if_pos (by omega), if_pos (by omega), rd45_nat]
    rfl
theorem links_ev (v : Int) (ts : List S45) (gs : List S27) (nm : ByteArray) (hl : ts.length ≤ 9223372036854775807) (hT : ∀ t, t ∈ ts → OkT t) (hn : nCols ts < 5864062014805) : Ev (fun k => schema_Links.f k v ts gs nm) (linksT nm ts) := by
  have h := links_l0 nm ts hl hT ts.length 0 [] (by omega) (by simpa using hn)
  rw [List.nil_append, List.drop_zero] at h
  exact h
end Go.Proofs.YtefdfgmlmjnmlaaDoor.My
end

section
set_option linter.unusedSimpArgs false
set_option maxRecDepth 10000
/- What an argument reads as, opened, where the reading is of a bounded bulk: so many columns at the most. -/
namespace Go.Proofs.YtefdfgmlmjnmlaaDoor.My
open Go.RowKit Go.Proofs.YtefdfgmlmjnmlaaDoorW.PrintWords Go.Proofs.YtefdfgmlmjnmlaaDoor.Rf
open Go.Proofs.YtefdfgmlmjnmlaaDoor

inductive All2 {α β : Type} (Q : α → β → Prop) : List α → List β → Prop
  | nil : All2 Q [] []
  | cons {a b l m} : Q a b → All2 Q l m → All2 Q (a :: l) (b :: m)
theorem all2_of {α β : Type} {Q : α → β → Prop} : ∀ (l : List α) (m : List β), l.length = m.length → (∀ (i : Nat) a b, l[i]? = some a → m[i]? = some b → Q a b) → All2 Q l m := by
  intro l
  induction l with
  | nil => intro m h _; cases m with
    | nil => exact .nil
    | cons b m => simp at h
  | cons a l ih => intro m h hq; cases m with
    | nil => simp at h
    | cons b m => exact .cons (hq 0 a b rfl rfl) (ih m (by simpa using h) (fun i a' b' h1 h2 => hq (i + 1) a' b' (by simpa using h1) (by simpa using h2)))
theorem bulk_one {H : Type} (d : DataW H) : 1 ≤ Rows.uptoBulk d := by
  cases d with
  | lit l => cases l <;> simp [Rows.uptoBulk]
  | nil => simp [Rows.uptoBulk]
  | ptr d => simp [Rows.uptoBulk]
  | slice elems spare => simp [Rows.uptoBulk]
  | agg parts => simp [Rows.uptoBulk]
  | iface t d => simp [Rows.uptoBulk]
  | map entries => simp [Rows.uptoBulk]
  | held h => simp [Rows.uptoBulk]
theorem bulk_part {H : Type} {d : DataW H} {l : List (DataW H)} (h : d ∈ l) : Rows.uptoBulk d ≤ Rows.uptoBulkAll l := by
  induction l with
  | nil => cases h
  | cons x r ih =>
    simp only [Rows.uptoBulkAll]
    cases List.mem_cons.1 h with
    | inl e => subst e; omega
    | inr e => have := ih e; omega
theorem bulk_len {H : Type} (l : List (DataW H)) : l.length ≤ Rows.uptoBulkAll l := by
  induction l with
  | nil => simp [Rows.uptoBulkAll]
  | cons x r ih => have := bulk_one x; simp only [Rows.uptoBulkAll, List.length_cons]; omega

section
variable {H : Type} {enc : TypeId × Value → H} {w : World} {b : Nat} {sp : Nat → Bool} {held : Bool}
/-- A slice's reading, element by element with its datum. -/
theorem open_rowU {α : Type} {d : Kd α} {Q : α → DataW H → Prop} {t e : TypeId} (ht : Tryd.prog.underlying t = some (.slice e)) (hc : Tryd.prog.cellsOf e = d.sz) {fuel : Nat} {cs : List Value} {x : DataW H × List MemPlace}
    (h : DataW.trod enc Tryd.prog w b sp held fuel t cs = some x) (he : ∀ m, m < fuel → ∀ cs x, DataW.trod enc Tryd.prog w b sp held m e cs = some x → ∃ y, d.K w y cs ∧ Q y x.1) :
    ∃ A c l es, cs = [.slice A l.length c] ∧ l.length ≤ c ∧ Kd.C d w A l.length l ∧ All2 Q l es ∧ Rows.uptoBulkAll es + 1 ≤ Rows.uptoBulk x.1 := by
  rcases DataW.trod_slice ht h with ⟨rfl, rfl⟩ | ⟨a, len, cap, elems, rest, n, rfl, rfl, rfl, hb, hl, hm, hlen, hel, _, _⟩
  · exact ⟨none, 0, [], [], rfl, Nat.le_refl _, Kd.C_nil _ _, .nil, by simp [Rows.uptoBulk, Rows.uptoBulkAll]⟩
  · obtain ⟨l, hl1, hl2⟩ := list_of (P := fun i y => ∃ c z, elems[i]? = some z ∧ c.length = d.sz ∧ d.K w y c ∧ (∀ (j : Nat) u, c[j]? = some u → w.cell? (a.add (i * d.sz + j)) = some u) ∧ Q y z.1) len (fun i hi => by
      have h1 := hel i hi
      rw [List.getElem?_eq_getElem (by omega), Option.bind_eq_some_iff] at h1
      obtain ⟨c, h2, h3⟩ := h1
      obtain ⟨y, hK, hQ⟩ := he n (by omega) _ _ h3
      obtain ⟨h4, h5⟩ := cells_each h2
      refine ⟨y, c, _, List.getElem?_eq_getElem (by omega), h4.trans hc, hK, fun j u hu => ?_, hQ⟩
      rw [← Addr.add_add, ← hc]
      exact h5 j u hu)
    refine ⟨some a, cap, l, elems.map (·.1), by rw [hl1], by omega, ⟨rfl, by rw [hl1]; exact Nat.le_trans hl hm, fun _ => ⟨a, rfl, fun j p hp => ?_⟩⟩, all2_of _ _ (by rw [hl1, List.length_map, hlen]) (fun i y z hy hz => ?_), by simp only [Rows.uptoBulk]; omega⟩
    · obtain ⟨c, _, _, h1, h2, h3, _⟩ := hl2 j p hp
      exact ⟨c, h1, h2, h3⟩
    · obtain ⟨_, z', h1, _, _, _, h4⟩ := hl2 i y hy
      rw [List.getElem?_map, h1] at hz
      simp only [Option.map_some, Option.some.injEq] at hz
      exact hz ▸ h4
theorem all2_len {α β : Type} {Q : α → β → Prop} {l : List α} {m : List β} (h : All2 Q l m) : l.length = m.length := by
  induction h with
  | nil => rfl
  | cons _ _ ih => simp [ih]
theorem open45U {fuel : Nat} {cs : List Value} {x : DataW H × List MemPlace} (h : DataW.trod enc Tryd.prog w b sp held fuel 45 cs = some x) : ∃ y, k45.K w y cs ∧ (y.f2.length ≤ Rows.uptoBulk x.1) := by
  obtain ⟨xs, n, rfl, rfl, hl, hx, hf⟩ := DataW.trod_struct Tryd.underlying45 h
  rw [c45] at hl
  obtain ⟨v0, v1, v2, v3, rfl⟩ := list4 hl
  obtain ⟨x0, x1, x2, x3, rfl⟩ := list4 (show xs.length = 4 from hx)
  have h0 := hf 0 _ rfl
  have h1 := hf 1 _ rfl
  have h2 := hf 2 _ rfl
  have h3 := hf 3 _ rfl
  simp only [c3, c9, c42, c43, List.drop_zero, List.drop_succ_cons, List.take_succ_cons, List.take_zero, List.getElem?_cons_zero, List.getElem?_cons_succ] at h0 h1 h2 h3
  obtain ⟨a0, e0, q0⟩ := open9 h0
  obtain ⟨a1, e1, q1⟩ := open3 h1
  obtain ⟨A, c, l, es, e2, l2, g2, q2, u2⟩ := open_rowU (d := k59) (Q := fun _ _ => True) Tryd.underlying42 (by rw [c59]; rfl) h2 (fun m _ _ _ hm => by obtain ⟨y, hy, _⟩ := open59 hm; exact ⟨y, hy, trivial⟩)
  obtain ⟨A', c', l', e3, l3, g3, q3⟩ := open_rowK (d := k72) (Q := Q72) Tryd.underlying43 (by rw [c72]; rfl) h3 (fun m _ => open72 m)
  cases e0; cases e1; cases e2; cases e3
  refine ⟨⟨a0, a1, l, l'⟩, k45_mk w ⟨a0, a1, l, l'⟩ l2 g2 l3 g3, ?_⟩
  have h5 := all2_len q2
  have h6 := bulk_len es
  simp only [List.map_cons, List.map_nil, Rows.uptoBulk, Rows.uptoBulkAll]
  show l.length ≤ _
  omega
theorem nCols_le : ∀ {l : List S45} {es : List (DataW H)}, All2 (fun (y : S45) x => y.f2.length ≤ Rows.uptoBulk x) l es → nCols l ≤ Rows.uptoBulkAll es := by
  intro l es h
  induction h with
  | nil => exact Nat.le_refl _
  | cons h _ ih => simp only [nCols, Rows.uptoBulkAll]; omega
theorem open25U {fuel : Nat} {cs : List Value} {x : DataW H × List MemPlace} (h : DataW.trod enc Tryd.prog w b sp held fuel 25 cs = some x) :
    ∃ v A c l A' c' l', cs = [.int .i64 v, .slice A l.length c, .slice A' l'.length c'] ∧ l.length ≤ c ∧ Kd.C k45 w A l.length l ∧ nCols l ≤ Rows.uptoBulk x.1 ∧ l'.length ≤ c' ∧ Kd.C k27 w A' l'.length l' := by
  obtain ⟨xs, n, rfl, rfl, hl, hx, hf⟩ := DataW.trod_struct Tryd.underlying25 h
  rw [c25] at hl
  obtain ⟨v0, v1, v2, rfl⟩ := list3 hl
  obtain ⟨x0, x1, x2, rfl⟩ := list3 (show xs.length = 3 from hx)
  have h0 := hf 0 _ rfl
  have h1 := hf 1 _ rfl
  have h2 := hf 2 _ rfl
  simp only [c3, c22, c23, List.drop_zero, List.drop_succ_cons, List.take_succ_cons, List.take_zero, List.getElem?_cons_zero, List.getElem?_cons_succ] at h0 h1 h2
  obtain ⟨a0, e0, q0⟩ := open3 h0
  obtain ⟨A, c, l, es, e1, l1, g1, q1, u1⟩ := open_rowU (d := k45) (Q := fun (y : S45) x => y.f2.length ≤ Rows.uptoBulk x) Tryd.underlying22 (by rw [c45]; rfl) h1 (fun m _ _ _ hm => open45U hm)
  obtain ⟨A', c', l', e2, l2, g2, q2⟩ := open23 h2
  cases e0; cases e1; cases e2
  refine ⟨_, _, _, _, _, _, _, rfl, l1, g1, ?_, l2, g2⟩
  have := nCols_le q1
  simp only [List.map_cons, List.map_nil, Rows.uptoBulk, Rows.uptoBulkAll]
  omega
end
end Go.Proofs.YtefdfgmlmjnmlaaDoor.My
end

section
/- schema.Place: the first column of a name. -/
namespace Go.Proofs.YtefdfgmlmjnmlaaDoor.My
open Go.RowKit Go.Proofs.YtefdfgmlmjnmlaaDoorW.PrintWords Go.Proofs.YtefdfgmlmjnmlaaDoor.Rf

/-- Is this the column of a name? -/
def isC (nm : ByteArray) (t : S59) : Bool := t.f0.toList == nm.toList
def placeC (l : List S59) (nm : ByteArray) : Int := idx (isC nm) l

set_option maxHeartbeats 4000000 in
set_option maxRecDepth 100000 in
theorem isC_calls (t : S59) (nm : ByteArray) (b : Nat) (w : World) (hb : w.heap[b]? = some (.cells #[.string nm] 9 (0, 0))) :
    Calls Tryd.prog 59 #[.agg #[.string t.f0, .int .i64 t.f1, .bool t.f2, .bool t.f3, .string t.f4, .int .i64 t.f5], .pointer (some ⟨b, 0, none⟩)] w fun e w' => e = .returned (.bool (isC nm t)) ∧ Below w.heap.size w w' := by
  have c0 : w.cell? ⟨b, 0, none⟩ = some (.string nm) := blk_cell hb 0
  have hlt := blk_lt hb
  clear hb
  go_enter Tryd.func59, Tryd.ntmps59
  go_wp2
  go_ret
  exact ⟨rfl, (Below.refl _ _).alloc (Nat.le_refl _) _⟩

set_option maxHeartbeats 4000000 in
set_option maxRecDepth 100000 in
theorem idxC_calls (l : List S59) (A : Option Addr) (c : Nat) (nm : ByteArray) (b : Nat) (w : World) (hr : Kd.C k59 w A l.length l) (hb : w.heap[b]? = some (.cells #[.string nm] 9 (0, 0))) :
    Calls Tryd.prog 58 #[.slice A l.length c, .func (.func 59) #[] #[.pointer (some ⟨b, 0, none⟩)]] w fun e w' => e = .returned (.int .i64 (placeC l nm)) ∧ Below w.heap.size w w' := by
  have HR := Aside0.mk hr
  have HBL := Aside0.mk hb
  have hn : l.length ≤ 9223372036854775807 := hr.2.1
  clear hr hb
  go_enter Tryd.func58, Tryd.ntmps58
  go_wp2
  go_loopw [5, 8] (fun _ t8 wr => ∃ k : Nat, t8 = .int .i64 k ∧ k ≤ l.length ∧ Aside0 (∀ j, j < k → isC nm (l.getD j z59) = false) ∧ Aside0 (Below w.heap.size w wr)) (fun _ t8 _ => l.length - (intOf t8).toNat)
  case atStart => exact ⟨0, rfl, Nat.zero_le _, ⟨fun j hj => absurd hj (by omega)⟩, ⟨Below.refl _ _⟩⟩
  case round =>
    obtain ⟨k, rfl, hk, HA, HB⟩ := hrel
    by_cases hlt : k < l.length
    · obtain ⟨ad, e, hc0, hc1, hc2, hc3, hc4, hc5⟩ := at_T59 HR.out (k : Int) (by omega) (by omega)
      subst e
      simp only [Int.toNat_natCast, rd_T59] at hc0 hc1 hc2 hc3 hc4 hc5
      generalize hx : l.getD k z59 = x at hc0 hc1 hc2 hc3 hc4 hc5
      have HXX := Aside0.mk hx
      have d0 := (HB.out.cell (World.block_lt_of_cell? w _ hc0)).trans hc0
      have d1 := (HB.out.cell (World.block_lt_of_cell? w _ hc1)).trans hc1
      have d2 := (HB.out.cell (World.block_lt_of_cell? w _ hc2)).trans hc2
      have d3 := (HB.out.cell (World.block_lt_of_cell? w _ hc3)).trans hc3
      have d4 := (HB.out.cell (World.block_lt_of_cell? w _ hc4)).trans hc4
      have d5 := (HB.out.cell (World.block_lt_of_cell? w _ hc5)).trans hc5
      clear hc0 hc1 hc2 hc3 hc4 hc5 hx
      have hi0 : (0 : Int) ≤ (k : Int) := by omega
      have hi1 : (k : Int) < (l.length : Int) := by omega
      have HBLK := Aside0.mk (blk_below HBL.out HB.out)
      cases hp : isC nm x with
      | true =>
        have hres : placeC l nm = k := idx_hit _ l z59 k hlt HA.out (by rw [HXX.out]; exact hp)
        have HP := Aside0.mk hp
        have HRES := Aside0.mk hres
        clear hp hres
        go_wp2_with (go_at_call 59; refine (isC_calls x nm b _ HBLK.out).mono ?_; rw [HP.out]; rintro e w2 ⟨rfl, hb2⟩)
        go_ret
        exact ⟨by rw [HRES.out]; rfl, HB.out.trans (hb2.mono HB.out.size)⟩
      | false =>
        have hall : ∀ j, j < k + 1 → isC nm (l.getD j z59) = false := fun j hj => by
          rcases Nat.lt_or_ge j k with h | h
          · exact HA.out j h
          · obtain rfl : j = k := by omega
            rw [HXX.out]; exact hp
        have HP := Aside0.mk hp
        have HALL := Aside0.mk hall
        clear hp hall
        go_wp2_with (go_at_call 59; refine (isC_calls x nm b _ HBLK.out).mono ?_; rw [HP.out]; rintro e w2 ⟨rfl, hb2⟩)
        go_roundw
        case rel => exact ⟨k + 1, by go_num, by omega, HALL, ⟨HB.out.trans (hb2.mono HB.out.size)⟩⟩
        case measure => simp [intOf]; omega
    · have hres : placeC l nm = -1 := idx_none _ l z59 (fun j hj => HA.out j (by omega))
      have HRES := Aside0.mk hres
      clear hres
      go_wp2
      go_ret
      exact ⟨by rw [HRES.out]; rfl, HB.out⟩

structure IntPost (b : Int) (w : World) (e : Ending) (w' : World) : Prop where
  out : e = .returned (.int .i64 b) ∧ Below w.heap.size w w'
set_option maxHeartbeats 4000000 in
set_option maxRecDepth 100000 in
theorem place_calls (t : S45) (A : Option Addr) (c : Nat) (A' : Option Addr) (c' : Nat) (nm : ByteArray) (w : World) (hr : Kd.C k59 w A t.f2.length t.f2) :
    Calls Tryd.prog 34 #[.agg #[.string t.f0, .int .i64 t.f1, .slice A t.f2.length c, .slice A' t.f3.length c'], .string nm] w (IntPost (placeC t.f2 nm) w) := by
  have HR := Aside0.mk hr
  clear hr
  go_enter Tryd.func34, Tryd.ntmps34
  go_wp2_with fail
  refine (idxC_calls t.f2 A c nm (w.heap.size + 1) _ ?hC ?hN).mono ?_
  case hC => exact Kd.C_below HR.out (below2 w _ _)
  case hN => exact blk_new1 w _ _
  rintro e w4 ⟨rfl, hb⟩
  go_wp2
  go_ret
  exact ⟨rfl, below_step (below2 w _ _) hb⟩
end Go.Proofs.YtefdfgmlmjnmlaaDoor.My
end

section
set_option linter.unusedSimpArgs false
set_option linter.unusedVariables false
/- schema's column: which column can be. -/
namespace Go.Proofs.YtefdfgmlmjnmlaaDoor.My
open Go.RowKit Go.Proofs.YtefdfgmlmjnmlaaDoorW.PrintWords Go.Proofs.YtefdfgmlmjnmlaaDoor.Rf

theorem add_none (a : Addr) : a.add 0 = a := by simp [Addr.add]
def colBad1 (l : List S59) (i : Nat) (c : S59) : Bool := !isName c.f0 || (decide (placeC l c.f0 ≠ (i : Int)) || (decide (c.f1 < 1) || (decide (3 < c.f1) || (decide (c.f5 < 0) || decide (2 < c.f5)))))
def colBad2 (i : Nat) (c : S59) : Bool := (decide (i = 0) && (!c.f2 || (c.f3 || !c.f4.toList.isEmpty))) || ((c.f4.toList.isEmpty && !decide (c.f5 = 0)) || (decide (c.f5 = 2) && c.f2))
/-- What is wrong with the tables that a column refers to. -/
def colRef (t : S45) (c : S59) (ts : List S45) : Int :=
  let o := if c.f4.toList == t.f0.toList then t else theT ts c.f4
  if ((c.f4.toList == t.f0.toList) = false ∧ findT ts c.f4 < 0) ∨ o.f2.length = 0 then 8
  else if (o.f2.getD 0 z59).f1 ≠ c.f1 then 9 else 0
def colE (t : S45) (i : Nat) (ts : List S45) : Int :=
  let c := t.f2.getD i z59
  if colBad1 t.f2 i c then 4 else if colBad2 i c then 4 else if c.f4.toList.isEmpty then 0 else colRef t c ts

theorem bad2_i0 {i : Nat} {x : S59} (h : i = 0) (he : x.f4.toList.isEmpty = false) : colBad2 i x = true := by
  simp [colBad2, h, he]
theorem bad2_set {i : Nat} {x : S59} (h : x.f5 = 2) (h2 : x.f2 = true) : colBad2 i x = true := by
  simp [colBad2, h, h2]
theorem bad2_no {i : Nat} {x : S59} (he : x.f4.toList.isEmpty = false) (h : ¬ i = 0) (h5 : ¬ x.f5 = 2 ∨ ¬ x.f2 = true) : colBad2 i x = false := by
  rcases h5 with h5 | h5 <;> simp [colBad2, he, h, h5]
theorem ref_self {t : S45} {x y : S59} {ts : List S45} (hs : (x.f4.toList == t.f0.toList) = true) (hz : ¬ t.f2.length = 0) (hy : t.f2.getD 0 z59 = y) : colRef t x ts = if y.f1 ≠ x.f1 then 9 else 0 := by
  unfold colRef
  simp only [hs, if_true]
  rw [if_neg (by intro h; rcases h with h | h; exact absurd h.1 (by decide); exact hz h), hy]
theorem ref_none {t : S45} {x : S59} {ts : List S45} (hs : (x.f4.toList == t.f0.toList) = false) (h : findT ts x.f4 < 0) : colRef t x ts = 8 := by
  unfold colRef
  simp only [hs]
  exact if_pos (.inl ⟨trivial, h⟩)
theorem ref_empty {t : S45} {x : S59} {ts : List S45} (hs : (x.f4.toList == t.f0.toList) = false) (h : (theT ts x.f4).f2.length = 0) : colRef t x ts = 8 := by
  unfold colRef
  simp only [hs]
  rw [if_pos (.inr h)]
theorem ref_other {t : S45} {x z : S59} {ts : List S45} (hs : (x.f4.toList == t.f0.toList) = false) (hn : ¬ findT ts x.f4 < 0) (hz : ¬ (theT ts x.f4).f2.length = 0) (hy : (theT ts x.f4).f2.getD 0 z59 = z) : colRef t x ts = if z.f1 ≠ x.f1 then 9 else 0 := by
  unfold colRef
  simp only [hs]
  rw [if_neg (by intro h; rcases h with h | h; exact hn h.2; exact hz h)]
  simp only [Bool.false_eq_true, if_false, hy]
theorem nine {a b : Int} (h : (a != b) = true) : (if a ≠ b then 9 else 0 : Int) = 9 := if_pos (by simpa using h)
theorem zero0 {a b : Int} (h : (a != b) = false) : (if a ≠ b then 9 else 0 : Int) = 0 := if_neg (by simpa using h)

set_option maxHeartbeats 4000000 in
set_option maxRecDepth 100000 in
theorem column_calls (t : S45) (A : Option Addr) (c : Nat) (A' : Option Addr) (c' : Nat) (i : Nat) (v : Int) (ts : List S45) (B : Option Addr) (d : Nat) (B' : Option Addr) (n' d' : Nat) (w : World)
    (hr : Kd.C k59 w A t.f2.length t.f2) (hts : Kd.C k45 w B ts.length ts) (hT : Tabs w) (hi : i < t.f2.length) (hok : ∀ x, x ∈ t.f2 → x.f0.size ≤ 9223372036854775807) :
    Calls Tryd.prog 60 #[.agg #[.string t.f0, .int .i64 t.f1, .slice A t.f2.length c, .slice A' t.f3.length c'], .int .i64 i, .agg #[.int .i64 v, .slice B ts.length d, .slice B' n' d']] w (IntPost (colE t i ts) w) := by
  have hC0 := hr
  obtain ⟨ad, e, hc0, hc1, hc2, hc3, hc4, hc5⟩ := at_T59 hr (i : Int) (by omega) (by omega)
  subst e
  obtain ⟨_, e', _, hy1, _, _, _, _⟩ := at_T59 hr 0 (by omega) (by omega)
  cases e'
  have hsz : (t.f2.getD i z59).f0.size ≤ 9223372036854775807 := hok _ (by simp [List.getD, List.getElem?_eq_getElem hi])
  simp only [Int.toNat_natCast, rd_T59] at hc0 hc1 hc2 hc3 hc4 hc5
  simp only [Int.toNat_zero, rd_T59, Nat.zero_mul, add_none] at hy1
  have hspec : colE t i ts = (if colBad1 t.f2 i (t.f2.getD i z59) then 4 else if colBad2 i (t.f2.getD i z59) then 4 else if (t.f2.getD i z59).f4.toList.isEmpty then 0 else colRef t (t.f2.getD i z59) ts) := rfl
  generalize hx : t.f2.getD i z59 = x at hc0 hc1 hc2 hc3 hc4 hc5 hsz hspec
  generalize hyy : t.f2.getD 0 z59 = y at hy1
  have HYY := Aside0.mk hyy
  have HXX := Aside0.mk hx
  have HSP := Aside0.mk hspec
  have hi0 : (0 : Int) ≤ (i : Int) := by omega
  have hz0 : 0 < t.f2.length := by omega
  have hz3 : ¬ t.f2.length = 0 := by omega
  have hi1 : (i : Int) < (t.f2.length : Int) := by omega
  have b2 := below2 w (.cells #[.string t.f0, .int .i64 t.f1, .slice (some ad) t.f2.length c, .slice A' t.f3.length c'] 45) (.cells #[.int .i64 v, .slice B ts.length d, .slice B' n' d'] 25)
  have d0 := cell_now b2 hc0
  have d1 := cell_now b2 hc1
  have d2 := cell_now b2 hc2
  have d3 := cell_now b2 hc3
  have d4 := cell_now b2 hc4
  have d5 := cell_now b2 hc5
  have b3 := below3 w (.cells #[.string t.f0, .int .i64 t.f1, .slice (some ad) t.f2.length c, .slice A' t.f3.length c'] 45) (.cells #[.int .i64 v, .slice B ts.length d, .slice B' n' d'] 25) (.cells #[.string x.f0, .int .i64 x.f1, .bool x.f2, .bool x.f3, .string x.f4, .int .i64 x.f5] 59)
  have hk3 := blk_alloc (blk_alloc (blk_new w (.cells #[.string t.f0, .int .i64 t.f1, .slice (some ad) t.f2.length c, .slice A' t.f3.length c'] 45)) (.cells #[.int .i64 v, .slice B ts.length d, .slice B' n' d'] 25)) (.cells #[.string x.f0, .int .i64 x.f1, .bool x.f2, .bool x.f3, .string x.f4, .int .i64 x.f5] 59)
  have hl3 := blk_alloc (blk_new1 w (.cells #[.string t.f0, .int .i64 t.f1, .slice (some ad) t.f2.length c, .slice A' t.f3.length c'] 45) (.cells #[.int .i64 v, .slice B ts.length d, .slice B' n' d'] 25)) (.cells #[.string x.f0, .int .i64 x.f1, .bool x.f2, .bool x.f3, .string x.f4, .int .i64 x.f5] 59)
  have hm3 := blk_new2 w (.cells #[.string t.f0, .int .i64 t.f1, .slice (some ad) t.f2.length c, .slice A' t.f3.length c'] 45) (.cells #[.int .i64 v, .slice B ts.length d, .slice B' n' d'] 25) (.cells #[.string x.f0, .int .i64 x.f1, .bool x.f2, .bool x.f3, .string x.f4, .int .i64 x.f5] 59)
  have HB3 := Aside0.mk b3
  have HK3 := Aside0.mk hk3
  have HL3 := Aside0.mk hl3
  have HM3 := Aside0.mk hm3
  have HR3 := Aside0.mk (Kd.C_below hr b3)
  have HS3 := Aside0.mk (Kd.C_below hts b3)
  have HT3 := Aside0.mk (hT.below b3)
  have HY3 := Aside0.mk (cell_now b3 hy1)
  clear hc0 hc1 hc2 hc3 hc4 hc5 hx hyy hspec b2 b3 hk3 hl3 hm3 hr hts hT hok hC0 hy1
  cases hn : isName x.f0 with
  | false =>
    go_enter Tryd.func60, Tryd.ntmps60
    go_wp2_with (first | (go_at_call 32; refine (name_calls x.f0 _ hsz HT3.out).mono ?_; rintro e wa ⟨rfl, hba⟩; rw [hn]; have HKa := Aside0.mk (blk_below HK3.out hba); have HLa := Aside0.mk (blk_below HL3.out hba); have HMa := Aside0.mk (blk_below HM3.out hba); have HRa := Aside0.mk (Kd.C_below HR3.out hba); have HSa := Aside0.mk (Kd.C_below HS3.out hba); have HTa := Aside0.mk (HT3.out.below hba); have HBa := Aside0.mk (below_step HB3.out hba); have k0a := blk_cell HKa.out 0; have k1a := blk_cell HKa.out 1; have k2a := blk_cell HKa.out 2; have k3a := blk_cell HKa.out 3; have l0a := blk_cell HLa.out 0; have l1a := blk_cell HLa.out 1; have l2a := blk_cell HLa.out 2; have m0a := blk_cell HMa.out 0; have m1a := blk_cell HMa.out 1; have m2a := blk_cell HMa.out 2; have m3a := blk_cell HMa.out 3; have m4a := blk_cell HMa.out 4; have m5a := blk_cell HMa.out 5))
    go_ret
    exact ⟨by rw [HSP.out]; simp only [colBad1, hn]; rfl, HBa.out⟩
  | true =>
    by_cases hp : placeC t.f2 x.f0 = (i : Int)
    · by_cases g1 : x.f1 < 1
      · have hd1 := decide_eq_true g1
        go_enter Tryd.func60, Tryd.ntmps60
        go_wp2_with (first | (go_at_call 32; refine (name_calls x.f0 _ hsz HT3.out).mono ?_; rintro e wa ⟨rfl, hba⟩; rw [hn]; have HKa := Aside0.mk (blk_below HK3.out hba); have HLa := Aside0.mk (blk_below HL3.out hba); have HMa := Aside0.mk (blk_below HM3.out hba); have HRa := Aside0.mk (Kd.C_below HR3.out hba); have HSa := Aside0.mk (Kd.C_below HS3.out hba); have HTa := Aside0.mk (HT3.out.below hba); have HBa := Aside0.mk (below_step HB3.out hba); have k0a := blk_cell HKa.out 0; have k1a := blk_cell HKa.out 1; have k2a := blk_cell HKa.out 2; have k3a := blk_cell HKa.out 3; have l0a := blk_cell HLa.out 0; have l1a := blk_cell HLa.out 1; have l2a := blk_cell HLa.out 2; have m0a := blk_cell HMa.out 0; have m1a := blk_cell HMa.out 1; have m2a := blk_cell HMa.out 2; have m3a := blk_cell HMa.out 3; have m4a := blk_cell HMa.out 4; have m5a := blk_cell HMa.out 5) | (go_at_call 34; refine (place_calls t (some ad) c A' c' x.f0 _ HRa.out).mono ?_; rintro e wb ⟨rfl, hbb⟩; rw [hp]; have HKb := Aside0.mk (blk_below HKa.out hbb); have HLb := Aside0.mk (blk_below HLa.out hbb); have HMb := Aside0.mk (blk_below HMa.out hbb); have HRb := Aside0.mk (Kd.C_below HRa.out hbb); have HSb := Aside0.mk (Kd.C_below HSa.out hbb); have HTb := Aside0.mk (HTa.out.below hbb); have HBb := Aside0.mk (below_step HBa.out hbb); have k0b := blk_cell HKb.out 0; have k1b := blk_cell HKb.out 1; have k2b := blk_cell HKb.out 2; have k3b := blk_cell HKb.out 3; have l0b := blk_cell HLb.out 0; have l1b := blk_cell HLb.out 1; have l2b := blk_cell HLb.out 2; have m0b := blk_cell HMb.out 0; have m1b := blk_cell HMb.out 1; have m2b := blk_cell HMb.out 2; have m3b := blk_cell HMb.out 3; have m4b := blk_cell HMb.out 4; have m5b := blk_cell HMb.out 5; clear k0a k1a k2a k3a l0a l1a l2a m0a m1a m2a m3a m4a m5a))
        go_ret
        exact ⟨by rw [HSP.out]; simp [colBad1, hn, hp, g1], HBb.out⟩
      · have hd1 := decide_eq_false g1
        by_cases g2 : 3 < x.f1
        · have hd2 := decide_eq_true g2
          go_enter Tryd.func60, Tryd.ntmps60
          go_wp2_with (first | (go_at_call 32; refine (name_calls x.f0 _ hsz HT3.out).mono ?_; rintro e wa ⟨rfl, hba⟩; rw [hn]; have HKa := Aside0.mk (blk_below HK3.out hba); have HLa := Aside0.mk (blk_below HL3.out hba); have HMa := Aside0.mk (blk_below HM3.out hba); have HRa := Aside0.mk (Kd.C_below HR3.out hba); have HSa := Aside0.mk (Kd.C_below HS3.out hba); have HTa := Aside0.mk (HT3.out.below hba); have HBa := Aside0.mk (below_step HB3.out hba); have k0a := blk_cell HKa.out 0; have k1a := blk_cell HKa.out 1; have k2a := blk_cell HKa.out 2; have k3a := blk_cell HKa.out 3; have l0a := blk_cell HLa.out 0; have l1a := blk_cell HLa.out 1; have l2a := blk_cell HLa.out 2; have m0a := blk_cell HMa.out 0; have m1a := blk_cell HMa.out 1; have m2a := blk_cell HMa.out 2; have m3a := blk_cell HMa.out 3; have m4a := blk_cell HMa.out 4; have m5a := blk_cell HMa.out 5) | (go_at_call 34; refine (place_calls t (some ad) c A' c' x.f0 _ HRa.out).mono ?_; rintro e wb ⟨rfl, hbb⟩; rw [hp]; have HKb := Aside0.mk (blk_below HKa.out hbb); have HLb := Aside0.mk (blk_below HLa.out hbb); have HMb := Aside0.mk (blk_below HMa.out hbb); have HRb := Aside0.mk (Kd.C_below HRa.out hbb); have HSb := Aside0.mk (Kd.C_below HSa.out hbb); have HTb := Aside0.mk (HTa.out.below hbb); have HBb := Aside0.mk (below_step HBa.out hbb); have k0b := blk_cell HKb.out 0; have k1b := blk_cell HKb.out 1; have k2b := blk_cell HKb.out 2; have k3b := blk_cell HKb.out 3; have l0b := blk_cell HLb.out 0; have l1b := blk_cell HLb.out 1; have l2b := blk_cell HLb.out 2; have m0b := blk_cell HMb.out 0; have m1b := blk_cell HMb.out 1; have m2b := blk_cell HMb.out 2; have m3b := blk_cell HMb.out 3; have m4b := blk_cell HMb.out 4; have m5b := blk_cell HMb.out 5; clear k0a k1a k2a k3a l0a l1a l2a m0a m1a m2a m3a m4a m5a))
          go_ret
          exact ⟨by rw [HSP.out]; simp [colBad1, hn, hp, g2], HBb.out⟩
        · have hd2 := decide_eq_false g2
          by_cases g3 : x.f5 < 0
          · have hd3 := decide_eq_true g3
            go_enter Tryd.func60, Tryd.ntmps60
            go_wp2_with (first | (go_at_call 32; refine (name_calls x.f0 _ hsz HT3.out).mono ?_; rintro e wa ⟨rfl, hba⟩; rw [hn]; have HKa := Aside0.mk (blk_below HK3.out hba); have HLa := Aside0.mk (blk_below HL3.out hba); have HMa := Aside0.mk (blk_below HM3.out hba); have HRa := Aside0.mk (Kd.C_below HR3.out hba); have HSa := Aside0.mk (Kd.C_below HS3.out hba); have HTa := Aside0.mk (HT3.out.below hba); have HBa := Aside0.mk (below_step HB3.out hba); have k0a := blk_cell HKa.out 0; have k1a := blk_cell HKa.out 1; have k2a := blk_cell HKa.out 2; have k3a := blk_cell HKa.out 3; have l0a := blk_cell HLa.out 0; have l1a := blk_cell HLa.out 1; have l2a := blk_cell HLa.out 2; have m0a := blk_cell HMa.out 0; have m1a := blk_cell HMa.out 1; have m2a := blk_cell HMa.out 2; have m3a := blk_cell HMa.out 3; have m4a := blk_cell HMa.out 4; have m5a := blk_cell HMa.out 5) | (go_at_call 34; refine (place_calls t (some ad) c A' c' x.f0 _ HRa.out).mono ?_; rintro e wb ⟨rfl, hbb⟩; rw [hp]; have HKb := Aside0.mk (blk_below HKa.out hbb); have HLb := Aside0.mk (blk_below HLa.out hbb); have HMb := Aside0.mk (blk_below HMa.out hbb); have HRb := Aside0.mk (Kd.C_below HRa.out hbb); have HSb := Aside0.mk (Kd.C_below HSa.out hbb); have HTb := Aside0.mk (HTa.out.below hbb); have HBb := Aside0.mk (below_step HBa.out hbb); have k0b := blk_cell HKb.out 0; have k1b := blk_cell HKb.out 1; have k2b := blk_cell HKb.out 2; have k3b := blk_cell HKb.out 3; have l0b := blk_cell HLb.out 0; have l1b := blk_cell HLb.out 1; have l2b := blk_cell HLb.out 2; have m0b := blk_cell HMb.out 0; have m1b := blk_cell HMb.out 1; have m2b := blk_cell HMb.out 2; have m3b := blk_cell HMb.out 3; have m4b := blk_cell HMb.out 4; have m5b := blk_cell HMb.out 5; clear k0a k1a k2a k3a l0a l1a l2a m0a m1a m2a m3a m4a m5a))
            go_ret
            exact ⟨by rw [HSP.out]; simp [colBad1, hn, hp, g3], HBb.out⟩
          · have hd3 := decide_eq_false g3
            by_cases g4 : 2 < x.f5
            · have hd4 := decide_eq_true g4
              go_enter Tryd.func60, Tryd.ntmps60
              go_wp2_with (first | (go_at_call 32; refine (name_calls x.f0 _ hsz HT3.out).mono ?_; rintro e wa ⟨rfl, hba⟩; rw [hn]; have HKa := Aside0.mk (blk_below HK3.out hba); have HLa := Aside0.mk (blk_below HL3.out hba); have HMa := Aside0.mk (blk_below HM3.out hba); have HRa := Aside0.mk (Kd.C_below HR3.out hba); have HSa := Aside0.mk (Kd.C_below HS3.out hba); have HTa := Aside0.mk (HT3.out.below hba); have HBa := Aside0.mk (below_step HB3.out hba); have k0a := blk_cell HKa.out 0; have k1a := blk_cell HKa.out 1; have k2a := blk_cell HKa.out 2; have k3a := blk_cell HKa.out 3; have l0a := blk_cell HLa.out 0; have l1a := blk_cell HLa.out 1; have l2a := blk_cell HLa.out 2; have m0a := blk_cell HMa.out 0; have m1a := blk_cell HMa.out 1; have m2a := blk_cell HMa.out 2; have m3a := blk_cell HMa.out 3; have m4a := blk_cell HMa.out 4; have m5a := blk_cell HMa.out 5) | (go_at_call 34; refine (place_calls t (some ad) c A' c' x.f0 _ HRa.out).mono ?_; rintro e wb ⟨rfl, hbb⟩; rw [hp]; have HKb := Aside0.mk (blk_below HKa.out hbb); have HLb := Aside0.mk (blk_below HLa.out hbb); have HMb := Aside0.mk (blk_below HMa.out hbb); have HRb := Aside0.mk (Kd.C_below HRa.out hbb); have HSb := Aside0.mk (Kd.C_below HSa.out hbb); have HTb := Aside0.mk (HTa.out.below hbb); have HBb := Aside0.mk (below_step HBa.out hbb); have k0b := blk_cell HKb.out 0; have k1b := blk_cell HKb.out 1; have k2b := blk_cell HKb.out 2; have k3b := blk_cell HKb.out 3; have l0b := blk_cell HLb.out 0; have l1b := blk_cell HLb.out 1; have l2b := blk_cell HLb.out 2; have m0b := blk_cell HMb.out 0; have m1b := blk_cell HMb.out 1; have m2b := blk_cell HMb.out 2; have m3b := blk_cell HMb.out 3; have m4b := blk_cell HMb.out 4; have m5b := blk_cell HMb.out 5; clear k0a k1a k2a k3a l0a l1a l2a m0a m1a m2a m3a m4a m5a))
              go_ret
              exact ⟨by rw [HSP.out]; simp [colBad1, hn, hp, g4], HBb.out⟩
            · have hd4 := decide_eq_false g4
              have hb1 : colBad1 t.f2 i x = false := by simp [colBad1, hn, hp, g1, g2, g3, g4]
              have HB1 := Aside0.mk hb1
              clear hb1
              cases he : x.f4.toList.isEmpty with
              | true =>
                go_enter Tryd.func60, Tryd.ntmps60
                go_wp2_with (first | (go_at_call 32; refine (name_calls x.f0 _ hsz HT3.out).mono ?_; rintro e wa ⟨rfl, hba⟩; rw [hn]; have HKa := Aside0.mk (blk_below HK3.out hba); have HLa := Aside0.mk (blk_below HL3.out hba); have HMa := Aside0.mk (blk_below HM3.out hba); have HRa := Aside0.mk (Kd.C_below HR3.out hba); have HSa := Aside0.mk (Kd.C_below HS3.out hba); have HTa := Aside0.mk (HT3.out.below hba); have HBa := Aside0.mk (below_step HB3.out hba); have k0a := blk_cell HKa.out 0; have k1a := blk_cell HKa.out 1; have k2a := blk_cell HKa.out 2; have k3a := blk_cell HKa.out 3; have l0a := blk_cell HLa.out 0; have l1a := blk_cell HLa.out 1; have l2a := blk_cell HLa.out 2; have m0a := blk_cell HMa.out 0; have m1a := blk_cell HMa.out 1; have m2a := blk_cell HMa.out 2; have m3a := blk_cell HMa.out 3; have m4a := blk_cell HMa.out 4; have m5a := blk_cell HMa.out 5) | (go_at_call 34; refine (place_calls t (some ad) c A' c' x.f0 _ HRa.out).mono ?_; rintro e wb ⟨rfl, hbb⟩; rw [hp]; have HKb := Aside0.mk (blk_below HKa.out hbb); have HLb := Aside0.mk (blk_below HLa.out hbb); have HMb := Aside0.mk (blk_below HMa.out hbb); have HRb := Aside0.mk (Kd.C_below HRa.out hbb); have HSb := Aside0.mk (Kd.C_below HSa.out hbb); have HTb := Aside0.mk (HTa.out.below hbb); have HBb := Aside0.mk (below_step HBa.out hbb); have k0b := blk_cell HKb.out 0; have k1b := blk_cell HKb.out 1; have k2b := blk_cell HKb.out 2; have k3b := blk_cell HKb.out 3; have l0b := blk_cell HLb.out 0; have l1b := blk_cell HLb.out 1; have l2b := blk_cell HLb.out 2; have m0b := blk_cell HMb.out 0; have m1b := blk_cell HMb.out 1; have m2b := blk_cell HMb.out 2; have m3b := blk_cell HMb.out 3; have m4b := blk_cell HMb.out 4; have m5b := blk_cell HMb.out 5; clear k0a k1a k2a k3a l0a l1a l2a m0a m1a m2a m3a m4a m5a))
                all_goals (first | (go_ret; refine ⟨congrArg (fun b => Ending.returned (.int .i64 b)) ?_, HBb.out⟩; rw [HSP.out, HB1.out]))
                all_goals (first | (simp_all [colBad2]; done))
              | false =>
                cases hs : (x.f4.toList == t.f0.toList) with
                | true =>
                  go_enter Tryd.func60, Tryd.ntmps60
                  go_wp2_with (first | (go_at_call 32; refine (name_calls x.f0 _ hsz HT3.out).mono ?_; rintro e wa ⟨rfl, hba⟩; rw [hn]; have HKa := Aside0.mk (blk_below HK3.out hba); have HLa := Aside0.mk (blk_below HL3.out hba); have HMa := Aside0.mk (blk_below HM3.out hba); have HRa := Aside0.mk (Kd.C_below HR3.out hba); have HSa := Aside0.mk (Kd.C_below HS3.out hba); have HTa := Aside0.mk (HT3.out.below hba); have HBa := Aside0.mk (below_step HB3.out hba); have k0a := blk_cell HKa.out 0; have k1a := blk_cell HKa.out 1; have k2a := blk_cell HKa.out 2; have k3a := blk_cell HKa.out 3; have l0a := blk_cell HLa.out 0; have l1a := blk_cell HLa.out 1; have l2a := blk_cell HLa.out 2; have m0a := blk_cell HMa.out 0; have m1a := blk_cell HMa.out 1; have m2a := blk_cell HMa.out 2; have m3a := blk_cell HMa.out 3; have m4a := blk_cell HMa.out 4; have m5a := blk_cell HMa.out 5) | (go_at_call 34; refine (place_calls t (some ad) c A' c' x.f0 _ HRa.out).mono ?_; rintro e wb ⟨rfl, hbb⟩; rw [hp]; have HKb := Aside0.mk (blk_below HKa.out hbb); have HLb := Aside0.mk (blk_below HLa.out hbb); have HMb := Aside0.mk (blk_below HMa.out hbb); have HRb := Aside0.mk (Kd.C_below HRa.out hbb); have HSb := Aside0.mk (Kd.C_below HSa.out hbb); have HTb := Aside0.mk (HTa.out.below hbb); have HBb := Aside0.mk (below_step HBa.out hbb); have k0b := blk_cell HKb.out 0; have k1b := blk_cell HKb.out 1; have k2b := blk_cell HKb.out 2; have k3b := blk_cell HKb.out 3; have l0b := blk_cell HLb.out 0; have l1b := blk_cell HLb.out 1; have l2b := blk_cell HLb.out 2; have m0b := blk_cell HMb.out 0; have m1b := blk_cell HMb.out 1; have m2b := blk_cell HMb.out 2; have m3b := blk_cell HMb.out 3; have m4b := blk_cell HMb.out 4; have m5b := blk_cell HMb.out 5; clear k0a k1a k2a k3a l0a l1a l2a m0a m1a m2a m3a m4a m5a) | (go_at_call 29; refine (find_calls v ts B d B' n' d' x.f4 _ HSb.out).mono ?_; rintro e wc ⟨A2, A3, c2, c3, rfl, hl2, hC2, hl3, hC3, hbc⟩; have HKc := Aside0.mk (blk_below HKb.out hbc); have HLc := Aside0.mk (blk_below HLb.out hbc); have HMc := Aside0.mk (blk_below HMb.out hbc); have HRc := Aside0.mk (Kd.C_below HRb.out hbc); have HSc := Aside0.mk (Kd.C_below HSb.out hbc); have HTc := Aside0.mk (HTb.out.below hbc); have HBc := Aside0.mk (below_step HBb.out hbc); have k0c := blk_cell HKc.out 0; have k1c := blk_cell HKc.out 1; have k2c := blk_cell HKc.out 2; have k3c := blk_cell HKc.out 3; have l0c := blk_cell HLc.out 0; have l1c := blk_cell HLc.out 1; have l2c := blk_cell HLc.out 2; have m0c := blk_cell HMc.out 0; have m1c := blk_cell HMc.out 1; have m2c := blk_cell HMc.out 2; have m3c := blk_cell HMc.out 3; have m4c := blk_cell HMc.out 4; have m5c := blk_cell HMc.out 5; clear k0b k1b k2b k3b l0b l1b l2b m0b m1b m2b m3b m4b m5b; have hyc := cell_now hbc (cell_now hbb (cell_now hba HY3.out)); have HC2 := Aside0.mk hC2; have HC3 := Aside0.mk hC3; clear hl2 hC2 hl3 hC3; have gk := blk_lt HKc.out; have gm := blk_lt HMc.out; have gy := World.block_lt_of_cell? wc _ hyc))
                  all_goals (try (go_quiet (fail); go_wp2))
                  all_goals (go_ret; refine ⟨congrArg (fun b => Ending.returned (.int .i64 b)) ?_, ?_⟩)
                  all_goals (first | exact HBb.out | exact HBc.out | exact below_alloc HBc.out _ | exact pw_below_drewN (below_alloc HBc.out _) _ | skip)
                  all_goals (first
                    | (rw [HSP.out, HB1.out, bad2_i0 (by assumption) he]; rfl)
                    | (rw [HSP.out, HB1.out, bad2_set (by assumption) (by assumption)]; rfl)
                    | (rw [HSP.out, HB1.out, bad2_no he (by assumption) (by first | (left; assumption) | (right; assumption) | (right; simp only [*]; decide)), he]; show _ = colRef t x ts; rw [ref_self hs hz3 HYY.out]; first | exact (nine (by assumption)).symm | exact (zero0 (by assumption)).symm)
                   )
                | false =>
                  by_cases hneg : findT ts x.f4 < 0
                  · have hfd : decide (0 ≤ findT ts x.f4) = false := decide_eq_false (by omega)
                    go_enter Tryd.func60, Tryd.ntmps60
                    go_wp2_with (first | (go_at_call 32; refine (name_calls x.f0 _ hsz HT3.out).mono ?_; rintro e wa ⟨rfl, hba⟩; rw [hn]; have HKa := Aside0.mk (blk_below HK3.out hba); have HLa := Aside0.mk (blk_below HL3.out hba); have HMa := Aside0.mk (blk_below HM3.out hba); have HRa := Aside0.mk (Kd.C_below HR3.out hba); have HSa := Aside0.mk (Kd.C_below HS3.out hba); have HTa := Aside0.mk (HT3.out.below hba); have HBa := Aside0.mk (below_step HB3.out hba); have k0a := blk_cell HKa.out 0; have k1a := blk_cell HKa.out 1; have k2a := blk_cell HKa.out 2; have k3a := blk_cell HKa.out 3; have l0a := blk_cell HLa.out 0; have l1a := blk_cell HLa.out 1; have l2a := blk_cell HLa.out 2; have m0a := blk_cell HMa.out 0; have m1a := blk_cell HMa.out 1; have m2a := blk_cell HMa.out 2; have m3a := blk_cell HMa.out 3; have m4a := blk_cell HMa.out 4; have m5a := blk_cell HMa.out 5) | (go_at_call 34; refine (place_calls t (some ad) c A' c' x.f0 _ HRa.out).mono ?_; rintro e wb ⟨rfl, hbb⟩; rw [hp]; have HKb := Aside0.mk (blk_below HKa.out hbb); have HLb := Aside0.mk (blk_below HLa.out hbb); have HMb := Aside0.mk (blk_below HMa.out hbb); have HRb := Aside0.mk (Kd.C_below HRa.out hbb); have HSb := Aside0.mk (Kd.C_below HSa.out hbb); have HTb := Aside0.mk (HTa.out.below hbb); have HBb := Aside0.mk (below_step HBa.out hbb); have k0b := blk_cell HKb.out 0; have k1b := blk_cell HKb.out 1; have k2b := blk_cell HKb.out 2; have k3b := blk_cell HKb.out 3; have l0b := blk_cell HLb.out 0; have l1b := blk_cell HLb.out 1; have l2b := blk_cell HLb.out 2; have m0b := blk_cell HMb.out 0; have m1b := blk_cell HMb.out 1; have m2b := blk_cell HMb.out 2; have m3b := blk_cell HMb.out 3; have m4b := blk_cell HMb.out 4; have m5b := blk_cell HMb.out 5; clear k0a k1a k2a k3a l0a l1a l2a m0a m1a m2a m3a m4a m5a) | (go_at_call 29; refine (find_calls v ts B d B' n' d' x.f4 _ HSb.out).mono ?_; rintro e wc ⟨A2, A3, c2, c3, rfl, hl2, hC2, hl3, hC3, hbc⟩; rw [hfd]; have HKc := Aside0.mk (blk_below HKb.out hbc); have HLc := Aside0.mk (blk_below HLb.out hbc); have HMc := Aside0.mk (blk_below HMb.out hbc); have HRc := Aside0.mk (Kd.C_below HRb.out hbc); have HSc := Aside0.mk (Kd.C_below HSb.out hbc); have HTc := Aside0.mk (HTb.out.below hbc); have HBc := Aside0.mk (below_step HBb.out hbc); have k0c := blk_cell HKc.out 0; have k1c := blk_cell HKc.out 1; have k2c := blk_cell HKc.out 2; have k3c := blk_cell HKc.out 3; have l0c := blk_cell HLc.out 0; have l1c := blk_cell HLc.out 1; have l2c := blk_cell HLc.out 2; have m0c := blk_cell HMc.out 0; have m1c := blk_cell HMc.out 1; have m2c := blk_cell HMc.out 2; have m3c := blk_cell HMc.out 3; have m4c := blk_cell HMc.out 4; have m5c := blk_cell HMc.out 5; clear k0b k1b k2b k3b l0b l1b l2b m0b m1b m2b m3b m4b m5b; have hyc := cell_now hbc (cell_now hbb (cell_now hba HY3.out)); have HC2 := Aside0.mk hC2; have HC3 := Aside0.mk hC3; clear hl2 hC2 hl3 hC3; have gk := blk_lt HKc.out; have gm := blk_lt HMc.out; have gy := World.block_lt_of_cell? wc _ hyc))
                    all_goals (try (go_quiet (fail); go_wp2))
                    all_goals (go_ret; refine ⟨congrArg (fun b => Ending.returned (.int .i64 b)) ?_, ?_⟩)
                    all_goals (first | exact HBb.out | exact HBc.out | exact below_alloc HBc.out _ | exact pw_below_drewN (below_alloc HBc.out _) _ | skip)
                    all_goals (first
                      | (rw [HSP.out, HB1.out, bad2_i0 (by assumption) he]; rfl)
                      | (rw [HSP.out, HB1.out, bad2_set (by assumption) (by assumption)]; rfl)
                      | (rw [HSP.out, HB1.out, bad2_no he (by assumption) (by first | (left; assumption) | (right; assumption) | (right; simp only [*]; decide)), he]; show _ = colRef t x ts; rw [ref_none hs hneg])
                     )
                  · have hfd : decide (0 ≤ findT ts x.f4) = true := decide_eq_true (by omega)
                    by_cases hz : (theT ts x.f4).f2.length = 0
                    · go_enter Tryd.func60, Tryd.ntmps60
                      go_wp2_with (first | (go_at_call 32; refine (name_calls x.f0 _ hsz HT3.out).mono ?_; rintro e wa ⟨rfl, hba⟩; rw [hn]; have HKa := Aside0.mk (blk_below HK3.out hba); have HLa := Aside0.mk (blk_below HL3.out hba); have HMa := Aside0.mk (blk_below HM3.out hba); have HRa := Aside0.mk (Kd.C_below HR3.out hba); have HSa := Aside0.mk (Kd.C_below HS3.out hba); have HTa := Aside0.mk (HT3.out.below hba); have HBa := Aside0.mk (below_step HB3.out hba); have k0a := blk_cell HKa.out 0; have k1a := blk_cell HKa.out 1; have k2a := blk_cell HKa.out 2; have k3a := blk_cell HKa.out 3; have l0a := blk_cell HLa.out 0; have l1a := blk_cell HLa.out 1; have l2a := blk_cell HLa.out 2; have m0a := blk_cell HMa.out 0; have m1a := blk_cell HMa.out 1; have m2a := blk_cell HMa.out 2; have m3a := blk_cell HMa.out 3; have m4a := blk_cell HMa.out 4; have m5a := blk_cell HMa.out 5) | (go_at_call 34; refine (place_calls t (some ad) c A' c' x.f0 _ HRa.out).mono ?_; rintro e wb ⟨rfl, hbb⟩; rw [hp]; have HKb := Aside0.mk (blk_below HKa.out hbb); have HLb := Aside0.mk (blk_below HLa.out hbb); have HMb := Aside0.mk (blk_below HMa.out hbb); have HRb := Aside0.mk (Kd.C_below HRa.out hbb); have HSb := Aside0.mk (Kd.C_below HSa.out hbb); have HTb := Aside0.mk (HTa.out.below hbb); have HBb := Aside0.mk (below_step HBa.out hbb); have k0b := blk_cell HKb.out 0; have k1b := blk_cell HKb.out 1; have k2b := blk_cell HKb.out 2; have k3b := blk_cell HKb.out 3; have l0b := blk_cell HLb.out 0; have l1b := blk_cell HLb.out 1; have l2b := blk_cell HLb.out 2; have m0b := blk_cell HMb.out 0; have m1b := blk_cell HMb.out 1; have m2b := blk_cell HMb.out 2; have m3b := blk_cell HMb.out 3; have m4b := blk_cell HMb.out 4; have m5b := blk_cell HMb.out 5; clear k0a k1a k2a k3a l0a l1a l2a m0a m1a m2a m3a m4a m5a) | (go_at_call 29; refine (find_calls v ts B d B' n' d' x.f4 _ HSb.out).mono ?_; rintro e wc ⟨A2, A3, c2, c3, rfl, hl2, hC2, hl3, hC3, hbc⟩; rw [hfd]; have HKc := Aside0.mk (blk_below HKb.out hbc); have HLc := Aside0.mk (blk_below HLb.out hbc); have HMc := Aside0.mk (blk_below HMb.out hbc); have HRc := Aside0.mk (Kd.C_below HRb.out hbc); have HSc := Aside0.mk (Kd.C_below HSb.out hbc); have HTc := Aside0.mk (HTb.out.below hbc); have HBc := Aside0.mk (below_step HBb.out hbc); have k0c := blk_cell HKc.out 0; have k1c := blk_cell HKc.out 1; have k2c := blk_cell HKc.out 2; have k3c := blk_cell HKc.out 3; have l0c := blk_cell HLc.out 0; have l1c := blk_cell HLc.out 1; have l2c := blk_cell HLc.out 2; have m0c := blk_cell HMc.out 0; have m1c := blk_cell HMc.out 1; have m2c := blk_cell HMc.out 2; have m3c := blk_cell HMc.out 3; have m4c := blk_cell HMc.out 4; have m5c := blk_cell HMc.out 5; clear k0b k1b k2b k3b l0b l1b l2b m0b m1b m2b m3b m4b m5b; have hyc := cell_now hbc (cell_now hbb (cell_now hba HY3.out)); have HC2 := Aside0.mk hC2; have HC3 := Aside0.mk hC3; clear hl2 hC2 hl3 hC3; have gk := blk_lt HKc.out; have gm := blk_lt HMc.out; have gy := World.block_lt_of_cell? wc _ hyc))
                      all_goals (try (go_quiet (fail); go_wp2))
                      all_goals (go_ret; refine ⟨congrArg (fun b => Ending.returned (.int .i64 b)) ?_, ?_⟩)
                      all_goals (first | exact HBb.out | exact HBc.out | exact below_alloc HBc.out _ | exact pw_below_drewN (below_alloc HBc.out _) _ | skip)
                      all_goals (first
                        | (rw [HSP.out, HB1.out, bad2_i0 (by assumption) he]; rfl)
                        | (rw [HSP.out, HB1.out, bad2_set (by assumption) (by assumption)]; rfl)
                        | (rw [HSP.out, HB1.out, bad2_no he (by assumption) (by first | (left; assumption) | (right; assumption) | (right; simp only [*]; decide)), he]; show _ = colRef t x ts; rw [ref_empty hs hz])
                       )
                    · have hz1 : (0 : Int) < ((theT ts x.f4).f2.length : Int) := by omega
                      have hz4 : 0 < (theT ts x.f4).f2.length := by omega
                      go_enter Tryd.func60, Tryd.ntmps60
                      go_wp2_with (first | (go_at_call 32; refine (name_calls x.f0 _ hsz HT3.out).mono ?_; rintro e wa ⟨rfl, hba⟩; rw [hn]; have HKa := Aside0.mk (blk_below HK3.out hba); have HLa := Aside0.mk (blk_below HL3.out hba); have HMa := Aside0.mk (blk_below HM3.out hba); have HRa := Aside0.mk (Kd.C_below HR3.out hba); have HSa := Aside0.mk (Kd.C_below HS3.out hba); have HTa := Aside0.mk (HT3.out.below hba); have HBa := Aside0.mk (below_step HB3.out hba); have k0a := blk_cell HKa.out 0; have k1a := blk_cell HKa.out 1; have k2a := blk_cell HKa.out 2; have k3a := blk_cell HKa.out 3; have l0a := blk_cell HLa.out 0; have l1a := blk_cell HLa.out 1; have l2a := blk_cell HLa.out 2; have m0a := blk_cell HMa.out 0; have m1a := blk_cell HMa.out 1; have m2a := blk_cell HMa.out 2; have m3a := blk_cell HMa.out 3; have m4a := blk_cell HMa.out 4; have m5a := blk_cell HMa.out 5) | (go_at_call 34; refine (place_calls t (some ad) c A' c' x.f0 _ HRa.out).mono ?_; rintro e wb ⟨rfl, hbb⟩; rw [hp]; have HKb := Aside0.mk (blk_below HKa.out hbb); have HLb := Aside0.mk (blk_below HLa.out hbb); have HMb := Aside0.mk (blk_below HMa.out hbb); have HRb := Aside0.mk (Kd.C_below HRa.out hbb); have HSb := Aside0.mk (Kd.C_below HSa.out hbb); have HTb := Aside0.mk (HTa.out.below hbb); have HBb := Aside0.mk (below_step HBa.out hbb); have k0b := blk_cell HKb.out 0; have k1b := blk_cell HKb.out 1; have k2b := blk_cell HKb.out 2; have k3b := blk_cell HKb.out 3; have l0b := blk_cell HLb.out 0; have l1b := blk_cell HLb.out 1; have l2b := blk_cell HLb.out 2; have m0b := blk_cell HMb.out 0; have m1b := blk_cell HMb.out 1; have m2b := blk_cell HMb.out 2; have m3b := blk_cell HMb.out 3; have m4b := blk_cell HMb.out 4; have m5b := blk_cell HMb.out 5; clear k0a k1a k2a k3a l0a l1a l2a m0a m1a m2a m3a m4a m5a) | (go_at_call 29; refine (find_calls v ts B d B' n' d' x.f4 _ HSb.out).mono ?_; rintro e wc ⟨A2, A3, c2, c3, rfl, hl2, hC2, hl3, hC3, hbc⟩; rw [hfd]; obtain ⟨ad2, eA, _, hz2, _, _, _, _⟩ := at_T59 hC2 0 (by omega) hz1; subst eA; simp only [Int.toNat_zero, rd_T59, Nat.zero_mul, add_none] at hz2; generalize hzz : (theT ts x.f4).f2.getD 0 z59 = z at hz2; have HZZ := Aside0.mk hzz; clear hzz; have hzc := cell_now hbc hz2; have gz := World.block_lt_of_cell? wc _ hzc; have HKc := Aside0.mk (blk_below HKb.out hbc); have HLc := Aside0.mk (blk_below HLb.out hbc); have HMc := Aside0.mk (blk_below HMb.out hbc); have HRc := Aside0.mk (Kd.C_below HRb.out hbc); have HSc := Aside0.mk (Kd.C_below HSb.out hbc); have HTc := Aside0.mk (HTb.out.below hbc); have HBc := Aside0.mk (below_step HBb.out hbc); have k0c := blk_cell HKc.out 0; have k1c := blk_cell HKc.out 1; have k2c := blk_cell HKc.out 2; have k3c := blk_cell HKc.out 3; have l0c := blk_cell HLc.out 0; have l1c := blk_cell HLc.out 1; have l2c := blk_cell HLc.out 2; have m0c := blk_cell HMc.out 0; have m1c := blk_cell HMc.out 1; have m2c := blk_cell HMc.out 2; have m3c := blk_cell HMc.out 3; have m4c := blk_cell HMc.out 4; have m5c := blk_cell HMc.out 5; clear k0b k1b k2b k3b l0b l1b l2b m0b m1b m2b m3b m4b m5b; have hyc := cell_now hbc (cell_now hbb (cell_now hba HY3.out)); have HC2 := Aside0.mk hC2; have HC3 := Aside0.mk hC3; clear hl2 hC2 hl3 hC3; have gk := blk_lt HKc.out; have gm := blk_lt HMc.out; have gy := World.block_lt_of_cell? wc _ hyc))
                      all_goals (try (go_quiet (fail); go_wp2))
                      all_goals (go_ret; refine ⟨congrArg (fun b => Ending.returned (.int .i64 b)) ?_, ?_⟩)
                      all_goals (first | exact HBb.out | exact HBc.out | exact below_alloc HBc.out _ | exact pw_below_drewN (below_alloc HBc.out _) _ | skip)
                      all_goals (first
                        | (rw [HSP.out, HB1.out, bad2_i0 (by assumption) he]; rfl)
                        | (rw [HSP.out, HB1.out, bad2_set (by assumption) (by assumption)]; rfl)
                        | (rw [HSP.out, HB1.out, bad2_no he (by assumption) (by first | (left; assumption) | (right; assumption) | (right; simp only [*]; decide)), he]; show _ = colRef t x ts; rw [ref_other hs (by omega) (by omega) HZZ.out]; first | exact (nine (by assumption)).symm | exact (zero0 (by assumption)).symm)
                       )
    · have hpd : decide (placeC t.f2 x.f0 = (i : Int)) = false := decide_eq_false hp
      go_enter Tryd.func60, Tryd.ntmps60
      go_wp2_with (first | (go_at_call 32; refine (name_calls x.f0 _ hsz HT3.out).mono ?_; rintro e wa ⟨rfl, hba⟩; rw [hn]; have HKa := Aside0.mk (blk_below HK3.out hba); have HLa := Aside0.mk (blk_below HL3.out hba); have HMa := Aside0.mk (blk_below HM3.out hba); have HRa := Aside0.mk (Kd.C_below HR3.out hba); have HSa := Aside0.mk (Kd.C_below HS3.out hba); have HTa := Aside0.mk (HT3.out.below hba); have HBa := Aside0.mk (below_step HB3.out hba); have k0a := blk_cell HKa.out 0; have k1a := blk_cell HKa.out 1; have k2a := blk_cell HKa.out 2; have k3a := blk_cell HKa.out 3; have l0a := blk_cell HLa.out 0; have l1a := blk_cell HLa.out 1; have l2a := blk_cell HLa.out 2; have m0a := blk_cell HMa.out 0; have m1a := blk_cell HMa.out 1; have m2a := blk_cell HMa.out 2; have m3a := blk_cell HMa.out 3; have m4a := blk_cell HMa.out 4; have m5a := blk_cell HMa.out 5) | (go_at_call 34; refine (place_calls t (some ad) c A' c' x.f0 _ HRa.out).mono ?_; rintro e wb ⟨rfl, hbb⟩; have HKb := Aside0.mk (blk_below HKa.out hbb); have HLb := Aside0.mk (blk_below HLa.out hbb); have HMb := Aside0.mk (blk_below HMa.out hbb); have HRb := Aside0.mk (Kd.C_below HRa.out hbb); have HSb := Aside0.mk (Kd.C_below HSa.out hbb); have HTb := Aside0.mk (HTa.out.below hbb); have HBb := Aside0.mk (below_step HBa.out hbb); have k0b := blk_cell HKb.out 0; have k1b := blk_cell HKb.out 1; have k2b := blk_cell HKb.out 2; have k3b := blk_cell HKb.out 3; have l0b := blk_cell HLb.out 0; have l1b := blk_cell HLb.out 1; have l2b := blk_cell HLb.out 2; have m0b := blk_cell HMb.out 0; have m1b := blk_cell HMb.out 1; have m2b := blk_cell HMb.out 2; have m3b := blk_cell HMb.out 3; have m4b := blk_cell HMb.out 4; have m5b := blk_cell HMb.out 5; clear k0a k1a k2a k3a l0a l1a l2a m0a m1a m2a m3a m4a m5a))
      go_ret
      exact ⟨by rw [HSP.out]; simp only [colBad1, hn, decide_eq_true hp]; rfl, HBb.out⟩
end Go.Proofs.YtefdfgmlmjnmlaaDoor.My
end
