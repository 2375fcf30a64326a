/- PROVED: the tied card of the law GrantMay: whatever the input, the law returns true and leaves its arguments as they read. Its conditions: those of the given row and no others (the two tables of unicode/utf8 read as the program's text lays them). Joined out of this session's smaller texts (part 3 of 3). -/
import Derived.Test.YtefdfgmlmjnmlaaDoorZGrantMay1
import Derived.Test.YtefdfgmlmjnmlaaDoorZGrantMay2
section
set_option linter.unusedVariables false
set_option linter.unusedSimpArgs false
/- What the kit's print.py wrote of one Go function of this seat's translation (run by a program of this session, one function a text): the function as a plain Lean function, and that the call computes it. -/
namespace Go.Proofs.YtefdfgmlmjnmlaaDoor.Rf
open Go.RowKit Go.Proofs.YtefdfgmlmjnmlaaDoorW.PrintWords Go.Proofs.YtefdfgmlmjnmlaaDoorW.PrintLast Go.Proofs.YtefdfgmlmjnmlaaDoorW.PrintMore
attribute [local go_sem] max2_int min2_int max_two min_two max_three min_three max_four min_four   -- for this text's walks alone

/-! ### mortmainref09_Great: function 13 -/
mutual
def mortmainref09_Great.l0 : Nat → Int → List (S45) → Int → Int → Int → List (S45) → List (S27) → Option (Bool)
  | 0, _, _, _, _, _, _, _ => none
  | k + 1, x3, x22, x23, x24, x136000, x136001, x136002 => if x24 < x23 then (if 0 ≤ x24 then (if x24 < (x22.length : Int) then (mortmainref09_Great.l1 k (wrap64 ((wrap64 ((wrap64 (x3 + (((rd_T45 x22 x24).f0).size : Int))) + (((rd_T45 x22 x24).f2).length : Int))) + (((rd_T45 x22 x24).f3).length : Int))) x22 x23 x24 ((rd_T45 x22 x24).f2) (((rd_T45 x22 x24).f2).length : Int) 0 x136000 x136001 x136002 ((rd_T45 x22 x24).f0) ((rd_T45 x22 x24).f1) ((rd_T45 x22 x24).f2) ((rd_T45 x22 x24).f3)) else (none)) else (none)) else (mortmainref09_Great.l3 k x3 x136002 (x136002.length : Int) 0)
def mortmainref09_Great.l1 : Nat → Int → List (S45) → Int → Int → List (S59) → Int → Int → Int → List (S45) → List (S27) → ByteArray → Int → List (S59) → List (S72) → Option (Bool)
  | 0, _, _, _, _, _, _, _, _, _, _, _, _, _, _ => none
  | k + 1, x3, x22, x23, x24, x42, x43, x44, x136000, x136001, x136002, x138000, x138001, x138002, x138003 => if x44 < x43 then (if 0 ≤ x44 then (if x44 < (x42.length : Int) then (mortmainref09_Great.l1 k (wrap64 ((wrap64 (x3 + (((rd_T59 x42 x44).f0).size : Int))) + (((rd_T59 x42 x44).f4).size : Int))) x22 x23 x24 x42 x43 (wrap64 (x44 + 1)) x136000 x136001 x136002 x138000 x138001 x138002 x138003) else (none)) else (none)) else (mortmainref09_Great.l2 k x3 x22 x23 x24 x138003 (x138003.length : Int) 0 x136000 x136001 x136002)
def mortmainref09_Great.l2 : Nat → Int → List (S45) → Int → Int → List (S72) → Int → Int → Int → List (S45) → List (S27) → Option (Bool)
  | 0, _, _, _, _, _, _, _, _, _, _ => none
  | k + 1, x3, x22, x23, x24, x59, x60, x61, x136000, x136001, x136002 => if x61 < x60 then (if 0 ≤ x61 then (if x61 < (x59.length : Int) then ((mortmainref08_Great.f k ((rd_T72 x59 x61).f0) ((rd_T72 x59 x61).f1) ((rd_T72 x59 x61).f2.f0) ((rd_T72 x59 x61).f2.f1) ((rd_T72 x59 x61).f2.f2) ((rd_T72 x59 x61).f3)).bind fun t142 => (if t142 = true then (some true) else (mortmainref09_Great.l2 k x3 x22 x23 x24 x59 x60 (wrap64 (x61 + 1)) x136000 x136001 x136002))) else (none)) else (none)) else (if x3 > 3000 then (some true) else (mortmainref09_Great.l0 k x3 x22 x23 (wrap64 (x24 + 1)) x136000 x136001 x136002))
def mortmainref09_Great.l3 : Nat → Int → List (S27) → Int → Int → Option (Bool)
  | 0, _, _, _, _ => none
  | k + 1, x3, x72, x73, x74 => if x74 < x73 then (if 0 ≤ x74 then (if x74 < (x72.length : Int) then (mortmainref09_Great.l3 k (wrap64 (x3 + (((rd_T27 x72 x74).f1).size : Int))) x72 x73 (wrap64 (x74 + 1))) else (none)) else (none)) else (some (decide (x3 > 3000)))
end
def mortmainref09_Great.f (k : Nat) (a0_0 : Int) (l0_1 : List (S45)) (l0_2 : List (S27)) : Option (Bool) := if (wrap64 ((l0_1.length : Int) + (l0_2.length : Int))) > 200 then (some true) else (mortmainref09_Great.l0 k (wrap64 ((l0_1.length : Int) + (l0_2.length : Int))) l0_1 (l0_1.length : Int) 0 a0_0 l0_1 l0_2)
theorem mortmainref09_Great.mono_l : ∀ k, (∀ y0 y1 y2 y3 y4 y5 y6, LeO (mortmainref09_Great.l0 k y0 y1 y2 y3 y4 y5 y6) (mortmainref09_Great.l0 (k + 1) y0 y1 y2 y3 y4 y5 y6)) ∧ (∀ y0 y1 y2 y3 y4 y5 y6 y7 y8 y9 y10 y11 y12 y13, LeO (mortmainref09_Great.l1 k y0 y1 y2 y3 y4 y5 y6 y7 y8 y9 y10 y11 y12 y13) (mortmainref09_Great.l1 (k + 1) y0 y1 y2 y3 y4 y5 y6 y7 y8 y9 y10 y11 y12 y13)) ∧ (∀ y0 y1 y2 y3 y4 y5 y6 y7 y8 y9, LeO (mortmainref09_Great.l2 k y0 y1 y2 y3 y4 y5 y6 y7 y8 y9) (mortmainref09_Great.l2 (k + 1) y0 y1 y2 y3 y4 y5 y6 y7 y8 y9)) ∧ (∀ y0 y1 y2 y3, LeO (mortmainref09_Great.l3 k y0 y1 y2 y3) (mortmainref09_Great.l3 (k + 1) y0 y1 y2 y3))
  | 0 => ⟨fun _ _ _ _ _ _ _ r h => by simp [mortmainref09_Great.l0] at h, fun _ _ _ _ _ _ _ _ _ _ _ _ _ _ r h => by simp [mortmainref09_Great.l1] at h, fun _ _ _ _ _ _ _ _ _ _ r h => by simp [mortmainref09_Great.l2] at h, fun _ _ _ _ r h => by simp [mortmainref09_Great.l3] at h⟩
  | k + 1 => by
    obtain ⟨ih0, ih1, ih2, ih3⟩ := mortmainref09_Great.mono_l k
    refine ⟨?_, ?_, ?_, ?_⟩
    · intro y0 y1 y2 y3 y4 y5 y6
      unfold mortmainref09_Great.l0
      repeat' first
      | (with_reducible exact ih0 _ _ _ _ _ _ _)
      | (with_reducible exact ih1 _ _ _ _ _ _ _ _ _ _ _ _ _ _)
      | (with_reducible exact ih2 _ _ _ _ _ _ _ _ _ _)
      | (with_reducible exact ih3 _ _ _ _)
      | (with_reducible exact mortmainref08_Great.mono _ _ _ _ _ _ _)
      | (with_reducible exact LeO.refl _)
      | (with_reducible exact LeO.none _)
      | (with_reducible refine LeO.ite ?_ ?_)
      | (with_reducible refine LeO.bind ?_ (fun _ => ?_))
      | exact ih0 _ _ _ _ _ _ _
      | exact ih1 _ _ _ _ _ _ _ _ _ _ _ _ _ _
      | exact ih2 _ _ _ _ _ _ _ _ _ _
      | exact ih3 _ _ _ _
      | exact mortmainref08_Great.mono _ _ _ _ _ _ _
      | exact LeO.none _
      | refine LeO.ite ?_ ?_
      | refine LeO.bind ?_ (fun _ => ?_)
    · intro y0 y1 y2 y3 y4 y5 y6 y7 y8 y9 y10 y11 y12 y13
      unfold mortmainref09_Great.l1
      repeat' first
      | (with_reducible exact ih0 _ _ _ _ _ _ _)
      | (with_reducible exact ih1 _ _ _ _ _ _ _ _ _ _ _ _ _ _)
      | (with_reducible exact ih2 _ _ _ _ _ _ _ _ _ _)
      | (with_reducible exact ih3 _ _ _ _)
      | (with_reducible exact mortmainref08_Great.mono _ _ _ _ _ _ _)
      | (with_reducible exact LeO.refl _)
      | (with_reducible exact LeO.none _)
      | (with_reducible refine LeO.ite ?_ ?_)
      | (with_reducible refine LeO.bind ?_ (fun _ => ?_))
      | exact ih0 _ _ _ _ _ _ _
      | exact ih1 _ _ _ _ _ _ _ _ _ _ _ _ _ _
      | exact ih2 _ _ _ _ _ _ _ _ _ _
      | exact ih3 _ _ _ _
      | exact mortmainref08_Great.mono _ _ _ _ _ _ _
      | exact LeO.none _
      | refine LeO.ite ?_ ?_
      | refine LeO.bind ?_ (fun _ => ?_)
    · intro y0 y1 y2 y3 y4 y5 y6 y7 y8 y9
      unfold mortmainref09_Great.l2
      repeat' first
      | (with_reducible exact ih0 _ _ _ _ _ _ _)
      | (with_reducible exact ih1 _ _ _ _ _ _ _ _ _ _ _ _ _ _)
      | (with_reducible exact ih2 _ _ _ _ _ _ _ _ _ _)
      | (with_reducible exact ih3 _ _ _ _)
      | (with_reducible exact mortmainref08_Great.mono _ _ _ _ _ _ _)
      | (with_reducible exact LeO.refl _)
      | (with_reducible exact LeO.none _)
      | (with_reducible refine LeO.ite ?_ ?_)
      | (with_reducible refine LeO.bind ?_ (fun _ => ?_))
      | exact ih0 _ _ _ _ _ _ _
      | exact ih1 _ _ _ _ _ _ _ _ _ _ _ _ _ _
      | exact ih2 _ _ _ _ _ _ _ _ _ _
      | exact ih3 _ _ _ _
      | exact mortmainref08_Great.mono _ _ _ _ _ _ _
      | exact LeO.none _
      | refine LeO.ite ?_ ?_
      | refine LeO.bind ?_ (fun _ => ?_)
    · intro y0 y1 y2 y3
      unfold mortmainref09_Great.l3
      repeat' first
      | (with_reducible exact ih0 _ _ _ _ _ _ _)
      | (with_reducible exact ih1 _ _ _ _ _ _ _ _ _ _ _ _ _ _)
      | (with_reducible exact ih2 _ _ _ _ _ _ _ _ _ _)
      | (with_reducible exact ih3 _ _ _ _)
      | (with_reducible exact mortmainref08_Great.mono _ _ _ _ _ _ _)
      | (with_reducible exact LeO.refl _)
      | (with_reducible exact LeO.none _)
      | (with_reducible refine LeO.ite ?_ ?_)
      | (with_reducible refine LeO.bind ?_ (fun _ => ?_))
      | exact ih0 _ _ _ _ _ _ _
      | exact ih1 _ _ _ _ _ _ _ _ _ _ _ _ _ _
      | exact ih2 _ _ _ _ _ _ _ _ _ _
      | exact ih3 _ _ _ _
      | exact mortmainref08_Great.mono _ _ _ _ _ _ _
      | exact LeO.none _
      | refine LeO.ite ?_ ?_
      | refine LeO.bind ?_ (fun _ => ?_)
theorem mortmainref09_Great.mono : ∀ a0 a1 a2 k, LeO (mortmainref09_Great.f k a0 a1 a2) (mortmainref09_Great.f (k + 1) a0 a1 a2) := by
  intro a0 a1 a2 k
  obtain ⟨ih0, ih1, ih2, ih3⟩ := mortmainref09_Great.mono_l k
  unfold mortmainref09_Great.f
  repeat' first
      | (with_reducible exact ih0 _ _ _ _ _ _ _)
      | (with_reducible exact ih1 _ _ _ _ _ _ _ _ _ _ _ _ _ _)
      | (with_reducible exact ih2 _ _ _ _ _ _ _ _ _ _)
      | (with_reducible exact ih3 _ _ _ _)
      | (with_reducible exact mortmainref08_Great.mono _ _ _ _ _ _ _)
      | (with_reducible exact LeO.refl _)
      | (with_reducible exact LeO.none _)
      | (with_reducible refine LeO.ite ?_ ?_)
      | (with_reducible refine LeO.bind ?_ (fun _ => ?_))
      | exact ih0 _ _ _ _ _ _ _
      | exact ih1 _ _ _ _ _ _ _ _ _ _ _ _ _ _
      | exact ih2 _ _ _ _ _ _ _ _ _ _
      | exact ih3 _ _ _ _
      | exact mortmainref08_Great.mono _ _ _ _ _ _ _
      | exact LeO.none _
      | refine LeO.ite ?_ ?_
      | refine LeO.bind ?_ (fun _ => ?_)
set_option maxHeartbeats 8000000 in
set_option maxRecDepth 100000 in
theorem mortmainref09_Great.calls (k : Nat) (a0_0 : Int) (A0_1 : Option Addr) (c0_1 : Nat) (l0_1 : List (S45)) (A0_2 : Option Addr) (c0_2 : Nat) (l0_2 : List (S27)) (r : Bool) (w : World) (hr0_1 : Kd.C k45 w A0_1 l0_1.length l0_1) (hc0_1 : l0_1.length ≤ c0_1) (hr0_2 : Kd.C k27 w A0_2 l0_2.length l0_2) (hc0_2 : l0_2.length ≤ c0_2) (h : mortmainref09_Great.f k a0_0 l0_1 l0_2 = some r) :
    Calls Tryd.prog 13 #[.agg #[.int .i64 a0_0, .slice A0_1 l0_1.length c0_1, .slice A0_2 l0_2.length c0_2]] w fun e w' => e = .returned (.bool r) ∧ Below w.heap.size w w' := by
  have hu25 := Tryd.underlying25
  have hu45 := Tryd.underlying45
  have hu59 := Tryd.underlying59
  have hu72 := Tryd.underlying72
  have hu27 := Tryd.underlying27
  have HR0_1 := Aside0.mk hr0_1
  have HC0_1 := Aside0.mk hc0_1
  clear hr0_1 hc0_1
  have HR0_2 := Aside0.mk hr0_2
  have HC0_2 := Aside0.mk hc0_2
  clear hr0_2 hc0_2
  have HB := Aside0.mk (Below.refl w.heap.size w)
  have H : (if (wrap64 ((l0_1.length : Int) + (l0_2.length : Int))) > 200 then (some true) else (mortmainref09_Great.l0 k (wrap64 ((l0_1.length : Int) + (l0_2.length : Int))) l0_1 (l0_1.length : Int) 0 a0_0 l0_1 l0_2)) = some r := h
  clear h
  by_cases c2 : (wrap64 ((l0_1.length : Int) + (l0_2.length : Int))) > 200
  · rw [if_pos c2] at H
    have c2b0 : decide (200 < (wrap64 ((l0_1.length : Int) + (l0_2.length : Int)))) = true := decide_eq_true c2
    clear c2
    obtain rfl := Option.some.inj H
    go_enter Tryd.func13, Tryd.ntmps13
    go_wp2_with (first | ((with_reducible refine gate_dst (N := 1) rfl ?_); refine box_event ?hg (N := 1) ?hd (cs := #[.int .i64 a0_0, .slice A0_1 l0_1.length c0_1, .slice A0_2 l0_2.length c0_2]) (t := 25) ?hr ?_; (case hd => rfl); (case hg => rfl); (case hr => first | (go_simp; done) | (go_simp; rfl)); intro gb135 hg w3 hbox hb; have n0_ := Aside0.mk (below_step (by repeat (first | (with_reducible first | exact HB.out | apply below_alloc | apply pw_below_drewN | apply below_drew1) | exact HB.out)) hb); have n1_ := Aside0.mk (hbox); have n2_ := Aside0.mk ((by rw [hg]; exact (below_size (by repeat (first | (with_reducible first | exact HB.out | apply below_alloc | apply pw_below_drewN | apply below_drew1) | exact HB.out))) : w.heap.size ≤ gb135)); have n3_ := Aside0.mk ((by rw [hg]; exact (below_size (by repeat (first | (with_reducible first | exact HB.out | apply below_alloc | apply pw_below_drewN | apply below_drew1) | exact HB.out))) : w.heap.size ≤ gb135)); clear HB; have HB := n0_; have BK135 := n1_; have GW135 := n2_; have GE135 := n3_; clear n0_ n1_ n2_ n3_; clear hb hbox hg; have hcz4_0 : w3.cell? ⟨gb135, 0, none⟩ = some (.int .i64 a0_0) := (blk_cell BK135.out 0).trans rfl; have hcz4_1 : w3.cell? ⟨gb135, 1, none⟩ = some (.slice A0_1 l0_1.length c0_1) := (blk_cell BK135.out 1).trans rfl; have hcz4_2 : w3.cell? ⟨gb135, 2, none⟩ = some (.slice A0_2 l0_2.length c0_2) := (blk_cell BK135.out 2).trans rfl; have hfz4_0 := blk_frozen BK135.out 0; have hfz4_1 := blk_frozen BK135.out 1; have hfz4_2 := blk_frozen BK135.out 2))
    go_ret
    exact ⟨by first | rfl | (simp [errW_none, errW_some] <;> rfl) | (simp [*, errW_none, errW_some] <;> rfl), by repeat (first | (with_reducible first | exact HB.out | apply below_alloc | apply pw_below_drewN | apply below_drew1 | refine below_set ?_ GE135.out) | exact HB.out)⟩
  · rw [if_neg c2] at H
    have c2b0 : decide (200 < (wrap64 ((l0_1.length : Int) + (l0_2.length : Int)))) = false := decide_eq_false c2
    clear c2
    have H' := Aside0.mk H
    clear H
    go_enter Tryd.func13, Tryd.ntmps13
    go_wp2_with (first | ((with_reducible refine gate_dst (N := 1) rfl ?_); refine box_event ?hg (N := 1) ?hd (cs := #[.int .i64 a0_0, .slice A0_1 l0_1.length c0_1, .slice A0_2 l0_2.length c0_2]) (t := 25) ?hr ?_; (case hd => rfl); (case hg => rfl); (case hr => first | (go_simp; done) | (go_simp; rfl)); intro gb135 hg w5 hbox hb; have n0_ := Aside0.mk (below_step (by repeat (first | (with_reducible first | exact HB.out | apply below_alloc | apply pw_below_drewN | apply below_drew1) | exact HB.out)) hb); have n1_ := Aside0.mk (hbox); have n2_ := Aside0.mk ((by rw [hg]; exact (below_size (by repeat (first | (with_reducible first | exact HB.out | apply below_alloc | apply pw_below_drewN | apply below_drew1) | exact HB.out))) : w.heap.size ≤ gb135)); have n3_ := Aside0.mk ((by rw [hg]; exact (below_size (by repeat (first | (with_reducible first | exact HB.out | apply below_alloc | apply pw_below_drewN | apply below_drew1) | exact HB.out))) : w.heap.size ≤ gb135)); clear HB; have HB := n0_; have BK135 := n1_; have GW135 := n2_; have GE135 := n3_; clear n0_ n1_ n2_ n3_; clear hb hbox hg; have hcz6_0 : w5.cell? ⟨gb135, 0, none⟩ = some (.int .i64 a0_0) := (blk_cell BK135.out 0).trans rfl; have hcz6_1 : w5.cell? ⟨gb135, 1, none⟩ = some (.slice A0_1 l0_1.length c0_1) := (blk_cell BK135.out 1).trans rfl; have hcz6_2 : w5.cell? ⟨gb135, 2, none⟩ = some (.slice A0_2 l0_2.length c0_2) := (blk_cell BK135.out 2).trans rfl; have hfz6_0 := blk_frozen BK135.out 0; have hfz6_1 := blk_frozen BK135.out 1; have hfz6_2 := blk_frozen BK135.out 2))
    go_loopg [3, 24] k (fun kq v3 v24 w' => ∃ (x3_1 : Int) (x24_1 : Int), v3 = .int .i64 x3_1 ∧ v24 = .int .i64 x24_1 ∧ Aside0 (mortmainref09_Great.l0 kq x3_1 l0_1 (l0_1.length : Int) x24_1 a0_0 l0_1 l0_2 = some r) ∧ Aside0 (kq ≤ k) ∧ Aside0 (w'.heap[gb135]? = some (.cells #[.int .i64 a0_0, (.slice A0_1 l0_1.length c0_1), (.slice A0_2 l0_2.length c0_2)] 25 (0, 0))) ∧ Aside0 (Below w.heap.size w w'))
    case atStart => exact ⟨(wrap64 ((l0_1.length : Int) + (l0_2.length : Int))), (0), (by first | rfl | (simp; done) | (simp [*]; done)), (by first | rfl | (simp; done) | (simp [*]; done)), H', ⟨Nat.le_refl _⟩, ⟨by (with_reducible repeat (first | refine blk_drewN ?_ _ | refine blk_drew ?_ | refine blk_alloc ?_ _)); exact BK135.out⟩, ⟨by repeat (first | (with_reducible first | exact HB.out | apply below_alloc | apply pw_below_drewN | apply below_drew1 | refine below_set ?_ GE135.out) | exact HB.out)⟩⟩
    case round =>
      clear H'
      try clear c1
      try clear c2
      try clear c2b0
      try clear p2
      try clear p6
      try clear hcz4_0
      try clear hcz4_1
      try clear hcz4_2
      try clear hcz6_0
      try clear hcz6_1
      try clear hcz6_2
      try clear hfz4_0
      try clear hfz4_1
      try clear hfz4_2
      try clear hfz6_0
      try clear hfz6_1
      try clear hfz6_2
      obtain ⟨x3_1, x24_1, rfl, rfl, HA, HK1, BK135, HB⟩ := hrel
      cases gk with
      | zero => exact absurd HA.out (by simp [mortmainref09_Great.l0])
      | succ k1 =>
        have H := HA.out
        clear HA
        simp only [mortmainref09_Great.l0] at H
        by_cases c7 : x24_1 < (l0_1.length : Int)
        · rw [if_pos c7] at H
          have c7b0 : decide (x24_1 < (l0_1.length : Int)) = true := decide_eq_true c7
          clear c7
          by_cases c8 : 0 ≤ x24_1
          · rw [if_pos c8] at H
            have c8b0 : decide (0 ≤ x24_1) = true := decide_eq_true c8
            clear c8
            by_cases c9 : x24_1 < (l0_1.length : Int)
            · rw [if_pos c9] at H
              have c9b0 : decide (x24_1 < (l0_1.length : Int)) = true := decide_eq_true c9
              clear c9
              have H' := Aside0.mk H
              clear H
              have p136 : 0 ≤ (x24_1 : Int) := of_decide_eq_true (by first | (with_reducible assumption) | assumption)
              have q136 : x24_1 < (l0_1.length : Int) := of_decide_eq_true (by first | (with_reducible assumption) | assumption)
              obtain ⟨ad136, A136_2, c136_2, A136_3, c136_3, e136, hx136_0, hx136_1, hx136_2, hx136_3, hl136_2, hi136_2, hl136_3, hi136_3⟩ := at_T45 HR0_1.out x24_1 p136 q136
              cases e136
              replace hx136_0 := (HB.out.cell (World.block_lt_of_cell? w _ hx136_0)).trans hx136_0
              replace hx136_1 := (HB.out.cell (World.block_lt_of_cell? w _ hx136_1)).trans hx136_1
              replace hx136_2 := (HB.out.cell (World.block_lt_of_cell? w _ hx136_2)).trans hx136_2
              replace hx136_3 := (HB.out.cell (World.block_lt_of_cell? w _ hx136_3)).trans hx136_3
              have HR136_2 := Aside0.mk hi136_2
              have HC136_2 := Aside0.mk hl136_2
              clear hi136_2 hl136_2
              have HR136_3 := Aside0.mk hi136_3
              have HC136_3 := Aside0.mk hl136_3
              clear hi136_3 hl136_3
              replace p136 := eq_true p136
              replace q136 := eq_true q136
              go_wp2_with (first | ((with_reducible refine gate_dst (N := 5) rfl ?_); refine box_event ?hg (N := 5) ?hd (cs := #[.string (⟨#[]⟩ : ByteArray), .int .i64 0, .slice none 0 0, .slice none 0 0]) (t := 45) ?hr ?_; (case hd => rfl); (case hg => rfl); (case hr => first | (go_simp; done) | (go_simp; rfl)); intro gb137 hg w10 hbox hb; have n0_ := Aside0.mk (blk_below (g := gb135) (o := .cells #[.int .i64 a0_0, .slice (some ad136) l0_1.length c0_1, .slice A0_2 l0_2.length c0_2] 25 (0, 0)) (by (with_reducible repeat (first | refine blk_drewN ?_ _ | refine blk_drew ?_ | refine blk_alloc ?_ _)); exact BK135.out) hb); have n1_ := Aside0.mk (below_step (by repeat (first | (with_reducible first | exact HB.out | apply below_alloc | apply pw_below_drewN | apply below_drew1 | refine below_set ?_ GE135.out) | exact HB.out)) hb); have n2_ := Aside0.mk (hbox); have n3_ := Aside0.mk ((by rw [hg]; exact (below_size (by repeat (first | (with_reducible first | exact HB.out | apply below_alloc | apply pw_below_drewN | apply below_drew1 | refine below_set ?_ GE135.out) | exact HB.out))) : w.heap.size ≤ gb137)); have n4_ := Aside0.mk ((by rw [hg]; exact (below_size (by repeat (first | (with_reducible first | exact HB.out | apply below_alloc | apply pw_below_drewN | apply below_drew1 | refine below_set ?_ GE135.out) | exact HB.out))) : w.heap.size ≤ gb137)); have n5_ := Aside0.mk ((by rw [hg]; exact Nat.ne_of_lt (blk_lt (g := gb135) (o := .cells #[.int .i64 a0_0, .slice (some ad136) l0_1.length c0_1, .slice A0_2 l0_2.length c0_2] 25 (0, 0)) (by (with_reducible repeat (first | refine blk_drewN ?_ _ | refine blk_drew ?_ | refine blk_alloc ?_ _)); exact BK135.out)) : gb135 ≠ gb137)); have n6_ := Aside0.mk ((by rw [hg]; exact Nat.ne_of_gt (blk_lt (g := gb135) (o := .cells #[.int .i64 a0_0, .slice (some ad136) l0_1.length c0_1, .slice A0_2 l0_2.length c0_2] 25 (0, 0)) (by (with_reducible repeat (first | refine blk_drewN ?_ _ | refine blk_drew ?_ | refine blk_alloc ?_ _)); exact BK135.out)) : gb137 ≠ gb135)); clear BK135; clear HB; have BK135 := n0_; have HB := n1_; have BK137 := n2_; have GW137 := n3_; have GE137 := n4_; have NB135_137 := n5_; have NB137_135 := n6_; clear n0_ n1_ n2_ n3_ n4_ n5_ n6_; clear hb hbox hg; have hnb11 := NB137_135.out; have hnc11 := NB135_137.out; have hcz12_0 : w10.cell? ⟨gb137, 0, none⟩ = some (.string (⟨#[]⟩ : ByteArray)) := (blk_cell BK137.out 0).trans rfl; have hcz12_1 : w10.cell? ⟨gb137, 1, none⟩ = some (.int .i64 0) := (blk_cell BK137.out 1).trans rfl; have hcz12_2 : w10.cell? ⟨gb137, 2, none⟩ = some (.slice none 0 0) := (blk_cell BK137.out 2).trans rfl; have hcz12_3 : w10.cell? ⟨gb137, 3, none⟩ = some (.slice none 0 0) := (blk_cell BK137.out 3).trans rfl; have hfz12_0 := blk_frozen BK137.out 0; have hfz12_1 := blk_frozen BK137.out 1; have hfz12_2 := blk_frozen BK137.out 2; have hfz12_3 := blk_frozen BK137.out 3))
              go_loopg [3, 44] k1 (fun kq v3 v44 w' => ∃ (x3_2 : Int) (x44_2 : Int), v3 = .int .i64 x3_2 ∧ v44 = .int .i64 x44_2 ∧ Aside0 (mortmainref09_Great.l1 kq x3_2 l0_1 (l0_1.length : Int) x24_1 ((rd_T45 l0_1 x24_1).f2) (((rd_T45 l0_1 x24_1).f2).length : Int) x44_2 a0_0 l0_1 l0_2 ((rd_T45 l0_1 x24_1).f0) ((rd_T45 l0_1 x24_1).f1) ((rd_T45 l0_1 x24_1).f2) ((rd_T45 l0_1 x24_1).f3) = some r) ∧ Aside0 (kq ≤ k1) ∧ Aside0 (w'.heap[gb135]? = some (.cells #[.int .i64 a0_0, (.slice (some ad136) l0_1.length c0_1), (.slice A0_2 l0_2.length c0_2)] 25 (0, 0))) ∧ Aside0 (w'.heap[gb137]? = some (.cells #[.string ((rd_T45 l0_1 x24_1).f0), .int .i64 ((rd_T45 l0_1 x24_1).f1), (.slice A136_2 ((rd_T45 l0_1 x24_1).f2).length c136_2), (.slice A136_3 ((rd_T45 l0_1 x24_1).f3).length c136_3)] 45 (0, 0))) ∧ Aside0 (Below w.heap.size w w'))
              case atStart => exact ⟨(wrap64 ((wrap64 ((wrap64 (x3_1 + (((rd_T45 l0_1 x24_1).f0).size : Int))) + (((rd_T45 l0_1 x24_1).f2).length : Int))) + (((rd_T45 l0_1 x24_1).f3).length : Int))), (0), (by first | rfl | (simp; done) | (simp [*]; done)), (by first | rfl | (simp; done) | (simp [*]; done)), H', ⟨Nat.le_refl _⟩, ⟨by (with_reducible repeat (first | refine blk_drewN ?_ _ | refine blk_drew ?_ | refine blk_alloc ?_ _)); refine blk_far ?_ NB135_137.out _; (with_reducible repeat (first | refine blk_drewN ?_ _ | refine blk_drew ?_ | refine blk_alloc ?_ _)); refine blk_far ?_ NB135_137.out _; (with_reducible repeat (first | refine blk_drewN ?_ _ | refine blk_drew ?_ | refine blk_alloc ?_ _)); refine blk_far ?_ NB135_137.out _; (with_reducible repeat (first | refine blk_drewN ?_ _ | refine blk_drew ?_ | refine blk_alloc ?_ _)); refine blk_far ?_ NB135_137.out _; (with_reducible repeat (first | refine blk_drewN ?_ _ | refine blk_drew ?_ | refine blk_alloc ?_ _)); exact BK135.out⟩, ⟨by (with_reducible repeat (first | refine blk_drewN ?_ _ | refine blk_drew ?_ | refine blk_alloc ?_ _)); refine blk_put (cs := #[.string ((rd_T45 l0_1 x24_1).f0), .int .i64 ((rd_T45 l0_1 x24_1).f1), .slice A136_2 ((rd_T45 l0_1 x24_1).f2).length c136_2, .slice none 0 0]) ?_ 3 _ rfl; (with_reducible repeat (first | refine blk_drewN ?_ _ | refine blk_drew ?_ | refine blk_alloc ?_ _)); refine blk_put (cs := #[.string ((rd_T45 l0_1 x24_1).f0), .int .i64 ((rd_T45 l0_1 x24_1).f1), .slice none 0 0, .slice none 0 0]) ?_ 2 _ rfl; (with_reducible repeat (first | refine blk_drewN ?_ _ | refine blk_drew ?_ | refine blk_alloc ?_ _)); refine blk_put (cs := #[.string ((rd_T45 l0_1 x24_1).f0), .int .i64 0, .slice none 0 0, .slice none 0 0]) ?_ 1 _ rfl; (with_reducible repeat (first | refine blk_drewN ?_ _ | refine blk_drew ?_ | refine blk_alloc ?_ _)); refine blk_put (cs := #[.string (⟨#[]⟩ : ByteArray), .int .i64 0, .slice none 0 0, .slice none 0 0]) ?_ 0 _ rfl; (with_reducible repeat (first | refine blk_drewN ?_ _ | refine blk_drew ?_ | refine blk_alloc ?_ _)); exact BK137.out⟩, ⟨by repeat (first | (with_reducible first | exact HB.out | apply below_alloc | apply pw_below_drewN | apply below_drew1 | refine below_set ?_ GE135.out | refine below_set ?_ GE137.out) | exact HB.out)⟩⟩
              case round =>
                clear H'
                try clear c1
                try clear p1
                try clear q1
                try clear hx1
                try clear c2
                try clear c2b0
                try clear p2
                try clear p6
                try clear c7
                try clear c7b0
                try clear c8
                try clear c8b0
                try clear c9
                try clear c9b0
                try clear c11
                try clear hcz12_0
                try clear hcz12_1
                try clear hcz12_2
                try clear hcz12_3
                try clear hcz4_0
                try clear hcz4_1
                try clear hcz4_2
                try clear hcz6_0
                try clear hcz6_1
                try clear hcz6_2
                try clear hfz12_0
                try clear hfz12_1
                try clear hfz12_2
                try clear hfz12_3
                try clear hfz4_0
                try clear hfz4_1
                try clear hfz4_2
                try clear hfz6_0
                try clear hfz6_1
                try clear hfz6_2
                try clear hx136_0
                try clear hx136_1
                try clear hx136_2
                try clear hx136_3
                try clear p136
                try clear p2
                try clear p6
                try clear q136
                obtain ⟨x3_2, x44_2, rfl, rfl, HA, HK2, BK135, BK137, HB⟩ := hrel
                cases gk with
                | zero => exact absurd HA.out (by simp [mortmainref09_Great.l1])
                | succ k2 =>
                  have H := HA.out
                  clear HA
                  simp only [mortmainref09_Great.l1] at H
                  by_cases c13 : x44_2 < (((rd_T45 l0_1 x24_1).f2).length : Int)
                  · rw [if_pos c13] at H
                    have c13b0 : decide (x44_2 < (((rd_T45 l0_1 x24_1).f2).length : Int)) = true := decide_eq_true c13
                    clear c13
                    by_cases c14 : 0 ≤ x44_2
                    · rw [if_pos c14] at H
                      have c14b0 : decide (0 ≤ x44_2) = true := decide_eq_true c14
                      clear c14
                      by_cases c15 : x44_2 < (((rd_T45 l0_1 x24_1).f2).length : Int)
                      · rw [if_pos c15] at H
                        have c15b0 : decide (x44_2 < (((rd_T45 l0_1 x24_1).f2).length : Int)) = true := decide_eq_true c15
                        clear c15
                        have H' := Aside0.mk H
                        clear H
                        have p138 : 0 ≤ (x44_2 : Int) := of_decide_eq_true (by first | (with_reducible assumption) | assumption)
                        have q138 : x44_2 < (((rd_T45 l0_1 x24_1).f2).length : Int) := of_decide_eq_true (by first | (with_reducible assumption) | assumption)
                        obtain ⟨ad138, e138, hx138_0, hx138_1, hx138_2, hx138_3, hx138_4, hx138_5⟩ := at_T59 HR136_2.out x44_2 p138 q138
                        cases e138
                        replace hx138_0 := (HB.out.cell (World.block_lt_of_cell? w _ hx138_0)).trans hx138_0
                        replace hx138_1 := (HB.out.cell (World.block_lt_of_cell? w _ hx138_1)).trans hx138_1
                        replace hx138_2 := (HB.out.cell (World.block_lt_of_cell? w _ hx138_2)).trans hx138_2
                        replace hx138_3 := (HB.out.cell (World.block_lt_of_cell? w _ hx138_3)).trans hx138_3
                        replace hx138_4 := (HB.out.cell (World.block_lt_of_cell? w _ hx138_4)).trans hx138_4
                        replace hx138_5 := (HB.out.cell (World.block_lt_of_cell? w _ hx138_5)).trans hx138_5
                        replace p138 := eq_true p138
                        replace q138 := eq_true q138
                        go_wp2_with (first | ((with_reducible refine gate_dst (N := 7) rfl ?_); refine box_event ?hg (N := 7) ?hd (cs := #[.string (⟨#[]⟩ : ByteArray), .int .i64 0, .bool false, .bool false, .string (⟨#[]⟩ : ByteArray), .int .i64 0]) (t := 59) ?hr ?_; (case hd => rfl); (case hg => rfl); (case hr => first | (go_simp; done) | (go_simp; rfl)); intro gb139 hg w16 hbox hb; have n0_ := Aside0.mk (blk_below (g := gb135) (o := .cells #[.int .i64 a0_0, .slice (some ad136) l0_1.length c0_1, .slice A0_2 l0_2.length c0_2] 25 (0, 0)) (by (with_reducible repeat (first | refine blk_drewN ?_ _ | refine blk_drew ?_ | refine blk_alloc ?_ _)); exact BK135.out) hb); have n1_ := Aside0.mk (blk_below (g := gb137) (o := .cells #[.string ((rd_T45 l0_1 x24_1).f0), .int .i64 ((rd_T45 l0_1 x24_1).f1), .slice (some ad138) ((rd_T45 l0_1 x24_1).f2).length c136_2, .slice A136_3 ((rd_T45 l0_1 x24_1).f3).length c136_3] 45 (0, 0)) (by (with_reducible repeat (first | refine blk_drewN ?_ _ | refine blk_drew ?_ | refine blk_alloc ?_ _)); exact BK137.out) hb); have n2_ := Aside0.mk (below_step (by repeat (first | (with_reducible first | exact HB.out | apply below_alloc | apply pw_below_drewN | apply below_drew1 | refine below_set ?_ GE135.out | refine below_set ?_ GE137.out) | exact HB.out)) hb); have n3_ := Aside0.mk (hbox); have n4_ := Aside0.mk ((by rw [hg]; exact (below_size (by repeat (first | (with_reducible first | exact HB.out | apply below_alloc | apply pw_below_drewN | apply below_drew1 | refine below_set ?_ GE135.out | refine below_set ?_ GE137.out) | exact HB.out))) : w.heap.size ≤ gb139)); have n5_ := Aside0.mk ((by rw [hg]; exact (below_size (by repeat (first | (with_reducible first | exact HB.out | apply below_alloc | apply pw_below_drewN | apply below_drew1 | refine below_set ?_ GE135.out | refine below_set ?_ GE137.out) | exact HB.out))) : w.heap.size ≤ gb139)); have n6_ := Aside0.mk ((by rw [hg]; exact Nat.ne_of_lt (blk_lt (g := gb135) (o := .cells #[.int .i64 a0_0, .slice (some ad136) l0_1.length c0_1, .slice A0_2 l0_2.length c0_2] 25 (0, 0)) (by (with_reducible repeat (first | refine blk_drewN ?_ _ | refine blk_drew ?_ | refine blk_alloc ?_ _)); exact BK135.out)) : gb135 ≠ gb139)); have n7_ := Aside0.mk ((by rw [hg]; exact Nat.ne_of_gt (blk_lt (g := gb135) (o := .cells #[.int .i64 a0_0, .slice (some ad136) l0_1.length c0_1, .slice A0_2 l0_2.length c0_2] 25 (0, 0)) (by (with_reducible repeat (first | refine blk_drewN ?_ _ | refine blk_drew ?_ | refine blk_alloc ?_ _)); exact BK135.out)) : gb139 ≠ gb135)); have n8_ := Aside0.mk ((by rw [hg]; exact Nat.ne_of_lt (blk_lt (g := gb137) (o := .cells #[.string ((rd_T45 l0_1 x24_1).f0), .int .i64 ((rd_T45 l0_1 x24_1).f1), .slice (some ad138) ((rd_T45 l0_1 x24_1).f2).length c136_2, .slice A136_3 ((rd_T45 l0_1 x24_1).f3).length c136_3] 45 (0, 0)) (by (with_reducible repeat (first | refine blk_drewN ?_ _ | refine blk_drew ?_ | refine blk_alloc ?_ _)); exact BK137.out)) : gb137 ≠ gb139)); have n9_ := Aside0.mk ((by rw [hg]; exact Nat.ne_of_gt (blk_lt (g := gb137) (o := .cells #[.string ((rd_T45 l0_1 x24_1).f0), .int .i64 ((rd_T45 l0_1 x24_1).f1), .slice (some ad138) ((rd_T45 l0_1 x24_1).f2).length c136_2, .slice A136_3 ((rd_T45 l0_1 x24_1).f3).length c136_3] 45 (0, 0)) (by (with_reducible repeat (first | refine blk_drewN ?_ _ | refine blk_drew ?_ | refine blk_alloc ?_ _)); exact BK137.out)) : gb139 ≠ gb137)); clear BK135; clear BK137; clear HB; have BK135 := n0_; have BK137 := n1_; have HB := n2_; have BK139 := n3_; have GW139 := n4_; have GE139 := n5_; have NB135_139 := n6_; have NB139_135 := n7_; have NB137_139 := n8_; have NB139_137 := n9_; clear n0_ n1_ n2_ n3_ n4_ n5_ n6_ n7_ n8_ n9_; clear hb hbox hg; have hnb17 := NB139_135.out; have hnc17 := NB135_139.out; have hnb18 := NB139_137.out; have hnc18 := NB137_139.out; have hcz19_0 : w16.cell? ⟨gb139, 0, none⟩ = some (.string (⟨#[]⟩ : ByteArray)) := (blk_cell BK139.out 0).trans rfl; have hcz19_1 : w16.cell? ⟨gb139, 1, none⟩ = some (.int .i64 0) := (blk_cell BK139.out 1).trans rfl; have hcz19_2 : w16.cell? ⟨gb139, 2, none⟩ = some (.bool false) := (blk_cell BK139.out 2).trans rfl; have hcz19_3 : w16.cell? ⟨gb139, 3, none⟩ = some (.bool false) := (blk_cell BK139.out 3).trans rfl; have hcz19_4 : w16.cell? ⟨gb139, 4, none⟩ = some (.string (⟨#[]⟩ : ByteArray)) := (blk_cell BK139.out 4).trans rfl; have hcz19_5 : w16.cell? ⟨gb139, 5, none⟩ = some (.int .i64 0) := (blk_cell BK139.out 5).trans rfl; have hfz19_0 := blk_frozen BK139.out 0; have hfz19_1 := blk_frozen BK139.out 1; have hfz19_2 := blk_frozen BK139.out 2; have hfz19_3 := blk_frozen BK139.out 3; have hfz19_4 := blk_frozen BK139.out 4; have hfz19_5 := blk_frozen BK139.out 5))
                        go_roundg k2
                        case measure => have := HK1.out; have := HK2.out; omega
                        case rel => exact ⟨(wrap64 ((wrap64 (x3_2 + (((rd_T59 ((rd_T45 l0_1 x24_1).f2) x44_2).f0).size : Int))) + (((rd_T59 ((rd_T45 l0_1 x24_1).f2) x44_2).f4).size : Int))), (wrap64 (x44_2 + 1)), (by first | rfl | (simp; done) | (simp [*]; done)), (by first | rfl | (simp; done) | (simp [*]; done)), H', ⟨by have := HK1.out; have := HK2.out; omega⟩, ⟨by (with_reducible repeat (first | refine blk_drewN ?_ _ | refine blk_drew ?_ | refine blk_alloc ?_ _)); refine blk_far ?_ NB135_139.out _; (with_reducible repeat (first | refine blk_drewN ?_ _ | refine blk_drew ?_ | refine blk_alloc ?_ _)); refine blk_far ?_ NB135_139.out _; (with_reducible repeat (first | refine blk_drewN ?_ _ | refine blk_drew ?_ | refine blk_alloc ?_ _)); refine blk_far ?_ NB135_139.out _; (with_reducible repeat (first | refine blk_drewN ?_ _ | refine blk_drew ?_ | refine blk_alloc ?_ _)); refine blk_far ?_ NB135_139.out _; (with_reducible repeat (first | refine blk_drewN ?_ _ | refine blk_drew ?_ | refine blk_alloc ?_ _)); refine blk_far ?_ NB135_139.out _; (with_reducible repeat (first | refine blk_drewN ?_ _ | refine blk_drew ?_ | refine blk_alloc ?_ _)); refine blk_far ?_ NB135_139.out _; (with_reducible repeat (first | refine blk_drewN ?_ _ | refine blk_drew ?_ | refine blk_alloc ?_ _)); exact BK135.out⟩, ⟨by (with_reducible repeat (first | refine blk_drewN ?_ _ | refine blk_drew ?_ | refine blk_alloc ?_ _)); refine blk_far ?_ NB137_139.out _; (with_reducible repeat (first | refine blk_drewN ?_ _ | refine blk_drew ?_ | refine blk_alloc ?_ _)); refine blk_far ?_ NB137_139.out _; (with_reducible repeat (first | refine blk_drewN ?_ _ | refine blk_drew ?_ | refine blk_alloc ?_ _)); refine blk_far ?_ NB137_139.out _; (with_reducible repeat (first | refine blk_drewN ?_ _ | refine blk_drew ?_ | refine blk_alloc ?_ _)); refine blk_far ?_ NB137_139.out _; (with_reducible repeat (first | refine blk_drewN ?_ _ | refine blk_drew ?_ | refine blk_alloc ?_ _)); refine blk_far ?_ NB137_139.out _; (with_reducible repeat (first | refine blk_drewN ?_ _ | refine blk_drew ?_ | refine blk_alloc ?_ _)); refine blk_far ?_ NB137_139.out _; (with_reducible repeat (first | refine blk_drewN ?_ _ | refine blk_drew ?_ | refine blk_alloc ?_ _)); exact BK137.out⟩, ⟨by repeat (first | (with_reducible first | exact HB.out | apply below_alloc | apply pw_below_drewN | apply below_drew1 | refine below_set ?_ GE135.out | refine below_set ?_ GE137.out | refine below_set ?_ GE139.out) | exact HB.out)⟩⟩
                      · rw [if_neg c15] at H
                        exact absurd H (by simp)
                    · rw [if_neg c14] at H
                      exact absurd H (by simp)
                  · rw [if_neg c13] at H
                    have c13b0 : decide (x44_2 < (((rd_T45 l0_1 x24_1).f2).length : Int)) = false := decide_eq_false c13
                    clear c13
                    have H' := Aside0.mk H
                    clear H
                    have hnb20 := NB137_135.out
                    have hnc20 := NB135_137.out
                    have hcz21_0 : wr.cell? ⟨gb137, 0, none⟩ = some (.string ((rd_T45 l0_1 x24_1).f0)) := (blk_cell BK137.out 0).trans rfl
                    have hcz21_1 : wr.cell? ⟨gb137, 1, none⟩ = some (.int .i64 ((rd_T45 l0_1 x24_1).f1)) := (blk_cell BK137.out 1).trans rfl
                    have hcz21_2 : wr.cell? ⟨gb137, 2, none⟩ = some (.slice A136_2 ((rd_T45 l0_1 x24_1).f2).length c136_2) := (blk_cell BK137.out 2).trans rfl
                    have hcz21_3 : wr.cell? ⟨gb137, 3, none⟩ = some (.slice A136_3 ((rd_T45 l0_1 x24_1).f3).length c136_3) := (blk_cell BK137.out 3).trans rfl
                    have hfz21_0 := blk_frozen BK137.out 0
                    have hfz21_1 := blk_frozen BK137.out 1
                    have hfz21_2 := blk_frozen BK137.out 2
                    have hfz21_3 := blk_frozen BK137.out 3
                    go_wp2
                    go_loopg [61] k2 (fun kq v61 w' => ∃ (x61_3 : Int), v61 = .int .i64 x61_3 ∧ Aside0 (mortmainref09_Great.l2 kq x3_2 l0_1 (l0_1.length : Int) x24_1 ((rd_T45 l0_1 x24_1).f3) (((rd_T45 l0_1 x24_1).f3).length : Int) x61_3 a0_0 l0_1 l0_2 = some r) ∧ Aside0 (kq ≤ k2) ∧ Aside0 (w'.heap[gb135]? = some (.cells #[.int .i64 a0_0, (.slice (some ad136) l0_1.length c0_1), (.slice A0_2 l0_2.length c0_2)] 25 (0, 0))) ∧ Aside0 (w'.heap[gb137]? = some (.cells #[.string ((rd_T45 l0_1 x24_1).f0), .int .i64 ((rd_T45 l0_1 x24_1).f1), (.slice A136_2 ((rd_T45 l0_1 x24_1).f2).length c136_2), (.slice A136_3 ((rd_T45 l0_1 x24_1).f3).length c136_3)] 45 (0, 0))) ∧ Aside0 (Below w.heap.size w w'))
                    case atStart => exact ⟨(0), (by first | rfl | (simp; done) | (simp [*]; done)), H', ⟨Nat.le_refl _⟩, ⟨by (with_reducible repeat (first | refine blk_drewN ?_ _ | refine blk_drew ?_ | refine blk_alloc ?_ _)); exact BK135.out⟩, ⟨by (with_reducible repeat (first | refine blk_drewN ?_ _ | refine blk_drew ?_ | refine blk_alloc ?_ _)); exact BK137.out⟩, ⟨by repeat (first | (with_reducible first | exact HB.out | apply below_alloc | apply pw_below_drewN | apply below_drew1 | refine below_set ?_ GE135.out | refine below_set ?_ GE137.out) | exact HB.out)⟩⟩
                    case round =>
                      clear H'
                      try clear c1
                      try clear p1
                      try clear q1
                      try clear hx1
                      try clear c2
                      try clear c2b0
                      try clear p2
                      try clear p6
                      try clear c7
                      try clear c7b0
                      try clear c8
                      try clear c8b0
                      try clear c9
                      try clear c9b0
                      try clear c11
                      try clear c13
                      try clear c13b0
                      try clear p13
                      try clear q13
                      try clear hx13
                      try clear c14
                      try clear c14b0
                      try clear c15
                      try clear c15b0
                      try clear c17
                      try clear c18
                      try clear c20
                      try clear hcz12_0
                      try clear hcz12_1
                      try clear hcz12_2
                      try clear hcz12_3
                      try clear hcz19_0
                      try clear hcz19_1
                      try clear hcz19_2
                      try clear hcz19_3
                      try clear hcz19_4
                      try clear hcz19_5
                      try clear hcz21_0
                      try clear hcz21_1
                      try clear hcz21_2
                      try clear hcz21_3
                      try clear hcz4_0
                      try clear hcz4_1
                      try clear hcz4_2
                      try clear hcz6_0
                      try clear hcz6_1
                      try clear hcz6_2
                      try clear hfz12_0
                      try clear hfz12_1
                      try clear hfz12_2
                      try clear hfz12_3
                      try clear hfz19_0
                      try clear hfz19_1
                      try clear hfz19_2
                      try clear hfz19_3
                      try clear hfz19_4
                      try clear hfz19_5
                      try clear hfz21_0
                      try clear hfz21_1
                      try clear hfz21_2
                      try clear hfz21_3
                      try clear hfz4_0
                      try clear hfz4_1
                      try clear hfz4_2
                      try clear hfz6_0
                      try clear hfz6_1
                      try clear hfz6_2
                      try clear hx136_0
                      try clear hx136_1
                      try clear hx136_2
                      try clear hx136_3
                      try clear hx138_0
                      try clear hx138_1
                      try clear hx138_2
                      try clear hx138_3
                      try clear hx138_4
                      try clear hx138_5
                      try clear p1
                      try clear p136
                      try clear p138
                      try clear p2
                      try clear p6
                      try clear q1
                      try clear q136
                      try clear q138
                      obtain ⟨x61_3, rfl, HA, HK3, BK135, BK137, HB⟩ := hrel
                      cases gk with
                      | zero => exact absurd HA.out (by simp [mortmainref09_Great.l2])
                      | succ k3 =>
                        have H := HA.out
                        clear HA
                        simp only [mortmainref09_Great.l2] at H
                        by_cases c22 : x61_3 < (((rd_T45 l0_1 x24_1).f3).length : Int)
                        · rw [if_pos c22] at H
                          have c22b0 : decide (x61_3 < (((rd_T45 l0_1 x24_1).f3).length : Int)) = true := decide_eq_true c22
                          clear c22
                          by_cases c23 : 0 ≤ x61_3
                          · rw [if_pos c23] at H
                            have c23b0 : decide (0 ≤ x61_3) = true := decide_eq_true c23
                            clear c23
                            by_cases c24 : x61_3 < (((rd_T45 l0_1 x24_1).f3).length : Int)
                            · rw [if_pos c24] at H
                              have c24b0 : decide (x61_3 < (((rd_T45 l0_1 x24_1).f3).length : Int)) = true := decide_eq_true c24
                              clear c24
                              replace H := Option.bind_eq_some_iff.mp H
                              obtain ⟨t142, A250, H⟩ := H
                              replace H : (if t142 = true then (some true) else (mortmainref09_Great.l2 k3 x3_2 l0_1 (l0_1.length : Int) x24_1 ((rd_T45 l0_1 x24_1).f3) (((rd_T45 l0_1 x24_1).f3).length : Int) (wrap64 (x61_3 + 1)) a0_0 l0_1 l0_2)) = some r := H
                              have A25 := Aside0.mk A250
                              clear A250
                              by_cases c26 : t142 = true
                              · subst c26
                                have H1 : (some true) = some r := by rw [if_pos rfl] at H; exact H
                                clear H
                                have H := H1
                                clear H1
                                obtain rfl := Option.some.inj H
                                have p140 : 0 ≤ (x61_3 : Int) := of_decide_eq_true (by first | (with_reducible assumption) | assumption)
                                have q140 : x61_3 < (((rd_T45 l0_1 x24_1).f3).length : Int) := of_decide_eq_true (by first | (with_reducible assumption) | assumption)
                                obtain ⟨ad140, A140_5, c140_5, e140, hx140_0, hx140_1, hx140_2, hx140_3, hx140_4, hx140_5, hl140_5, hi140_5⟩ := at_T72 HR136_3.out x61_3 p140 q140
                                cases e140
                                replace hx140_0 := (HB.out.cell (World.block_lt_of_cell? w _ hx140_0)).trans hx140_0
                                replace hx140_1 := (HB.out.cell (World.block_lt_of_cell? w _ hx140_1)).trans hx140_1
                                replace hx140_2 := (HB.out.cell (World.block_lt_of_cell? w _ hx140_2)).trans hx140_2
                                replace hx140_3 := (HB.out.cell (World.block_lt_of_cell? w _ hx140_3)).trans hx140_3
                                replace hx140_4 := (HB.out.cell (World.block_lt_of_cell? w _ hx140_4)).trans hx140_4
                                replace hx140_5 := (HB.out.cell (World.block_lt_of_cell? w _ hx140_5)).trans hx140_5
                                have HR140_5 := Aside0.mk hi140_5
                                have HC140_5 := Aside0.mk hl140_5
                                clear hi140_5 hl140_5
                                replace p140 := eq_true p140
                                replace q140 := eq_true q140
                                go_wp2_with (first | ((with_reducible refine gate_dst (N := 9) rfl ?_); refine box_event ?hg (N := 9) ?hd (cs := #[.int .i64 0, .int .i64 0, .int .i64 0, .int .i64 0, .string (⟨#[]⟩ : ByteArray), .slice none 0 0]) (t := 72) ?hr ?_; (case hd => rfl); (case hg => rfl); (case hr => first | (go_simp; done) | (go_simp; rfl)); intro gb141 hg w27 hbox hb; have n0_ := Aside0.mk (blk_below (g := gb135) (o := .cells #[.int .i64 a0_0, .slice (some ad136) l0_1.length c0_1, .slice A0_2 l0_2.length c0_2] 25 (0, 0)) (by (with_reducible repeat (first | refine blk_drewN ?_ _ | refine blk_drew ?_ | refine blk_alloc ?_ _)); exact BK135.out) hb); have n1_ := Aside0.mk (blk_below (g := gb137) (o := .cells #[.string ((rd_T45 l0_1 x24_1).f0), .int .i64 ((rd_T45 l0_1 x24_1).f1), .slice A136_2 ((rd_T45 l0_1 x24_1).f2).length c136_2, .slice (some ad140) ((rd_T45 l0_1 x24_1).f3).length c136_3] 45 (0, 0)) (by (with_reducible repeat (first | refine blk_drewN ?_ _ | refine blk_drew ?_ | refine blk_alloc ?_ _)); exact BK137.out) hb); have n2_ := Aside0.mk (below_step (by repeat (first | (with_reducible first | exact HB.out | apply below_alloc | apply pw_below_drewN | apply below_drew1 | refine below_set ?_ GE135.out | refine below_set ?_ GE137.out) | exact HB.out)) hb); have n3_ := Aside0.mk (hbox); have n4_ := Aside0.mk ((by rw [hg]; exact (below_size (by repeat (first | (with_reducible first | exact HB.out | apply below_alloc | apply pw_below_drewN | apply below_drew1 | refine below_set ?_ GE135.out | refine below_set ?_ GE137.out) | exact HB.out))) : w.heap.size ≤ gb141)); have n5_ := Aside0.mk ((by rw [hg]; exact (below_size (by repeat (first | (with_reducible first | exact HB.out | apply below_alloc | apply pw_below_drewN | apply below_drew1 | refine below_set ?_ GE135.out | refine below_set ?_ GE137.out) | exact HB.out))) : w.heap.size ≤ gb141)); have n6_ := Aside0.mk ((by rw [hg]; exact Nat.ne_of_lt (blk_lt (g := gb135) (o := .cells #[.int .i64 a0_0, .slice (some ad136) l0_1.length c0_1, .slice A0_2 l0_2.length c0_2] 25 (0, 0)) (by (with_reducible repeat (first | refine blk_drewN ?_ _ | refine blk_drew ?_ | refine blk_alloc ?_ _)); exact BK135.out)) : gb135 ≠ gb141)); have n7_ := Aside0.mk ((by rw [hg]; exact Nat.ne_of_gt (blk_lt (g := gb135) (o := .cells #[.int .i64 a0_0, .slice (some ad136) l0_1.length c0_1, .slice A0_2 l0_2.length c0_2] 25 (0, 0)) (by (with_reducible repeat (first | refine blk_drewN ?_ _ | refine blk_drew ?_ | refine blk_alloc ?_ _)); exact BK135.out)) : gb141 ≠ gb135)); have n8_ := Aside0.mk ((by rw [hg]; exact Nat.ne_of_lt (blk_lt (g := gb137) (o := .cells #[.string ((rd_T45 l0_1 x24_1).f0), .int .i64 ((rd_T45 l0_1 x24_1).f1), .slice A136_2 ((rd_T45 l0_1 x24_1).f2).length c136_2, .slice (some ad140) ((rd_T45 l0_1 x24_1).f3).length c136_3] 45 (0, 0)) (by (with_reducible repeat (first | refine blk_drewN ?_ _ | refine blk_drew ?_ | refine blk_alloc ?_ _)); exact BK137.out)) : gb137 ≠ gb141)); have n9_ := Aside0.mk ((by rw [hg]; exact Nat.ne_of_gt (blk_lt (g := gb137) (o := .cells #[.string ((rd_T45 l0_1 x24_1).f0), .int .i64 ((rd_T45 l0_1 x24_1).f1), .slice A136_2 ((rd_T45 l0_1 x24_1).f2).length c136_2, .slice (some ad140) ((rd_T45 l0_1 x24_1).f3).length c136_3] 45 (0, 0)) (by (with_reducible repeat (first | refine blk_drewN ?_ _ | refine blk_drew ?_ | refine blk_alloc ?_ _)); exact BK137.out)) : gb141 ≠ gb137)); clear BK135; clear BK137; clear HB; have BK135 := n0_; have BK137 := n1_; have HB := n2_; have BK141 := n3_; have GW141 := n4_; have GE141 := n5_; have NB135_141 := n6_; have NB141_135 := n7_; have NB137_141 := n8_; have NB141_137 := n9_; clear n0_ n1_ n2_ n3_ n4_ n5_ n6_ n7_ n8_ n9_; clear hb hbox hg; have hnb28 := NB141_135.out; have hnc28 := NB135_141.out; have hnb29 := NB141_137.out; have hnc29 := NB137_141.out; have hcz30_0 : w27.cell? ⟨gb141, 0, none⟩ = some (.int .i64 0) := (blk_cell BK141.out 0).trans rfl; have hcz30_1 : w27.cell? ⟨gb141, 1, none⟩ = some (.int .i64 0) := (blk_cell BK141.out 1).trans rfl; have hcz30_2 : w27.cell? ⟨gb141, 2, none⟩ = some (.int .i64 0) := (blk_cell BK141.out 2).trans rfl; have hcz30_3 : w27.cell? ⟨gb141, 3, none⟩ = some (.int .i64 0) := (blk_cell BK141.out 3).trans rfl; have hcz30_4 : w27.cell? ⟨gb141, 4, none⟩ = some (.string (⟨#[]⟩ : ByteArray)) := (blk_cell BK141.out 4).trans rfl; have hcz30_5 : w27.cell? ⟨gb141, 5, none⟩ = some (.slice none 0 0) := (blk_cell BK141.out 5).trans rfl; have hfz30_0 := blk_frozen BK141.out 0; have hfz30_1 := blk_frozen BK141.out 1; have hfz30_2 := blk_frozen BK141.out 2; have hfz30_3 := blk_frozen BK141.out 3; have hfz30_4 := blk_frozen BK141.out 4; have hfz30_5 := blk_frozen BK141.out 5) | ((with_reducible refine gate_callee (f := 45) rfl ?_); refine goesL_ (some 66) rfl rfl Tryd.func45 (by kernel_rfl) rfl #[.agg #[.int .i64 ((rd_T72 ((rd_T45 l0_1 x24_1).f3) x61_3).f0), .int .i64 ((rd_T72 ((rd_T45 l0_1 x24_1).f3) x61_3).f1), .int .i64 ((rd_T72 ((rd_T45 l0_1 x24_1).f3) x61_3).f2.f0), .int .i64 ((rd_T72 ((rd_T45 l0_1 x24_1).f3) x61_3).f2.f1), .string ((rd_T72 ((rd_T45 l0_1 x24_1).f3) x61_3).f2.f2), .slice A140_5 ((rd_T72 ((rd_T45 l0_1 x24_1).f3) x61_3).f3).length c140_5]] rfl (by (try simp only [List.map_toArray, List.map_cons, List.map_nil]); first | done | rfl | (simp only [List.length_drop, List.length_take]; rfl)) ?_; (with_reducible refine (mortmainref08_Great.calls k3 ((rd_T72 ((rd_T45 l0_1 x24_1).f3) x61_3).f0) ((rd_T72 ((rd_T45 l0_1 x24_1).f3) x61_3).f1) ((rd_T72 ((rd_T45 l0_1 x24_1).f3) x61_3).f2.f0) ((rd_T72 ((rd_T45 l0_1 x24_1).f3) x61_3).f2.f1) ((rd_T72 ((rd_T45 l0_1 x24_1).f3) x61_3).f2.f2) _ _ ((rd_T72 ((rd_T45 l0_1 x24_1).f3) x61_3).f3) true _ ?side1 ?side2 A25.out).mono ?_); (case side1 => exact Kd.C_below HR140_5.out (by repeat (first | (with_reducible first | exact HB.out | apply below_alloc | apply pw_below_drewN | apply below_drew1 | refine below_set ?_ GE135.out | refine below_set ?_ GE137.out | refine below_set ?_ GE141.out) | exact HB.out))); (case side2 => exact HC140_5.out); rintro e w31 ⟨rfl, hb⟩; refine ⟨_, rfl, ?_⟩; have n0_ := Aside0.mk (blk_below (g := gb135) (o := .cells #[.int .i64 a0_0, .slice (some ad136) l0_1.length c0_1, .slice A0_2 l0_2.length c0_2] 25 (0, 0)) (by (with_reducible repeat (first | refine blk_drewN ?_ _ | refine blk_drew ?_ | refine blk_alloc ?_ _)); refine blk_far ?_ NB135_141.out _; (with_reducible repeat (first | refine blk_drewN ?_ _ | refine blk_drew ?_ | refine blk_alloc ?_ _)); refine blk_far ?_ NB135_141.out _; (with_reducible repeat (first | refine blk_drewN ?_ _ | refine blk_drew ?_ | refine blk_alloc ?_ _)); refine blk_far ?_ NB135_141.out _; (with_reducible repeat (first | refine blk_drewN ?_ _ | refine blk_drew ?_ | refine blk_alloc ?_ _)); refine blk_far ?_ NB135_141.out _; (with_reducible repeat (first | refine blk_drewN ?_ _ | refine blk_drew ?_ | refine blk_alloc ?_ _)); refine blk_far ?_ NB135_141.out _; (with_reducible repeat (first | refine blk_drewN ?_ _ | refine blk_drew ?_ | refine blk_alloc ?_ _)); refine blk_far ?_ NB135_141.out _; (with_reducible repeat (first | refine blk_drewN ?_ _ | refine blk_drew ?_ | refine blk_alloc ?_ _)); exact BK135.out) hb); have n1_ := Aside0.mk (blk_below (g := gb137) (o := .cells #[.string ((rd_T45 l0_1 x24_1).f0), .int .i64 ((rd_T45 l0_1 x24_1).f1), .slice A136_2 ((rd_T45 l0_1 x24_1).f2).length c136_2, .slice (some ad140) ((rd_T45 l0_1 x24_1).f3).length c136_3] 45 (0, 0)) (by (with_reducible repeat (first | refine blk_drewN ?_ _ | refine blk_drew ?_ | refine blk_alloc ?_ _)); refine blk_far ?_ NB137_141.out _; (with_reducible repeat (first | refine blk_drewN ?_ _ | refine blk_drew ?_ | refine blk_alloc ?_ _)); refine blk_far ?_ NB137_141.out _; (with_reducible repeat (first | refine blk_drewN ?_ _ | refine blk_drew ?_ | refine blk_alloc ?_ _)); refine blk_far ?_ NB137_141.out _; (with_reducible repeat (first | refine blk_drewN ?_ _ | refine blk_drew ?_ | refine blk_alloc ?_ _)); refine blk_far ?_ NB137_141.out _; (with_reducible repeat (first | refine blk_drewN ?_ _ | refine blk_drew ?_ | refine blk_alloc ?_ _)); refine blk_far ?_ NB137_141.out _; (with_reducible repeat (first | refine blk_drewN ?_ _ | refine blk_drew ?_ | refine blk_alloc ?_ _)); refine blk_far ?_ NB137_141.out _; (with_reducible repeat (first | refine blk_drewN ?_ _ | refine blk_drew ?_ | refine blk_alloc ?_ _)); exact BK137.out) hb); have n2_ := Aside0.mk (blk_below (g := gb141) (o := .cells #[.int .i64 ((rd_T72 ((rd_T45 l0_1 x24_1).f3) x61_3).f0), .int .i64 ((rd_T72 ((rd_T45 l0_1 x24_1).f3) x61_3).f1), .int .i64 ((rd_T72 ((rd_T45 l0_1 x24_1).f3) x61_3).f2.f0), .int .i64 ((rd_T72 ((rd_T45 l0_1 x24_1).f3) x61_3).f2.f1), .string ((rd_T72 ((rd_T45 l0_1 x24_1).f3) x61_3).f2.f2), .slice A140_5 ((rd_T72 ((rd_T45 l0_1 x24_1).f3) x61_3).f3).length c140_5] 72 (0, 0)) (by (with_reducible repeat (first | refine blk_drewN ?_ _ | refine blk_drew ?_ | refine blk_alloc ?_ _)); refine blk_put (cs := #[.int .i64 ((rd_T72 ((rd_T45 l0_1 x24_1).f3) x61_3).f0), .int .i64 ((rd_T72 ((rd_T45 l0_1 x24_1).f3) x61_3).f1), .int .i64 ((rd_T72 ((rd_T45 l0_1 x24_1).f3) x61_3).f2.f0), .int .i64 ((rd_T72 ((rd_T45 l0_1 x24_1).f3) x61_3).f2.f1), .string ((rd_T72 ((rd_T45 l0_1 x24_1).f3) x61_3).f2.f2), .slice none 0 0]) ?_ 5 _ rfl; (with_reducible repeat (first | refine blk_drewN ?_ _ | refine blk_drew ?_ | refine blk_alloc ?_ _)); refine blk_put (cs := #[.int .i64 ((rd_T72 ((rd_T45 l0_1 x24_1).f3) x61_3).f0), .int .i64 ((rd_T72 ((rd_T45 l0_1 x24_1).f3) x61_3).f1), .int .i64 ((rd_T72 ((rd_T45 l0_1 x24_1).f3) x61_3).f2.f0), .int .i64 ((rd_T72 ((rd_T45 l0_1 x24_1).f3) x61_3).f2.f1), .string (⟨#[]⟩ : ByteArray), .slice none 0 0]) ?_ 4 _ rfl; (with_reducible repeat (first | refine blk_drewN ?_ _ | refine blk_drew ?_ | refine blk_alloc ?_ _)); refine blk_put (cs := #[.int .i64 ((rd_T72 ((rd_T45 l0_1 x24_1).f3) x61_3).f0), .int .i64 ((rd_T72 ((rd_T45 l0_1 x24_1).f3) x61_3).f1), .int .i64 ((rd_T72 ((rd_T45 l0_1 x24_1).f3) x61_3).f2.f0), .int .i64 0, .string (⟨#[]⟩ : ByteArray), .slice none 0 0]) ?_ 3 _ rfl; (with_reducible repeat (first | refine blk_drewN ?_ _ | refine blk_drew ?_ | refine blk_alloc ?_ _)); refine blk_put (cs := #[.int .i64 ((rd_T72 ((rd_T45 l0_1 x24_1).f3) x61_3).f0), .int .i64 ((rd_T72 ((rd_T45 l0_1 x24_1).f3) x61_3).f1), .int .i64 0, .int .i64 0, .string (⟨#[]⟩ : ByteArray), .slice none 0 0]) ?_ 2 _ rfl; (with_reducible repeat (first | refine blk_drewN ?_ _ | refine blk_drew ?_ | refine blk_alloc ?_ _)); refine blk_put (cs := #[.int .i64 ((rd_T72 ((rd_T45 l0_1 x24_1).f3) x61_3).f0), .int .i64 0, .int .i64 0, .int .i64 0, .string (⟨#[]⟩ : ByteArray), .slice none 0 0]) ?_ 1 _ rfl; (with_reducible repeat (first | refine blk_drewN ?_ _ | refine blk_drew ?_ | refine blk_alloc ?_ _)); refine blk_put (cs := #[.int .i64 0, .int .i64 0, .int .i64 0, .int .i64 0, .string (⟨#[]⟩ : ByteArray), .slice none 0 0]) ?_ 0 _ rfl; (with_reducible repeat (first | refine blk_drewN ?_ _ | refine blk_drew ?_ | refine blk_alloc ?_ _)); exact BK141.out) hb); have n3_ := Aside0.mk (below_step (by repeat (first | (with_reducible first | exact HB.out | apply below_alloc | apply pw_below_drewN | apply below_drew1 | refine below_set ?_ GE135.out | refine below_set ?_ GE137.out | refine below_set ?_ GE141.out) | exact HB.out)) hb); clear BK135; clear BK137; clear BK141; clear HB; have BK135 := n0_; have BK137 := n1_; have BK141 := n2_; have HB := n3_; clear n0_ n1_ n2_ n3_; (try clear hb); (try clear hb2); (try clear hk); (try clear hi)))
                                go_ret
                                exact ⟨by first | rfl | (simp [errW_none, errW_some] <;> rfl) | (simp [*, errW_none, errW_some] <;> rfl), by repeat (first | (with_reducible first | exact HB.out | apply below_alloc | apply pw_below_drewN | apply below_drew1 | refine below_set ?_ GE135.out | refine below_set ?_ GE137.out | refine below_set ?_ GE141.out) | exact HB.out)⟩
                              · replace c26 := Bool.eq_false_iff.mpr c26
                                subst c26
                                have H1 : (mortmainref09_Great.l2 k3 x3_2 l0_1 (l0_1.length : Int) x24_1 ((rd_T45 l0_1 x24_1).f3) (((rd_T45 l0_1 x24_1).f3).length : Int) (wrap64 (x61_3 + 1)) a0_0 l0_1 l0_2) = some r := by rw [if_neg (show ¬ (false = true) by decide)] at H; exact H
                                clear H
                                have H := H1
                                clear H1
                                have H' := Aside0.mk H
                                clear H
                                have p140 : 0 ≤ (x61_3 : Int) := of_decide_eq_true (by first | (with_reducible assumption) | assumption)
                                have q140 : x61_3 < (((rd_T45 l0_1 x24_1).f3).length : Int) := of_decide_eq_true (by first | (with_reducible assumption) | assumption)
                                obtain ⟨ad140, A140_5, c140_5, e140, hx140_0, hx140_1, hx140_2, hx140_3, hx140_4, hx140_5, hl140_5, hi140_5⟩ := at_T72 HR136_3.out x61_3 p140 q140
                                cases e140
                                replace hx140_0 := (HB.out.cell (World.block_lt_of_cell? w _ hx140_0)).trans hx140_0
                                replace hx140_1 := (HB.out.cell (World.block_lt_of_cell? w _ hx140_1)).trans hx140_1
                                replace hx140_2 := (HB.out.cell (World.block_lt_of_cell? w _ hx140_2)).trans hx140_2
                                replace hx140_3 := (HB.out.cell (World.block_lt_of_cell? w _ hx140_3)).trans hx140_3
                                replace hx140_4 := (HB.out.cell (World.block_lt_of_cell? w _ hx140_4)).trans hx140_4
                                replace hx140_5 := (HB.out.cell (World.block_lt_of_cell? w _ hx140_5)).trans hx140_5
                                have HR140_5 := Aside0.mk hi140_5
                                have HC140_5 := Aside0.mk hl140_5
                                clear hi140_5 hl140_5
                                replace p140 := eq_true p140
                                replace q140 := eq_true q140
                                go_wp2_with (first | ((with_reducible refine gate_dst (N := 9) rfl ?_); refine box_event ?hg (N := 9) ?hd (cs := #[.int .i64 0, .int .i64 0, .int .i64 0, .int .i64 0, .string (⟨#[]⟩ : ByteArray), .slice none 0 0]) (t := 72) ?hr ?_; (case hd => rfl); (case hg => rfl); (case hr => first | (go_simp; done) | (go_simp; rfl)); intro gb141 hg w32 hbox hb; have n0_ := Aside0.mk (blk_below (g := gb135) (o := .cells #[.int .i64 a0_0, .slice (some ad136) l0_1.length c0_1, .slice A0_2 l0_2.length c0_2] 25 (0, 0)) (by (with_reducible repeat (first | refine blk_drewN ?_ _ | refine blk_drew ?_ | refine blk_alloc ?_ _)); exact BK135.out) hb); have n1_ := Aside0.mk (blk_below (g := gb137) (o := .cells #[.string ((rd_T45 l0_1 x24_1).f0), .int .i64 ((rd_T45 l0_1 x24_1).f1), .slice A136_2 ((rd_T45 l0_1 x24_1).f2).length c136_2, .slice (some ad140) ((rd_T45 l0_1 x24_1).f3).length c136_3] 45 (0, 0)) (by (with_reducible repeat (first | refine blk_drewN ?_ _ | refine blk_drew ?_ | refine blk_alloc ?_ _)); exact BK137.out) hb); have n2_ := Aside0.mk (below_step (by repeat (first | (with_reducible first | exact HB.out | apply below_alloc | apply pw_below_drewN | apply below_drew1 | refine below_set ?_ GE135.out | refine below_set ?_ GE137.out) | exact HB.out)) hb); have n3_ := Aside0.mk (hbox); have n4_ := Aside0.mk ((by rw [hg]; exact (below_size (by repeat (first | (with_reducible first | exact HB.out | apply below_alloc | apply pw_below_drewN | apply below_drew1 | refine below_set ?_ GE135.out | refine below_set ?_ GE137.out) | exact HB.out))) : w.heap.size ≤ gb141)); have n5_ := Aside0.mk ((by rw [hg]; exact (below_size (by repeat (first | (with_reducible first | exact HB.out | apply below_alloc | apply pw_below_drewN | apply below_drew1 | refine below_set ?_ GE135.out | refine below_set ?_ GE137.out) | exact HB.out))) : w.heap.size ≤ gb141)); have n6_ := Aside0.mk ((by rw [hg]; exact Nat.ne_of_lt (blk_lt (g := gb135) (o := .cells #[.int .i64 a0_0, .slice (some ad136) l0_1.length c0_1, .slice A0_2 l0_2.length c0_2] 25 (0, 0)) (by (with_reducible repeat (first | refine blk_drewN ?_ _ | refine blk_drew ?_ | refine blk_alloc ?_ _)); exact BK135.out)) : gb135 ≠ gb141)); have n7_ := Aside0.mk ((by rw [hg]; exact Nat.ne_of_gt (blk_lt (g := gb135) (o := .cells #[.int .i64 a0_0, .slice (some ad136) l0_1.length c0_1, .slice A0_2 l0_2.length c0_2] 25 (0, 0)) (by (with_reducible repeat (first | refine blk_drewN ?_ _ | refine blk_drew ?_ | refine blk_alloc ?_ _)); exact BK135.out)) : gb141 ≠ gb135)); have n8_ := Aside0.mk ((by rw [hg]; exact Nat.ne_of_lt (blk_lt (g := gb137) (o := .cells #[.string ((rd_T45 l0_1 x24_1).f0), .int .i64 ((rd_T45 l0_1 x24_1).f1), .slice A136_2 ((rd_T45 l0_1 x24_1).f2).length c136_2, .slice (some ad140) ((rd_T45 l0_1 x24_1).f3).length c136_3] 45 (0, 0)) (by (with_reducible repeat (first | refine blk_drewN ?_ _ | refine blk_drew ?_ | refine blk_alloc ?_ _)); exact BK137.out)) : gb137 ≠ gb141)); have n9_ := Aside0.mk ((by rw [hg]; exact Nat.ne_of_gt (blk_lt (g := gb137) (o := .cells #[.string ((rd_T45 l0_1 x24_1).f0), .int .i64 ((rd_T45 l0_1 x24_1).f1), .slice A136_2 ((rd_T45 l0_1 x24_1).f2).length c136_2, .slice (some ad140) ((rd_T45 l0_1 x24_1).f3).length c136_3] 45 (0, 0)) (by (with_reducible repeat (first | refine blk_drewN ?_ _ | refine blk_drew ?_ | refine blk_alloc ?_ _)); exact BK137.out)) : gb141 ≠ gb137)); clear BK135; clear BK137; clear HB; have BK135 := n0_; have BK137 := n1_; have HB := n2_; have BK141 := n3_; have GW141 := n4_; have GE141 := n5_; have NB135_141 := n6_; have NB141_135 := n7_; have NB137_141 := n8_; have NB141_137 := n9_; clear n0_ n1_ n2_ n3_ n4_ n5_ n6_ n7_ n8_ n9_; clear hb hbox hg; have hnb33 := NB141_135.out; have hnc33 := NB135_141.out; have hnb34 := NB141_137.out; have hnc34 := NB137_141.out; have hcz35_0 : w32.cell? ⟨gb141, 0, none⟩ = some (.int .i64 0) := (blk_cell BK141.out 0).trans rfl; have hcz35_1 : w32.cell? ⟨gb141, 1, none⟩ = some (.int .i64 0) := (blk_cell BK141.out 1).trans rfl; have hcz35_2 : w32.cell? ⟨gb141, 2, none⟩ = some (.int .i64 0) := (blk_cell BK141.out 2).trans rfl; have hcz35_3 : w32.cell? ⟨gb141, 3, none⟩ = some (.int .i64 0) := (blk_cell BK141.out 3).trans rfl; have hcz35_4 : w32.cell? ⟨gb141, 4, none⟩ = some (.string (⟨#[]⟩ : ByteArray)) := (blk_cell BK141.out 4).trans rfl; have hcz35_5 : w32.cell? ⟨gb141, 5, none⟩ = some (.slice none 0 0) := (blk_cell BK141.out 5).trans rfl; have hfz35_0 := blk_frozen BK141.out 0; have hfz35_1 := blk_frozen BK141.out 1; have hfz35_2 := blk_frozen BK141.out 2; have hfz35_3 := blk_frozen BK141.out 3; have hfz35_4 := blk_frozen BK141.out 4; have hfz35_5 := blk_frozen BK141.out 5) | ((with_reducible refine gate_callee (f := 45) rfl ?_); refine goesL_ (some 66) rfl rfl Tryd.func45 (by kernel_rfl) rfl #[.agg #[.int .i64 ((rd_T72 ((rd_T45 l0_1 x24_1).f3) x61_3).f0), .int .i64 ((rd_T72 ((rd_T45 l0_1 x24_1).f3) x61_3).f1), .int .i64 ((rd_T72 ((rd_T45 l0_1 x24_1).f3) x61_3).f2.f0), .int .i64 ((rd_T72 ((rd_T45 l0_1 x24_1).f3) x61_3).f2.f1), .string ((rd_T72 ((rd_T45 l0_1 x24_1).f3) x61_3).f2.f2), .slice A140_5 ((rd_T72 ((rd_T45 l0_1 x24_1).f3) x61_3).f3).length c140_5]] rfl (by (try simp only [List.map_toArray, List.map_cons, List.map_nil]); first | done | rfl | (simp only [List.length_drop, List.length_take]; rfl)) ?_; (with_reducible refine (mortmainref08_Great.calls k3 ((rd_T72 ((rd_T45 l0_1 x24_1).f3) x61_3).f0) ((rd_T72 ((rd_T45 l0_1 x24_1).f3) x61_3).f1) ((rd_T72 ((rd_T45 l0_1 x24_1).f3) x61_3).f2.f0) ((rd_T72 ((rd_T45 l0_1 x24_1).f3) x61_3).f2.f1) ((rd_T72 ((rd_T45 l0_1 x24_1).f3) x61_3).f2.f2) _ _ ((rd_T72 ((rd_T45 l0_1 x24_1).f3) x61_3).f3) false _ ?side1 ?side2 A25.out).mono ?_); (case side1 => exact Kd.C_below HR140_5.out (by repeat (first | (with_reducible first | exact HB.out | apply below_alloc | apply pw_below_drewN | apply below_drew1 | refine below_set ?_ GE135.out | refine below_set ?_ GE137.out | refine below_set ?_ GE141.out) | exact HB.out))); (case side2 => exact HC140_5.out); rintro e w36 ⟨rfl, hb⟩; refine ⟨_, rfl, ?_⟩; have n0_ := Aside0.mk (blk_below (g := gb135) (o := .cells #[.int .i64 a0_0, .slice (some ad136) l0_1.length c0_1, .slice A0_2 l0_2.length c0_2] 25 (0, 0)) (by (with_reducible repeat (first | refine blk_drewN ?_ _ | refine blk_drew ?_ | refine blk_alloc ?_ _)); refine blk_far ?_ NB135_141.out _; (with_reducible repeat (first | refine blk_drewN ?_ _ | refine blk_drew ?_ | refine blk_alloc ?_ _)); refine blk_far ?_ NB135_141.out _; (with_reducible repeat (first | refine blk_drewN ?_ _ | refine blk_drew ?_ | refine blk_alloc ?_ _)); refine blk_far ?_ NB135_141.out _; (with_reducible repeat (first | refine blk_drewN ?_ _ | refine blk_drew ?_ | refine blk_alloc ?_ _)); refine blk_far ?_ NB135_141.out _; (with_reducible repeat (first | refine blk_drewN ?_ _ | refine blk_drew ?_ | refine blk_alloc ?_ _)); refine blk_far ?_ NB135_141.out _; (with_reducible repeat (first | refine blk_drewN ?_ _ | refine blk_drew ?_ | refine blk_alloc ?_ _)); refine blk_far ?_ NB135_141.out _; (with_reducible repeat (first | refine blk_drewN ?_ _ | refine blk_drew ?_ | refine blk_alloc ?_ _)); exact BK135.out) hb); have n1_ := Aside0.mk (blk_below (g := gb137) (o := .cells #[.string ((rd_T45 l0_1 x24_1).f0), .int .i64 ((rd_T45 l0_1 x24_1).f1), .slice A136_2 ((rd_T45 l0_1 x24_1).f2).length c136_2, .slice (some ad140) ((rd_T45 l0_1 x24_1).f3).length c136_3] 45 (0, 0)) (by (with_reducible repeat (first | refine blk_drewN ?_ _ | refine blk_drew ?_ | refine blk_alloc ?_ _)); refine blk_far ?_ NB137_141.out _; (with_reducible repeat (first | refine blk_drewN ?_ _ | refine blk_drew ?_ | refine blk_alloc ?_ _)); refine blk_far ?_ NB137_141.out _; (with_reducible repeat (first | refine blk_drewN ?_ _ | refine blk_drew ?_ | refine blk_alloc ?_ _)); refine blk_far ?_ NB137_141.out _; (with_reducible repeat (first | refine blk_drewN ?_ _ | refine blk_drew ?_ | refine blk_alloc ?_ _)); refine blk_far ?_ NB137_141.out _; (with_reducible repeat (first | refine blk_drewN ?_ _ | refine blk_drew ?_ | refine blk_alloc ?_ _)); refine blk_far ?_ NB137_141.out _; (with_reducible repeat (first | refine blk_drewN ?_ _ | refine blk_drew ?_ | refine blk_alloc ?_ _)); refine blk_far ?_ NB137_141.out _; (with_reducible repeat (first | refine blk_drewN ?_ _ | refine blk_drew ?_ | refine blk_alloc ?_ _)); exact BK137.out) hb); have n2_ := Aside0.mk (blk_below (g := gb141) (o := .cells #[.int .i64 ((rd_T72 ((rd_T45 l0_1 x24_1).f3) x61_3).f0), .int .i64 ((rd_T72 ((rd_T45 l0_1 x24_1).f3) x61_3).f1), .int .i64 ((rd_T72 ((rd_T45 l0_1 x24_1).f3) x61_3).f2.f0), .int .i64 ((rd_T72 ((rd_T45 l0_1 x24_1).f3) x61_3).f2.f1), .string ((rd_T72 ((rd_T45 l0_1 x24_1).f3) x61_3).f2.f2), .slice A140_5 ((rd_T72 ((rd_T45 l0_1 x24_1).f3) x61_3).f3).length c140_5] 72 (0, 0)) (by (with_reducible repeat (first | refine blk_drewN ?_ _ | refine blk_drew ?_ | refine blk_alloc ?_ _)); refine blk_put (cs := #[.int .i64 ((rd_T72 ((rd_T45 l0_1 x24_1).f3) x61_3).f0), .int .i64 ((rd_T72 ((rd_T45 l0_1 x24_1).f3) x61_3).f1), .int .i64 ((rd_T72 ((rd_T45 l0_1 x24_1).f3) x61_3).f2.f0), .int .i64 ((rd_T72 ((rd_T45 l0_1 x24_1).f3) x61_3).f2.f1), .string ((rd_T72 ((rd_T45 l0_1 x24_1).f3) x61_3).f2.f2), .slice none 0 0]) ?_ 5 _ rfl; (with_reducible repeat (first | refine blk_drewN ?_ _ | refine blk_drew ?_ | refine blk_alloc ?_ _)); refine blk_put (cs := #[.int .i64 ((rd_T72 ((rd_T45 l0_1 x24_1).f3) x61_3).f0), .int .i64 ((rd_T72 ((rd_T45 l0_1 x24_1).f3) x61_3).f1), .int .i64 ((rd_T72 ((rd_T45 l0_1 x24_1).f3) x61_3).f2.f0), .int .i64 ((rd_T72 ((rd_T45 l0_1 x24_1).f3) x61_3).f2.f1), .string (⟨#[]⟩ : ByteArray), .slice none 0 0]) ?_ 4 _ rfl; (with_reducible repeat (first | refine blk_drewN ?_ _ | refine blk_drew ?_ | refine blk_alloc ?_ _)); refine blk_put (cs := #[.int .i64 ((rd_T72 ((rd_T45 l0_1 x24_1).f3) x61_3).f0), .int .i64 ((rd_T72 ((rd_T45 l0_1 x24_1).f3) x61_3).f1), .int .i64 ((rd_T72 ((rd_T45 l0_1 x24_1).f3) x61_3).f2.f0), .int .i64 0, .string (⟨#[]⟩ : ByteArray), .slice none 0 0]) ?_ 3 _ rfl; (with_reducible repeat (first | refine blk_drewN ?_ _ | refine blk_drew ?_ | refine blk_alloc ?_ _)); refine blk_put (cs := #[.int .i64 ((rd_T72 ((rd_T45 l0_1 x24_1).f3) x61_3).f0), .int .i64 ((rd_T72 ((rd_T45 l0_1 x24_1).f3) x61_3).f1), .int .i64 0, .int .i64 0, .string (⟨#[]⟩ : ByteArray), .slice none 0 0]) ?_ 2 _ rfl; (with_reducible repeat (first | refine blk_drewN ?_ _ | refine blk_drew ?_ | refine blk_alloc ?_ _)); refine blk_put (cs := #[.int .i64 ((rd_T72 ((rd_T45 l0_1 x24_1).f3) x61_3).f0), .int .i64 0, .int .i64 0, .int .i64 0, .string (⟨#[]⟩ : ByteArray), .slice none 0 0]) ?_ 1 _ rfl; (with_reducible repeat (first | refine blk_drewN ?_ _ | refine blk_drew ?_ | refine blk_alloc ?_ _)); refine blk_put (cs := #[.int .i64 0, .int .i64 0, .int .i64 0, .int .i64 0, .string (⟨#[]⟩ : ByteArray), .slice none 0 0]) ?_ 0 _ rfl; (with_reducible repeat (first | refine blk_drewN ?_ _ | refine blk_drew ?_ | refine blk_alloc ?_ _)); exact BK141.out) hb); have n3_ := Aside0.mk (below_step (by repeat (first | (with_reducible first | exact HB.out | apply below_alloc | apply pw_below_drewN | apply below_drew1 | refine below_set ?_ GE135.out | refine below_set ?_ GE137.out | refine below_set ?_ GE141.out) | exact HB.out)) hb); clear BK135; clear BK137; clear BK141; clear HB; have BK135 := n0_; have BK137 := n1_; have BK141 := n2_; have HB := n3_; clear n0_ n1_ n2_ n3_; (try clear hb); (try clear hb2); (try clear hk); (try clear hi)))
                                go_roundg k3
                                case measure => have := HK1.out; have := HK2.out; have := HK3.out; omega
                                case rel => exact ⟨(wrap64 (x61_3 + 1)), (by first | rfl | (simp; done) | (simp [*]; done)), H', ⟨by have := HK1.out; have := HK2.out; have := HK3.out; omega⟩, ⟨by (with_reducible repeat (first | refine blk_drewN ?_ _ | refine blk_drew ?_ | refine blk_alloc ?_ _)); exact BK135.out⟩, ⟨by (with_reducible repeat (first | refine blk_drewN ?_ _ | refine blk_drew ?_ | refine blk_alloc ?_ _)); exact BK137.out⟩, ⟨by repeat (first | (with_reducible first | exact HB.out | apply below_alloc | apply pw_below_drewN | apply below_drew1 | refine below_set ?_ GE135.out | refine below_set ?_ GE137.out | refine below_set ?_ GE141.out) | exact HB.out)⟩⟩
                            · rw [if_neg c24] at H
                              exact absurd H (by simp)
                          · rw [if_neg c23] at H
                            exact absurd H (by simp)
                        · rw [if_neg c22] at H
                          have c22b0 : decide (x61_3 < (((rd_T45 l0_1 x24_1).f3).length : Int)) = false := decide_eq_false c22
                          clear c22
                          by_cases c37 : x3_2 > 3000
                          · rw [if_pos c37] at H
                            have c37b0 : decide (3000 < x3_2) = true := decide_eq_true c37
                            clear c37
                            obtain rfl := Option.some.inj H
                            go_wp2
                            go_ret
                            exact ⟨by first | rfl | (simp [errW_none, errW_some] <;> rfl) | (simp [*, errW_none, errW_some] <;> rfl), by repeat (first | (with_reducible first | exact HB.out | apply below_alloc | apply pw_below_drewN | apply below_drew1 | refine below_set ?_ GE135.out | refine below_set ?_ GE137.out) | exact HB.out)⟩
                          · rw [if_neg c37] at H
                            have c37b0 : decide (3000 < x3_2) = false := decide_eq_false c37
                            clear c37
                            have H' := Aside0.mk H
                            clear H
                            go_wp2
                            go_roundg k3
                            case measure => have := HK1.out; have := HK2.out; have := HK3.out; omega
                            case rel => exact ⟨(x3_2), (wrap64 (x24_1 + 1)), (by first | rfl | (simp; done) | (simp [*]; done)), (by first | rfl | (simp; done) | (simp [*]; done)), H', ⟨by have := HK1.out; have := HK2.out; have := HK3.out; omega⟩, ⟨by (with_reducible repeat (first | refine blk_drewN ?_ _ | refine blk_drew ?_ | refine blk_alloc ?_ _)); exact BK135.out⟩, ⟨by repeat (first | (with_reducible first | exact HB.out | apply below_alloc | apply pw_below_drewN | apply below_drew1 | refine below_set ?_ GE135.out | refine below_set ?_ GE137.out) | exact HB.out)⟩⟩
            · rw [if_neg c9] at H
              exact absurd H (by simp)
          · rw [if_neg c8] at H
            exact absurd H (by simp)
        · rw [if_neg c7] at H
          have c7b0 : decide (x24_1 < (l0_1.length : Int)) = false := decide_eq_false c7
          clear c7
          have H' := Aside0.mk H
          clear H
          have hcz38_0 : wr.cell? ⟨gb135, 0, none⟩ = some (.int .i64 a0_0) := (blk_cell BK135.out 0).trans rfl
          have hcz38_1 : wr.cell? ⟨gb135, 1, none⟩ = some (.slice A0_1 l0_1.length c0_1) := (blk_cell BK135.out 1).trans rfl
          have hcz38_2 : wr.cell? ⟨gb135, 2, none⟩ = some (.slice A0_2 l0_2.length c0_2) := (blk_cell BK135.out 2).trans rfl
          have hfz38_0 := blk_frozen BK135.out 0
          have hfz38_1 := blk_frozen BK135.out 1
          have hfz38_2 := blk_frozen BK135.out 2
          go_wp2
          go_loopg [3, 74] k1 (fun kq v3 v74 w' => ∃ (x3_2 : Int) (x74_2 : Int), v3 = .int .i64 x3_2 ∧ v74 = .int .i64 x74_2 ∧ Aside0 (mortmainref09_Great.l3 kq x3_2 l0_2 (l0_2.length : Int) x74_2 = some r) ∧ Aside0 (kq ≤ k1) ∧ Aside0 (w'.heap[gb135]? = some (.cells #[.int .i64 a0_0, (.slice A0_1 l0_1.length c0_1), (.slice A0_2 l0_2.length c0_2)] 25 (0, 0))) ∧ Aside0 (Below w.heap.size w w'))
          case atStart => exact ⟨(x3_1), (0), (by first | rfl | (simp; done) | (simp [*]; done)), (by first | rfl | (simp; done) | (simp [*]; done)), H', ⟨Nat.le_refl _⟩, ⟨by (with_reducible repeat (first | refine blk_drewN ?_ _ | refine blk_drew ?_ | refine blk_alloc ?_ _)); exact BK135.out⟩, ⟨by repeat (first | (with_reducible first | exact HB.out | apply below_alloc | apply pw_below_drewN | apply below_drew1 | refine below_set ?_ GE135.out) | exact HB.out)⟩⟩
          case round =>
            clear H'
            try clear c1
            try clear p1
            try clear q1
            try clear hx1
            try clear c2
            try clear c2b0
            try clear p2
            try clear c3
            try clear c4
            try clear p6
            try clear c7
            try clear c7b0
            try clear c8
            try clear c8b0
            try clear c9
            try clear c9b0
            try clear c11
            try clear c13
            try clear c13b0
            try clear p13
            try clear q13
            try clear hx13
            try clear c14
            try clear c14b0
            try clear p14
            try clear q14
            try clear hx14
            try clear c15
            try clear c15b0
            try clear c17
            try clear c18
            try clear c20
            try clear c22
            try clear c22b0
            try clear c23
            try clear c23b0
            try clear c24
            try clear c24b0
            try clear c26
            try clear c28
            try clear c29
            try clear c33
            try clear c34
            try clear c37
            try clear c37b0
            try clear hcz12_0
            try clear hcz12_1
            try clear hcz12_2
            try clear hcz12_3
            try clear hcz19_0
            try clear hcz19_1
            try clear hcz19_2
            try clear hcz19_3
            try clear hcz19_4
            try clear hcz19_5
            try clear hcz21_0
            try clear hcz21_1
            try clear hcz21_2
            try clear hcz21_3
            try clear hcz30_0
            try clear hcz30_1
            try clear hcz30_2
            try clear hcz30_3
            try clear hcz30_4
            try clear hcz30_5
            try clear hcz35_0
            try clear hcz35_1
            try clear hcz35_2
            try clear hcz35_3
            try clear hcz35_4
            try clear hcz35_5
            try clear hcz38_0
            try clear hcz38_1
            try clear hcz38_2
            try clear hcz4_0
            try clear hcz4_1
            try clear hcz4_2
            try clear hcz6_0
            try clear hcz6_1
            try clear hcz6_2
            try clear hfz12_0
            try clear hfz12_1
            try clear hfz12_2
            try clear hfz12_3
            try clear hfz19_0
            try clear hfz19_1
            try clear hfz19_2
            try clear hfz19_3
            try clear hfz19_4
            try clear hfz19_5
            try clear hfz21_0
            try clear hfz21_1
            try clear hfz21_2
            try clear hfz21_3
            try clear hfz30_0
            try clear hfz30_1
            try clear hfz30_2
            try clear hfz30_3
            try clear hfz30_4
            try clear hfz30_5
            try clear hfz35_0
            try clear hfz35_1
            try clear hfz35_2
            try clear hfz35_3
            try clear hfz35_4
            try clear hfz35_5
            try clear hfz38_0
            try clear hfz38_1
            try clear hfz38_2
            try clear hfz4_0
            try clear hfz4_1
            try clear hfz4_2
            try clear hfz6_0
            try clear hfz6_1
            try clear hfz6_2
            try clear hx136_0
            try clear hx136_1
            try clear hx136_2
            try clear hx136_3
            try clear hx138_0
            try clear hx138_1
            try clear hx138_2
            try clear hx138_3
            try clear hx138_4
            try clear hx138_5
            try clear hx140_0
            try clear hx140_1
            try clear hx140_2
            try clear hx140_3
            try clear hx140_4
            try clear hx140_5
            try clear p1
            try clear p13
            try clear p136
            try clear p138
            try clear p140
            try clear p2
            try clear p6
            try clear q1
            try clear q13
            try clear q136
            try clear q138
            try clear q140
            obtain ⟨x3_2, x74_2, rfl, rfl, HA, HK2, BK135, HB⟩ := hrel
            cases gk with
            | zero => exact absurd HA.out (by simp [mortmainref09_Great.l3])
            | succ k2 =>
              have H := HA.out
              clear HA
              simp only [mortmainref09_Great.l3] at H
              by_cases c39 : x74_2 < (l0_2.length : Int)
              · rw [if_pos c39] at H
                have c39b0 : decide (x74_2 < (l0_2.length : Int)) = true := decide_eq_true c39
                clear c39
                by_cases c40 : 0 ≤ x74_2
                · rw [if_pos c40] at H
                  have c40b0 : decide (0 ≤ x74_2) = true := decide_eq_true c40
                  clear c40
                  by_cases c41 : x74_2 < (l0_2.length : Int)
                  · rw [if_pos c41] at H
                    have c41b0 : decide (x74_2 < (l0_2.length : Int)) = true := decide_eq_true c41
                    clear c41
                    have H' := Aside0.mk H
                    clear H
                    have p143 : 0 ≤ (x74_2 : Int) := of_decide_eq_true (by first | (with_reducible assumption) | assumption)
                    have q143 : x74_2 < (l0_2.length : Int) := of_decide_eq_true (by first | (with_reducible assumption) | assumption)
                    obtain ⟨ad143, e143, hx143_0, hx143_1, hx143_2⟩ := at_T27 HR0_2.out x74_2 p143 q143
                    cases e143
                    replace hx143_0 := (HB.out.cell (World.block_lt_of_cell? w _ hx143_0)).trans hx143_0
                    replace hx143_1 := (HB.out.cell (World.block_lt_of_cell? w _ hx143_1)).trans hx143_1
                    replace hx143_2 := (HB.out.cell (World.block_lt_of_cell? w _ hx143_2)).trans hx143_2
                    replace p143 := eq_true p143
                    replace q143 := eq_true q143
                    go_wp2_with (first | ((with_reducible refine gate_dst (N := 11) rfl ?_); refine box_event ?hg (N := 11) ?hd (cs := #[.int .i64 0, .string (⟨#[]⟩ : ByteArray), .int .i64 0]) (t := 27) ?hr ?_; (case hd => rfl); (case hg => rfl); (case hr => first | (go_simp; done) | (go_simp; rfl)); intro gb144 hg w42 hbox hb; have n0_ := Aside0.mk (blk_below (g := gb135) (o := .cells #[.int .i64 a0_0, .slice A0_1 l0_1.length c0_1, .slice (some ad143) l0_2.length c0_2] 25 (0, 0)) (by (with_reducible repeat (first | refine blk_drewN ?_ _ | refine blk_drew ?_ | refine blk_alloc ?_ _)); exact BK135.out) hb); have n1_ := Aside0.mk (below_step (by repeat (first | (with_reducible first | exact HB.out | apply below_alloc | apply pw_below_drewN | apply below_drew1 | refine below_set ?_ GE135.out) | exact HB.out)) hb); have n2_ := Aside0.mk (hbox); have n3_ := Aside0.mk ((by rw [hg]; exact (below_size (by repeat (first | (with_reducible first | exact HB.out | apply below_alloc | apply pw_below_drewN | apply below_drew1 | refine below_set ?_ GE135.out) | exact HB.out))) : w.heap.size ≤ gb144)); have n4_ := Aside0.mk ((by rw [hg]; exact (below_size (by repeat (first | (with_reducible first | exact HB.out | apply below_alloc | apply pw_below_drewN | apply below_drew1 | refine below_set ?_ GE135.out) | exact HB.out))) : w.heap.size ≤ gb144)); have n5_ := Aside0.mk ((by rw [hg]; exact Nat.ne_of_lt (blk_lt (g := gb135) (o := .cells #[.int .i64 a0_0, .slice A0_1 l0_1.length c0_1, .slice (some ad143) l0_2.length c0_2] 25 (0, 0)) (by (with_reducible repeat (first | refine blk_drewN ?_ _ | refine blk_drew ?_ | refine blk_alloc ?_ _)); exact BK135.out)) : gb135 ≠ gb144)); have n6_ := Aside0.mk ((by rw [hg]; exact Nat.ne_of_gt (blk_lt (g := gb135) (o := .cells #[.int .i64 a0_0, .slice A0_1 l0_1.length c0_1, .slice (some ad143) l0_2.length c0_2] 25 (0, 0)) (by (with_reducible repeat (first | refine blk_drewN ?_ _ | refine blk_drew ?_ | refine blk_alloc ?_ _)); exact BK135.out)) : gb144 ≠ gb135)); clear BK135; clear HB; have BK135 := n0_; have HB := n1_; have BK144 := n2_; have GW144 := n3_; have GE144 := n4_; have NB135_144 := n5_; have NB144_135 := n6_; clear n0_ n1_ n2_ n3_ n4_ n5_ n6_; clear hb hbox hg; have hnb43 := NB144_135.out; have hnc43 := NB135_144.out; have hcz44_0 : w42.cell? ⟨gb144, 0, none⟩ = some (.int .i64 0) := (blk_cell BK144.out 0).trans rfl; have hcz44_1 : w42.cell? ⟨gb144, 1, none⟩ = some (.string (⟨#[]⟩ : ByteArray)) := (blk_cell BK144.out 1).trans rfl; have hcz44_2 : w42.cell? ⟨gb144, 2, none⟩ = some (.int .i64 0) := (blk_cell BK144.out 2).trans rfl; have hfz44_0 := blk_frozen BK144.out 0; have hfz44_1 := blk_frozen BK144.out 1; have hfz44_2 := blk_frozen BK144.out 2))
                    go_roundg k2
                    case measure => have := HK1.out; have := HK2.out; omega
                    case rel => exact ⟨(wrap64 (x3_2 + (((rd_T27 l0_2 x74_2).f1).size : Int))), (wrap64 (x74_2 + 1)), (by first | rfl | (simp; done) | (simp [*]; done)), (by first | rfl | (simp; done) | (simp [*]; done)), H', ⟨by have := HK1.out; have := HK2.out; omega⟩, ⟨by (with_reducible repeat (first | refine blk_drewN ?_ _ | refine blk_drew ?_ | refine blk_alloc ?_ _)); refine blk_far ?_ NB135_144.out _; (with_reducible repeat (first | refine blk_drewN ?_ _ | refine blk_drew ?_ | refine blk_alloc ?_ _)); refine blk_far ?_ NB135_144.out _; (with_reducible repeat (first | refine blk_drewN ?_ _ | refine blk_drew ?_ | refine blk_alloc ?_ _)); refine blk_far ?_ NB135_144.out _; (with_reducible repeat (first | refine blk_drewN ?_ _ | refine blk_drew ?_ | refine blk_alloc ?_ _)); exact BK135.out⟩, ⟨by repeat (first | (with_reducible first | exact HB.out | apply below_alloc | apply pw_below_drewN | apply below_drew1 | refine below_set ?_ GE135.out | refine below_set ?_ GE144.out) | exact HB.out)⟩⟩
                  · rw [if_neg c41] at H
                    exact absurd H (by simp)
                · rw [if_neg c40] at H
                  exact absurd H (by simp)
              · rw [if_neg c39] at H
                have c39b0 : decide (x74_2 < (l0_2.length : Int)) = false := decide_eq_false c39
                clear c39
                obtain rfl := Option.some.inj H
                go_wp2
                go_ret
                exact ⟨by first | rfl | (simp [errW_none, errW_some] <;> rfl) | (simp [*, errW_none, errW_some] <;> rfl), by repeat (first | (with_reducible first | exact HB.out | apply below_alloc | apply pw_below_drewN | apply below_drew1 | refine below_set ?_ GE135.out) | exact HB.out)⟩

end Go.Proofs.YtefdfgmlmjnmlaaDoor.Rf
end

section
/- The reference Great ends, of every schema that is read. -/
namespace Go.Proofs.YtefdfgmlmjnmlaaDoor.My
open Go.RowKit Go.Proofs.YtefdfgmlmjnmlaaDoorW.PrintWords Go.Proofs.YtefdfgmlmjnmlaaDoor.Rf

/-- An expression whose lists are no longer than can be. -/
inductive OkE : S72 → Prop
  | mk (e : S72) (hl : e.f3.length ≤ 9223372036854775807) (h : ∀ x, x ∈ e.f3 → OkE x) : OkE e
theorem OkE.len {e : S72} (h : OkE e) : e.f3.length ≤ 9223372036854775807 := by cases h; assumption
theorem OkE.sub {e x : S72} (h : OkE e) (hx : x ∈ e.f3) : OkE x := by cases h with | mk _ _ h => exact h x hx
theorem mem_getD {α : Type} {l : List α} {z : α} {i : Nat} (h : i < l.length) : l.getD i z ∈ l := by
  simp [List.getD, List.getElem?_eq_getElem h]
theorem rd72_nat (l : List S72) (i : Nat) : rd_T72 l (i : Int) = l.getD i z72 := rfl
theorem rd59_nat (l : List S59) (i : Nat) : rd_T59 l (i : Int) = l.getD i z59 := rfl

theorem C_each {α : Type} {d : Kd α} {w : World} {A : Option Addr} {n : Nat} {xs : List α} (h : d.C w A n xs) {x : α} (hx : x ∈ xs) : ∃ c, d.K w x c := by
  obtain ⟨i, hi, rfl⟩ := List.getElem_of_mem hx
  have hl := Kd.C_len h
  obtain ⟨ad, c, _, _, hK, _⟩ := Kd.C_get h xs[i] (i : Int) (by omega) (by omega)
  refine ⟨c, ?_⟩
  simpa [List.getD, List.getElem?_eq_getElem hi] using hK
theorem okE_upto {w : World} : ∀ n x cs, (Kd.upto F72 6 [72] n).K w x cs → OkE x := by
  intro n
  induction n with
  | zero => intro x cs h; exact h.elim
  | succ n ih =>
    intro x cs h
    obtain ⟨_, _, rfl, rfl, ⟨_, _, rfl, rfl, ⟨_, _, rfl, s2, ⟨A5, c5, rfl, l5, g5⟩⟩⟩⟩ := h
    refine OkE.mk x (Kd.C_max g5) (fun y hy => ?_)
    obtain ⟨c, hc⟩ := C_each g5 hy
    exact ih y c hc
theorem okE_of {w : World} {x : S72} {cs : List Value} (h : k72.K w x cs) : OkE x := by
  obtain ⟨n, h⟩ := h
  exact okE_upto n x cs h

structure OkT (t : S45) : Prop where
  cols : t.f2.length ≤ 9223372036854775807
  checks : t.f3.length ≤ 9223372036854775807
  each : ∀ x, x ∈ t.f3 → OkE x
theorem okT_of {w : World} {t : S45} {cs : List Value} (h : k45.K w t cs) : OkT t := by
  obtain ⟨A2, c2, A3, c3, rfl, l2, g2, l3, g3⟩ := k45_open h
  refine ⟨Kd.C_max g2, Kd.C_max g3, fun x hx => ?_⟩
  obtain ⟨c, hc⟩ := C_each g3 hx
  exact okE_of hc

theorem size_l0 (l : List S72) (hl : l.length ≤ 9223372036854775807) (h : ∀ x, x ∈ l → ∃ r, Ev (fun k => mortmainref08_Size.f k x.f0 x.f1 x.f2.f0 x.f2.f1 x.f2.f2 x.f3) r) : ∀ d i a b, i + d = l.length →
    ∃ r, Ev (fun k => mortmainref08_Size.l0 k a b l (l.length : Int) (i : Int)) r := by
  intro d
  induction d with
  | zero =>
    intro i a b hi
    exact ⟨_, Ev.step (f := fun _ => some (a, wrap64 (b + 1))) (fun k => by simp only [mortmainref08_Size.l0]; rw [if_neg (by omega)]) (Ev.now _)⟩
  | succ d ih =>
    intro i a b hi
    have hlt : i < l.length := by omega
    obtain ⟨r, hr⟩ := h _ (mem_getD (z := z72) hlt)
    obtain ⟨r', hr'⟩ := ih (i + 1) (wrap64 (a + r.1)) (mx b r.2) (by omega)
    refine ⟨r', Ev.step (fun k => ?_) (Ev.bind (f := fun k bt => mortmainref08_Size.l0 k (wrap64 (a + bt.1)) (mx b bt.2) l (l.length : Int) ((i + 1 : Nat) : Int)) hr hr')⟩
    simp only [mortmainref08_Size.l0]
    rw [if_pos (by omega), if_pos (by omega), if_pos (by omega), rd72_nat]
    simp only [wrap_next hlt hl]
theorem size_ev {e : S72} (h : OkE e) : ∃ r, Ev (fun k => mortmainref08_Size.f k e.f0 e.f1 e.f2.f0 e.f2.f1 e.f2.f2 e.f3) r := by
  induction h with
  | mk e hl _ ih =>
    obtain ⟨r, hr⟩ := size_l0 e.f3 hl ih e.f3.length 0 1 0 (by omega)
    exact ⟨r, Ev.step (fun k => by simp only [mortmainref08_Size.f]; rfl) hr⟩

theorem long_l0 (a b c d' : Int) (s : ByteArray) (q l : List S72) (hl : l.length ≤ 9223372036854775807) (h : ∀ x, x ∈ l → ∃ r, Ev (fun k => mortmainref08_long.f k x.f0 x.f1 x.f2.f0 x.f2.f1 x.f2.f2 x.f3) r) : ∀ d i, i + d = l.length →
    ∃ r, Ev (fun k => mortmainref08_long.l0 k l (l.length : Int) (i : Int) a b c d' s q) r := by
  intro d
  induction d with
  | zero =>
    intro i hi
    exact ⟨_, Ev.step (f := fun _ => some (decide ((s.size : Int) > 200))) (fun k => by simp only [mortmainref08_long.l0]; rw [if_neg (by omega)]) (Ev.now _)⟩
  | succ d ih =>
    intro i hi
    have hlt : i < l.length := by omega
    obtain ⟨r, hr⟩ := h _ (mem_getD (z := z72) hlt)
    obtain ⟨r', hr'⟩ := ih (i + 1) (by omega)
    have hstep : ∀ k, mortmainref08_long.l0 (k + 1) l (l.length : Int) (i : Int) a b c d' s q = (mortmainref08_long.f k (l.getD i z72).f0 (l.getD i z72).f1 (l.getD i z72).f2.f0 (l.getD i z72).f2.f1 (l.getD i z72).f2.f2 (l.getD i z72).f3).bind fun t => if t = true then some true else mortmainref08_long.l0 k l (l.length : Int) ((i + 1 : Nat) : Int) a b c d' s q := by
      intro k
      simp only [mortmainref08_long.l0]
      rw [if_pos (by omega), if_pos (by omega), if_pos (by omega), rd72_nat, wrap_next hlt hl]
    cases r with
    | true => exact ⟨true, Ev.step hstep (Ev.bind hr (Ev.now _))⟩
    | false => exact ⟨r', Ev.step hstep (Ev.bind hr (by simpa using hr'))⟩
theorem long_ev {e : S72} (h : OkE e) : ∃ r, Ev (fun k => mortmainref08_long.f k e.f0 e.f1 e.f2.f0 e.f2.f1 e.f2.f2 e.f3) r := by
  induction h with
  | mk e hl _ ih =>
    obtain ⟨r, hr⟩ := long_l0 e.f0 e.f1 e.f2.f0 e.f2.f1 e.f2.f2 e.f3 e.f3 hl ih e.f3.length 0 (by omega)
    exact ⟨r, Ev.step (fun k => by simp only [mortmainref08_long.f]; rfl) hr⟩
theorem great8_ev {e : S72} (h : OkE e) : ∃ r, Ev (fun k => mortmainref08_Great.f k e.f0 e.f1 e.f2.f0 e.f2.f1 e.f2.f2 e.f3) r := by
  obtain ⟨r, hr⟩ := size_ev h
  obtain ⟨r', hr'⟩ := long_ev h
  by_cases h1 : r.1 > 300
  · exact ⟨true, Ev.bind hr (by simpa [h1] using Ev.now true)⟩
  · by_cases h2 : r.2 > 60
    · exact ⟨true, Ev.bind hr (by simpa [h1, h2] using Ev.now true)⟩
    · exact ⟨r', Ev.bind hr (by simpa [h1, h2] using Ev.bind hr' (Ev.now r'))⟩

theorem great_l3 (gs : List S27) (hl : gs.length ≤ 9223372036854775807) : ∀ d i a, i + d = gs.length → ∃ r, Ev (fun k => mortmainref09_Great.l3 k a gs (gs.length : Int) (i : Int)) r := by
  intro d
  induction d with
  | zero =>
    intro i a hi
    exact ⟨_, Ev.step (f := fun _ => some (decide (a > 3000))) (fun k => by simp only [mortmainref09_Great.l3]; rw [if_neg (by omega)]) (Ev.now _)⟩
  | succ d ih =>
    intro i a hi
    have hlt : i < gs.length := by omega
    obtain ⟨r, hr⟩ := ih (i + 1) (wrap64 (a + ((rd_T27 gs (i : Int)).f1.size : Int))) (by omega)
    refine ⟨r, Ev.step (fun k => ?_) hr⟩
    simp only [mortmainref09_Great.l3]
    rw [if_pos (by omega), if_pos (by omega), if_pos (by omega), wrap_next hlt hl]

theorem great_l2 (ts : List S45) (n : Int) (i0 : Int) (v : Int) (q : List S45) (gs : List S27) (l : List S72) (hl : l.length ≤ 9223372036854775807) (h : ∀ x, x ∈ l → OkE x) (a : Int)
    (hnext : ∃ r, Ev (fun k => mortmainref09_Great.l0 k a ts n (wrap64 (i0 + 1)) v q gs) r) : ∀ d i, i + d = l.length →
    ∃ r, Ev (fun k => mortmainref09_Great.l2 k a ts n i0 l (l.length : Int) (i : Int) v q gs) r := by
  intro d
  induction d with
  | zero =>
    intro i hi
    by_cases h3 : a > 3000
    · exact ⟨_, Ev.step (f := fun _ => some true) (fun k => by simp only [mortmainref09_Great.l2]; rw [if_neg (by omega), if_pos h3]) (Ev.now _)⟩
    · obtain ⟨r, hr⟩ := hnext
      exact ⟨r, Ev.step (fun k => by simp only [mortmainref09_Great.l2]; rw [if_neg (by omega), if_neg h3]) hr⟩
  | succ d ih =>
    intro i hi
    have hlt : i < l.length := by omega
    obtain ⟨r, hr⟩ := great8_ev (h _ (mem_getD (z := z72) hlt))
    obtain ⟨r', hr'⟩ := ih (i + 1) (by omega)
    have hstep : ∀ k, mortmainref09_Great.l2 (k + 1) a ts n i0 l (l.length : Int) (i : Int) v q gs = (mortmainref08_Great.f k (l.getD i z72).f0 (l.getD i z72).f1 (l.getD i z72).f2.f0 (l.getD i z72).f2.f1 (l.getD i z72).f2.f2 (l.getD i z72).f3).bind fun t => if t = true then some true else mortmainref09_Great.l2 k a ts n i0 l (l.length : Int) ((i + 1 : Nat) : Int) v q gs := by
      intro k
      simp only [mortmainref09_Great.l2]
      rw [if_pos (by omega), if_pos (by omega), if_pos (by omega), rd72_nat, wrap_next hlt hl]
    cases r with
    | true => exact ⟨true, Ev.step hstep (Ev.bind hr (Ev.now _))⟩
    | false => exact ⟨r', Ev.step hstep (Ev.bind hr (by simpa using hr'))⟩

theorem great_l1 (ts : List S45) (n : Int) (i0 : Int) (v : Int) (q : List S45) (gs : List S27) (nm : ByteArray) (o : Int) (c2 : List S59) (cks : List S72) (cols : List S59) (hl : cols.length ≤ 9223372036854775807)
    (hnext : ∀ a, ∃ r, Ev (fun k => mortmainref09_Great.l2 k a ts n i0 cks (cks.length : Int) 0 v q gs) r) : ∀ d i a, i + d = cols.length →
    ∃ r, Ev (fun k => mortmainref09_Great.l1 k a ts n i0 cols (cols.length : Int) (i : Int) v q gs nm o c2 cks) r := by
  intro d
  induction d with
  | zero =>
    intro i a hi
    obtain ⟨r, hr⟩ := hnext a
    exact ⟨r, Ev.step (fun k => by simp only [mortmainref09_Great.l1]; rw [if_neg (by omega)]) hr⟩
  | succ d ih =>
    intro i a hi
    have hlt : i < cols.length := by omega
    obtain ⟨r, hr⟩ := ih (i + 1) (wrap64 ((wrap64 (a + ((rd_T59 cols (i : Int)).f0.size : Int))) + ((rd_T59 cols (i : Int)).f4.size : Int))) (by omega)
    refine ⟨r, Ev.step (fun k => ?_) hr⟩
    simp only [mortmainref09_Great.l1]
    rw [if_pos (by omega), if_pos (by omega), if_pos (by omega), wrap_next hlt hl]

theorem great_l0 (v : Int) (q : List S45) (gs : List S27) (ts : List S45) (hl : ts.length ≤ 9223372036854775807) (hg : gs.length ≤ 9223372036854775807) (h : ∀ t, t ∈ ts → OkT t) : ∀ d i a, i + d = ts.length →
    ∃ r, Ev (fun k => mortmainref09_Great.l0 k a ts (ts.length : Int) (i : Int) v q gs) r := by
  intro d
  induction d with
  | zero =>
    intro i a hi
    obtain ⟨r, hr⟩ := great_l3 gs hg gs.length 0 a (by omega)
    exact ⟨r, Ev.step (fun k => by simp only [mortmainref09_Great.l0]; rw [if_neg (by omega)]; rfl) hr⟩
  | succ d ih =>
    intro i a hi
    have hlt : i < ts.length := by omega
    have hT := h _ (mem_getD (z := z45) hlt)
    obtain ⟨r, hr⟩ := great_l1 ts (ts.length : Int) (i : Int) v q gs (ts.getD i z45).f0 (ts.getD i z45).f1 (ts.getD i z45).f2 (ts.getD i z45).f3 (ts.getD i z45).f2 hT.cols
      (fun b => great_l2 ts (ts.length : Int) (i : Int) v q gs (ts.getD i z45).f3 hT.checks hT.each b (by rw [wrap_next hlt hl]; exact ih (i + 1) b (by omega)) (ts.getD i z45).f3.length 0 (by omega)) (ts.getD i z45).f2.length 0
      (wrap64 ((wrap64 ((wrap64 (a + ((ts.getD i z45).f0.size : Int))) + ((ts.getD i z45).f2.length : Int))) + ((ts.getD i z45).f3.length : Int))) (by omega)
    refine ⟨r, Ev.step (fun k => ?_) hr⟩
    simp only [mortmainref09_Great.l0]
    rw [if_pos (by omega), if_pos (by omega), if_pos (by omega), rd45_nat]
    rfl
theorem great_ev (v : Int) (ts : List S45) (gs : List S27) (hl : ts.length ≤ 9223372036854775807) (hg : gs.length ≤ 9223372036854775807) (h : ∀ t, t ∈ ts → OkT t) : ∃ r, Ev (fun k => mortmainref09_Great.f k v ts gs) r := by
  by_cases h1 : wrap64 ((ts.length : Int) + (gs.length : Int)) > 200
  · exact ⟨true, 0, fun k _ => by simp only [mortmainref09_Great.f]; rw [if_pos h1]⟩
  · obtain ⟨r, hr⟩ := great_l0 v ts gs ts hl hg h ts.length 0 (wrap64 ((ts.length : Int) + (gs.length : Int))) (by omega)
    exact ⟨r, Ev.congr (fun k => by simp only [mortmainref09_Great.f]; rw [if_neg h1]; rfl) hr⟩
end Go.Proofs.YtefdfgmlmjnmlaaDoor.My
end

section
set_option linter.unusedSimpArgs false
/- The law GrantMay: it answers true, of every schema. -/
namespace Go.Proofs.YtefdfgmlmjnmlaaDoor.My
open Go.RowKit Go.Proofs.YtefdfgmlmjnmlaaDoorW.PrintWords Go.Proofs.YtefdfgmlmjnmlaaDoor.Rf
open Go.Proofs.YtefdfgmlmjnmlaaDoorW.PrintLast Go.Proofs.YtefdfgmlmjnmlaaDoorW.PrintMore

set_option maxHeartbeats 4000000 in
set_option maxRecDepth 100000 in
theorem may_law (v : Int) (l : List S45) (A : Option Addr) (c : Nat) (gs : List S27) (A' : Option Addr) (c' : Nat) (role : Int) (nm : ByteArray) (bits : Int) (g : S27) (w : World) (hr : Kd.C k45 w A l.length l) (hc : l.length ≤ c) (hg : Kd.C k27 w A' gs.length gs) (hc' : gs.length ≤ c') (hT : Tabs w) (hs : okS gs) (hgs : g.f1.size ≤ 9223372036854775807) (ht : ∀ t, t ∈ l → OkT t) :
    Calls Tryd.prog 3 #[.agg #[.int .i64 v, .slice A l.length c, .slice A' gs.length c'], .int .i64 role, .string nm, .int .i64 bits, .agg #[.int .i64 g.f0, .string g.f1, .int .i64 g.f2]] w (BoolPost true w) := by
  have hnl : l.length ≤ 9223372036854775807 := hr.2.1
  have hng : gs.length ≤ 9223372036854775807 := hg.2.1
  obtain ⟨rG, kG, hG⟩ := great_ev v l gs hnl hng ht
  obtain ⟨kS, hS⟩ := sorted_ev gs hs hng
  obtain ⟨kO, hO⟩ := good_ev g hgs
  obtain ⟨kW, hW⟩ := owns_ev v l gs role nm hnl
  obtain ⟨kM, hM⟩ := may_ev v l gs role nm bits hnl hng
  have hS := Aside0.mk (hS kS (Nat.le_refl _))
  have hG := Aside0.mk (hG kG (Nat.le_refl _))
  have hO := Aside0.mk (hO kO (Nat.le_refl _))
  have hW := Aside0.mk (hW kW (Nat.le_refl _))
  have hM := Aside0.mk (hM kM (Nat.le_refl _))
  have HC := Aside0.mk hc
  have HC' := Aside0.mk hc'
  have HT := Aside0.mk (hT.below (below2 w (.cells #[.int .i64 v, .slice A l.length c, .slice A' gs.length c'] 25) (.cells #[.int .i64 g.f0, .string g.f1, .int .i64 g.f2] 27)))
  have HR := Aside0.mk (Kd.C_below hr (below2 w (.cells #[.int .i64 v, .slice A l.length c, .slice A' gs.length c'] 25) (.cells #[.int .i64 g.f0, .string g.f1, .int .i64 g.f2] 27)))
  have HG := Aside0.mk (Kd.C_below hg (below2 w (.cells #[.int .i64 v, .slice A l.length c, .slice A' gs.length c'] 25) (.cells #[.int .i64 g.f0, .string g.f1, .int .i64 g.f2] 27)))
  have HB := Aside0.mk (below2 w (.cells #[.int .i64 v, .slice A l.length c, .slice A' gs.length c'] 25) (.cells #[.int .i64 g.f0, .string g.f1, .int .i64 g.f2] 27))
  have HK := Aside0.mk (blk_alloc (blk_new w (.cells #[.int .i64 v, .slice A l.length c, .slice A' gs.length c'] 25)) (.cells #[.int .i64 g.f0, .string g.f1, .int .i64 g.f2] 27))
  have HL := Aside0.mk (blk_new1 w (.cells #[.int .i64 v, .slice A l.length c, .slice A' gs.length c'] 25) (.cells #[.int .i64 g.f0, .string g.f1, .int .i64 g.f2] 27))
  have HSAME := Aside0.mk (sorted_same gs)
  have HMAY := Aside0.mk (may_same l gs role nm bits)
  clear hr hc hg hc' hT ht hnl hng
  cases rG with
  | true =>
    go_enter Tryd.func3, Tryd.ntmps3
    go_wp2_with (first
      | (go_at_call 12; refine (alive_calls _).mono ?_; rintro e w2 ⟨rfl, hb2⟩; have HK2 := Aside0.mk (blk_below HK.out hb2); have HL2 := Aside0.mk (blk_below HL.out hb2); have a0 := blk_cell HK2.out 0; have a1 := blk_cell HK2.out 1; have a2 := blk_cell HK2.out 2)
      | (go_at_call 13; refine (mortmainref09_Great.calls kG v A c l A' c' gs true _ (Kd.C_below HR.out hb2) HC.out (Kd.C_below HG.out hb2) HC'.out hG.out).mono ?_; rintro e w3 ⟨rfl, hb3⟩; have HL3 := Aside0.mk (blk_below HL2.out hb3); have HK3 := Aside0.mk (blk_below HK2.out hb3); have d1 := blk_cell HL3.out 1; have e2 := blk_cell HK3.out 2))
    go_ret
    exact ⟨rfl, below_step (below_step HB.out hb2) hb3⟩
  | false =>
    by_cases hlen : wrap64 ((nm.size : Int) + (g.f1.size : Int)) > 300
    · go_enter Tryd.func3, Tryd.ntmps3
      go_wp2_with (first
        | (go_at_call 12; refine (alive_calls _).mono ?_; rintro e w2 ⟨rfl, hb2⟩; have HK2 := Aside0.mk (blk_below HK.out hb2); have HL2 := Aside0.mk (blk_below HL.out hb2); have a0 := blk_cell HK2.out 0; have a1 := blk_cell HK2.out 1; have a2 := blk_cell HK2.out 2)
        | (go_at_call 13; refine (mortmainref09_Great.calls kG v A c l A' c' gs false _ (Kd.C_below HR.out hb2) HC.out (Kd.C_below HG.out hb2) HC'.out hG.out).mono ?_; rintro e w3 ⟨rfl, hb3⟩; have HL3 := Aside0.mk (blk_below HL2.out hb3); have HK3 := Aside0.mk (blk_below HK2.out hb3); have d1 := blk_cell HL3.out 1; have e2 := blk_cell HK3.out 2))
      go_ret
      exact ⟨rfl, below_step (below_step HB.out hb2) hb3⟩
    · by_cases h0 : 0 ≤ role
      · have hrl : roleB role = decide (role ≤ 7) := by unfold roleB; rw [decide_eq_true h0, Bool.true_and]; exact decide_eq_decide.2 (by omega)
        go_enter Tryd.func3, Tryd.ntmps3
        go_wp2_with (first
          | (go_at_call 12; refine (alive_calls _).mono ?_; rintro e w2 ⟨rfl, hb2⟩; have HK2 := Aside0.mk (blk_below HK.out hb2); have HL2 := Aside0.mk (blk_below HL.out hb2); have a0 := blk_cell HK2.out 0; have a1 := blk_cell HK2.out 1; have a2 := blk_cell HK2.out 2)
          | (go_at_call 13; refine (mortmainref09_Great.calls kG v A c l A' c' gs false _ (Kd.C_below HR.out hb2) HC.out (Kd.C_below HG.out hb2) HC'.out hG.out).mono ?_; rintro e w3 ⟨rfl, hb3⟩; have HL3 := Aside0.mk (blk_below HL2.out hb3); have HK3 := Aside0.mk (blk_below HK2.out hb3); have d1 := blk_cell HL3.out 1; have e2 := blk_cell HK3.out 2)
          | (go_at_call 14; refine (mortmainref10_Sorted.calls kS A' c' gs _ _ (Kd.C_below (Kd.C_below HG.out hb2) hb3) HC'.out hS.out).mono ?_; rintro e w4 ⟨rfl, hb4⟩; have HK4 := Aside0.mk (blk_below HK3.out hb4); have HL4 := Aside0.mk (blk_below HL3.out hb4); have HR4 := Aside0.mk (Kd.C_below (Kd.C_below (Kd.C_below HR.out hb2) hb3) hb4); have HG4 := Aside0.mk (Kd.C_below (Kd.C_below (Kd.C_below HG.out hb2) hb3) hb4); have HT4 := Aside0.mk (((HT.out.below hb2).below hb3).below hb4); have HB4 := Aside0.mk (below_step (below_step (below_step HB.out hb2) hb3) hb4)))
        refine start_ (n := 34) (S := (fun w' => w'.cell? ⟨w.heap.size, 0, none⟩ = some (.int .i64 v) ∧ w'.cell? ⟨w.heap.size, 1, none⟩ = some (.slice A l.length c) ∧ w'.cell? ⟨w.heap.size, 2, none⟩ = some (.slice A' gs.length c') ∧ w'.cell? ⟨w.heap.size + 1, 0, none⟩ = some (.int .i64 g.f0) ∧ w'.cell? ⟨w.heap.size + 1, 1, none⟩ = some (.string g.f1) ∧ w'.cell? ⟨w.heap.size + 1, 2, none⟩ = some (.int .i64 g.f2))) (ds := []) #[false, false, false, false, false, false, false, false, false, false, false, false, false, false, false, false, false, false, false, false, false, false, false, false, false, false, false, false, false, false, false, false, false, false] (by kernel_rfl) rfl rfl ⟨blk_cell HK4.out 0, blk_cell HK4.out 1, blk_cell HK4.out 2, blk_cell HL4.out 0, blk_cell HL4.out 1, blk_cell HL4.out 2⟩ (fun hHeld => ?_)
        refine pure_ (i := 0) (N := some 29) (v := ?_) (a' := ?_) #[true, false, false, false, false, false, false, false, false, false, false, false, false, false, false, false, false, false, false, false, false, false, false, false, false, false, false, false, false, false, false, false, false, false] rfl rfl (by kernel_rfl) (fun _ _ _ h => h) (Or.inl ⟨by rfl, ?_⟩) ?_ ?_
        rotate_left
        · intro w'
          go_simp
          with_reducible rfl
        rotate_left
        · simp only [Act.put, List.setIfInBounds_toArray, List.set_cons_zero, List.set_cons_succ, i64_w, i32_w]
          rfl
        refine pure_ (i := 3) (N := some 32) (v := ?_) (a' := ?_) #[true, false, false, true, false, false, false, false, false, false, false, false, false, false, false, false, false, false, false, false, false, false, false, false, false, false, false, false, false, false, false, false, false, false] rfl rfl (by kernel_rfl) (fun _ _ _ h => h) (Or.inl ⟨by rfl, ?_⟩) ?_ ?_
        rotate_left
        · intro w'
          go_simp
          with_reducible rfl
        rotate_left
        · simp only [Act.put, List.setIfInBounds_toArray, List.set_cons_zero, List.set_cons_succ, i64_w, i32_w]
          rfl
        refine take_ (i := 1) (N := some 30) (v := ?_) (a' := ?_) #[true, true, false, true, false, false, false, false, false, false, false, false, false, false, false, false, false, false, false, false, false, false, false, false, false, false, false, false, false, false, false, false, false, false] rfl rfl (by kernel_rfl) (fun _ _ _ h => h) (Or.inl ⟨by rfl, ?_⟩) hHeld ?_ ?_
        rotate_left
        · rintro w' ⟨s0, s1, s2, s3, s4, s5⟩
          go_simp
          with_reducible rfl
        rotate_left
        · simp only [Act.put, List.setIfInBounds_toArray, List.set_cons_zero, List.set_cons_succ, i64_w, i32_w]
          rfl
        refine one_ (i := 2) (N := some 31) #[true, true, true, true, false, false, false, false, false, false, false, false, false, false, false, false, false, false, false, false, false, false, false, false, false, false, false, false, false, false, false, false, false, false] rfl rfl (by kernel_rfl) (by decide) (fun K hK => ?_)
        refine goes_ Tryd.func15 (by kernel_rfl) rfl #[.slice A' gs.length c'] (by rfl) rfl rfl (by first | rfl | (simp only [List.map_toArray, List.map_cons, List.map_nil]; rfl)) ?_
        refine (sorted_calls gs A' c' _ (Kd.C_drew HG4.out) hs HT4.out.drew).mono ?_
        rintro e w5 ⟨rfl, hb5⟩
        rw [HSAME.out]
        have hb5 := undrew hb5
        have HK5 := Aside0.mk (blk_below HK4.out hb5)
        have HL5 := Aside0.mk (blk_below HL4.out hb5)
        have HR5 := Aside0.mk (Kd.C_below HR4.out hb5)
        have HG5 := Aside0.mk (Kd.C_below HG4.out hb5)
        have HT5 := Aside0.mk (HT4.out.below hb5)
        have HB5 := Aside0.mk (below_step HB4.out hb5)
        refine ⟨_, rfl, ?_⟩
        refine hK.out _ _ ⟨blk_cell HK5.out 0, blk_cell HK5.out 1, blk_cell HK5.out 2, blk_cell HL5.out 0, blk_cell HL5.out 1, blk_cell HL5.out 2⟩ (fun hHeld => ?_)
        clear hK K
        refine norm_ (a' := ?_) ?_ ?_
        rotate_left
        · show Act.put _ (some 31) _ = _
          simp only [Act.put, List.setIfInBounds_toArray, List.set_cons_zero, List.set_cons_succ, i64_w, i32_w]
          rfl
        refine pure_ (i := 4) (N := some 33) (v := ?_) (a' := ?_) #[true, true, true, true, true, false, false, false, false, false, false, false, false, false, false, false, false, false, false, false, false, false, false, false, false, false, false, false, false, false, false, false, false, false] rfl rfl (by kernel_rfl) (fun _ _ _ h => h) (Or.inl ⟨by rfl, ?_⟩) ?_ ?_
        rotate_left
        · intro w'
          go_simp
          with_reducible rfl
        rotate_left
        · simp only [Act.put, List.setIfInBounds_toArray, List.set_cons_zero, List.set_cons_succ, i64_w, i32_w]
          rfl
        refine pure_ (i := 5) (N := some 34) (v := ?_) (a' := ?_) #[true, true, true, true, true, true, false, false, false, false, false, false, false, false, false, false, false, false, false, false, false, false, false, false, false, false, false, false, false, false, false, false, false, false] rfl rfl (by kernel_rfl) (fun _ _ _ h => h) (Or.inl ⟨by rfl, ?_⟩) ?_ ?_
        rotate_left
        · intro w'
          go_simp
          with_reducible rfl
        rotate_left
        · simp only [Act.put, List.setIfInBounds_toArray, List.set_cons_zero, List.set_cons_succ, i64_w, i32_w]
          rfl
        refine take_ (i := 6) (N := some 35) (v := ?_) (a' := ?_) #[true, true, true, true, true, true, true, false, false, false, false, false, false, false, false, false, false, false, false, false, false, false, false, false, false, false, false, false, false, false, false, false, false, false] rfl rfl (by kernel_rfl) (fun _ _ _ h => h) (Or.inl ⟨by rfl, ?_⟩) hHeld ?_ ?_
        rotate_left
        · rintro w' ⟨s0, s1, s2, s3, s4, s5⟩
          go_simp
          with_reducible rfl
        rotate_left
        · simp only [Act.put, List.setIfInBounds_toArray, List.set_cons_zero, List.set_cons_succ, i64_w, i32_w]
          rfl
        refine take_ (i := 8) (N := some 37) (v := ?_) (a' := ?_) #[true, true, true, true, true, true, true, false, true, false, false, false, false, false, false, false, false, false, false, false, false, false, false, false, false, false, false, false, false, false, false, false, false, false] rfl rfl (by kernel_rfl) (fun _ _ _ h => h) (Or.inl ⟨by rfl, ?_⟩) hHeld ?_ ?_
        rotate_left
        · rintro w' ⟨s0, s1, s2, s3, s4, s5⟩
          go_simp
          with_reducible rfl
        rotate_left
        · simp only [Act.put, List.setIfInBounds_toArray, List.set_cons_zero, List.set_cons_succ, i64_w, i32_w]
          rfl
        refine one_ (i := 7) (N := some 36) #[true, true, true, true, true, true, true, true, true, false, false, false, false, false, false, false, false, false, false, false, false, false, false, false, false, false, false, false, false, false, false, false, false, false] rfl rfl (by kernel_rfl) (by decide) (fun K hK => ?_)
        refine goes_ Tryd.func16 (by kernel_rfl) rfl #[.agg #[.int .i64 g.f0, .string g.f1, .int .i64 g.f2]] (by rfl) rfl rfl (by first | rfl | (simp only [List.map_toArray, List.map_cons, List.map_nil]; rfl)) ?_
        refine (good_calls g _ hgs HT5.out).mono ?_
        rintro e w6 ⟨rfl, hb6⟩
        have HK6 := Aside0.mk (blk_below HK5.out hb6)
        have HL6 := Aside0.mk (blk_below HL5.out hb6)
        have HR6 := Aside0.mk (Kd.C_below HR5.out hb6)
        have HG6 := Aside0.mk (Kd.C_below HG5.out hb6)
        have HT6 := Aside0.mk (HT5.out.below hb6)
        have HB6 := Aside0.mk (below_step HB5.out hb6)
        refine ⟨_, rfl, ?_⟩
        refine hK.out _ _ ⟨blk_cell HK6.out 0, blk_cell HK6.out 1, blk_cell HK6.out 2, blk_cell HL6.out 0, blk_cell HL6.out 1, blk_cell HL6.out 2⟩ (fun hHeld => ?_)
        clear hK K
        refine norm_ (a' := ?_) ?_ ?_
        rotate_left
        · show Act.put _ (some 36) _ = _
          simp only [Act.put, List.setIfInBounds_toArray, List.set_cons_zero, List.set_cons_succ, i64_w, i32_w]
          rfl
        refine one_ (i := 9) (N := some 38) #[true, true, true, true, true, true, true, true, true, true, false, false, false, false, false, false, false, false, false, false, false, false, false, false, false, false, false, false, false, false, false, false, false, false] rfl rfl (by kernel_rfl) (by decide) (fun K hK => ?_)
        refine goes_ Tryd.func17 (by kernel_rfl) rfl #[.agg #[.int .i64 g.f0, .string g.f1, .int .i64 g.f2]] (by rfl) rfl rfl (by first | rfl | (simp only [List.map_toArray, List.map_cons, List.map_nil]; rfl)) ?_
        refine (mortmainref10_Good.calls kO g.f0 g.f1 g.f2 (goodG g) _ hO.out).mono ?_
        rintro e w7 ⟨rfl, hb7⟩
        have HK7 := Aside0.mk (blk_below HK6.out hb7)
        have HL7 := Aside0.mk (blk_below HL6.out hb7)
        have HR7 := Aside0.mk (Kd.C_below HR6.out hb7)
        have HG7 := Aside0.mk (Kd.C_below HG6.out hb7)
        have HT7 := Aside0.mk (HT6.out.below hb7)
        have HB7 := Aside0.mk (below_step HB6.out hb7)
        refine ⟨_, rfl, ?_⟩
        refine hK.out _ _ ⟨blk_cell HK7.out 0, blk_cell HK7.out 1, blk_cell HK7.out 2, blk_cell HL7.out 0, blk_cell HL7.out 1, blk_cell HL7.out 2⟩ (fun hHeld => ?_)
        clear hK K
        refine norm_ (a' := ?_) ?_ ?_
        rotate_left
        · show Act.put _ (some 38) _ = _
          simp only [Act.put, List.setIfInBounds_toArray, List.set_cons_zero, List.set_cons_succ, i64_w, i32_w]
          rfl
        refine pure_ (i := 10) (N := some 39) (v := ?_) (a' := ?_) #[true, true, true, true, true, true, true, true, true, true, true, false, false, false, false, false, false, false, false, false, false, false, false, false, false, false, false, false, false, false, false, false, false, false] rfl rfl (by kernel_rfl) (fun _ _ _ h => h) (Or.inl ⟨by rfl, ?_⟩) ?_ ?_
        rotate_left
        · intro w'
          go_simp
          with_reducible rfl
        rotate_left
        · simp only [Act.put, List.setIfInBounds_toArray, List.set_cons_zero, List.set_cons_succ, i64_w, i32_w]
          rfl
        refine pure_ (i := 11) (N := some 40) (v := ?_) (a' := ?_) #[true, true, true, true, true, true, true, true, true, true, true, true, false, false, false, false, false, false, false, false, false, false, false, false, false, false, false, false, false, false, false, false, false, false] rfl rfl (by kernel_rfl) (fun _ _ _ h => h) (Or.inl ⟨by rfl, ?_⟩) ?_ ?_
        rotate_left
        · intro w'
          go_simp
          with_reducible rfl
        rotate_left
        · simp only [Act.put, List.setIfInBounds_toArray, List.set_cons_zero, List.set_cons_succ, i64_w, i32_w]
          rfl
        refine pure_ (i := 12) (N := some 41) (v := ?_) (a' := ?_) #[true, true, true, true, true, true, true, true, true, true, true, true, true, false, false, false, false, false, false, false, false, false, false, false, false, false, false, false, false, false, false, false, false, false] rfl rfl (by kernel_rfl) (fun _ _ _ h => h) (Or.inl ⟨by rfl, ?_⟩) ?_ ?_
        rotate_left
        · intro w'
          go_simp
          with_reducible rfl
        rotate_left
        · simp only [Act.put, List.setIfInBounds_toArray, List.set_cons_zero, List.set_cons_succ, i64_w, i32_w]
          rfl
        refine pure_ (i := 13) (N := some 42) (v := ?_) (a' := ?_) #[true, true, true, true, true, true, true, true, true, true, true, true, true, true, false, false, false, false, false, false, false, false, false, false, false, false, false, false, false, false, false, false, false, false] rfl rfl (by kernel_rfl) (fun _ _ _ h => h) (Or.inl ⟨by rfl, ?_⟩) ?_ ?_
        rotate_left
        · intro w'
          go_simp
          with_reducible rfl
        rotate_left
        · simp only [Act.put, List.setIfInBounds_toArray, List.set_cons_zero, List.set_cons_succ, i64_w, i32_w]
          rfl
        refine pure_ (i := 15) (N := some 44) (v := ?_) (a' := ?_) #[true, true, true, true, true, true, true, true, true, true, true, true, true, true, false, true, false, false, false, false, false, false, false, false, false, false, false, false, false, false, false, false, false, false] rfl rfl (by kernel_rfl) (fun _ _ _ h => h) (Or.inl ⟨by rfl, ?_⟩) ?_ ?_
        rotate_left
        · intro w'
          go_simp
          with_reducible rfl
        rotate_left
        · simp only [Act.put, List.setIfInBounds_toArray, List.set_cons_zero, List.set_cons_succ, i64_w, i32_w]
          rfl
        refine pure_ (i := 16) (N := some 45) (v := ?_) (a' := ?_) #[true, true, true, true, true, true, true, true, true, true, true, true, true, true, false, true, true, false, false, false, false, false, false, false, false, false, false, false, false, false, false, false, false, false] rfl rfl (by kernel_rfl) (fun _ _ _ h => h) (Or.inl ⟨by rfl, ?_⟩) ?_ ?_
        rotate_left
        · intro w'
          go_simp
          with_reducible rfl
        rotate_left
        · simp only [Act.put, List.setIfInBounds_toArray, List.set_cons_zero, List.set_cons_succ, i64_w, i32_w]
          rfl
        refine one_ (i := 14) (N := some 43) #[true, true, true, true, true, true, true, true, true, true, true, true, true, true, true, true, true, false, false, false, false, false, false, false, false, false, false, false, false, false, false, false, false, false] rfl rfl (by kernel_rfl) (by decide) (fun K hK => ?_)
        refine goes_ Tryd.func18 (by kernel_rfl) rfl #[.int .i64 role] (by rfl) rfl rfl (by first | rfl | (simp only [List.map_toArray, List.map_cons, List.map_nil]; rfl)) ?_
        refine (role_calls role _).mono ?_
        rintro e w8 ⟨rfl, rfl⟩
        rw [hrl]
        refine ⟨_, rfl, ?_⟩
        refine hK.out _ _ ⟨blk_cell HK7.out 0, blk_cell HK7.out 1, blk_cell HK7.out 2, blk_cell HL7.out 0, blk_cell HL7.out 1, blk_cell HL7.out 2⟩ (fun hHeld => ?_)
        clear hK K
        refine norm_ (a' := ?_) ?_ ?_
        rotate_left
        · show Act.put _ (some 43) _ = _
          simp only [Act.put, List.setIfInBounds_toArray, List.set_cons_zero, List.set_cons_succ, i64_w, i32_w]
          rfl
        refine pure_ (i := 17) (N := some 46) (v := ?_) (a' := ?_) #[true, true, true, true, true, true, true, true, true, true, true, true, true, true, true, true, true, true, false, false, false, false, false, false, false, false, false, false, false, false, false, false, false, false] rfl rfl (by kernel_rfl) (fun _ _ _ h => h) (Or.inl ⟨by rfl, ?_⟩) ?_ ?_
        rotate_left
        · intro w'
          go_simp
          with_reducible rfl
        rotate_left
        · simp only [Act.put, List.setIfInBounds_toArray, List.set_cons_zero, List.set_cons_succ, i64_w, i32_w]
          rfl
        refine pure_ (i := 18) (N := some 47) (v := ?_) (a' := ?_) #[true, true, true, true, true, true, true, true, true, true, true, true, true, true, true, true, true, true, true, false, false, false, false, false, false, false, false, false, false, false, false, false, false, false] rfl rfl (by kernel_rfl) (fun _ _ _ h => h) (Or.inl ⟨by rfl, ?_⟩) ?_ ?_
        rotate_left
        · intro w'
          go_simp
          with_reducible rfl
        rotate_left
        · simp only [Act.put, List.setIfInBounds_toArray, List.set_cons_zero, List.set_cons_succ, i64_w, i32_w]
          rfl
        refine pure_ (i := 19) (N := some 48) (v := ?_) (a' := ?_) #[true, true, true, true, true, true, true, true, true, true, true, true, true, true, true, true, true, true, true, true, false, false, false, false, false, false, false, false, false, false, false, false, false, false] rfl rfl (by kernel_rfl) (fun _ _ _ h => h) (Or.inl ⟨by rfl, ?_⟩) ?_ ?_
        rotate_left
        · intro w'
          go_simp
          with_reducible rfl
        rotate_left
        · simp only [Act.put, List.setIfInBounds_toArray, List.set_cons_zero, List.set_cons_succ, i64_w, i32_w]
          rfl
        refine pure_ (i := 20) (N := some 49) (v := ?_) (a' := ?_) #[true, true, true, true, true, true, true, true, true, true, true, true, true, true, true, true, true, true, true, true, true, false, false, false, false, false, false, false, false, false, false, false, false, false] rfl rfl (by kernel_rfl) (fun _ _ _ h => h) (Or.inl ⟨by rfl, ?_⟩) ?_ ?_
        rotate_left
        · intro w'
          go_simp
          with_reducible rfl
        rotate_left
        · simp only [Act.put, List.setIfInBounds_toArray, List.set_cons_zero, List.set_cons_succ, i64_w, i32_w]
          rfl
        refine pure_ (i := 21) (N := some 50) (v := ?_) (a' := ?_) #[true, true, true, true, true, true, true, true, true, true, true, true, true, true, true, true, true, true, true, true, true, true, false, false, false, false, false, false, false, false, false, false, false, false] rfl rfl (by kernel_rfl) (fun _ _ _ h => h) (Or.inl ⟨by rfl, ?_⟩) ?_ ?_
        rotate_left
        · intro w'
          go_simp
          with_reducible rfl
        rotate_left
        · simp only [Act.put, List.setIfInBounds_toArray, List.set_cons_zero, List.set_cons_succ, i64_w, i32_w]
          rfl
        refine pure_ (i := 22) (N := some 51) (v := ?_) (a' := ?_) #[true, true, true, true, true, true, true, true, true, true, true, true, true, true, true, true, true, true, true, true, true, true, true, false, false, false, false, false, false, false, false, false, false, false] rfl rfl (by kernel_rfl) (fun _ _ _ h => h) (Or.inl ⟨by rfl, ?_⟩) ?_ ?_
        rotate_left
        · intro w'
          go_simp
          with_reducible rfl
        rotate_left
        · simp only [Act.put, List.setIfInBounds_toArray, List.set_cons_zero, List.set_cons_succ, i64_w, i32_w]
          rfl
        refine pure_ (i := 23) (N := some 52) (v := ?_) (a' := ?_) #[true, true, true, true, true, true, true, true, true, true, true, true, true, true, true, true, true, true, true, true, true, true, true, true, false, false, false, false, false, false, false, false, false, false] rfl rfl (by kernel_rfl) (fun _ _ _ h => h) (Or.inl ⟨by rfl, ?_⟩) ?_ ?_
        rotate_left
        · intro w'
          go_simp
          with_reducible rfl
        rotate_left
        · simp only [Act.put, List.setIfInBounds_toArray, List.set_cons_zero, List.set_cons_succ, i64_w, i32_w]
          rfl
        refine pure_ (i := 25) (N := some 54) (v := ?_) (a' := ?_) #[true, true, true, true, true, true, true, true, true, true, true, true, true, true, true, true, true, true, true, true, true, true, true, true, false, true, false, false, false, false, false, false, false, false] rfl rfl (by kernel_rfl) (fun _ _ _ h => h) (Or.inl ⟨by rfl, ?_⟩) ?_ ?_
        rotate_left
        · intro w'
          go_simp
          with_reducible rfl
        rotate_left
        · simp only [Act.put, List.setIfInBounds_toArray, List.set_cons_zero, List.set_cons_succ, i64_w, i32_w]
          rfl
        refine pure_ (i := 26) (N := some 55) (v := ?_) (a' := ?_) #[true, true, true, true, true, true, true, true, true, true, true, true, true, true, true, true, true, true, true, true, true, true, true, true, false, true, true, false, false, false, false, false, false, false] rfl rfl (by kernel_rfl) (fun _ _ _ h => h) (Or.inl ⟨by rfl, ?_⟩) ?_ ?_
        rotate_left
        · intro w'
          go_simp
          with_reducible rfl
        rotate_left
        · simp only [Act.put, List.setIfInBounds_toArray, List.set_cons_zero, List.set_cons_succ, i64_w, i32_w]
          rfl
        refine pure_ (i := 29) (N := some 58) (v := ?_) (a' := ?_) #[true, true, true, true, true, true, true, true, true, true, true, true, true, true, true, true, true, true, true, true, true, true, true, true, false, true, true, false, false, true, false, false, false, false] rfl rfl (by kernel_rfl) (fun _ _ _ h => h) (Or.inl ⟨by rfl, ?_⟩) ?_ ?_
        rotate_left
        · intro w'
          go_simp
          with_reducible rfl
        rotate_left
        · simp only [Act.put, List.setIfInBounds_toArray, List.set_cons_zero, List.set_cons_succ, i64_w, i32_w]
          rfl
        refine pure_ (i := 30) (N := some 59) (v := ?_) (a' := ?_) #[true, true, true, true, true, true, true, true, true, true, true, true, true, true, true, true, true, true, true, true, true, true, true, true, false, true, true, false, false, true, true, false, false, false] rfl rfl (by kernel_rfl) (fun _ _ _ h => h) (Or.inl ⟨by rfl, ?_⟩) ?_ ?_
        rotate_left
        · intro w'
          go_simp
          with_reducible rfl
        rotate_left
        · simp only [Act.put, List.setIfInBounds_toArray, List.set_cons_zero, List.set_cons_succ, i64_w, i32_w]
          rfl
        refine take_ (i := 24) (N := some 53) (v := ?_) (a' := ?_) #[true, true, true, true, true, true, true, true, true, true, true, true, true, true, true, true, true, true, true, true, true, true, true, true, true, true, true, false, false, true, true, false, false, false] rfl rfl (by kernel_rfl) (fun _ _ _ h => h) (Or.inl ⟨by rfl, ?_⟩) hHeld ?_ ?_
        rotate_left
        · rintro w' ⟨s0, s1, s2, s3, s4, s5⟩
          go_simp
          with_reducible rfl
        rotate_left
        · simp only [Act.put, List.setIfInBounds_toArray, List.set_cons_zero, List.set_cons_succ, i64_w, i32_w]
          rfl
        refine take_ (i := 28) (N := some 57) (v := ?_) (a' := ?_) #[true, true, true, true, true, true, true, true, true, true, true, true, true, true, true, true, true, true, true, true, true, true, true, true, true, true, true, false, true, true, true, false, false, false] rfl rfl (by kernel_rfl) (fun _ _ _ h => h) (Or.inl ⟨by rfl, ?_⟩) hHeld ?_ ?_
        rotate_left
        · rintro w' ⟨s0, s1, s2, s3, s4, s5⟩
          go_simp
          with_reducible rfl
        rotate_left
        · simp only [Act.put, List.setIfInBounds_toArray, List.set_cons_zero, List.set_cons_succ, i64_w, i32_w]
          rfl
        refine one_ (i := 27) (N := some 56) #[true, true, true, true, true, true, true, true, true, true, true, true, true, true, true, true, true, true, true, true, true, true, true, true, true, true, true, true, true, true, true, false, false, false] rfl rfl (by kernel_rfl) (by decide) (fun K hK => ?_)
        refine goes_ Tryd.func19 (by kernel_rfl) rfl #[.agg #[.int .i64 v, .slice A l.length c, .slice A' gs.length c'], .int .i64 role, .string nm] (by rfl) rfl rfl (by first | rfl | (simp only [List.map_toArray, List.map_cons, List.map_nil]; rfl)) ?_
        refine (owns_calls v l A c A' gs.length c' role nm _ HR7.out).mono ?_
        rintro e w8 ⟨rfl, hb8⟩
        have HK8 := Aside0.mk (blk_below HK7.out hb8)
        have HL8 := Aside0.mk (blk_below HL7.out hb8)
        have HR8 := Aside0.mk (Kd.C_below HR7.out hb8)
        have HG8 := Aside0.mk (Kd.C_below HG7.out hb8)
        have HT8 := Aside0.mk (HT7.out.below hb8)
        have HB8 := Aside0.mk (below_step HB7.out hb8)
        refine ⟨_, rfl, ?_⟩
        refine hK.out _ _ ⟨blk_cell HK8.out 0, blk_cell HK8.out 1, blk_cell HK8.out 2, blk_cell HL8.out 0, blk_cell HL8.out 1, blk_cell HL8.out 2⟩ (fun hHeld => ?_)
        clear hK K
        refine norm_ (a' := ?_) ?_ ?_
        rotate_left
        · show Act.put _ (some 56) _ = _
          simp only [Act.put, List.setIfInBounds_toArray, List.set_cons_zero, List.set_cons_succ, i64_w, i32_w]
          rfl
        refine one_ (i := 31) (N := some 60) #[true, true, true, true, true, true, true, true, true, true, true, true, true, true, true, true, true, true, true, true, true, true, true, true, true, true, true, true, true, true, true, true, false, false] rfl rfl (by kernel_rfl) (by decide) (fun K hK => ?_)
        refine goes_ Tryd.func20 (by kernel_rfl) rfl #[.agg #[.int .i64 v, .slice A l.length c, .slice A' gs.length c'], .int .i64 role, .string nm] (by rfl) rfl rfl (by first | rfl | (simp only [List.map_toArray, List.map_cons, List.map_nil]; rfl)) ?_
        refine (mortmainref10_Owns.calls kW v A c l A' c' gs role nm _ _ HR8.out HC.out HG8.out HC'.out hW.out).mono ?_
        rintro e w9 ⟨rfl, hb9⟩
        have HK9 := Aside0.mk (blk_below HK8.out hb9)
        have HL9 := Aside0.mk (blk_below HL8.out hb9)
        have HR9 := Aside0.mk (Kd.C_below HR8.out hb9)
        have HG9 := Aside0.mk (Kd.C_below HG8.out hb9)
        have HT9 := Aside0.mk (HT8.out.below hb9)
        have HB9 := Aside0.mk (below_step HB8.out hb9)
        refine ⟨_, rfl, ?_⟩
        refine hK.out _ _ ⟨blk_cell HK9.out 0, blk_cell HK9.out 1, blk_cell HK9.out 2, blk_cell HL9.out 0, blk_cell HL9.out 1, blk_cell HL9.out 2⟩ (fun hHeld => ?_)
        clear hK K
        refine norm_ (a' := ?_) ?_ ?_
        rotate_left
        · show Act.put _ (some 60) _ = _
          simp only [Act.put, List.setIfInBounds_toArray, List.set_cons_zero, List.set_cons_succ, i64_w, i32_w]
          rfl
        refine pure_ (i := 32) (N := some 61) (v := ?_) (a' := ?_) #[true, true, true, true, true, true, true, true, true, true, true, true, true, true, true, true, true, true, true, true, true, true, true, true, true, true, true, true, true, true, true, true, true, false] rfl rfl (by kernel_rfl) (fun _ _ _ h => h) (Or.inl ⟨by rfl, ?_⟩) ?_ ?_
        rotate_left
        · intro w'
          go_simp
          with_reducible rfl
        rotate_left
        · simp only [Act.put, List.setIfInBounds_toArray, List.set_cons_zero, List.set_cons_succ, i64_w, i32_w]
          rfl
        refine pure_ (i := 33) (N := some 62) (v := ?_) (a' := ?_) #[true, true, true, true, true, true, true, true, true, true, true, true, true, true, true, true, true, true, true, true, true, true, true, true, true, true, true, true, true, true, true, true, true, true] rfl rfl (by kernel_rfl) (fun _ _ _ h => h) (Or.inl ⟨by rfl, ?_⟩) ?_ ?_
        rotate_left
        · intro w'
          go_simp
          with_reducible rfl
        rotate_left
        · simp only [Act.put, List.setIfInBounds_toArray, List.set_cons_zero, List.set_cons_succ, i64_w, i32_w]
          rfl
        refine done_ (by kernel_rfl) ?_
        go_wp2_with (first
          | (go_at_call 21; refine (may_calls v l A c gs A' c' role nm bits _ HR9.out HG9.out).mono ?_; rintro e w10 ⟨rfl, hb10⟩; have HK10 := Aside0.mk (blk_below HK9.out hb10); have HL10 := Aside0.mk (blk_below HL9.out hb10); have HR10 := Aside0.mk (Kd.C_below HR9.out hb10); have HG10 := Aside0.mk (Kd.C_below HG9.out hb10); have HT10 := Aside0.mk (HT9.out.below hb10); have HB10 := Aside0.mk (below_step HB9.out hb10); have y0 := blk_cell HK10.out 0; have y1 := blk_cell HK10.out 1; have y2 := blk_cell HK10.out 2; cases hsr : refS gs 0 gs.length)
          | (go_at_call 22; refine (mortmainref10_May.calls kM v A c l A' c' gs role nm bits _ _ HR10.out HC.out HG10.out HC'.out hM.out).mono ?_; rintro e w11 ⟨rfl, hb11⟩; rw [HMAY.out hsr]))
        · go_ret
          exact ⟨rfl, HB10.out⟩
        · go_ret
          exact ⟨by simp, below_step HB10.out hb11⟩
      · have hrl : roleB role = false := by unfold roleB; rw [decide_eq_false h0, Bool.false_and]
        have hd0 : decide (0 ≤ role) = false := decide_eq_false (by omega)
        go_enter Tryd.func3, Tryd.ntmps3
        go_wp2_with (first
          | (go_at_call 12; refine (alive_calls _).mono ?_; rintro e w2 ⟨rfl, hb2⟩; have HK2 := Aside0.mk (blk_below HK.out hb2); have HL2 := Aside0.mk (blk_below HL.out hb2); have a0 := blk_cell HK2.out 0; have a1 := blk_cell HK2.out 1; have a2 := blk_cell HK2.out 2)
          | (go_at_call 13; refine (mortmainref09_Great.calls kG v A c l A' c' gs false _ (Kd.C_below HR.out hb2) HC.out (Kd.C_below HG.out hb2) HC'.out hG.out).mono ?_; rintro e w3 ⟨rfl, hb3⟩; have HL3 := Aside0.mk (blk_below HL2.out hb3); have HK3 := Aside0.mk (blk_below HK2.out hb3); have d1 := blk_cell HL3.out 1; have e2 := blk_cell HK3.out 2)
          | (go_at_call 14; refine (mortmainref10_Sorted.calls kS A' c' gs _ _ (Kd.C_below (Kd.C_below HG.out hb2) hb3) HC'.out hS.out).mono ?_; rintro e w4 ⟨rfl, hb4⟩; have HK4 := Aside0.mk (blk_below HK3.out hb4); have HL4 := Aside0.mk (blk_below HL3.out hb4); have HR4 := Aside0.mk (Kd.C_below (Kd.C_below (Kd.C_below HR.out hb2) hb3) hb4); have HG4 := Aside0.mk (Kd.C_below (Kd.C_below (Kd.C_below HG.out hb2) hb3) hb4); have HT4 := Aside0.mk (((HT.out.below hb2).below hb3).below hb4); have HB4 := Aside0.mk (below_step (below_step (below_step HB.out hb2) hb3) hb4)))
        refine start_ (n := 34) (S := (fun w' => w'.cell? ⟨w.heap.size, 0, none⟩ = some (.int .i64 v) ∧ w'.cell? ⟨w.heap.size, 1, none⟩ = some (.slice A l.length c) ∧ w'.cell? ⟨w.heap.size, 2, none⟩ = some (.slice A' gs.length c') ∧ w'.cell? ⟨w.heap.size + 1, 0, none⟩ = some (.int .i64 g.f0) ∧ w'.cell? ⟨w.heap.size + 1, 1, none⟩ = some (.string g.f1) ∧ w'.cell? ⟨w.heap.size + 1, 2, none⟩ = some (.int .i64 g.f2))) (ds := []) #[false, false, false, false, false, false, false, false, false, false, false, false, false, false, false, false, false, false, false, false, false, false, false, false, false, false, false, false, false, false, false, false, false, false] (by kernel_rfl) rfl rfl ⟨blk_cell HK4.out 0, blk_cell HK4.out 1, blk_cell HK4.out 2, blk_cell HL4.out 0, blk_cell HL4.out 1, blk_cell HL4.out 2⟩ (fun hHeld => ?_)
        refine pure_ (i := 0) (N := some 29) (v := ?_) (a' := ?_) #[true, false, false, false, false, false, false, false, false, false, false, false, false, false, false, false, false, false, false, false, false, false, false, false, false, false, false, false, false, false, false, false, false, false] rfl rfl (by kernel_rfl) (fun _ _ _ h => h) (Or.inl ⟨by rfl, ?_⟩) ?_ ?_
        rotate_left
        · intro w'
          go_simp
          with_reducible rfl
        rotate_left
        · simp only [Act.put, List.setIfInBounds_toArray, List.set_cons_zero, List.set_cons_succ, i64_w, i32_w]
          rfl
        refine pure_ (i := 3) (N := some 32) (v := ?_) (a' := ?_) #[true, false, false, true, false, false, false, false, false, false, false, false, false, false, false, false, false, false, false, false, false, false, false, false, false, false, false, false, false, false, false, false, false, false] rfl rfl (by kernel_rfl) (fun _ _ _ h => h) (Or.inl ⟨by rfl, ?_⟩) ?_ ?_
        rotate_left
        · intro w'
          go_simp
          with_reducible rfl
        rotate_left
        · simp only [Act.put, List.setIfInBounds_toArray, List.set_cons_zero, List.set_cons_succ, i64_w, i32_w]
          rfl
        refine take_ (i := 1) (N := some 30) (v := ?_) (a' := ?_) #[true, true, false, true, false, false, false, false, false, false, false, false, false, false, false, false, false, false, false, false, false, false, false, false, false, false, false, false, false, false, false, false, false, false] rfl rfl (by kernel_rfl) (fun _ _ _ h => h) (Or.inl ⟨by rfl, ?_⟩) hHeld ?_ ?_
        rotate_left
        · rintro w' ⟨s0, s1, s2, s3, s4, s5⟩
          go_simp
          with_reducible rfl
        rotate_left
        · simp only [Act.put, List.setIfInBounds_toArray, List.set_cons_zero, List.set_cons_succ, i64_w, i32_w]
          rfl
        refine one_ (i := 2) (N := some 31) #[true, true, true, true, false, false, false, false, false, false, false, false, false, false, false, false, false, false, false, false, false, false, false, false, false, false, false, false, false, false, false, false, false, false] rfl rfl (by kernel_rfl) (by decide) (fun K hK => ?_)
        refine goes_ Tryd.func15 (by kernel_rfl) rfl #[.slice A' gs.length c'] (by rfl) rfl rfl (by first | rfl | (simp only [List.map_toArray, List.map_cons, List.map_nil]; rfl)) ?_
        refine (sorted_calls gs A' c' _ (Kd.C_drew HG4.out) hs HT4.out.drew).mono ?_
        rintro e w5 ⟨rfl, hb5⟩
        rw [HSAME.out]
        have hb5 := undrew hb5
        have HK5 := Aside0.mk (blk_below HK4.out hb5)
        have HL5 := Aside0.mk (blk_below HL4.out hb5)
        have HR5 := Aside0.mk (Kd.C_below HR4.out hb5)
        have HG5 := Aside0.mk (Kd.C_below HG4.out hb5)
        have HT5 := Aside0.mk (HT4.out.below hb5)
        have HB5 := Aside0.mk (below_step HB4.out hb5)
        refine ⟨_, rfl, ?_⟩
        refine hK.out _ _ ⟨blk_cell HK5.out 0, blk_cell HK5.out 1, blk_cell HK5.out 2, blk_cell HL5.out 0, blk_cell HL5.out 1, blk_cell HL5.out 2⟩ (fun hHeld => ?_)
        clear hK K
        refine norm_ (a' := ?_) ?_ ?_
        rotate_left
        · show Act.put _ (some 31) _ = _
          simp only [Act.put, List.setIfInBounds_toArray, List.set_cons_zero, List.set_cons_succ, i64_w, i32_w]
          rfl
        refine pure_ (i := 4) (N := some 33) (v := ?_) (a' := ?_) #[true, true, true, true, true, false, false, false, false, false, false, false, false, false, false, false, false, false, false, false, false, false, false, false, false, false, false, false, false, false, false, false, false, false] rfl rfl (by kernel_rfl) (fun _ _ _ h => h) (Or.inl ⟨by rfl, ?_⟩) ?_ ?_
        rotate_left
        · intro w'
          go_simp
          with_reducible rfl
        rotate_left
        · simp only [Act.put, List.setIfInBounds_toArray, List.set_cons_zero, List.set_cons_succ, i64_w, i32_w]
          rfl
        refine pure_ (i := 5) (N := some 34) (v := ?_) (a' := ?_) #[true, true, true, true, true, true, false, false, false, false, false, false, false, false, false, false, false, false, false, false, false, false, false, false, false, false, false, false, false, false, false, false, false, false] rfl rfl (by kernel_rfl) (fun _ _ _ h => h) (Or.inl ⟨by rfl, ?_⟩) ?_ ?_
        rotate_left
        · intro w'
          go_simp
          with_reducible rfl
        rotate_left
        · simp only [Act.put, List.setIfInBounds_toArray, List.set_cons_zero, List.set_cons_succ, i64_w, i32_w]
          rfl
        refine take_ (i := 6) (N := some 35) (v := ?_) (a' := ?_) #[true, true, true, true, true, true, true, false, false, false, false, false, false, false, false, false, false, false, false, false, false, false, false, false, false, false, false, false, false, false, false, false, false, false] rfl rfl (by kernel_rfl) (fun _ _ _ h => h) (Or.inl ⟨by rfl, ?_⟩) hHeld ?_ ?_
        rotate_left
        · rintro w' ⟨s0, s1, s2, s3, s4, s5⟩
          go_simp
          with_reducible rfl
        rotate_left
        · simp only [Act.put, List.setIfInBounds_toArray, List.set_cons_zero, List.set_cons_succ, i64_w, i32_w]
          rfl
        refine take_ (i := 8) (N := some 37) (v := ?_) (a' := ?_) #[true, true, true, true, true, true, true, false, true, false, false, false, false, false, false, false, false, false, false, false, false, false, false, false, false, false, false, false, false, false, false, false, false, false] rfl rfl (by kernel_rfl) (fun _ _ _ h => h) (Or.inl ⟨by rfl, ?_⟩) hHeld ?_ ?_
        rotate_left
        · rintro w' ⟨s0, s1, s2, s3, s4, s5⟩
          go_simp
          with_reducible rfl
        rotate_left
        · simp only [Act.put, List.setIfInBounds_toArray, List.set_cons_zero, List.set_cons_succ, i64_w, i32_w]
          rfl
        refine one_ (i := 7) (N := some 36) #[true, true, true, true, true, true, true, true, true, false, false, false, false, false, false, false, false, false, false, false, false, false, false, false, false, false, false, false, false, false, false, false, false, false] rfl rfl (by kernel_rfl) (by decide) (fun K hK => ?_)
        refine goes_ Tryd.func16 (by kernel_rfl) rfl #[.agg #[.int .i64 g.f0, .string g.f1, .int .i64 g.f2]] (by rfl) rfl rfl (by first | rfl | (simp only [List.map_toArray, List.map_cons, List.map_nil]; rfl)) ?_
        refine (good_calls g _ hgs HT5.out).mono ?_
        rintro e w6 ⟨rfl, hb6⟩
        have HK6 := Aside0.mk (blk_below HK5.out hb6)
        have HL6 := Aside0.mk (blk_below HL5.out hb6)
        have HR6 := Aside0.mk (Kd.C_below HR5.out hb6)
        have HG6 := Aside0.mk (Kd.C_below HG5.out hb6)
        have HT6 := Aside0.mk (HT5.out.below hb6)
        have HB6 := Aside0.mk (below_step HB5.out hb6)
        refine ⟨_, rfl, ?_⟩
        refine hK.out _ _ ⟨blk_cell HK6.out 0, blk_cell HK6.out 1, blk_cell HK6.out 2, blk_cell HL6.out 0, blk_cell HL6.out 1, blk_cell HL6.out 2⟩ (fun hHeld => ?_)
        clear hK K
        refine norm_ (a' := ?_) ?_ ?_
        rotate_left
        · show Act.put _ (some 36) _ = _
          simp only [Act.put, List.setIfInBounds_toArray, List.set_cons_zero, List.set_cons_succ, i64_w, i32_w]
          rfl
        refine one_ (i := 9) (N := some 38) #[true, true, true, true, true, true, true, true, true, true, false, false, false, false, false, false, false, false, false, false, false, false, false, false, false, false, false, false, false, false, false, false, false, false] rfl rfl (by kernel_rfl) (by decide) (fun K hK => ?_)
        refine goes_ Tryd.func17 (by kernel_rfl) rfl #[.agg #[.int .i64 g.f0, .string g.f1, .int .i64 g.f2]] (by rfl) rfl rfl (by first | rfl | (simp only [List.map_toArray, List.map_cons, List.map_nil]; rfl)) ?_
        refine (mortmainref10_Good.calls kO g.f0 g.f1 g.f2 (goodG g) _ hO.out).mono ?_
        rintro e w7 ⟨rfl, hb7⟩
        have HK7 := Aside0.mk (blk_below HK6.out hb7)
        have HL7 := Aside0.mk (blk_below HL6.out hb7)
        have HR7 := Aside0.mk (Kd.C_below HR6.out hb7)
        have HG7 := Aside0.mk (Kd.C_below HG6.out hb7)
        have HT7 := Aside0.mk (HT6.out.below hb7)
        have HB7 := Aside0.mk (below_step HB6.out hb7)
        refine ⟨_, rfl, ?_⟩
        refine hK.out _ _ ⟨blk_cell HK7.out 0, blk_cell HK7.out 1, blk_cell HK7.out 2, blk_cell HL7.out 0, blk_cell HL7.out 1, blk_cell HL7.out 2⟩ (fun hHeld => ?_)
        clear hK K
        refine norm_ (a' := ?_) ?_ ?_
        rotate_left
        · show Act.put _ (some 38) _ = _
          simp only [Act.put, List.setIfInBounds_toArray, List.set_cons_zero, List.set_cons_succ, i64_w, i32_w]
          rfl
        refine pure_ (i := 10) (N := some 39) (v := ?_) (a' := ?_) #[true, true, true, true, true, true, true, true, true, true, true, false, false, false, false, false, false, false, false, false, false, false, false, false, false, false, false, false, false, false, false, false, false, false] rfl rfl (by kernel_rfl) (fun _ _ _ h => h) (Or.inl ⟨by rfl, ?_⟩) ?_ ?_
        rotate_left
        · intro w'
          go_simp
          with_reducible rfl
        rotate_left
        · simp only [Act.put, List.setIfInBounds_toArray, List.set_cons_zero, List.set_cons_succ, i64_w, i32_w]
          rfl
        refine pure_ (i := 11) (N := some 40) (v := ?_) (a' := ?_) #[true, true, true, true, true, true, true, true, true, true, true, true, false, false, false, false, false, false, false, false, false, false, false, false, false, false, false, false, false, false, false, false, false, false] rfl rfl (by kernel_rfl) (fun _ _ _ h => h) (Or.inl ⟨by rfl, ?_⟩) ?_ ?_
        rotate_left
        · intro w'
          go_simp
          with_reducible rfl
        rotate_left
        · simp only [Act.put, List.setIfInBounds_toArray, List.set_cons_zero, List.set_cons_succ, i64_w, i32_w]
          rfl
        refine pure_ (i := 12) (N := some 41) (v := ?_) (a' := ?_) #[true, true, true, true, true, true, true, true, true, true, true, true, true, false, false, false, false, false, false, false, false, false, false, false, false, false, false, false, false, false, false, false, false, false] rfl rfl (by kernel_rfl) (fun _ _ _ h => h) (Or.inl ⟨by rfl, ?_⟩) ?_ ?_
        rotate_left
        · intro w'
          go_simp
          with_reducible rfl
        rotate_left
        · simp only [Act.put, List.setIfInBounds_toArray, List.set_cons_zero, List.set_cons_succ, i64_w, i32_w]
          rfl
        refine pure_ (i := 13) (N := some 42) (v := ?_) (a' := ?_) #[true, true, true, true, true, true, true, true, true, true, true, true, true, true, false, false, false, false, false, false, false, false, false, false, false, false, false, false, false, false, false, false, false, false] rfl rfl (by kernel_rfl) (fun _ _ _ h => h) (Or.inl ⟨by rfl, ?_⟩) ?_ ?_
        rotate_left
        · intro w'
          go_simp
          with_reducible rfl
        rotate_left
        · simp only [Act.put, List.setIfInBounds_toArray, List.set_cons_zero, List.set_cons_succ, i64_w, i32_w]
          rfl
        refine pure_ (i := 15) (N := some 44) (v := ?_) (a' := ?_) #[true, true, true, true, true, true, true, true, true, true, true, true, true, true, false, true, false, false, false, false, false, false, false, false, false, false, false, false, false, false, false, false, false, false] rfl rfl (by kernel_rfl) (fun _ _ _ h => h) (Or.inl ⟨by rfl, ?_⟩) ?_ ?_
        rotate_left
        · intro w'
          go_simp
          with_reducible rfl
        rotate_left
        · simp only [Act.put, List.setIfInBounds_toArray, List.set_cons_zero, List.set_cons_succ, i64_w, i32_w]
          rfl
        refine pure_ (i := 16) (N := some 45) (v := ?_) (a' := ?_) #[true, true, true, true, true, true, true, true, true, true, true, true, true, true, false, true, true, false, false, false, false, false, false, false, false, false, false, false, false, false, false, false, false, false] rfl rfl (by kernel_rfl) (fun _ _ _ h => h) (Or.inl ⟨by rfl, ?_⟩) ?_ ?_
        rotate_left
        · intro w'
          go_simp
          with_reducible rfl
        rotate_left
        · simp only [Act.put, List.setIfInBounds_toArray, List.set_cons_zero, List.set_cons_succ, i64_w, i32_w]
          rfl
        refine one_ (i := 14) (N := some 43) #[true, true, true, true, true, true, true, true, true, true, true, true, true, true, true, true, true, false, false, false, false, false, false, false, false, false, false, false, false, false, false, false, false, false] rfl rfl (by kernel_rfl) (by decide) (fun K hK => ?_)
        refine goes_ Tryd.func18 (by kernel_rfl) rfl #[.int .i64 role] (by rfl) rfl rfl (by first | rfl | (simp only [List.map_toArray, List.map_cons, List.map_nil]; rfl)) ?_
        refine (role_calls role _).mono ?_
        rintro e w8 ⟨rfl, rfl⟩
        rw [hrl]
        refine ⟨_, rfl, ?_⟩
        refine hK.out _ _ ⟨blk_cell HK7.out 0, blk_cell HK7.out 1, blk_cell HK7.out 2, blk_cell HL7.out 0, blk_cell HL7.out 1, blk_cell HL7.out 2⟩ (fun hHeld => ?_)
        clear hK K
        refine norm_ (a' := ?_) ?_ ?_
        rotate_left
        · show Act.put _ (some 43) _ = _
          simp only [Act.put, List.setIfInBounds_toArray, List.set_cons_zero, List.set_cons_succ, i64_w, i32_w]
          rfl
        refine pure_ (i := 17) (N := some 46) (v := ?_) (a' := ?_) #[true, true, true, true, true, true, true, true, true, true, true, true, true, true, true, true, true, true, false, false, false, false, false, false, false, false, false, false, false, false, false, false, false, false] rfl rfl (by kernel_rfl) (fun _ _ _ h => h) (Or.inl ⟨by rfl, ?_⟩) ?_ ?_
        rotate_left
        · intro w'
          go_simp
          with_reducible rfl
        rotate_left
        · simp only [Act.put, List.setIfInBounds_toArray, List.set_cons_zero, List.set_cons_succ, i64_w, i32_w]
          rfl
        refine pure_ (i := 18) (N := some 47) (v := undef) (a' := ?_) #[true, true, true, true, true, true, true, true, true, true, true, true, true, true, true, true, true, true, true, false, false, false, false, false, false, false, false, false, false, false, false, false, false, false] rfl rfl (by kernel_rfl) (fun _ _ _ h => h) (Or.inr ⟨by rfl, rfl⟩) ?_ ?_
        rotate_left
        · simp only [Act.put, List.setIfInBounds_toArray, List.set_cons_zero, List.set_cons_succ, i64_w, i32_w]
          rfl
        refine pure_ (i := 19) (N := some 48) (v := undef) (a' := ?_) #[true, true, true, true, true, true, true, true, true, true, true, true, true, true, true, true, true, true, true, true, false, false, false, false, false, false, false, false, false, false, false, false, false, false] rfl rfl (by kernel_rfl) (fun _ _ _ h => h) (Or.inr ⟨by rfl, rfl⟩) ?_ ?_
        rotate_left
        · simp only [Act.put, List.setIfInBounds_toArray, List.set_cons_zero, List.set_cons_succ, i64_w, i32_w]
          rfl
        refine pure_ (i := 20) (N := some 49) (v := ?_) (a' := ?_) #[true, true, true, true, true, true, true, true, true, true, true, true, true, true, true, true, true, true, true, true, true, false, false, false, false, false, false, false, false, false, false, false, false, false] rfl rfl (by kernel_rfl) (fun _ _ _ h => h) (Or.inl ⟨by rfl, ?_⟩) ?_ ?_
        rotate_left
        · intro w'
          go_simp
          with_reducible rfl
        rotate_left
        · simp only [Act.put, List.setIfInBounds_toArray, List.set_cons_zero, List.set_cons_succ, i64_w, i32_w]
          rfl
        refine pure_ (i := 21) (N := some 50) (v := ?_) (a' := ?_) #[true, true, true, true, true, true, true, true, true, true, true, true, true, true, true, true, true, true, true, true, true, true, false, false, false, false, false, false, false, false, false, false, false, false] rfl rfl (by kernel_rfl) (fun _ _ _ h => h) (Or.inl ⟨by rfl, ?_⟩) ?_ ?_
        rotate_left
        · intro w'
          go_simp
          with_reducible rfl
        rotate_left
        · simp only [Act.put, List.setIfInBounds_toArray, List.set_cons_zero, List.set_cons_succ, i64_w, i32_w]
          rfl
        refine pure_ (i := 22) (N := some 51) (v := ?_) (a' := ?_) #[true, true, true, true, true, true, true, true, true, true, true, true, true, true, true, true, true, true, true, true, true, true, true, false, false, false, false, false, false, false, false, false, false, false] rfl rfl (by kernel_rfl) (fun _ _ _ h => h) (Or.inl ⟨by rfl, ?_⟩) ?_ ?_
        rotate_left
        · intro w'
          go_simp
          with_reducible rfl
        rotate_left
        · simp only [Act.put, List.setIfInBounds_toArray, List.set_cons_zero, List.set_cons_succ, i64_w, i32_w]
          rfl
        refine pure_ (i := 23) (N := some 52) (v := ?_) (a' := ?_) #[true, true, true, true, true, true, true, true, true, true, true, true, true, true, true, true, true, true, true, true, true, true, true, true, false, false, false, false, false, false, false, false, false, false] rfl rfl (by kernel_rfl) (fun _ _ _ h => h) (Or.inl ⟨by rfl, ?_⟩) ?_ ?_
        rotate_left
        · intro w'
          go_simp
          with_reducible rfl
        rotate_left
        · simp only [Act.put, List.setIfInBounds_toArray, List.set_cons_zero, List.set_cons_succ, i64_w, i32_w]
          rfl
        refine pure_ (i := 25) (N := some 54) (v := ?_) (a' := ?_) #[true, true, true, true, true, true, true, true, true, true, true, true, true, true, true, true, true, true, true, true, true, true, true, true, false, true, false, false, false, false, false, false, false, false] rfl rfl (by kernel_rfl) (fun _ _ _ h => h) (Or.inl ⟨by rfl, ?_⟩) ?_ ?_
        rotate_left
        · intro w'
          go_simp
          with_reducible rfl
        rotate_left
        · simp only [Act.put, List.setIfInBounds_toArray, List.set_cons_zero, List.set_cons_succ, i64_w, i32_w]
          rfl
        refine pure_ (i := 26) (N := some 55) (v := ?_) (a' := ?_) #[true, true, true, true, true, true, true, true, true, true, true, true, true, true, true, true, true, true, true, true, true, true, true, true, false, true, true, false, false, false, false, false, false, false] rfl rfl (by kernel_rfl) (fun _ _ _ h => h) (Or.inl ⟨by rfl, ?_⟩) ?_ ?_
        rotate_left
        · intro w'
          go_simp
          with_reducible rfl
        rotate_left
        · simp only [Act.put, List.setIfInBounds_toArray, List.set_cons_zero, List.set_cons_succ, i64_w, i32_w]
          rfl
        refine pure_ (i := 29) (N := some 58) (v := ?_) (a' := ?_) #[true, true, true, true, true, true, true, true, true, true, true, true, true, true, true, true, true, true, true, true, true, true, true, true, false, true, true, false, false, true, false, false, false, false] rfl rfl (by kernel_rfl) (fun _ _ _ h => h) (Or.inl ⟨by rfl, ?_⟩) ?_ ?_
        rotate_left
        · intro w'
          go_simp
          with_reducible rfl
        rotate_left
        · simp only [Act.put, List.setIfInBounds_toArray, List.set_cons_zero, List.set_cons_succ, i64_w, i32_w]
          rfl
        refine pure_ (i := 30) (N := some 59) (v := ?_) (a' := ?_) #[true, true, true, true, true, true, true, true, true, true, true, true, true, true, true, true, true, true, true, true, true, true, true, true, false, true, true, false, false, true, true, false, false, false] rfl rfl (by kernel_rfl) (fun _ _ _ h => h) (Or.inl ⟨by rfl, ?_⟩) ?_ ?_
        rotate_left
        · intro w'
          go_simp
          with_reducible rfl
        rotate_left
        · simp only [Act.put, List.setIfInBounds_toArray, List.set_cons_zero, List.set_cons_succ, i64_w, i32_w]
          rfl
        refine take_ (i := 24) (N := some 53) (v := ?_) (a' := ?_) #[true, true, true, true, true, true, true, true, true, true, true, true, true, true, true, true, true, true, true, true, true, true, true, true, true, true, true, false, false, true, true, false, false, false] rfl rfl (by kernel_rfl) (fun _ _ _ h => h) (Or.inl ⟨by rfl, ?_⟩) hHeld ?_ ?_
        rotate_left
        · rintro w' ⟨s0, s1, s2, s3, s4, s5⟩
          go_simp
          with_reducible rfl
        rotate_left
        · simp only [Act.put, List.setIfInBounds_toArray, List.set_cons_zero, List.set_cons_succ, i64_w, i32_w]
          rfl
        refine take_ (i := 28) (N := some 57) (v := ?_) (a' := ?_) #[true, true, true, true, true, true, true, true, true, true, true, true, true, true, true, true, true, true, true, true, true, true, true, true, true, true, true, false, true, true, true, false, false, false] rfl rfl (by kernel_rfl) (fun _ _ _ h => h) (Or.inl ⟨by rfl, ?_⟩) hHeld ?_ ?_
        rotate_left
        · rintro w' ⟨s0, s1, s2, s3, s4, s5⟩
          go_simp
          with_reducible rfl
        rotate_left
        · simp only [Act.put, List.setIfInBounds_toArray, List.set_cons_zero, List.set_cons_succ, i64_w, i32_w]
          rfl
        refine one_ (i := 27) (N := some 56) #[true, true, true, true, true, true, true, true, true, true, true, true, true, true, true, true, true, true, true, true, true, true, true, true, true, true, true, true, true, true, true, false, false, false] rfl rfl (by kernel_rfl) (by decide) (fun K hK => ?_)
        refine goes_ Tryd.func19 (by kernel_rfl) rfl #[.agg #[.int .i64 v, .slice A l.length c, .slice A' gs.length c'], .int .i64 role, .string nm] (by rfl) rfl rfl (by first | rfl | (simp only [List.map_toArray, List.map_cons, List.map_nil]; rfl)) ?_
        refine (owns_calls v l A c A' gs.length c' role nm _ HR7.out).mono ?_
        rintro e w8 ⟨rfl, hb8⟩
        have HK8 := Aside0.mk (blk_below HK7.out hb8)
        have HL8 := Aside0.mk (blk_below HL7.out hb8)
        have HR8 := Aside0.mk (Kd.C_below HR7.out hb8)
        have HG8 := Aside0.mk (Kd.C_below HG7.out hb8)
        have HT8 := Aside0.mk (HT7.out.below hb8)
        have HB8 := Aside0.mk (below_step HB7.out hb8)
        refine ⟨_, rfl, ?_⟩
        refine hK.out _ _ ⟨blk_cell HK8.out 0, blk_cell HK8.out 1, blk_cell HK8.out 2, blk_cell HL8.out 0, blk_cell HL8.out 1, blk_cell HL8.out 2⟩ (fun hHeld => ?_)
        clear hK K
        refine norm_ (a' := ?_) ?_ ?_
        rotate_left
        · show Act.put _ (some 56) _ = _
          simp only [Act.put, List.setIfInBounds_toArray, List.set_cons_zero, List.set_cons_succ, i64_w, i32_w]
          rfl
        refine one_ (i := 31) (N := some 60) #[true, true, true, true, true, true, true, true, true, true, true, true, true, true, true, true, true, true, true, true, true, true, true, true, true, true, true, true, true, true, true, true, false, false] rfl rfl (by kernel_rfl) (by decide) (fun K hK => ?_)
        refine goes_ Tryd.func20 (by kernel_rfl) rfl #[.agg #[.int .i64 v, .slice A l.length c, .slice A' gs.length c'], .int .i64 role, .string nm] (by rfl) rfl rfl (by first | rfl | (simp only [List.map_toArray, List.map_cons, List.map_nil]; rfl)) ?_
        refine (mortmainref10_Owns.calls kW v A c l A' c' gs role nm _ _ HR8.out HC.out HG8.out HC'.out hW.out).mono ?_
        rintro e w9 ⟨rfl, hb9⟩
        have HK9 := Aside0.mk (blk_below HK8.out hb9)
        have HL9 := Aside0.mk (blk_below HL8.out hb9)
        have HR9 := Aside0.mk (Kd.C_below HR8.out hb9)
        have HG9 := Aside0.mk (Kd.C_below HG8.out hb9)
        have HT9 := Aside0.mk (HT8.out.below hb9)
        have HB9 := Aside0.mk (below_step HB8.out hb9)
        refine ⟨_, rfl, ?_⟩
        refine hK.out _ _ ⟨blk_cell HK9.out 0, blk_cell HK9.out 1, blk_cell HK9.out 2, blk_cell HL9.out 0, blk_cell HL9.out 1, blk_cell HL9.out 2⟩ (fun hHeld => ?_)
        clear hK K
        refine norm_ (a' := ?_) ?_ ?_
        rotate_left
        · show Act.put _ (some 60) _ = _
          simp only [Act.put, List.setIfInBounds_toArray, List.set_cons_zero, List.set_cons_succ, i64_w, i32_w]
          rfl
        refine pure_ (i := 32) (N := some 61) (v := ?_) (a' := ?_) #[true, true, true, true, true, true, true, true, true, true, true, true, true, true, true, true, true, true, true, true, true, true, true, true, true, true, true, true, true, true, true, true, true, false] rfl rfl (by kernel_rfl) (fun _ _ _ h => h) (Or.inl ⟨by rfl, ?_⟩) ?_ ?_
        rotate_left
        · intro w'
          go_simp
          with_reducible rfl
        rotate_left
        · simp only [Act.put, List.setIfInBounds_toArray, List.set_cons_zero, List.set_cons_succ, i64_w, i32_w]
          rfl
        refine pure_ (i := 33) (N := some 62) (v := ?_) (a' := ?_) #[true, true, true, true, true, true, true, true, true, true, true, true, true, true, true, true, true, true, true, true, true, true, true, true, true, true, true, true, true, true, true, true, true, true] rfl rfl (by kernel_rfl) (fun _ _ _ h => h) (Or.inl ⟨by rfl, ?_⟩) ?_ ?_
        rotate_left
        · intro w'
          go_simp
          with_reducible rfl
        rotate_left
        · simp only [Act.put, List.setIfInBounds_toArray, List.set_cons_zero, List.set_cons_succ, i64_w, i32_w]
          rfl
        refine done_ (by kernel_rfl) ?_
        go_wp2_with (first
          | (go_at_call 21; refine (may_calls v l A c gs A' c' role nm bits _ HR9.out HG9.out).mono ?_; rintro e w10 ⟨rfl, hb10⟩; have HK10 := Aside0.mk (blk_below HK9.out hb10); have HL10 := Aside0.mk (blk_below HL9.out hb10); have HR10 := Aside0.mk (Kd.C_below HR9.out hb10); have HG10 := Aside0.mk (Kd.C_below HG9.out hb10); have HT10 := Aside0.mk (HT9.out.below hb10); have HB10 := Aside0.mk (below_step HB9.out hb10); have y0 := blk_cell HK10.out 0; have y1 := blk_cell HK10.out 1; have y2 := blk_cell HK10.out 2; cases hsr : refS gs 0 gs.length)
          | (go_at_call 22; refine (mortmainref10_May.calls kM v A c l A' c' gs role nm bits _ _ HR10.out HC.out HG10.out HC'.out hM.out).mono ?_; rintro e w11 ⟨rfl, hb11⟩; rw [HMAY.out hsr]))
        · go_ret
          exact ⟨rfl, HB10.out⟩
        · go_ret
          exact ⟨by simp, below_step HB10.out hb11⟩
end Go.Proofs.YtefdfgmlmjnmlaaDoor.My
end

section
set_option linter.unusedVariables false
/- The row and the card of the law GrantMay. -/
namespace Go.Proofs.YtefdfgmlmjnmlaaDoor.My
open Go.ChangeShapes Go.WideShapes Go.ChangeAt Go.RowKit
open Go.ChangeMaps (open_string shut_string)
open Go.Proofs.YtefdfgmlmjnmlaaDoorW.PrintWords Go.Proofs.YtefdfgmlmjnmlaaDoor.Rf
open Go.Proofs.YtefdfgmlmjnmlaaDoor

set_option maxRecDepth 100000 in
theorem grantMay_lifted (os : Os) (started : os.Started) (H : Type) (enc : TypeId × Value → H) :
    ReturnsInHanded {} Tryd.checked os 3 .any (fun w args => (Rows.grantMaySpec.pre enc Tryd.prog Tryd.f3 Rows.grantMayRow.domain false w args ∧ laidMetH Tryd.prog tabs w) ∧ sizedMet enc Tryd.prog Tryd.f3 (OpenSpec.ofChange Rows.grantMaySpec) false w args)
      (Rows.grantMaySpec.post enc Tryd.prog Tryd.f3 false true false false) := by
  refine returnsInHanded_of_change_and (C := Tryd.checked) (X := (fun w _ => laidMetH Tryd.prog tabs w)) (fun _ _ _ hh h => h.of_heap hh) own started (by kernel_rfl) Tryd.func3
    (ChangeSpec.witness_shaped (enc := enc) (C := Tryd.checked) (os := os) (X := (fun w _ => laidMetH Tryd.prog tabs w)) false (World.laidAll Tryd.prog os tabs) #[.agg #[.int .i64 0, .slice none 0 0, .slice none 0 0], .int .i64 0, .string ByteArray.empty, .int .i64 0, .agg #[.int .i64 0, .string ByteArray.empty, .int .i64 0]] 8 (World.laidAll_os _ _ _)
      (World.shaped_of_ZipB (by kernel_rfl) (by kernel_rfl)) (by kernel_rfl) (by kernel_rfl) (by kernel_rfl)
      (by rw [MakeChecks.laidMetH_plain _ _ _ (by kernel_rfl)]; exact laidMet_laidAll _ (by kernel_rfl) (by kernel_rfl))) ?_
  intro W base args ds gs before hval0 hW hc _ hL _
  have hval : ∀ (j : Nat) t v, Tryd.f3.params[j]? = some t → args[j]? = some v → Value.okWide Tryd.prog W .any base t v := hval0
  have hW' := hW
  obtain ⟨p, q, hA0, hV, rfl, _, _⟩ := hW
  have hA : DataW.TrodAll enc Tryd.prog W 0 (fun _ => true) true Tryd.f3.params.toList args.toList ds p := hA0
  rw [Tryd.params3] at hA hval
  obtain ⟨v0, vs0, d0, ds0, p0, q0, hargs, rfl, rfl, h0, r0⟩ := trodAll_cons hA
  obtain ⟨v1, vs1, d1, ds1, p1, q1, rfl, rfl, rfl, h1, r1⟩ := trodAll_cons r0
  obtain ⟨v2, vs2, d2, ds2, p2, q2, rfl, rfl, rfl, h2, r2⟩ := trodAll_cons r1
  obtain ⟨v3, vs3, d3, ds3, p3, q3, rfl, rfl, rfl, h3, r3⟩ := trodAll_cons r2
  obtain ⟨v4, vs4, d4, ds4, p4, q4, rfl, rfl, rfl, h4, r4⟩ := trodAll_cons r3
  obtain ⟨rfl, rfl, rfl⟩ := trodAll_nil r4
  obtain rfl : args = #[v0, v1, v2, v3, v4] := by cases args; simp_all
  obtain ⟨rfl, rfl⟩ := trodVars_none hV
  have k0 := h0
  have lt0 : ∀ x ∈ p0, x.block < W.heap.size := by obtain ⟨m, hm⟩ := k0; exact DataW.trod_lt m _ _ _ hm
  obtain ⟨cs0, rfl, _⟩ := okWide_struct Tryd.underlying25 (hval 0 25 v0 rfl rfl)
  obtain ⟨fu0, hf0⟩ := h0
  obtain ⟨s0, A0, c0, l0, B0, d0, m0, e0, sw0, lc0, hC0, qT0, ld0, hD0, qG0⟩ := open25 hf0
  have e0 : cs0 = #[.int .i64 s0, .slice A0 l0.length c0, .slice B0 m0.length d0] := Array.toList_inj.1 e0
  subst e0
  obtain ⟨a1, rfl, rfl, rfl, w1⟩ := open_int Tryd.underlying3 (hval 1 3 v1 rfl rfl) h1
  obtain ⟨a2, rfl, rfl, rfl, w2⟩ := open_string Tryd.underlying9 (hval 2 9 v2 rfl rfl) h2
  obtain ⟨a3, rfl, rfl, rfl, w3⟩ := open_int Tryd.underlying3 (hval 3 3 v3 rfl rfl) h3
  have k4 := h4
  have lt4 : ∀ x ∈ p4, x.block < W.heap.size := by obtain ⟨m, hm⟩ := k4; exact DataW.trod_lt m _ _ _ hm
  obtain ⟨cs4, rfl, _⟩ := okWide_struct Tryd.underlying27 (hval 4 27 v4 rfl rfl)
  obtain ⟨fu4, hf4⟩ := h4
  obtain ⟨g4, e4, q4⟩ := open27 hf4
  have e4 := k27_open e4
  have e4 : cs4 = #[.int .i64 g4.f0, .string g4.f1, .int .i64 g4.f2] := Array.toList_inj.1 e4
  subst e4
  have hT := tabs_of hL
  clear hA0 hval0
  have hOk : ∀ t, t ∈ l0 → OkT t := fun t ht => by
    obtain ⟨c, hc⟩ := C_each hC0 ht
    exact okT_of hc
  refine (may_law s0 l0 A0 c0 m0 B0 d0 a1 a2 a3 g4 W hC0 lc0 hD0 ld0 hT (fun g hg => (qG0 g hg).b) q4.b hOk).mono fun e W' ⟨he, bel⟩ => ?_
  subst he
  exact ⟨_, rfl, _, _, _, [], _, [], hW', trodAll_mk1 (shut_bool Tryd.underlying4 _), (trodAll_cons_mk (Below.trod laidOut (by kernel_rfl) (of_decide_eq_true (by kernel_rfl)) k0 bel lt0) (trodAll_cons_mk (shut_int Tryd.underlying3 w1) (trodAll_cons_mk (shut_string Tryd.underlying9 w2) (trodAll_cons_mk (shut_int Tryd.underlying3 w3) (trodAll_cons_mk (Below.trod laidOut (by kernel_rfl) (of_decide_eq_true (by kernel_rfl)) k4 bel lt4) trodAll_mk0))))), rfl, bel.frame _, fun h => by cases h⟩

theorem grantMay_holds : Rows.GrantMaySaid :=
  OpenClaim.holds_of_wide 3 Tryd.f3 rfl rfl rfl rfl rfl rfl rfl ⟨rfl, rfl, rfl, rfl, rfl⟩ rfl rfl rfl rfl rfl (by kernel_rfl) Tryd.func3 (by kernel_rfl)
    (of_decide_eq_true (by kernel_rfl)) (by unfold Func.isWrapper; first | (rw [if_pos (by decide +kernel)]; kernel_rfl) | (rw [if_neg (by decide +kernel)]; exact ⟨rfl, rfl⟩))
    (fun os started H enc _ => grantMay_lifted os started H enc)

theorem grantMay_card : Rows.GrantMayCardSaid :=
  Claim7.holds_tied_plain_at .later [] [.data, .pinned] true (true, "ad361f8c9010d8bc8c83665426ff667c1a83a32d80b366ff0bd14d2eb2135fde") true grantMay_holds (fun _ h => by cases h) (by kernel_rfl) (fun _ h => by cases h) grantMay_row_tie rfl ⟨rfl, rfl⟩ (by kernel_rfl) rfl
    (fun f fn hf hfn => by
      obtain rfl : f = 3 := Option.some.inj ((show Tryd.prog.funcNamed "mortmain/mortmainlaw10.GrantMay" = some 3 by kernel_rfl).symm.trans hf) |>.symm
      obtain rfl : fn = Tryd.f3 := (Option.some.inj (Tryd.func3.symm.trans hfn)).symm
      exact ⟨by kernel_rfl, fun j t ht => by
        rw [Tryd.params3] at ht
        have hm : t ∈ [25, 3, 9, 3, 27] := by simpa using Array.mem_of_getElem? ht
        have hall : ([25, 3, 9, 3, 27].all fun u => !Tryd.prog.wantsStandIn u) = true := by kernel_rfl
        exact (show Tryd.prog.wantsStandIn t = false by simpa using List.all_eq_true.1 hall t hm)⟩)
    (by kernel_rfl)
#print axioms grantMay_card
end Go.Proofs.YtefdfgmlmjnmlaaDoor.My
end
