/- PROVED: the tied card of the law GrantOrder: whatever the input, the law returns true and leaves its arguments as they read. Its conditions:  those of the given row (the two tables of unicode/utf8 read as the program's text lays them). Joined out of this session's smaller texts (part 3 of 3). -/
import Derived.Test.YtefdfgmlmjnmlaaDoorZGrantOrder1
import Derived.Test.YtefdfgmlmjnmlaaDoorZGrantOrder2
section
set_option linter.unusedVariables false
set_option linter.unusedSimpArgs false
/- What the kit's print.py wrote of one Go function of this seat's translation (run by a program of this session, one function a text): the function as a plain Lean function, and that the call computes it. -/
namespace Go.Proofs.YtefdfgmlmjnmlaaDoor.Rf
open Go.RowKit Go.Proofs.YtefdfgmlmjnmlaaDoorW.PrintWords Go.Proofs.YtefdfgmlmjnmlaaDoorW.PrintLast Go.Proofs.YtefdfgmlmjnmlaaDoorW.PrintMore
attribute [local go_sem] max2_int min2_int max_two min_two max_three min_three max_four min_four   -- for this text's walks alone

/-! ### mortmainref10_Bits: function 26 -/
def mortmainref10_Bits.l0 : Nat → Int → ByteArray → List (S27) → Int → Int → Option (Int)
  | 0, _, _, _, _, _ => none
  | k + 1, x1, x2, x9, x10, x11 => if x11 < x10 then (if 0 ≤ x11 then (if x11 < (x9.length : Int) then (if ((rd_T27 x9 x11).f0) = x1 then (if ((rd_T27 x9 x11).f1).toList = x2.toList then (some ((rd_T27 x9 x11).f2)) else (mortmainref10_Bits.l0 k x1 x2 x9 x10 (wrap64 (x11 + 1)))) else (mortmainref10_Bits.l0 k x1 x2 x9 x10 (wrap64 (x11 + 1)))) else (none)) else (none)) else (some 0)
def mortmainref10_Bits.f (k : Nat) (l0 : List (S27)) (a1 : Int) (a2 : ByteArray) : Option (Int) := mortmainref10_Bits.l0 k a1 a2 l0 (l0.length : Int) 0
theorem mortmainref10_Bits.mono_l : ∀ k, (∀ y0 y1 y2 y3 y4, LeO (mortmainref10_Bits.l0 k y0 y1 y2 y3 y4) (mortmainref10_Bits.l0 (k + 1) y0 y1 y2 y3 y4))
  | 0 => fun _ _ _ _ _ r h => by simp [mortmainref10_Bits.l0] at h
  | k + 1 => by
    have ih0 := mortmainref10_Bits.mono_l k
    · intro y0 y1 y2 y3 y4
      unfold mortmainref10_Bits.l0
      repeat' first
      | (with_reducible exact ih0 _ _ _ _ _)
      | (with_reducible exact LeO.refl _)
      | (with_reducible exact LeO.none _)
      | (with_reducible refine LeO.ite ?_ ?_)
      | (with_reducible refine LeO.bind ?_ (fun _ => ?_))
      | exact ih0 _ _ _ _ _
      | exact LeO.none _
      | refine LeO.ite ?_ ?_
      | refine LeO.bind ?_ (fun _ => ?_)
theorem mortmainref10_Bits.mono : ∀ a0 a1 a2 k, LeO (mortmainref10_Bits.f k a0 a1 a2) (mortmainref10_Bits.f (k + 1) a0 a1 a2) := by
  intro a0 a1 a2 k
  have ih0 := mortmainref10_Bits.mono_l k
  unfold mortmainref10_Bits.f
  repeat' first
      | (with_reducible exact ih0 _ _ _ _ _)
      | (with_reducible exact LeO.refl _)
      | (with_reducible exact LeO.none _)
      | (with_reducible refine LeO.ite ?_ ?_)
      | (with_reducible refine LeO.bind ?_ (fun _ => ?_))
      | exact ih0 _ _ _ _ _
      | exact LeO.none _
      | refine LeO.ite ?_ ?_
      | refine LeO.bind ?_ (fun _ => ?_)
set_option maxHeartbeats 8000000 in
set_option maxRecDepth 100000 in
theorem mortmainref10_Bits.calls (k : Nat) (A0 : Option Addr) (c0 : Nat) (l0 : List (S27)) (a1 : Int) (a2 : ByteArray) (r : Int) (w : World) (hr0 : Kd.C k27 w A0 l0.length l0) (hc0 : l0.length ≤ c0) (h : mortmainref10_Bits.f k l0 a1 a2 = some r) :
    Calls Tryd.prog 26 #[.slice A0 l0.length c0, .int .i64 a1, .string a2] w fun e w' => e = .returned (.int .i64 r) ∧ Below w.heap.size w w' := by
  have hu27 := Tryd.underlying27
  have HR0 := Aside0.mk hr0
  have HC0 := Aside0.mk hc0
  clear hr0 hc0
  have HB := Aside0.mk (Below.refl w.heap.size w)
  have H : (mortmainref10_Bits.l0 k a1 a2 l0 (l0.length : Int) 0) = some r := h
  clear h
  have H' := Aside0.mk H
  clear H
  go_enter Tryd.func26, Tryd.ntmps26
  go_wp2
  go_loopg [11] k (fun kq v11 w' => ∃ (x11_1 : Int), v11 = .int .i64 x11_1 ∧ Aside0 (mortmainref10_Bits.l0 kq a1 a2 l0 (l0.length : Int) x11_1 = some r) ∧ Aside0 (kq ≤ k) ∧ Aside0 (Below w.heap.size w w'))
  case atStart => exact ⟨(0), (by first | rfl | (simp; done) | (simp [*]; done)), H', ⟨Nat.le_refl _⟩, ⟨by repeat (first | (with_reducible first | exact HB.out | apply below_alloc | apply pw_below_drewN | apply below_drew1) | exact HB.out)⟩⟩
  case round =>
    clear H'
    try clear c2
    try clear p2
    obtain ⟨x11_1, rfl, HA, HK1, HB⟩ := hrel
    cases gk with
    | zero => exact absurd HA.out (by simp [mortmainref10_Bits.l0])
    | succ k1 =>
      have H := HA.out
      clear HA
      simp only [mortmainref10_Bits.l0] at H
      by_cases c4 : x11_1 < (l0.length : Int)
      · rw [if_pos c4] at H
        have c4b0 : decide (x11_1 < (l0.length : Int)) = true := decide_eq_true c4
        clear c4
        by_cases c5 : 0 ≤ x11_1
        · rw [if_pos c5] at H
          have c5b0 : decide (0 ≤ x11_1) = true := decide_eq_true c5
          clear c5
          by_cases c6 : x11_1 < (l0.length : Int)
          · rw [if_pos c6] at H
            have c6b0 : decide (x11_1 < (l0.length : Int)) = true := decide_eq_true c6
            clear c6
            by_cases c7 : ((rd_T27 l0 x11_1).f0) = a1
            · rw [if_pos c7] at H
              have c7b0 : (((rd_T27 l0 x11_1).f0) == a1) = true := beq_iff_eq.mpr c7
              have c7b1 : (((rd_T27 l0 x11_1).f0) != a1) = false := bne_eq_false_iff_eq.mpr c7
              clear c7
              by_cases c8 : ((rd_T27 l0 x11_1).f1).toList = a2.toList
              · rw [if_pos c8] at H
                have c8b0 : (((rd_T27 l0 x11_1).f1).toList == a2.toList) = true := beq_iff_eq.mpr c8
                have c8b1 : (((rd_T27 l0 x11_1).f1).toList != a2.toList) = false := bne_eq_false_iff_eq.mpr c8
                clear c8
                obtain rfl := Option.some.inj H
                have p176 : 0 ≤ (x11_1 : Int) := of_decide_eq_true (by first | (with_reducible assumption) | assumption)
                have q176 : x11_1 < (l0.length : Int) := of_decide_eq_true (by first | (with_reducible assumption) | assumption)
                obtain ⟨ad176, e176, hx176_0, hx176_1, hx176_2⟩ := at_T27 HR0.out x11_1 p176 q176
                cases e176
                replace hx176_0 := (HB.out.cell (World.block_lt_of_cell? w _ hx176_0)).trans hx176_0
                replace hx176_1 := (HB.out.cell (World.block_lt_of_cell? w _ hx176_1)).trans hx176_1
                replace hx176_2 := (HB.out.cell (World.block_lt_of_cell? w _ hx176_2)).trans hx176_2
                replace p176 := eq_true p176
                replace q176 := eq_true q176
                go_wp2_with (first | ((with_reducible refine gate_dst (N := 8) rfl ?_); refine box_event ?hg (N := 8) ?hd (cs := #[.int .i64 0, .string (⟨#[]⟩ : ByteArray), .int .i64 0]) (t := 27) ?hr ?_; (case hd => rfl); (case hg => rfl); (case hr => first | (go_simp; done) | (go_simp; rfl)); intro gb177 hg w9 hbox hb; have n0_ := Aside0.mk (below_step (by repeat (first | (with_reducible first | exact HB.out | apply below_alloc | apply pw_below_drewN | apply below_drew1) | exact HB.out)) hb); have n1_ := Aside0.mk (hbox); have n2_ := Aside0.mk ((by rw [hg]; exact (below_size (by repeat (first | (with_reducible first | exact HB.out | apply below_alloc | apply pw_below_drewN | apply below_drew1) | exact HB.out))) : w.heap.size ≤ gb177)); have n3_ := Aside0.mk ((by rw [hg]; exact (below_size (by repeat (first | (with_reducible first | exact HB.out | apply below_alloc | apply pw_below_drewN | apply below_drew1) | exact HB.out))) : w.heap.size ≤ gb177)); clear HB; have HB := n0_; have BK177 := n1_; have GW177 := n2_; have GE177 := n3_; clear n0_ n1_ n2_ n3_; clear hb hbox hg; have hcz10_0 : w9.cell? ⟨gb177, 0, none⟩ = some (.int .i64 0) := (blk_cell BK177.out 0).trans rfl; have hcz10_1 : w9.cell? ⟨gb177, 1, none⟩ = some (.string (⟨#[]⟩ : ByteArray)) := (blk_cell BK177.out 1).trans rfl; have hcz10_2 : w9.cell? ⟨gb177, 2, none⟩ = some (.int .i64 0) := (blk_cell BK177.out 2).trans rfl; have hfz10_0 := blk_frozen BK177.out 0; have hfz10_1 := blk_frozen BK177.out 1; have hfz10_2 := blk_frozen BK177.out 2))
                go_ret
                exact ⟨by first | rfl | (simp [errW_none, errW_some] <;> rfl) | (simp [*, errW_none, errW_some] <;> rfl), by repeat (first | (with_reducible first | exact HB.out | apply below_alloc | apply pw_below_drewN | apply below_drew1 | refine below_set ?_ GE177.out) | exact HB.out)⟩
              · rw [if_neg c8] at H
                have c8b0 : (((rd_T27 l0 x11_1).f1).toList == a2.toList) = false := beq_eq_false_iff_ne.mpr c8
                have c8b1 : (((rd_T27 l0 x11_1).f1).toList != a2.toList) = true := bne_iff_ne.mpr c8
                have H' := Aside0.mk H
                clear H
                have p176 : 0 ≤ (x11_1 : Int) := of_decide_eq_true (by first | (with_reducible assumption) | assumption)
                have q176 : x11_1 < (l0.length : Int) := of_decide_eq_true (by first | (with_reducible assumption) | assumption)
                obtain ⟨ad176, e176, hx176_0, hx176_1, hx176_2⟩ := at_T27 HR0.out x11_1 p176 q176
                cases e176
                replace hx176_0 := (HB.out.cell (World.block_lt_of_cell? w _ hx176_0)).trans hx176_0
                replace hx176_1 := (HB.out.cell (World.block_lt_of_cell? w _ hx176_1)).trans hx176_1
                replace hx176_2 := (HB.out.cell (World.block_lt_of_cell? w _ hx176_2)).trans hx176_2
                replace p176 := eq_true p176
                replace q176 := eq_true q176
                go_wp2_with (first | ((with_reducible refine gate_dst (N := 8) rfl ?_); refine box_event ?hg (N := 8) ?hd (cs := #[.int .i64 0, .string (⟨#[]⟩ : ByteArray), .int .i64 0]) (t := 27) ?hr ?_; (case hd => rfl); (case hg => rfl); (case hr => first | (go_simp; done) | (go_simp; rfl)); intro gb177 hg w11 hbox hb; have n0_ := Aside0.mk (below_step (by repeat (first | (with_reducible first | exact HB.out | apply below_alloc | apply pw_below_drewN | apply below_drew1) | exact HB.out)) hb); have n1_ := Aside0.mk (hbox); have n2_ := Aside0.mk ((by rw [hg]; exact (below_size (by repeat (first | (with_reducible first | exact HB.out | apply below_alloc | apply pw_below_drewN | apply below_drew1) | exact HB.out))) : w.heap.size ≤ gb177)); have n3_ := Aside0.mk ((by rw [hg]; exact (below_size (by repeat (first | (with_reducible first | exact HB.out | apply below_alloc | apply pw_below_drewN | apply below_drew1) | exact HB.out))) : w.heap.size ≤ gb177)); clear HB; have HB := n0_; have BK177 := n1_; have GW177 := n2_; have GE177 := n3_; clear n0_ n1_ n2_ n3_; clear hb hbox hg; have hcz12_0 : w11.cell? ⟨gb177, 0, none⟩ = some (.int .i64 0) := (blk_cell BK177.out 0).trans rfl; have hcz12_1 : w11.cell? ⟨gb177, 1, none⟩ = some (.string (⟨#[]⟩ : ByteArray)) := (blk_cell BK177.out 1).trans rfl; have hcz12_2 : w11.cell? ⟨gb177, 2, none⟩ = some (.int .i64 0) := (blk_cell BK177.out 2).trans rfl; have hfz12_0 := blk_frozen BK177.out 0; have hfz12_1 := blk_frozen BK177.out 1; have hfz12_2 := blk_frozen BK177.out 2))
                go_roundg k1
                case measure => have := HK1.out; omega
                case rel => exact ⟨(wrap64 (x11_1 + 1)), (by first | rfl | (simp; done) | (simp [*]; done)), H', ⟨by have := HK1.out; omega⟩, ⟨by repeat (first | (with_reducible first | exact HB.out | apply below_alloc | apply pw_below_drewN | apply below_drew1 | refine below_set ?_ GE177.out) | exact HB.out)⟩⟩
            · rw [if_neg c7] at H
              have c7b0 : (((rd_T27 l0 x11_1).f0) == a1) = false := beq_eq_false_iff_ne.mpr c7
              have c7b1 : (((rd_T27 l0 x11_1).f0) != a1) = true := bne_iff_ne.mpr c7
              have H' := Aside0.mk H
              clear H
              have p176 : 0 ≤ (x11_1 : Int) := of_decide_eq_true (by first | (with_reducible assumption) | assumption)
              have q176 : x11_1 < (l0.length : Int) := of_decide_eq_true (by first | (with_reducible assumption) | assumption)
              obtain ⟨ad176, e176, hx176_0, hx176_1, hx176_2⟩ := at_T27 HR0.out x11_1 p176 q176
              cases e176
              replace hx176_0 := (HB.out.cell (World.block_lt_of_cell? w _ hx176_0)).trans hx176_0
              replace hx176_1 := (HB.out.cell (World.block_lt_of_cell? w _ hx176_1)).trans hx176_1
              replace hx176_2 := (HB.out.cell (World.block_lt_of_cell? w _ hx176_2)).trans hx176_2
              replace p176 := eq_true p176
              replace q176 := eq_true q176
              go_wp2_with (first | ((with_reducible refine gate_dst (N := 8) rfl ?_); refine box_event ?hg (N := 8) ?hd (cs := #[.int .i64 0, .string (⟨#[]⟩ : ByteArray), .int .i64 0]) (t := 27) ?hr ?_; (case hd => rfl); (case hg => rfl); (case hr => first | (go_simp; done) | (go_simp; rfl)); intro gb177 hg w13 hbox hb; have n0_ := Aside0.mk (below_step (by repeat (first | (with_reducible first | exact HB.out | apply below_alloc | apply pw_below_drewN | apply below_drew1) | exact HB.out)) hb); have n1_ := Aside0.mk (hbox); have n2_ := Aside0.mk ((by rw [hg]; exact (below_size (by repeat (first | (with_reducible first | exact HB.out | apply below_alloc | apply pw_below_drewN | apply below_drew1) | exact HB.out))) : w.heap.size ≤ gb177)); have n3_ := Aside0.mk ((by rw [hg]; exact (below_size (by repeat (first | (with_reducible first | exact HB.out | apply below_alloc | apply pw_below_drewN | apply below_drew1) | exact HB.out))) : w.heap.size ≤ gb177)); clear HB; have HB := n0_; have BK177 := n1_; have GW177 := n2_; have GE177 := n3_; clear n0_ n1_ n2_ n3_; clear hb hbox hg; have hcz14_0 : w13.cell? ⟨gb177, 0, none⟩ = some (.int .i64 0) := (blk_cell BK177.out 0).trans rfl; have hcz14_1 : w13.cell? ⟨gb177, 1, none⟩ = some (.string (⟨#[]⟩ : ByteArray)) := (blk_cell BK177.out 1).trans rfl; have hcz14_2 : w13.cell? ⟨gb177, 2, none⟩ = some (.int .i64 0) := (blk_cell BK177.out 2).trans rfl; have hfz14_0 := blk_frozen BK177.out 0; have hfz14_1 := blk_frozen BK177.out 1; have hfz14_2 := blk_frozen BK177.out 2))
              go_roundg k1
              case measure => have := HK1.out; omega
              case rel => exact ⟨(wrap64 (x11_1 + 1)), (by first | rfl | (simp; done) | (simp [*]; done)), H', ⟨by have := HK1.out; omega⟩, ⟨by repeat (first | (with_reducible first | exact HB.out | apply below_alloc | apply pw_below_drewN | apply below_drew1 | refine below_set ?_ GE177.out) | exact HB.out)⟩⟩
          · rw [if_neg c6] at H
            exact absurd H (by simp)
        · rw [if_neg c5] at H
          exact absurd H (by simp)
      · rw [if_neg c4] at H
        have c4b0 : decide (x11_1 < (l0.length : Int)) = false := decide_eq_false c4
        clear c4
        obtain rfl := Option.some.inj H
        go_wp2
        go_ret
        exact ⟨by first | rfl | (simp [errW_none, errW_some] <;> rfl) | (simp [*, errW_none, errW_some] <;> rfl), by repeat (first | (with_reducible first | exact HB.out | apply below_alloc | apply pw_below_drewN | apply below_drew1) | exact HB.out)⟩

end Go.Proofs.YtefdfgmlmjnmlaaDoor.Rf
end

section
/- The references Bits and great (layer 10) as plain functions. -/
namespace Go.Proofs.YtefdfgmlmjnmlaaDoor.My
open Go.RowKit Go.Proofs.YtefdfgmlmjnmlaaDoorW.PrintWords Go.Proofs.YtefdfgmlmjnmlaaDoor.Rf

theorem bits_l0 (l : List S27) (r : Int) (t : ByteArray) (hl : l.length ≤ 9223372036854775807) : ∀ d i, i + d = l.length →
    Ev (fun k => mortmainref10_Bits.l0 k r t l (l.length : Int) (i : Int)) (bitsR r t (l.drop i)) := by
  intro d
  induction d with
  | zero =>
    intro i hi
    refine Ev.step (f := fun _ => some 0) (fun k => ?_) ?_
    · simp only [mortmainref10_Bits.l0]
      rw [if_neg (by omega)]
    · rw [List.drop_eq_nil_of_le (by omega)]
      exact Ev.now _
  | succ d ih =>
    intro i hi
    have hlt : i < l.length := by omega
    have hd : l.drop i = l.getD i z27 :: l.drop (i + 1) := by
      rw [List.drop_eq_getElem_cons hlt]
      simp [List.getD, List.getElem?_eq_getElem hlt]
    have ihn := ih (i + 1) (by omega)
    rw [hd, bitsR]
    have step : ∀ k, mortmainref10_Bits.l0 (k + 1) r t l (l.length : Int) (i : Int) = if same r t (l.getD i z27) = true then some (l.getD i z27).f2 else mortmainref10_Bits.l0 k r t l (l.length : Int) ((i + 1 : Nat) : Int) := by
      intro k
      simp only [mortmainref10_Bits.l0]
      rw [if_pos (by omega), if_pos (by omega), if_pos (by omega), wrap_next hlt hl, rd27_nat]
      simp only [same, Bool.and_eq_true, beq_iff_eq]
      by_cases h1 : (l.getD i z27).f0 = r
      · by_cases h2 : (l.getD i z27).f1.toList = t.toList
        · simp only [h1, h2, if_true, and_self]
        · simp only [h1, h2, if_true, if_false, and_false]
      · simp only [h1, if_false, false_and]
    cases hs : same r t (l.getD i z27) with
    | true =>
      rw [if_pos rfl]
      refine Ev.step (f := fun _ => some (l.getD i z27).f2) (fun k => ?_) (Ev.now _)
      rw [step k, hs, if_pos rfl]
    | false =>
      rw [if_neg (by decide)]
      refine Ev.step (fun k => ?_) ihn
      rw [step k, hs, if_neg (by decide)]
theorem bits_ev (l : List S27) (r : Int) (t : ByteArray) (hl : l.length ≤ 9223372036854775807) : Ev (fun k => mortmainref10_Bits.f k l r t) (bitsR r t l) := by
  have := bits_l0 l r t hl l.length 0 (by omega)
  rwa [List.drop_zero] at this

theorem great10_l0 (l0 l : List S27) (hl : l.length ≤ 9223372036854775807) : ∀ d i a, i + d = l.length →
    ∃ b, Ev (fun k => mortmainlaw10_great.l0 k l0 a l (l.length : Int) (i : Int)) (decide (80 < l0.length) || b) := by
  intro d
  induction d with
  | zero =>
    intro i a hi
    refine ⟨decide (a > 3000), Ev.step (f := fun _ => some (decide (80 < l0.length) || decide (a > 3000))) (fun k => ?_) (Ev.now _)⟩
    simp only [mortmainlaw10_great.l0]
    rw [if_neg (by omega)]
    by_cases h : 80 < l0.length
    · rw [if_pos (by omega), decide_eq_true h]; rfl
    · rw [if_neg (by omega), decide_eq_false h]; rfl
  | succ d ih =>
    intro i a hi
    have hlt : i < l.length := by omega
    obtain ⟨b, hb⟩ := ih (i + 1) (wrap64 (a + ((rd_T27 l (i : Int)).f1.size : Int))) (by omega)
    refine ⟨b, Ev.step (fun k => ?_) hb⟩
    simp only [mortmainlaw10_great.l0]
    rw [if_pos (by omega), if_pos (by omega), if_pos (by omega), wrap_next hlt hl]
theorem great10_ev (l : List S27) (hl : l.length ≤ 9223372036854775807) : ∃ b, Ev (fun k => mortmainlaw10_great.f k l) (decide (80 < l.length) || b) :=
  great10_l0 l l hl l.length 0 0 (by omega)
end Go.Proofs.YtefdfgmlmjnmlaaDoor.My
end

section
/- GrantMay: its check of itself. -/
namespace Go.Proofs.YtefdfgmlmjnmlaaDoor.My
open Go.RowKit Go.Proofs.YtefdfgmlmjnmlaaDoorW.PrintWords Go.Proofs.YtefdfgmlmjnmlaaDoor.Rf

def tA : S45 := ⟨⟨#[97]⟩, 2, [], []⟩
theorem row1 {α : Type} (d : Kd α) {w : World} {t : TypeId} {x : α} {cs : List Value} (hK : d.K w x cs) (hl : cs.length = d.sz) {g : Nat} (hb : w.heap[g]? = some (.cells cs.toArray t (0, 0))) : Kd.C d w (some ⟨g, 0, none⟩) [x].length [x] := by
  refine ⟨rfl, by simp, fun _ => ⟨⟨g, 0, none⟩, rfl, fun j p hp => ?_⟩⟩
  cases j with
  | succ j => simp at hp
  | zero =>
    simp only [List.getElem?_cons_zero, Option.some.injEq] at hp
    subst hp
    refine ⟨cs, hl, hK, fun i u hu => ?_⟩
    have := blk_cell hb i
    have hu' := this.trans (show cs.toArray[i]? = some u by simpa using hu)
    cases i <;> simpa [Addr.add] using hu'
theorem rowA {g : Nat} (w : World) (hb : w.heap[g]? = some (.cells #[.string ⟨#[97]⟩, .int .i64 2, .slice none 0 0, .slice none 0 0] 45 (0, 0))) : Kd.C k45 w (some ⟨g, 0, none⟩) [tA].length [tA] := by
  refine row1 k45 (k45_mk w tA (A2 := none) (c2 := 0) (A3 := none) (c3 := 0) (by decide) (Kd.C_nil _ _) (by decide) (Kd.C_nil _ _)) rfl hb

theorem mayA {g : Nat} (w : World) (r : Int) (nm : ByteArray) (b : Int) (q : Bool) (hq : mayB [tA] [] r nm b = q) (hb : w.heap[g]? = some (.cells #[.string ⟨#[97]⟩, .int .i64 2, .slice none 0 0, .slice none 0 0] 45 (0, 0))) :
    Calls Tryd.prog 21 #[.agg #[.int .i64 0, .slice (some ⟨g, 0, none⟩) 1 1, .slice none 0 0], .int .i64 r, .string nm, .int .i64 b] w (BoolPost q w) := by
  subst hq
  exact may_calls 0 [tA] (some ⟨g, 0, none⟩) 1 [] none 0 r nm b w (rowA w hb) (Kd.C_nil _ _)

set_option maxRecDepth 100000 in
theorem alive_calls (w : World) : Calls Tryd.prog 12 #[] w (BoolPost true w) := by
  have hk := blk_alloc (blk_new w (.cells #[.string ⟨#[97]⟩, .int .i64 2, .slice none 0 0, .slice none 0 0] 45)) (.cells #[.int .i64 0, .slice (some ⟨w.heap.size, 0, none⟩) 1 1, .slice none 0 0] 25)
  have hk1 := blk_new1 w (.cells #[.string ⟨#[97]⟩, .int .i64 2, .slice none 0 0, .slice none 0 0] 45) (.cells #[.int .i64 0, .slice (some ⟨w.heap.size, 0, none⟩) 1 1, .slice none 0 0] 25)
  have hb := below2 w (.cells #[.string ⟨#[97]⟩, .int .i64 2, .slice none 0 0, .slice none 0 0] 45) (.cells #[.int .i64 0, .slice (some ⟨w.heap.size, 0, none⟩) 1 1, .slice none 0 0] 25)
  have HK := Aside0.mk hk
  have HK1 := Aside0.mk hk1
  have HB := Aside0.mk hb
  clear hk hk1 hb
  go_enter Tryd.func12, Tryd.ntmps12
  go_wp2_with (first
    | (refine (mayA _ 0 ⟨#[98]⟩ 1 false (by kernel_rfl) HK4.out).mono ?_; rintro e w5 ⟨rfl, hb5⟩)
    | (refine (mayA _ 1 ⟨#[97]⟩ 1 false (by kernel_rfl) HK3.out).mono ?_; rintro e w4 ⟨rfl, hb4⟩; have HK4 := Aside0.mk (blk_below HK3.out hb4); have HL4 := Aside0.mk (blk_below HL3.out hb4); have c0 := blk_cell HL4.out 0; have c1 := blk_cell HL4.out 1; have c2 := blk_cell HL4.out 2)
    | (refine (mayA _ 2 ⟨#[97]⟩ 1 true (by kernel_rfl) HK2.out).mono ?_; rintro e w3 ⟨rfl, hb3⟩; have HK3 := Aside0.mk (blk_below HK2.out hb3); have HL3 := Aside0.mk (blk_below HL2.out hb3); have b0 := blk_cell HL3.out 0; have b1 := blk_cell HL3.out 1; have b2 := blk_cell HL3.out 2)
    | (refine (mayA _ 0 ⟨#[97]⟩ 31 true (by kernel_rfl) HK.out).mono ?_; rintro e w2 ⟨rfl, hb2⟩; have HK2 := Aside0.mk (blk_below HK.out hb2); have HL2 := Aside0.mk (blk_below HK1.out hb2); have a0 := blk_cell HL2.out 0; have a1 := blk_cell HL2.out 1; have a2 := blk_cell HL2.out 2))
  go_ret
  exact ⟨rfl, below_step (below_step (below_step (below_step HB.out hb2) hb3) hb4) hb5⟩
end Go.Proofs.YtefdfgmlmjnmlaaDoor.My
end

section
set_option linter.unusedSimpArgs false
set_option linter.unusedVariables false
/- The law GrantOrder: it answers true, of all grants that are read. -/
namespace Go.Proofs.YtefdfgmlmjnmlaaDoor.My
open Go.RowKit Go.Proofs.YtefdfgmlmjnmlaaDoorW.PrintWords Go.Proofs.YtefdfgmlmjnmlaaDoor.Rf
open Go.Proofs.YtefdfgmlmjnmlaaDoorW.PrintLast Go.Proofs.YtefdfgmlmjnmlaaDoorW.PrintMore
attribute [local go_sem high] eqA27

set_option maxRecDepth 100000 in
theorem or_nat32 : ∀ n : Fin 32, ∀ m : Fin 32, Go.bits .or .i64 (n.val : Int) (m.val : Int) = ((n.val ||| m.val : Nat) : Int) := by decide +kernel
theorem or_nat {n m : Nat} (hn : n < 32) (hm : m < 32) : Go.bits .or .i64 (n : Int) (m : Int) = ((n ||| m : Nat) : Int) := or_nat32 ⟨n, hn⟩ ⟨m, hm⟩
theorem or_lt {n m : Nat} (hn : n < 32) (hm : m < 32) : n ||| m < 32 := Nat.or_lt_two_pow (n := 5) hn hm
theorem or_swap {h x y : Int} (h0 : 0 ≤ h) (h1 : h ≤ 31) (x0 : 0 ≤ x) (x1 : x ≤ 31) (y0 : 0 ≤ y) (y1 : y ≤ 31) :
    Go.bits .or .i64 (Go.bits .or .i64 h x) y = Go.bits .or .i64 (Go.bits .or .i64 h y) x := by
  obtain ⟨h, rfl⟩ := Int.eq_ofNat_of_zero_le h0
  obtain ⟨x, rfl⟩ := Int.eq_ofNat_of_zero_le x0
  obtain ⟨y, rfl⟩ := Int.eq_ofNat_of_zero_le y0
  rw [or_nat (by omega) (by omega), or_nat (or_lt (by omega) (by omega)) (by omega), or_nat (n := h) (m := y) (by omega) (by omega), or_nat (or_lt (by omega) (by omega)) (by omega), Nat.or_assoc, Nat.or_assoc, Nat.or_comm x y]
theorem or_again {h x : Int} (h0 : 0 ≤ h) (h1 : h ≤ 31) (x0 : 0 ≤ x) (x1 : x ≤ 31) :
    Go.bits .or .i64 (Go.bits .or .i64 h x) x = Go.bits .or .i64 h x := by
  obtain ⟨h, rfl⟩ := Int.eq_ofNat_of_zero_le h0
  obtain ⟨x, rfl⟩ := Int.eq_ofNat_of_zero_le x0
  rw [or_nat (by omega) (by omega), or_nat (or_lt (by omega) (by omega)) (by omega), Nat.or_assoc, Nat.or_self]
theorem put_comm {l : List S27} {a b : S27} (h : Good64 l) (ga : goodG a = true) (gb : goodG b = true) (hl : l.length ≤ 60) : putL (putL l b) a = putL (putL l a) b := by
  have h1 := put_good h ga (.inr (by omega))
  have h3 := put_good h gb (.inr (by omega))
  have l1 := put_len l a
  have l3 := put_len l b
  have h2 := put_good h1 gb (.inr (by omega))
  have h4 := put_good h3 ga (.inr (by omega))
  obtain ⟨_, _, _, a0, a1⟩ := good_parts ga
  obtain ⟨_, _, _, b0, b1⟩ := good_parts gb
  refine same_bits h4.rise h4.good h2.rise h2.good (fun r t => ?_)
  obtain ⟨r0, r1⟩ := bits_range h.good r t
  rw [put_bits h3 ga, put_bits h gb, put_bits h1 gb, put_bits h ga]
  cases same r t a <;> cases same r t b <;> simp
  exact or_swap r0 r1 (by omega) b1 (by omega) a1
theorem put_again {l : List S27} {a b : S27} (h : Good64 l) (ga : goodG a = true) (gb : goodG b = true) (hl : l.length ≤ 60) : putL (putL (putL l a) b) a = putL (putL l a) b := by
  have h1 := put_good h ga (.inr (by omega))
  have l1 := put_len l a
  have h2 := put_good h1 gb (.inr (by omega))
  have l2 := put_len (putL l a) b
  have h3 := put_good h2 ga (.inr (by omega))
  obtain ⟨_, _, _, a0, a1⟩ := good_parts ga
  obtain ⟨_, _, _, b0, b1⟩ := good_parts gb
  refine same_bits h3.rise h3.good h2.rise h2.good (fun r t => ?_)
  obtain ⟨r0, r1⟩ := bits_range h.good r t
  have ro := or_range r0 r1 (Int.le_of_lt a0) a1
  rw [put_bits h2 ga, put_bits h1 gb, put_bits h ga]
  cases same r t a <;> cases same r t b <;> simp
  · exact or_again r0 r1 (by omega) a1
  · rw [or_swap (by omega) ro.2 (by omega) b1 (by omega) a1, or_again r0 r1 (by omega) a1]
set_option maxHeartbeats 4000000 in
set_option maxRecDepth 100000 in
theorem order_great (l : List S27) (A : Option Addr) (c : Nat) (a b : S27) (w : World) (hr : Kd.C k27 w A l.length l) (hc : l.length ≤ c) (hT : Tabs w) (has : a.f1.size ≤ 9223372036854775807) (hbs : b.f1.size ≤ 9223372036854775807) (kG : Nat) (hG : Aside0 (mortmainlaw10_great.f kG l = some true)) :
    Calls Tryd.prog 7 #[.slice A l.length c, .agg #[.int .i64 a.f0, .string a.f1, .int .i64 a.f2], .agg #[.int .i64 b.f0, .string b.f1, .int .i64 b.f2]] w (BoolPost true w) := by
  have hnl : l.length ≤ 9223372036854775807 := hr.2.1
  have HC := Aside0.mk hc
  have b1 := below2 w (.cells #[.int .i64 a.f0, .string a.f1, .int .i64 a.f2] 27) (.cells #[.int .i64 b.f0, .string b.f1, .int .i64 b.f2] 27)
  have HB := Aside0.mk b1
  have HT := Aside0.mk (hT.below b1)
  have HR := Aside0.mk (Kd.C_below hr b1)
  have HK := Aside0.mk (blk_alloc (blk_new w (.cells #[.int .i64 a.f0, .string a.f1, .int .i64 a.f2] 27)) (.cells #[.int .i64 b.f0, .string b.f1, .int .i64 b.f2] 27))
  have HL := Aside0.mk (blk_new1 w (.cells #[.int .i64 a.f0, .string a.f1, .int .i64 a.f2] 27) (.cells #[.int .i64 b.f0, .string b.f1, .int .i64 b.f2] 27))
  clear hr hc hT b1
  go_enter Tryd.func7, Tryd.ntmps7
  go_wp2_with (first
    | (go_at_call 12; refine (alive_calls _).mono ?_; rintro e w2 ⟨rfl, hb2⟩; have HK2 := Aside0.mk (blk_below HK.out hb2); have HL2 := Aside0.mk (blk_below HL.out hb2); have HR2 := Aside0.mk (Kd.C_below HR.out hb2); have HB2 := Aside0.mk (below_step HB.out hb2); have HT2 := Aside0.mk (HT.out.below hb2))
    | (go_at_call 23; refine (mortmainlaw10_great.calls kG A c l true _ HR2.out HC.out hG.out).mono ?_; rintro e w3 ⟨rfl, hb3⟩; have HK3 := Aside0.mk (blk_below HK2.out hb3); have HL3 := Aside0.mk (blk_below HL2.out hb3); have HR3 := Aside0.mk (Kd.C_below HR2.out hb3); have HB3 := Aside0.mk (below_step HB2.out hb3); have HT3 := Aside0.mk (HT2.out.below hb3); have a0 := blk_cell HK3.out 0; have a1 := blk_cell HK3.out 1; have a2 := blk_cell HK3.out 2; have b0 := blk_cell HL3.out 0; have b1 := blk_cell HL3.out 1; have b2 := blk_cell HL3.out 2))
  go_ret
  exact ⟨rfl, HB3.out⟩

set_option maxHeartbeats 4000000 in
set_option maxRecDepth 100000 in
theorem order_long (l : List S27) (A : Option Addr) (c : Nat) (a b : S27) (w : World) (hr : Kd.C k27 w A l.length l) (hc : l.length ≤ c) (hT : Tabs w) (has : a.f1.size ≤ 9223372036854775807) (hbs : b.f1.size ≤ 9223372036854775807) (kG : Nat) (hG : Aside0 (mortmainlaw10_great.f kG l = some false)) (hlen : decide (200 < wrap64 ((a.f1.size : Int) + (b.f1.size : Int))) = true) :
    Calls Tryd.prog 7 #[.slice A l.length c, .agg #[.int .i64 a.f0, .string a.f1, .int .i64 a.f2], .agg #[.int .i64 b.f0, .string b.f1, .int .i64 b.f2]] w (BoolPost true w) := by
  have hnl : l.length ≤ 9223372036854775807 := hr.2.1
  have HC := Aside0.mk hc
  have b1 := below2 w (.cells #[.int .i64 a.f0, .string a.f1, .int .i64 a.f2] 27) (.cells #[.int .i64 b.f0, .string b.f1, .int .i64 b.f2] 27)
  have HB := Aside0.mk b1
  have HT := Aside0.mk (hT.below b1)
  have HR := Aside0.mk (Kd.C_below hr b1)
  have HK := Aside0.mk (blk_alloc (blk_new w (.cells #[.int .i64 a.f0, .string a.f1, .int .i64 a.f2] 27)) (.cells #[.int .i64 b.f0, .string b.f1, .int .i64 b.f2] 27))
  have HL := Aside0.mk (blk_new1 w (.cells #[.int .i64 a.f0, .string a.f1, .int .i64 a.f2] 27) (.cells #[.int .i64 b.f0, .string b.f1, .int .i64 b.f2] 27))
  clear hr hc hT b1
  go_enter Tryd.func7, Tryd.ntmps7
  go_wp2_with (first
    | (go_at_call 12; refine (alive_calls _).mono ?_; rintro e w2 ⟨rfl, hb2⟩; have HK2 := Aside0.mk (blk_below HK.out hb2); have HL2 := Aside0.mk (blk_below HL.out hb2); have HR2 := Aside0.mk (Kd.C_below HR.out hb2); have HB2 := Aside0.mk (below_step HB.out hb2); have HT2 := Aside0.mk (HT.out.below hb2))
    | (go_at_call 23; refine (mortmainlaw10_great.calls kG A c l false _ HR2.out HC.out hG.out).mono ?_; rintro e w3 ⟨rfl, hb3⟩; have HK3 := Aside0.mk (blk_below HK2.out hb3); have HL3 := Aside0.mk (blk_below HL2.out hb3); have HR3 := Aside0.mk (Kd.C_below HR2.out hb3); have HB3 := Aside0.mk (below_step HB2.out hb3); have HT3 := Aside0.mk (HT2.out.below hb3); have a0 := blk_cell HK3.out 0; have a1 := blk_cell HK3.out 1; have a2 := blk_cell HK3.out 2; have b0 := blk_cell HL3.out 0; have b1 := blk_cell HL3.out 1; have b2 := blk_cell HL3.out 2))
  go_ret
  exact ⟨rfl, HB3.out⟩

set_option maxHeartbeats 4000000 in
set_option maxRecDepth 100000 in
theorem order_unsorted (l : List S27) (A : Option Addr) (c : Nat) (a b : S27) (w : World) (hr : Kd.C k27 w A l.length l) (hc : l.length ≤ c) (hT : Tabs w) (has : a.f1.size ≤ 9223372036854775807) (hbs : b.f1.size ≤ 9223372036854775807) (kG : Nat) (hG : Aside0 (mortmainlaw10_great.f kG l = some false)) (kS : Nat) (hS : Aside0 (mortmainref10_Sorted.f kS l = some false)) (hlen : decide (200 < wrap64 ((a.f1.size : Int) + (b.f1.size : Int))) = false) :
    Calls Tryd.prog 7 #[.slice A l.length c, .agg #[.int .i64 a.f0, .string a.f1, .int .i64 a.f2], .agg #[.int .i64 b.f0, .string b.f1, .int .i64 b.f2]] w (BoolPost true w) := by
  have hnl : l.length ≤ 9223372036854775807 := hr.2.1
  have HC := Aside0.mk hc
  have b1 := below2 w (.cells #[.int .i64 a.f0, .string a.f1, .int .i64 a.f2] 27) (.cells #[.int .i64 b.f0, .string b.f1, .int .i64 b.f2] 27)
  have HB := Aside0.mk b1
  have HT := Aside0.mk (hT.below b1)
  have HR := Aside0.mk (Kd.C_below hr b1)
  have HK := Aside0.mk (blk_alloc (blk_new w (.cells #[.int .i64 a.f0, .string a.f1, .int .i64 a.f2] 27)) (.cells #[.int .i64 b.f0, .string b.f1, .int .i64 b.f2] 27))
  have HL := Aside0.mk (blk_new1 w (.cells #[.int .i64 a.f0, .string a.f1, .int .i64 a.f2] 27) (.cells #[.int .i64 b.f0, .string b.f1, .int .i64 b.f2] 27))
  clear hr hc hT b1
  go_enter Tryd.func7, Tryd.ntmps7
  go_wp2_with (first
    | (go_at_call 12; refine (alive_calls _).mono ?_; rintro e w2 ⟨rfl, hb2⟩; have HK2 := Aside0.mk (blk_below HK.out hb2); have HL2 := Aside0.mk (blk_below HL.out hb2); have HR2 := Aside0.mk (Kd.C_below HR.out hb2); have HB2 := Aside0.mk (below_step HB.out hb2); have HT2 := Aside0.mk (HT.out.below hb2))
    | (go_at_call 23; refine (mortmainlaw10_great.calls kG A c l false _ HR2.out HC.out hG.out).mono ?_; rintro e w3 ⟨rfl, hb3⟩; have HK3 := Aside0.mk (blk_below HK2.out hb3); have HL3 := Aside0.mk (blk_below HL2.out hb3); have HR3 := Aside0.mk (Kd.C_below HR2.out hb3); have HB3 := Aside0.mk (below_step HB2.out hb3); have HT3 := Aside0.mk (HT2.out.below hb3); have a0 := blk_cell HK3.out 0; have a1 := blk_cell HK3.out 1; have a2 := blk_cell HK3.out 2; have b0 := blk_cell HL3.out 0; have b1 := blk_cell HL3.out 1; have b2 := blk_cell HL3.out 2)
    | (go_at_call 14; refine (mortmainref10_Sorted.calls kS A c l false _ HR3.out HC.out hS.out).mono ?_; rintro e w4 ⟨rfl, hb4⟩; have HK4 := Aside0.mk (blk_below HK3.out hb4); have HL4 := Aside0.mk (blk_below HL3.out hb4); have HR4 := Aside0.mk (Kd.C_below HR3.out hb4); have HB4 := Aside0.mk (below_step HB3.out hb4); have HT4 := Aside0.mk (HT3.out.below hb4); clear a0 a1 a2 b0 b1 b2; have a0 := blk_cell HK4.out 0; have a1 := blk_cell HK4.out 1; have a2 := blk_cell HK4.out 2; have b0 := blk_cell HL4.out 0; have b1 := blk_cell HL4.out 1; have b2 := blk_cell HL4.out 2))
  go_ret
  exact ⟨rfl, HB4.out⟩

set_option maxHeartbeats 4000000 in
set_option maxRecDepth 100000 in
theorem order_many (l : List S27) (A : Option Addr) (c : Nat) (a b : S27) (w : World) (hr : Kd.C k27 w A l.length l) (hc : l.length ≤ c) (hT : Tabs w) (has : a.f1.size ≤ 9223372036854775807) (hbs : b.f1.size ≤ 9223372036854775807) (kG : Nat) (hG : Aside0 (mortmainlaw10_great.f kG l = some false)) (kS : Nat) (hS : Aside0 (mortmainref10_Sorted.f kS l = some true)) (hlen : decide (200 < wrap64 ((a.f1.size : Int) + (b.f1.size : Int))) = false) (h60' : decide ((60 : Int) < (l.length : Int)) = true) :
    Calls Tryd.prog 7 #[.slice A l.length c, .agg #[.int .i64 a.f0, .string a.f1, .int .i64 a.f2], .agg #[.int .i64 b.f0, .string b.f1, .int .i64 b.f2]] w (BoolPost true w) := by
  have hnl : l.length ≤ 9223372036854775807 := hr.2.1
  have HC := Aside0.mk hc
  have b1 := below2 w (.cells #[.int .i64 a.f0, .string a.f1, .int .i64 a.f2] 27) (.cells #[.int .i64 b.f0, .string b.f1, .int .i64 b.f2] 27)
  have HB := Aside0.mk b1
  have HT := Aside0.mk (hT.below b1)
  have HR := Aside0.mk (Kd.C_below hr b1)
  have HK := Aside0.mk (blk_alloc (blk_new w (.cells #[.int .i64 a.f0, .string a.f1, .int .i64 a.f2] 27)) (.cells #[.int .i64 b.f0, .string b.f1, .int .i64 b.f2] 27))
  have HL := Aside0.mk (blk_new1 w (.cells #[.int .i64 a.f0, .string a.f1, .int .i64 a.f2] 27) (.cells #[.int .i64 b.f0, .string b.f1, .int .i64 b.f2] 27))
  clear hr hc hT b1
  go_enter Tryd.func7, Tryd.ntmps7
  go_wp2_with (first
    | (go_at_call 12; refine (alive_calls _).mono ?_; rintro e w2 ⟨rfl, hb2⟩; have HK2 := Aside0.mk (blk_below HK.out hb2); have HL2 := Aside0.mk (blk_below HL.out hb2); have HR2 := Aside0.mk (Kd.C_below HR.out hb2); have HB2 := Aside0.mk (below_step HB.out hb2); have HT2 := Aside0.mk (HT.out.below hb2))
    | (go_at_call 23; refine (mortmainlaw10_great.calls kG A c l false _ HR2.out HC.out hG.out).mono ?_; rintro e w3 ⟨rfl, hb3⟩; have HK3 := Aside0.mk (blk_below HK2.out hb3); have HL3 := Aside0.mk (blk_below HL2.out hb3); have HR3 := Aside0.mk (Kd.C_below HR2.out hb3); have HB3 := Aside0.mk (below_step HB2.out hb3); have HT3 := Aside0.mk (HT2.out.below hb3); have a0 := blk_cell HK3.out 0; have a1 := blk_cell HK3.out 1; have a2 := blk_cell HK3.out 2; have b0 := blk_cell HL3.out 0; have b1 := blk_cell HL3.out 1; have b2 := blk_cell HL3.out 2)
    | (go_at_call 14; refine (mortmainref10_Sorted.calls kS A c l true _ HR3.out HC.out hS.out).mono ?_; rintro e w4 ⟨rfl, hb4⟩; have HK4 := Aside0.mk (blk_below HK3.out hb4); have HL4 := Aside0.mk (blk_below HL3.out hb4); have HR4 := Aside0.mk (Kd.C_below HR3.out hb4); have HB4 := Aside0.mk (below_step HB3.out hb4); have HT4 := Aside0.mk (HT3.out.below hb4); clear a0 a1 a2 b0 b1 b2; have a0 := blk_cell HK4.out 0; have a1 := blk_cell HK4.out 1; have a2 := blk_cell HK4.out 2; have b0 := blk_cell HL4.out 0; have b1 := blk_cell HL4.out 1; have b2 := blk_cell HL4.out 2))
  go_ret
  exact ⟨rfl, HB4.out⟩

set_option maxHeartbeats 4000000 in
set_option maxRecDepth 100000 in
theorem order_badA (l : List S27) (A : Option Addr) (c : Nat) (a b : S27) (w : World) (hr : Kd.C k27 w A l.length l) (hc : l.length ≤ c) (hT : Tabs w) (has : a.f1.size ≤ 9223372036854775807) (hbs : b.f1.size ≤ 9223372036854775807) (kG : Nat) (hG : Aside0 (mortmainlaw10_great.f kG l = some false)) (kS : Nat) (hS : Aside0 (mortmainref10_Sorted.f kS l = some true)) (hlen : decide (200 < wrap64 ((a.f1.size : Int) + (b.f1.size : Int))) = false) (h60' : decide ((60 : Int) < (l.length : Int)) = false) (kA : Nat) (hA : Aside0 (mortmainref10_Good.f kA a.f0 a.f1 a.f2 = some false)) :
    Calls Tryd.prog 7 #[.slice A l.length c, .agg #[.int .i64 a.f0, .string a.f1, .int .i64 a.f2], .agg #[.int .i64 b.f0, .string b.f1, .int .i64 b.f2]] w (BoolPost true w) := by
  have hnl : l.length ≤ 9223372036854775807 := hr.2.1
  have HC := Aside0.mk hc
  have b1 := below2 w (.cells #[.int .i64 a.f0, .string a.f1, .int .i64 a.f2] 27) (.cells #[.int .i64 b.f0, .string b.f1, .int .i64 b.f2] 27)
  have HB := Aside0.mk b1
  have HT := Aside0.mk (hT.below b1)
  have HR := Aside0.mk (Kd.C_below hr b1)
  have HK := Aside0.mk (blk_alloc (blk_new w (.cells #[.int .i64 a.f0, .string a.f1, .int .i64 a.f2] 27)) (.cells #[.int .i64 b.f0, .string b.f1, .int .i64 b.f2] 27))
  have HL := Aside0.mk (blk_new1 w (.cells #[.int .i64 a.f0, .string a.f1, .int .i64 a.f2] 27) (.cells #[.int .i64 b.f0, .string b.f1, .int .i64 b.f2] 27))
  clear hr hc hT b1
  go_enter Tryd.func7, Tryd.ntmps7
  go_wp2_with (first
    | (go_at_call 12; refine (alive_calls _).mono ?_; rintro e w2 ⟨rfl, hb2⟩; have HK2 := Aside0.mk (blk_below HK.out hb2); have HL2 := Aside0.mk (blk_below HL.out hb2); have HR2 := Aside0.mk (Kd.C_below HR.out hb2); have HB2 := Aside0.mk (below_step HB.out hb2); have HT2 := Aside0.mk (HT.out.below hb2))
    | (go_at_call 23; refine (mortmainlaw10_great.calls kG A c l false _ HR2.out HC.out hG.out).mono ?_; rintro e w3 ⟨rfl, hb3⟩; have HK3 := Aside0.mk (blk_below HK2.out hb3); have HL3 := Aside0.mk (blk_below HL2.out hb3); have HR3 := Aside0.mk (Kd.C_below HR2.out hb3); have HB3 := Aside0.mk (below_step HB2.out hb3); have HT3 := Aside0.mk (HT2.out.below hb3); have a0 := blk_cell HK3.out 0; have a1 := blk_cell HK3.out 1; have a2 := blk_cell HK3.out 2; have b0 := blk_cell HL3.out 0; have b1 := blk_cell HL3.out 1; have b2 := blk_cell HL3.out 2)
    | (go_at_call 14; refine (mortmainref10_Sorted.calls kS A c l true _ HR3.out HC.out hS.out).mono ?_; rintro e w4 ⟨rfl, hb4⟩; have HK4 := Aside0.mk (blk_below HK3.out hb4); have HL4 := Aside0.mk (blk_below HL3.out hb4); have HR4 := Aside0.mk (Kd.C_below HR3.out hb4); have HB4 := Aside0.mk (below_step HB3.out hb4); have HT4 := Aside0.mk (HT3.out.below hb4); clear a0 a1 a2 b0 b1 b2; have a0 := blk_cell HK4.out 0; have a1 := blk_cell HK4.out 1; have a2 := blk_cell HK4.out 2; have b0 := blk_cell HL4.out 0; have b1 := blk_cell HL4.out 1; have b2 := blk_cell HL4.out 2)
    | (go_at_call 17; refine (mortmainref10_Good.calls kA a.f0 a.f1 a.f2 _ _ hA.out).mono ?_; rintro e w5 ⟨rfl, hb5⟩; have HK5 := Aside0.mk (blk_below HK4.out hb5); have HL5 := Aside0.mk (blk_below HL4.out hb5); have HR5 := Aside0.mk (Kd.C_below HR4.out hb5); have HB5 := Aside0.mk (below_step HB4.out hb5); have HT5 := Aside0.mk (HT4.out.below hb5); clear a0 a1 a2 b0 b1 b2; have a0 := blk_cell HK5.out 0; have a1 := blk_cell HK5.out 1; have a2 := blk_cell HK5.out 2; have b0 := blk_cell HL5.out 0; have b1 := blk_cell HL5.out 1; have b2 := blk_cell HL5.out 2))
  go_ret
  exact ⟨rfl, HB5.out⟩

set_option maxHeartbeats 4000000 in
set_option maxRecDepth 100000 in
theorem order_badB (l : List S27) (A : Option Addr) (c : Nat) (a b : S27) (w : World) (hr : Kd.C k27 w A l.length l) (hc : l.length ≤ c) (hT : Tabs w) (has : a.f1.size ≤ 9223372036854775807) (hbs : b.f1.size ≤ 9223372036854775807) (kG : Nat) (hG : Aside0 (mortmainlaw10_great.f kG l = some false)) (kS : Nat) (hS : Aside0 (mortmainref10_Sorted.f kS l = some true)) (hlen : decide (200 < wrap64 ((a.f1.size : Int) + (b.f1.size : Int))) = false) (h60' : decide ((60 : Int) < (l.length : Int)) = false) (kA : Nat) (hA : Aside0 (mortmainref10_Good.f kA a.f0 a.f1 a.f2 = some true)) (kB : Nat) (hB : Aside0 (mortmainref10_Good.f kB b.f0 b.f1 b.f2 = some false)) :
    Calls Tryd.prog 7 #[.slice A l.length c, .agg #[.int .i64 a.f0, .string a.f1, .int .i64 a.f2], .agg #[.int .i64 b.f0, .string b.f1, .int .i64 b.f2]] w (BoolPost true w) := by
  have hnl : l.length ≤ 9223372036854775807 := hr.2.1
  have HC := Aside0.mk hc
  have b1 := below2 w (.cells #[.int .i64 a.f0, .string a.f1, .int .i64 a.f2] 27) (.cells #[.int .i64 b.f0, .string b.f1, .int .i64 b.f2] 27)
  have HB := Aside0.mk b1
  have HT := Aside0.mk (hT.below b1)
  have HR := Aside0.mk (Kd.C_below hr b1)
  have HK := Aside0.mk (blk_alloc (blk_new w (.cells #[.int .i64 a.f0, .string a.f1, .int .i64 a.f2] 27)) (.cells #[.int .i64 b.f0, .string b.f1, .int .i64 b.f2] 27))
  have HL := Aside0.mk (blk_new1 w (.cells #[.int .i64 a.f0, .string a.f1, .int .i64 a.f2] 27) (.cells #[.int .i64 b.f0, .string b.f1, .int .i64 b.f2] 27))
  clear hr hc hT b1
  go_enter Tryd.func7, Tryd.ntmps7
  go_wp2_with (first
    | (go_at_call 12; refine (alive_calls _).mono ?_; rintro e w2 ⟨rfl, hb2⟩; have HK2 := Aside0.mk (blk_below HK.out hb2); have HL2 := Aside0.mk (blk_below HL.out hb2); have HR2 := Aside0.mk (Kd.C_below HR.out hb2); have HB2 := Aside0.mk (below_step HB.out hb2); have HT2 := Aside0.mk (HT.out.below hb2))
    | (go_at_call 23; refine (mortmainlaw10_great.calls kG A c l false _ HR2.out HC.out hG.out).mono ?_; rintro e w3 ⟨rfl, hb3⟩; have HK3 := Aside0.mk (blk_below HK2.out hb3); have HL3 := Aside0.mk (blk_below HL2.out hb3); have HR3 := Aside0.mk (Kd.C_below HR2.out hb3); have HB3 := Aside0.mk (below_step HB2.out hb3); have HT3 := Aside0.mk (HT2.out.below hb3); have a0 := blk_cell HK3.out 0; have a1 := blk_cell HK3.out 1; have a2 := blk_cell HK3.out 2; have b0 := blk_cell HL3.out 0; have b1 := blk_cell HL3.out 1; have b2 := blk_cell HL3.out 2)
    | (go_at_call 14; refine (mortmainref10_Sorted.calls kS A c l true _ HR3.out HC.out hS.out).mono ?_; rintro e w4 ⟨rfl, hb4⟩; have HK4 := Aside0.mk (blk_below HK3.out hb4); have HL4 := Aside0.mk (blk_below HL3.out hb4); have HR4 := Aside0.mk (Kd.C_below HR3.out hb4); have HB4 := Aside0.mk (below_step HB3.out hb4); have HT4 := Aside0.mk (HT3.out.below hb4); clear a0 a1 a2 b0 b1 b2; have a0 := blk_cell HK4.out 0; have a1 := blk_cell HK4.out 1; have a2 := blk_cell HK4.out 2; have b0 := blk_cell HL4.out 0; have b1 := blk_cell HL4.out 1; have b2 := blk_cell HL4.out 2)
    | (go_at_call 17; have hx := HK5.out; refine (mortmainref10_Good.calls kB b.f0 b.f1 b.f2 _ _ hB.out).mono ?_; rintro e w6 ⟨rfl, hb6⟩; clear hx; have HK6 := Aside0.mk (blk_below HK5.out hb6); have HL6 := Aside0.mk (blk_below HL5.out hb6); have HR6 := Aside0.mk (Kd.C_below HR5.out hb6); have HB6 := Aside0.mk (below_step HB5.out hb6); have HT6 := Aside0.mk (HT5.out.below hb6); clear a0 a1 a2 b0 b1 b2; have a0 := blk_cell HK6.out 0; have a1 := blk_cell HK6.out 1; have a2 := blk_cell HK6.out 2; have b0 := blk_cell HL6.out 0; have b1 := blk_cell HL6.out 1; have b2 := blk_cell HL6.out 2)
    | (go_at_call 17; refine (mortmainref10_Good.calls kA a.f0 a.f1 a.f2 _ _ hA.out).mono ?_; rintro e w5 ⟨rfl, hb5⟩; have HK5 := Aside0.mk (blk_below HK4.out hb5); have HL5 := Aside0.mk (blk_below HL4.out hb5); have HR5 := Aside0.mk (Kd.C_below HR4.out hb5); have HB5 := Aside0.mk (below_step HB4.out hb5); have HT5 := Aside0.mk (HT4.out.below hb5); clear a0 a1 a2 b0 b1 b2; have a0 := blk_cell HK5.out 0; have a1 := blk_cell HK5.out 1; have a2 := blk_cell HK5.out 2; have b0 := blk_cell HL5.out 0; have b1 := blk_cell HL5.out 1; have b2 := blk_cell HL5.out 2))
  go_ret
  exact ⟨rfl, HB6.out⟩


structure OrdP (l : List S27) (a b : S27) (L1 L2 L3 : List S27) : Prop where
  E1 : putL l a = L1
  E2 : putL L1 b = L2
  E3 : putL l b = L3
  E4 : putL L3 a = L2
  E5 : putL L2 a = L2
  G0a : InG l a
  G0b : InG l b
  G1 : InG L1 b
  G2 : InG L2 a
  G3 : InG L3 a
theorem ord_p {l : List S27} {a b : S27} (h64 : Good64 l) (ga : goodG a = true) (gb : goodG b = true) (hl : l.length ≤ 60) : ∃ L1 L2 L3, OrdP l a b L1 L2 L3 := by
  have l1 := put_len l a
  have l3 := put_len l b
  have l2 := put_len (putL l a) b
  have g1 := put_good h64 ga (.inr (by omega))
  have g3 := put_good h64 gb (.inr (by omega))
  have g2 := put_good g1 gb (.inr (by omega))
  exact ⟨putL l a, putL (putL l a) b, putL l b, rfl, rfl, rfl, put_comm h64 ga gb hl, put_again h64 ga gb hl, ⟨h64, .inr (by omega)⟩, ⟨h64, .inr (by omega)⟩, ⟨g1, .inr (by omega)⟩, ⟨g2, .inr (by omega)⟩, ⟨g3, .inr (by omega)⟩⟩
set_option maxHeartbeats 4000000 in
set_option maxRecDepth 100000 in
theorem order_main (l : List S27) (A : Option Addr) (c : Nat) (a b : S27) (w : World) (hr : Kd.C k27 w A l.length l) (hc : l.length ≤ c) (hT : Tabs w) (has : a.f1.size ≤ 9223372036854775807) (hbs : b.f1.size ≤ 9223372036854775807) (kG : Nat) (hG : Aside0 (mortmainlaw10_great.f kG l = some false)) (kS : Nat) (hS : Aside0 (mortmainref10_Sorted.f kS l = some true)) (hlen : decide (200 < wrap64 ((a.f1.size : Int) + (b.f1.size : Int))) = false) (h60' : decide ((60 : Int) < (l.length : Int)) = false) (kA : Nat) (hA : Aside0 (mortmainref10_Good.f kA a.f0 a.f1 a.f2 = some true)) (kB : Nat) (hB : Aside0 (mortmainref10_Good.f kB b.f0 b.f1 b.f2 = some true)) (ga : goodG a = true) (gb : goodG b = true) (L1 L2 L3 : List S27) (HP : Aside0 (OrdP l a b L1 L2 L3)) :
    Calls Tryd.prog 7 #[.slice A l.length c, .agg #[.int .i64 a.f0, .string a.f1, .int .i64 a.f2], .agg #[.int .i64 b.f0, .string b.f1, .int .i64 b.f2]] w (BoolPost true w) := by
  have hnl : l.length ≤ 9223372036854775807 := hr.2.1
  have HC := Aside0.mk hc
  have b1 := below2 w (.cells #[.int .i64 a.f0, .string a.f1, .int .i64 a.f2] 27) (.cells #[.int .i64 b.f0, .string b.f1, .int .i64 b.f2] 27)
  have HB := Aside0.mk b1
  have HT := Aside0.mk (hT.below b1)
  have HR := Aside0.mk (Kd.C_below hr b1)
  have HK := Aside0.mk (blk_alloc (blk_new w (.cells #[.int .i64 a.f0, .string a.f1, .int .i64 a.f2] 27)) (.cells #[.int .i64 b.f0, .string b.f1, .int .i64 b.f2] 27))
  have HL := Aside0.mk (blk_new1 w (.cells #[.int .i64 a.f0, .string a.f1, .int .i64 a.f2] 27) (.cells #[.int .i64 b.f0, .string b.f1, .int .i64 b.f2] 27))
  clear hr hc hT b1
  go_enter Tryd.func7, Tryd.ntmps7
  go_wp2_with (first
    | (go_at_call 12; refine (alive_calls _).mono ?_; rintro e w2 ⟨rfl, hb2⟩; have HK2 := Aside0.mk (blk_below HK.out hb2); have HL2 := Aside0.mk (blk_below HL.out hb2); have HR2 := Aside0.mk (Kd.C_below HR.out hb2); have HB2 := Aside0.mk (below_step HB.out hb2); have HT2 := Aside0.mk (HT.out.below hb2))
    | (go_at_call 23; refine (mortmainlaw10_great.calls kG A c l false _ HR2.out HC.out hG.out).mono ?_; rintro e w3 ⟨rfl, hb3⟩; have HK3 := Aside0.mk (blk_below HK2.out hb3); have HL3 := Aside0.mk (blk_below HL2.out hb3); have HR3 := Aside0.mk (Kd.C_below HR2.out hb3); have HB3 := Aside0.mk (below_step HB2.out hb3); have HT3 := Aside0.mk (HT2.out.below hb3); have a0 := blk_cell HK3.out 0; have a1 := blk_cell HK3.out 1; have a2 := blk_cell HK3.out 2; have b0 := blk_cell HL3.out 0; have b1 := blk_cell HL3.out 1; have b2 := blk_cell HL3.out 2)
    | (go_at_call 14; refine (mortmainref10_Sorted.calls kS A c l true _ HR3.out HC.out hS.out).mono ?_; rintro e w4 ⟨rfl, hb4⟩; have HK4 := Aside0.mk (blk_below HK3.out hb4); have HL4 := Aside0.mk (blk_below HL3.out hb4); have HR4 := Aside0.mk (Kd.C_below HR3.out hb4); have HB4 := Aside0.mk (below_step HB3.out hb4); have HT4 := Aside0.mk (HT3.out.below hb4); clear a0 a1 a2 b0 b1 b2; have a0 := blk_cell HK4.out 0; have a1 := blk_cell HK4.out 1; have a2 := blk_cell HK4.out 2; have b0 := blk_cell HL4.out 0; have b1 := blk_cell HL4.out 1; have b2 := blk_cell HL4.out 2)
    | (go_at_call 17; have hx := HK5.out; refine (mortmainref10_Good.calls kB b.f0 b.f1 b.f2 _ _ hB.out).mono ?_; rintro e w6 ⟨rfl, hb6⟩; clear hx; have HK6 := Aside0.mk (blk_below HK5.out hb6); have HL6 := Aside0.mk (blk_below HL5.out hb6); have HR6 := Aside0.mk (Kd.C_below HR5.out hb6); have HB6 := Aside0.mk (below_step HB5.out hb6); have HT6 := Aside0.mk (HT5.out.below hb6); clear a0 a1 a2 b0 b1 b2; have a0 := blk_cell HK6.out 0; have a1 := blk_cell HK6.out 1; have a2 := blk_cell HK6.out 2; have b0 := blk_cell HL6.out 0; have b1 := blk_cell HL6.out 1; have b2 := blk_cell HL6.out 2)
    | (go_at_call 17; refine (mortmainref10_Good.calls kA a.f0 a.f1 a.f2 _ _ hA.out).mono ?_; rintro e w5 ⟨rfl, hb5⟩; have HK5 := Aside0.mk (blk_below HK4.out hb5); have HL5 := Aside0.mk (blk_below HL4.out hb5); have HR5 := Aside0.mk (Kd.C_below HR4.out hb5); have HB5 := Aside0.mk (below_step HB4.out hb5); have HT5 := Aside0.mk (HT4.out.below hb5); clear a0 a1 a2 b0 b1 b2; have a0 := blk_cell HK5.out 0; have a1 := blk_cell HK5.out 1; have a2 := blk_cell HK5.out 2; have b0 := blk_cell HL5.out 0; have b1 := blk_cell HL5.out 1; have b2 := blk_cell HL5.out 2)
    | (go_at_call 39; have hx := HK10.out; refine (put_ok L2 A8 c8 a L2 _ HX10.out HP.out.G2 ga HP.out.E5 has HT10.out).mono ?_; rintro e w11 ⟨⟨A11, c11, rfl, hc11, hC11⟩, hb11⟩; clear hx; have HC11 := Aside0.mk hC11; clear hC11 hc11; have HK11 := Aside0.mk (blk_below HK10.out hb11); have HL11 := Aside0.mk (blk_below HL10.out hb11); have HR11 := Aside0.mk (Kd.C_below HR10.out hb11); have HB11 := Aside0.mk (below_step HB10.out hb11); have HT11 := Aside0.mk (HT10.out.below hb11); have HX11 := Aside0.mk (Kd.C_below HX10.out hb11); have HY11 := Aside0.mk (Kd.C_below HC10.out hb11); clear a0 a1 a2 b0 b1 b2; have a0 := blk_cell HK11.out 0; have a1 := blk_cell HK11.out 1; have a2 := blk_cell HK11.out 2; have b0 := blk_cell HL11.out 0; have b1 := blk_cell HL11.out 1; have b2 := blk_cell HL11.out 2)
    | (go_at_call 39; have hx := HK9.out; refine (put_ok L3 A9 c9 a L2 _ HC9.out HP.out.G3 ga HP.out.E4 has HT9.out).mono ?_; rintro e w10 ⟨⟨A10, c10, rfl, hc10, hC10⟩, hb10⟩; clear hx; have HC10 := Aside0.mk hC10; clear hC10 hc10; have HK10 := Aside0.mk (blk_below HK9.out hb10); have HL10 := Aside0.mk (blk_below HL9.out hb10); have HR10 := Aside0.mk (Kd.C_below HR9.out hb10); have HB10 := Aside0.mk (below_step HB9.out hb10); have HT10 := Aside0.mk (HT9.out.below hb10); have HX10 := Aside0.mk (Kd.C_below HX9.out hb10); clear a0 a1 a2 b0 b1 b2; have a0 := blk_cell HK10.out 0; have a1 := blk_cell HK10.out 1; have a2 := blk_cell HK10.out 2; have b0 := blk_cell HL10.out 0; have b1 := blk_cell HL10.out 1; have b2 := blk_cell HL10.out 2)
    | (go_at_call 39; have hx := HK8.out; refine (put_ok l A c b L3 _ HR8.out HP.out.G0b gb HP.out.E3 hbs HT8.out).mono ?_; rintro e w9 ⟨⟨A9, c9, rfl, hc9, hC9⟩, hb9⟩; clear hx; have HC9 := Aside0.mk hC9; clear hC9 hc9; have HK9 := Aside0.mk (blk_below HK8.out hb9); have HL9 := Aside0.mk (blk_below HL8.out hb9); have HR9 := Aside0.mk (Kd.C_below HR8.out hb9); have HB9 := Aside0.mk (below_step HB8.out hb9); have HT9 := Aside0.mk (HT8.out.below hb9); have HX9 := Aside0.mk (Kd.C_below HC8.out hb9); clear a0 a1 a2 b0 b1 b2; have a0 := blk_cell HK9.out 0; have a1 := blk_cell HK9.out 1; have a2 := blk_cell HK9.out 2; have b0 := blk_cell HL9.out 0; have b1 := blk_cell HL9.out 1; have b2 := blk_cell HL9.out 2)
    | (go_at_call 39; have hx := HK7.out; refine (put_ok L1 A7 c7 b L2 _ HC7.out HP.out.G1 gb HP.out.E2 hbs HT7.out).mono ?_; rintro e w8 ⟨⟨A8, c8, rfl, hc8, hC8⟩, hb8⟩; clear hx; have HC8 := Aside0.mk hC8; clear hC8 hc8; have HK8 := Aside0.mk (blk_below HK7.out hb8); have HL8 := Aside0.mk (blk_below HL7.out hb8); have HR8 := Aside0.mk (Kd.C_below HR7.out hb8); have HB8 := Aside0.mk (below_step HB7.out hb8); have HT8 := Aside0.mk (HT7.out.below hb8); clear a0 a1 a2 b0 b1 b2; have a0 := blk_cell HK8.out 0; have a1 := blk_cell HK8.out 1; have a2 := blk_cell HK8.out 2; have b0 := blk_cell HL8.out 0; have b1 := blk_cell HL8.out 1; have b2 := blk_cell HL8.out 2)
    | (go_at_call 39; have hx := HK6.out; refine (put_ok l A c a L1 _ HR6.out HP.out.G0a ga HP.out.E1 has HT6.out).mono ?_; rintro e w7 ⟨⟨A7, c7, rfl, hc7, hC7⟩, hb7⟩; clear hx; have HC7 := Aside0.mk hC7; clear hC7 hc7; have HK7 := Aside0.mk (blk_below HK6.out hb7); have HL7 := Aside0.mk (blk_below HL6.out hb7); have HR7 := Aside0.mk (Kd.C_below HR6.out hb7); have HB7 := Aside0.mk (below_step HB6.out hb7); have HT7 := Aside0.mk (HT6.out.below hb7); clear a0 a1 a2 b0 b1 b2; have a0 := blk_cell HK7.out 0; have a1 := blk_cell HK7.out 1; have a2 := blk_cell HK7.out 2; have b0 := blk_cell HL7.out 0; have b1 := blk_cell HL7.out 1; have b2 := blk_cell HL7.out 2))
  clear hb2 hb3 hb4 hb5 hb6 hb7 hb8 hb9 hb10 hb11 a0 a1 a2 b0 b1 b2
  have hLm := Kd.C_max HC11.out
  go_loopw [15, 106] (fun _ t106 wr => ∃ k : Nat, t106 = .int .i64 k ∧ k ≤ L2.length ∧ Aside0 (Below w11.heap.size w11 wr)) (fun _ t106 _ => L2.length - (intOf t106).toNat)
  case atStart => exact ⟨0, rfl, Nat.zero_le _, ⟨Below.refl _ _⟩⟩
  case round =>
    obtain ⟨k, rfl, hk, HBr⟩ := hrel
    by_cases hlt : k < L2.length
    · obtain ⟨ad1, e1, hc0, hc1, hc2⟩ := at_T27 HX11.out (k : Int) (by omega) (by omega)
      obtain ⟨ad2, e2, hd0, hd1, hd2⟩ := at_T27 HY11.out (k : Int) (by omega) (by omega)
      obtain ⟨ad3, e3, he0, he1, he2⟩ := at_T27 HC11.out (k : Int) (by omega) (by omega)
      subst e1 e2 e3
      simp only [Int.toNat_natCast, rd_T27] at hc0 hc1 hc2 hd0 hd1 hd2 he0 he1 he2
      generalize hx : L2.getD k z27 = x at hc0 hc1 hc2 hd0 hd1 hd2 he0 he1 he2
      have c0 := cell_now HBr.out hc0
      have c1 := cell_now HBr.out hc1
      have c2 := cell_now HBr.out hc2
      have d0 := cell_now HBr.out hd0
      have d1 := cell_now HBr.out hd1
      have d2 := cell_now HBr.out hd2
      have f0 := cell_now HBr.out he0
      have f1 := cell_now HBr.out he1
      have f2 := cell_now HBr.out he2
      have hj0 : (0 : Int) ≤ (k : Int) := by omega
      have hj1 : (k : Int) < (L2.length : Int) := by omega
      clear hc0 hc1 hc2 hd0 hd1 hd2 he0 he1 he2 hx
      go_wp2
      go_quiet (fail)
      go_wp2
      go_roundw
      case rel => exact ⟨k + 1, by go_num, by omega, ⟨pw_below_drewN HBr.out _⟩⟩
      case measure => simp [intOf]; omega
    · have hkk : k = L2.length := by omega
      subst hkk
      go_wp2
      go_ret
      exact ⟨rfl, below_step HB11.out HBr.out⟩

theorem order_law (l : List S27) (A : Option Addr) (c : Nat) (a b : S27) (w : World) (hr : Kd.C k27 w A l.length l) (hc : l.length ≤ c) (hT : Tabs w) (has : a.f1.size ≤ 9223372036854775807) (hbs : b.f1.size ≤ 9223372036854775807) (hs : okS l) :
    Calls Tryd.prog 7 #[.slice A l.length c, .agg #[.int .i64 a.f0, .string a.f1, .int .i64 a.f2], .agg #[.int .i64 b.f0, .string b.f1, .int .i64 b.f2]] w (BoolPost true w) := by
  have hnl : l.length ≤ 9223372036854775807 := hr.2.1
  obtain ⟨bG, kG, hG⟩ := great10_ev l hnl
  obtain ⟨kS, hS⟩ := sorted_ev l hs hnl
  obtain ⟨kA, hA⟩ := good_ev a has
  obtain ⟨kB, hB⟩ := good_ev b hbs
  have hG := hG kG (Nat.le_refl _)
  have hS := hS kS (Nat.le_refl _)
  have hA := hA kA (Nat.le_refl _)
  have hB := hB kB (Nat.le_refl _)
  cases hgr : (decide (80 < l.length) || bG) with
  | true => exact order_great l A c a b w hr hc hT has hbs kG ⟨hgr ▸ hG⟩
  | false =>
    have hG : Aside0 (mortmainlaw10_great.f kG l = some false) := ⟨hgr ▸ hG⟩
    cases hlen : decide (200 < wrap64 ((a.f1.size : Int) + (b.f1.size : Int))) with
    | true => exact order_long l A c a b w hr hc hT has hbs kG hG hlen
    | false =>
      cases hsr : refS l 0 l.length with
      | false => exact order_unsorted l A c a b w hr hc hT has hbs kG hG kS ⟨hsr ▸ hS⟩ hlen
      | true =>
        have hS : Aside0 (mortmainref10_Sorted.f kS l = some true) := ⟨hsr ▸ hS⟩
        by_cases h60 : 60 < l.length
        · exact order_many l A c a b w hr hc hT has hbs kG hG kS hS hlen (decide_eq_true (by omega))
        · have h60' : decide ((60 : Int) < (l.length : Int)) = false := decide_eq_false (by omega)
          cases ga : goodG a with
          | false => exact order_badA l A c a b w hr hc hT has hbs kG hG kS hS hlen h60' kA ⟨ga ▸ hA⟩
          | true =>
            cases gb : goodG b with
            | false => exact order_badB l A c a b w hr hc hT has hbs kG hG kS hS hlen h60' kA ⟨ga ▸ hA⟩ kB ⟨gb ▸ hB⟩
            | true =>
              obtain ⟨L1, L2, L3, hP⟩ := ord_p ((refS_iff l).1 hsr) ga gb (by omega)
              exact order_main l A c a b w hr hc hT has hbs kG hG kS hS hlen h60' kA ⟨ga ▸ hA⟩ kB ⟨gb ▸ hB⟩ ga gb L1 L2 L3 ⟨hP⟩
end Go.Proofs.YtefdfgmlmjnmlaaDoor.My
end

section
set_option linter.unusedVariables false
/- The row and the card of the law GrantOrder. -/
namespace Go.Proofs.YtefdfgmlmjnmlaaDoor.My
open Go.ChangeShapes Go.WideShapes Go.ChangeAt Go.RowKit
open Go.ChangeMaps (open_string shut_string)
open Go.Proofs.YtefdfgmlmjnmlaaDoorW.PrintWords Go.Proofs.YtefdfgmlmjnmlaaDoor.Rf
open Go.Proofs.YtefdfgmlmjnmlaaDoor

set_option maxRecDepth 100000 in
theorem grantOrder_lifted (os : Os) (started : os.Started) (H : Type) (enc : TypeId × Value → H) :
    ReturnsInHanded {} Tryd.checked os 7 .any (fun w args => (Rows.grantOrderSpec.pre enc Tryd.prog Tryd.f7 Rows.grantOrderRow.domain false w args ∧ laidMetH Tryd.prog tabs w) ∧ sizedMet enc Tryd.prog Tryd.f7 (OpenSpec.ofChange Rows.grantOrderSpec) false w args)
      (Rows.grantOrderSpec.post enc Tryd.prog Tryd.f7 false true false false) := by
  refine returnsInHanded_of_change_and (C := Tryd.checked) (X := (fun w _ => laidMetH Tryd.prog tabs w)) (fun _ _ _ hh h => h.of_heap hh) own started (by kernel_rfl) Tryd.func7
    (ChangeSpec.witness_shaped (enc := enc) (C := Tryd.checked) (os := os) (X := (fun w _ => laidMetH Tryd.prog tabs w)) false (World.laidAll Tryd.prog os tabs) #[.slice none 0 0, .agg #[.int .i64 0, .string ByteArray.empty, .int .i64 0], .agg #[.int .i64 0, .string ByteArray.empty, .int .i64 0]] 8 (World.laidAll_os _ _ _)
      (World.shaped_of_ZipB (by kernel_rfl) (by kernel_rfl)) (by kernel_rfl) (by kernel_rfl) (by kernel_rfl)
      (by rw [MakeChecks.laidMetH_plain _ _ _ (by kernel_rfl)]; exact laidMet_laidAll _ (by kernel_rfl) (by kernel_rfl))) ?_
  intro W base args ds gs before hval0 hW hc _ hL _
  have hval : ∀ (j : Nat) t v, Tryd.f7.params[j]? = some t → args[j]? = some v → Value.okWide Tryd.prog W .any base t v := hval0
  have hW' := hW
  obtain ⟨p, q, hA0, hV, rfl, _, _⟩ := hW
  have hA : DataW.TrodAll enc Tryd.prog W 0 (fun _ => true) true Tryd.f7.params.toList args.toList ds p := hA0
  rw [Tryd.params7] at hA hval
  obtain ⟨v0, vs0, d0, ds0, p0, q0, hargs, rfl, rfl, h0, r0⟩ := trodAll_cons hA
  obtain ⟨v1, vs1, d1, ds1, p1, q1, rfl, rfl, rfl, h1, r1⟩ := trodAll_cons r0
  obtain ⟨v2, vs2, d2, ds2, p2, q2, rfl, rfl, rfl, h2, r2⟩ := trodAll_cons r1
  obtain ⟨rfl, rfl, rfl⟩ := trodAll_nil r2
  obtain rfl : args = #[v0, v1, v2] := by cases args; simp_all
  obtain ⟨rfl, rfl⟩ := trodVars_none hV
  have k0 := h0
  have lt0 : ∀ x ∈ p0, x.block < W.heap.size := by obtain ⟨m, hm⟩ := k0; exact DataW.trod_lt m _ _ _ hm
  obtain ⟨x0, y0, z0, rfl⟩ := okWide_slice Tryd.underlying23 (hval 0 23 v0 rfl rfl)
  obtain ⟨fu0, hf0⟩ := h0
  obtain ⟨A0, c0, l0, e0, lc0, hC0, q0⟩ := open23 hf0
  simp only [Value.cells, List.cons.injEq, Value.slice.injEq, and_true] at e0
  obtain ⟨rfl, rfl, rfl⟩ := e0
  have k1 := h1
  have lt1 : ∀ x ∈ p1, x.block < W.heap.size := by obtain ⟨m, hm⟩ := k1; exact DataW.trod_lt m _ _ _ hm
  obtain ⟨cs1, rfl, _⟩ := okWide_struct Tryd.underlying27 (hval 1 27 v1 rfl rfl)
  obtain ⟨fu1, hf1⟩ := h1
  obtain ⟨g1, e1, q1⟩ := open27 hf1
  have e1 := k27_open e1
  have e1 : cs1 = #[.int .i64 g1.f0, .string g1.f1, .int .i64 g1.f2] := Array.toList_inj.1 e1
  subst e1
  have k2 := h2
  have lt2 : ∀ x ∈ p2, x.block < W.heap.size := by obtain ⟨m, hm⟩ := k2; exact DataW.trod_lt m _ _ _ hm
  obtain ⟨cs2, rfl, _⟩ := okWide_struct Tryd.underlying27 (hval 2 27 v2 rfl rfl)
  obtain ⟨fu2, hf2⟩ := h2
  obtain ⟨g2, e2, q2⟩ := open27 hf2
  have e2 := k27_open e2
  have e2 : cs2 = #[.int .i64 g2.f0, .string g2.f1, .int .i64 g2.f2] := Array.toList_inj.1 e2
  subst e2
  have hT := tabs_of hL
  clear hA0 hval0
  refine (order_law l0 x0 z0 g1 g2 W hC0 lc0 hT q1.b q2.b (fun g hg => (q0 g hg).b)).mono fun e W' ⟨he, bel⟩ => ?_
  subst he
  exact ⟨_, rfl, _, _, _, [], _, [], hW', trodAll_mk1 (shut_bool Tryd.underlying4 _), (trodAll_cons_mk (Below.trod laidOut (by kernel_rfl) (of_decide_eq_true (by kernel_rfl)) k0 bel lt0) (trodAll_cons_mk (Below.trod laidOut (by kernel_rfl) (of_decide_eq_true (by kernel_rfl)) k1 bel lt1) (trodAll_cons_mk (Below.trod laidOut (by kernel_rfl) (of_decide_eq_true (by kernel_rfl)) k2 bel lt2) trodAll_mk0))), rfl, bel.frame _, fun h => by cases h⟩

theorem grantOrder_holds : Rows.GrantOrderSaid :=
  OpenClaim.holds_of_wide 7 Tryd.f7 rfl rfl rfl rfl rfl rfl rfl ⟨rfl, rfl, rfl, rfl, rfl⟩ rfl rfl rfl rfl rfl (by kernel_rfl) Tryd.func7 (by kernel_rfl)
    (of_decide_eq_true (by kernel_rfl)) (by unfold Func.isWrapper; first | (rw [if_pos (by decide +kernel)]; kernel_rfl) | (rw [if_neg (by decide +kernel)]; exact ⟨rfl, rfl⟩))
    (fun os started H enc _ => grantOrder_lifted os started H enc)

theorem grantOrder_card : Rows.GrantOrderCardSaid :=
  Claim7.holds_tied_plain_at .later [] [.data, .pinned] true (true, "ad361f8c9010d8bc8c83665426ff667c1a83a32d80b366ff0bd14d2eb2135fde") true grantOrder_holds (fun _ h => by cases h) (by kernel_rfl) (fun _ h => by cases h) grantOrder_row_tie rfl ⟨rfl, rfl⟩ (by kernel_rfl) rfl
    (fun f fn hf hfn => by
      obtain rfl : f = 7 := Option.some.inj ((show Tryd.prog.funcNamed "mortmain/mortmainlaw10.GrantOrder" = some 7 by kernel_rfl).symm.trans hf) |>.symm
      obtain rfl : fn = Tryd.f7 := (Option.some.inj (Tryd.func7.symm.trans hfn)).symm
      exact ⟨by kernel_rfl, fun j t ht => by
        rw [Tryd.params7] at ht
        have hm : t ∈ [23, 27, 27] := by simpa using Array.mem_of_getElem? ht
        have hall : ([23, 27, 27].all fun u => !Tryd.prog.wantsStandIn u) = true := by kernel_rfl
        exact (show Tryd.prog.wantsStandIn t = false by simpa using List.all_eq_true.1 hall t hm)⟩)
    (by kernel_rfl)
#print axioms grantOrder_card
end Go.Proofs.YtefdfgmlmjnmlaaDoor.My
end
