/- Lemmas for the law SchemaTables: what the functions that it reaches compute, with those words of the kit's print that they use. No condition. Joined out of this session's smaller texts (part 3 of 7). -/
import Derived.Test.YtefdfgmlmjnmlaaDoorZSchemaTables2
import Derived.Laws.Cover2
import Derived.Laws.Externs
import Derived.WalkLawsBesides
section
set_option linter.unusedVariables false
set_option linter.unusedSimpArgs false
namespace Go.Proofs.YtefdfgmlmjnmlaaDoor.Rf
open Go.RowKit Go.Proofs.YtefdfgmlmjnmlaaDoorW.PrintWords Go.Proofs.YtefdfgmlmjnmlaaDoorW.PrintLast Go.Proofs.YtefdfgmlmjnmlaaDoorW.PrintMore
attribute [local go_sem] max2_int max_two
mutual
def expr_size.l0 : Nat → Int → Int → List (S72) → Int → Int → Option (Int × Int)
  | 0, _, _, _, _, _ => none
  | k + 1, x2, x3, x9, x10, x11 => if x11 < x10 then (if 0 ≤ x11 then (if x11 < (x9.length : Int) then ((expr_size.f k ((rd_T72 x9 x11).f0) ((rd_T72 x9 x11).f1) ((rd_T72 x9 x11).f2.f0) ((rd_T72 x9 x11).f2.f1) ((rd_T72 x9 x11).f2.f2) ((rd_T72 x9 x11).f3)).bind fun bt187 => (if (wrap64 (x2 + bt187.1)) > 24 then (some (wrap64 (x2 + bt187.1), wrap64 ((mx x3 bt187.2) + 1))) else (expr_size.l0 k (wrap64 (x2 + bt187.1)) (mx x3 bt187.2) x9 x10 (wrap64 (x11 + 1))))) else (none)) else (none)) else (some (x2, wrap64 (x3 + 1)))
def expr_size.f : Nat → Int → Int → Int → Int → ByteArray → List (S72) → Option (Int × Int)
  | 0, _, _, _, _, _, _ => none
  | k + 1, a0_0, a0_1, a0_2, a0_3, a0_4, l0_5 => expr_size.l0 k 1 0 l0_5 (l0_5.length : Int) 0
end
set_option maxHeartbeats 8000000 in
set_option maxRecDepth 100000 in
theorem expr_size.calls (k : Nat) : ∀ (a0_0 : Int) (a0_1 : Int) (a0_2 : Int) (a0_3 : Int) (a0_4 : ByteArray) (A0_5 : Option Addr) (c0_5 : Nat) (l0_5 : List (S72)) (r1 : Int) (r2 : Int) (w : World) (hr0_5 : Kd.C k72 w A0_5 l0_5.length l0_5) (hc0_5 : l0_5.length ≤ c0_5) (h : expr_size.f k a0_0 a0_1 a0_2 a0_3 a0_4 l0_5 = some (r1, r2)),
    Calls Tryd.prog 88 #[.agg #[.int .i64 a0_0, .int .i64 a0_1, .int .i64 a0_2, .int .i64 a0_3, .string a0_4, .slice A0_5 l0_5.length c0_5]] w fun e w' => e = .returned (.tuple #[.int .i64 r1, .int .i64 r2]) ∧ Below w.heap.size w w' := by
  induction k using Nat.strongRecOn with
  | _ k ih =>
  intro a0_0 a0_1 a0_2 a0_3 a0_4 A0_5 c0_5 l0_5 r1 r2 w hr0_5 hc0_5 h
  cases k with
  | zero => exact absurd h (by simp [expr_size.f])
  | succ k =>
  simp only [expr_size.f] at h
  have hu72 := Tryd.underlying72
  have HR0_5 := Aside0.mk hr0_5
  have HC0_5 := Aside0.mk hc0_5
  clear hr0_5 hc0_5
  have HB := Aside0.mk (Below.refl w.heap.size w)
  have H : (expr_size.l0 k 1 0 l0_5 (l0_5.length : Int) 0) = some (r1, r2) := h
  clear h
  have H' := Aside0.mk H
  clear H
  go_enter Tryd.func88, Tryd.ntmps88
  go_wp2_with (first | ((with_reducible refine gate_dst (N := 1) rfl ?_); refine box_event ?hg (N := 1) ?hd (cs := #[.int .i64 a0_0, .int .i64 a0_1, .int .i64 a0_2, .int .i64 a0_3, .string a0_4, .slice A0_5 l0_5.length c0_5]) (t := 72) ?hr ?_; (case hd => rfl); (case hg => rfl); (case hr => first | (go_simp; done) | (go_simp; rfl)); intro gb184 hg w2 hbox hb; have n0_ := Aside0.mk (below_step (by repeat (first | (with_reducible first | exact HB.out | apply below_alloc | apply pw_below_drewN | apply below_drew1) | exact HB.out)) hb); have n1_ := Aside0.mk (hbox); have n2_ := Aside0.mk ((by rw [hg]; exact (below_size (by repeat (first | (with_reducible first | exact HB.out | apply below_alloc | apply pw_below_drewN | apply below_drew1) | exact HB.out))) : w.heap.size ≤ gb184)); have n3_ := Aside0.mk ((by rw [hg]; exact (below_size (by repeat (first | (with_reducible first | exact HB.out | apply below_alloc | apply pw_below_drewN | apply below_drew1) | exact HB.out))) : w.heap.size ≤ gb184)); clear HB; have HB := n0_; have BK184 := n1_; have GW184 := n2_; have GE184 := n3_; clear n0_ n1_ n2_ n3_; clear hb hbox hg; have hcz3_0 : w2.cell? ⟨gb184, 0, none⟩ = some (.int .i64 a0_0) := (blk_cell BK184.out 0).trans rfl; have hcz3_1 : w2.cell? ⟨gb184, 1, none⟩ = some (.int .i64 a0_1) := (blk_cell BK184.out 1).trans rfl; have hcz3_2 : w2.cell? ⟨gb184, 2, none⟩ = some (.int .i64 a0_2) := (blk_cell BK184.out 2).trans rfl; have hcz3_3 : w2.cell? ⟨gb184, 3, none⟩ = some (.int .i64 a0_3) := (blk_cell BK184.out 3).trans rfl; have hcz3_4 : w2.cell? ⟨gb184, 4, none⟩ = some (.string a0_4) := (blk_cell BK184.out 4).trans rfl; have hcz3_5 : w2.cell? ⟨gb184, 5, none⟩ = some (.slice A0_5 l0_5.length c0_5) := (blk_cell BK184.out 5).trans rfl; have hfz3_0 := blk_frozen BK184.out 0; have hfz3_1 := blk_frozen BK184.out 1; have hfz3_2 := blk_frozen BK184.out 2; have hfz3_3 := blk_frozen BK184.out 3; have hfz3_4 := blk_frozen BK184.out 4; have hfz3_5 := blk_frozen BK184.out 5))
  go_loopg [2, 3, 11] k (fun kq v2 v3 v11 w' => ∃ (x2_1 : Int) (x3_1 : Int) (x11_1 : Int), v2 = .int .i64 x2_1 ∧ v3 = .int .i64 x3_1 ∧ v11 = .int .i64 x11_1 ∧ Aside0 (expr_size.l0 kq x2_1 x3_1 l0_5 (l0_5.length : Int) x11_1 = some (r1, r2)) ∧ Aside0 (kq ≤ k) ∧ Aside0 (w'.heap[gb184]? = some (.cells #[.int .i64 a0_0, .int .i64 a0_1, .int .i64 a0_2, .int .i64 a0_3, .string a0_4, (.slice A0_5 l0_5.length c0_5)] 72 (0, 0))) ∧ Aside0 (Below w.heap.size w w'))
  case atStart => exact ⟨(1), (0), (0), (by first | rfl | (simp; done) | (simp [*]; done)), (by first | rfl | (simp; done) | (simp [*]; done)), (by first | rfl | (simp; done) | (simp [*]; done)), H', ⟨Nat.le_refl _⟩, ⟨by (with_reducible repeat (first | refine blk_drewN ?_ _ | refine blk_drew ?_ | refine blk_alloc ?_ _)); exact BK184.out⟩, ⟨by repeat (first | (with_reducible first | exact HB.out | apply below_alloc | apply pw_below_drewN | apply below_drew1 | refine below_set ?_ GE184.out) | exact HB.out)⟩⟩
  case round =>
    clear H'
    try clear p2
    try clear hcz3_0
    try clear hcz3_1
    try clear hcz3_2
    try clear hcz3_3
    try clear hcz3_4
    try clear hcz3_5
    try clear hfz3_0
    try clear hfz3_1
    try clear hfz3_2
    try clear hfz3_3
    try clear hfz3_4
    try clear hfz3_5
    obtain ⟨x2_1, x3_1, x11_1, rfl, rfl, rfl, HA, HK1, BK184, HB⟩ := hrel
    cases gk with
    | zero => exact absurd HA.out (by simp [expr_size.l0])
    | succ k1 =>
      have H := HA.out
      clear HA
      simp only [expr_size.l0] at H
      by_cases c4 : x11_1 < (l0_5.length : Int)
      · rw [if_pos c4] at H
        have c4b0 : decide (x11_1 < (l0_5.length : Int)) = true := decide_eq_true c4
        clear c4
        by_cases c5 : 0 ≤ x11_1
        · rw [if_pos c5] at H
          have c5b0 : decide (0 ≤ x11_1) = true := decide_eq_true c5
          clear c5
          by_cases c6 : x11_1 < (l0_5.length : Int)
          · rw [if_pos c6] at H
            have c6b0 : decide (x11_1 < (l0_5.length : Int)) = true := decide_eq_true c6
            clear c6
            replace H := Option.bind_eq_some_iff.mp H
            obtain ⟨⟨t187, t188⟩, A70, H⟩ := H
            replace H : (if (wrap64 (x2_1 + t187)) > 24 then (some (wrap64 (x2_1 + t187), wrap64 ((mx x3_1 t188) + 1))) else (expr_size.l0 k1 (wrap64 (x2_1 + t187)) (mx x3_1 t188) l0_5 (l0_5.length : Int) (wrap64 (x11_1 + 1)))) = some (r1, r2) := H
            have A7 := Aside0.mk A70
            clear A70
            obtain ⟨ji8, hji8⟩ : ∃ j_ : Int, (mx x3_1 t188) = j_ := ⟨_, rfl⟩
            replace H : (if (wrap64 (x2_1 + t187)) > 24 then (some (wrap64 (x2_1 + t187), wrap64 ((ji8) + 1))) else (expr_size.l0 k1 (wrap64 (x2_1 + t187)) ji8 l0_5 (l0_5.length : Int) (wrap64 (x11_1 + 1)))) = some (r1, r2) := by first | (rw [hji8] at H; exact H) | (simp only [hji8] at H ⊢; exact H)
            (try rw [hji8] at A7)
            have hji8_ : (if x3_1 < t188 then t188 else x3_1) = ji8 := hji8
            by_cases c9 : (wrap64 (x2_1 + t187)) > 24
            · rw [if_pos c9] at H
              have c9b0 : decide (24 < (wrap64 (x2_1 + t187))) = true := decide_eq_true c9
              clear c9
              simp only [Option.some.injEq, Prod.mk.injEq] at H
              obtain ⟨rfl, rfl⟩ := H
              have p185 : 0 ≤ (x11_1 : Int) := of_decide_eq_true (by first | (with_reducible assumption) | assumption)
              have q185 : x11_1 < (l0_5.length : Int) := of_decide_eq_true (by first | (with_reducible assumption) | assumption)
              obtain ⟨ad185, A185_5, c185_5, e185, hx185_0, hx185_1, hx185_2, hx185_3, hx185_4, hx185_5, hl185_5, hi185_5⟩ := at_T72 HR0_5.out x11_1 p185 q185
              cases e185
              replace hx185_0 := (HB.out.cell (World.block_lt_of_cell? w _ hx185_0)).trans hx185_0
              replace hx185_1 := (HB.out.cell (World.block_lt_of_cell? w _ hx185_1)).trans hx185_1
              replace hx185_2 := (HB.out.cell (World.block_lt_of_cell? w _ hx185_2)).trans hx185_2
              replace hx185_3 := (HB.out.cell (World.block_lt_of_cell? w _ hx185_3)).trans hx185_3
              replace hx185_4 := (HB.out.cell (World.block_lt_of_cell? w _ hx185_4)).trans hx185_4
              replace hx185_5 := (HB.out.cell (World.block_lt_of_cell? w _ hx185_5)).trans hx185_5
              have HR185_5 := Aside0.mk hi185_5
              have HC185_5 := Aside0.mk hl185_5
              clear hi185_5 hl185_5
              replace p185 := eq_true p185
              replace q185 := eq_true q185
              go_wp2_with (first | ((with_reducible refine gate_dst (N := 5) rfl ?_); refine box_event ?hg (N := 5) ?hd (cs := #[.int .i64 0, .int .i64 0, .int .i64 0, .int .i64 0, .string (⟨#[]⟩ : ByteArray), .slice none 0 0]) (t := 72) ?hr ?_; (case hd => rfl); (case hg => rfl); (case hr => first | (go_simp; done) | (go_simp; rfl)); intro gb186 hg w10 hbox hb; have n0_ := Aside0.mk (blk_below (g := gb184) (o := .cells #[.int .i64 a0_0, .int .i64 a0_1, .int .i64 a0_2, .int .i64 a0_3, .string a0_4, .slice (some ad185) l0_5.length c0_5] 72 (0, 0)) (by (with_reducible repeat (first | refine blk_drewN ?_ _ | refine blk_drew ?_ | refine blk_alloc ?_ _)); exact BK184.out) hb); have n1_ := Aside0.mk (below_step (by repeat (first | (with_reducible first | exact HB.out | apply below_alloc | apply pw_below_drewN | apply below_drew1 | refine below_set ?_ GE184.out) | exact HB.out)) hb); have n2_ := Aside0.mk (hbox); have n3_ := Aside0.mk ((by rw [hg]; exact (below_size (by repeat (first | (with_reducible first | exact HB.out | apply below_alloc | apply pw_below_drewN | apply below_drew1 | refine below_set ?_ GE184.out) | exact HB.out))) : w.heap.size ≤ gb186)); have n4_ := Aside0.mk ((by rw [hg]; exact (below_size (by repeat (first | (with_reducible first | exact HB.out | apply below_alloc | apply pw_below_drewN | apply below_drew1 | refine below_set ?_ GE184.out) | exact HB.out))) : w.heap.size ≤ gb186)); have n5_ := Aside0.mk ((by rw [hg]; exact Nat.ne_of_lt (blk_lt (g := gb184) (o := .cells #[.int .i64 a0_0, .int .i64 a0_1, .int .i64 a0_2, .int .i64 a0_3, .string a0_4, .slice (some ad185) l0_5.length c0_5] 72 (0, 0)) (by (with_reducible repeat (first | refine blk_drewN ?_ _ | refine blk_drew ?_ | refine blk_alloc ?_ _)); exact BK184.out)) : gb184 ≠ gb186)); have n6_ := Aside0.mk ((by rw [hg]; exact Nat.ne_of_gt (blk_lt (g := gb184) (o := .cells #[.int .i64 a0_0, .int .i64 a0_1, .int .i64 a0_2, .int .i64 a0_3, .string a0_4, .slice (some ad185) l0_5.length c0_5] 72 (0, 0)) (by (with_reducible repeat (first | refine blk_drewN ?_ _ | refine blk_drew ?_ | refine blk_alloc ?_ _)); exact BK184.out)) : gb186 ≠ gb184)); clear BK184; clear HB; have BK184 := n0_; have HB := n1_; have BK186 := n2_; have GW186 := n3_; have GE186 := n4_; have NB184_186 := n5_; have NB186_184 := n6_; clear n0_ n1_ n2_ n3_ n4_ n5_ n6_; clear hb hbox hg; have hnb11 := NB186_184.out; have hnc11 := NB184_186.out; have hcz12_0 : w10.cell? ⟨gb186, 0, none⟩ = some (.int .i64 0) := (blk_cell BK186.out 0).trans rfl; have hcz12_1 : w10.cell? ⟨gb186, 1, none⟩ = some (.int .i64 0) := (blk_cell BK186.out 1).trans rfl; have hcz12_2 : w10.cell? ⟨gb186, 2, none⟩ = some (.int .i64 0) := (blk_cell BK186.out 2).trans rfl; have hcz12_3 : w10.cell? ⟨gb186, 3, none⟩ = some (.int .i64 0) := (blk_cell BK186.out 3).trans rfl; have hcz12_4 : w10.cell? ⟨gb186, 4, none⟩ = some (.string (⟨#[]⟩ : ByteArray)) := (blk_cell BK186.out 4).trans rfl; have hcz12_5 : w10.cell? ⟨gb186, 5, none⟩ = some (.slice none 0 0) := (blk_cell BK186.out 5).trans rfl; have hfz12_0 := blk_frozen BK186.out 0; have hfz12_1 := blk_frozen BK186.out 1; have hfz12_2 := blk_frozen BK186.out 2; have hfz12_3 := blk_frozen BK186.out 3; have hfz12_4 := blk_frozen BK186.out 4; have hfz12_5 := blk_frozen BK186.out 5) | ((with_reducible refine gate_callee (f := 88) rfl ?_); refine goesL_ (some 17) rfl rfl Tryd.func88 (by kernel_rfl) rfl #[.agg #[.int .i64 ((rd_T72 l0_5 x11_1).f0), .int .i64 ((rd_T72 l0_5 x11_1).f1), .int .i64 ((rd_T72 l0_5 x11_1).f2.f0), .int .i64 ((rd_T72 l0_5 x11_1).f2.f1), .string ((rd_T72 l0_5 x11_1).f2.f2), .slice A185_5 ((rd_T72 l0_5 x11_1).f3).length c185_5]] rfl (by (try simp only [List.map_toArray, List.map_cons, List.map_nil]); first | done | rfl | (simp only [List.length_drop, List.length_take]; rfl)) ?_; (with_reducible refine (ih k1 (by have := HK1.out; omega) ((rd_T72 l0_5 x11_1).f0) ((rd_T72 l0_5 x11_1).f1) ((rd_T72 l0_5 x11_1).f2.f0) ((rd_T72 l0_5 x11_1).f2.f1) ((rd_T72 l0_5 x11_1).f2.f2) _ _ ((rd_T72 l0_5 x11_1).f3) t187 t188 _ ?side1 ?side2 A7.out).mono ?_); (case side1 => exact Kd.C_below HR185_5.out (by repeat (first | (with_reducible first | exact HB.out | apply below_alloc | apply pw_below_drewN | apply below_drew1 | refine below_set ?_ GE184.out | refine below_set ?_ GE186.out) | exact HB.out))); (case side2 => exact HC185_5.out); rintro e w13 ⟨rfl, hb⟩; refine ⟨_, rfl, ?_⟩; have n0_ := Aside0.mk (blk_below (g := gb184) (o := .cells #[.int .i64 a0_0, .int .i64 a0_1, .int .i64 a0_2, .int .i64 a0_3, .string a0_4, .slice (some ad185) l0_5.length c0_5] 72 (0, 0)) (by (with_reducible repeat (first | refine blk_drewN ?_ _ | refine blk_drew ?_ | refine blk_alloc ?_ _)); refine blk_far ?_ NB184_186.out _; (with_reducible repeat (first | refine blk_drewN ?_ _ | refine blk_drew ?_ | refine blk_alloc ?_ _)); refine blk_far ?_ NB184_186.out _; (with_reducible repeat (first | refine blk_drewN ?_ _ | refine blk_drew ?_ | refine blk_alloc ?_ _)); refine blk_far ?_ NB184_186.out _; (with_reducible repeat (first | refine blk_drewN ?_ _ | refine blk_drew ?_ | refine blk_alloc ?_ _)); refine blk_far ?_ NB184_186.out _; (with_reducible repeat (first | refine blk_drewN ?_ _ | refine blk_drew ?_ | refine blk_alloc ?_ _)); refine blk_far ?_ NB184_186.out _; (with_reducible repeat (first | refine blk_drewN ?_ _ | refine blk_drew ?_ | refine blk_alloc ?_ _)); refine blk_far ?_ NB184_186.out _; (with_reducible repeat (first | refine blk_drewN ?_ _ | refine blk_drew ?_ | refine blk_alloc ?_ _)); exact BK184.out) hb); have n1_ := Aside0.mk (blk_below (g := gb186) (o := .cells #[.int .i64 ((rd_T72 l0_5 x11_1).f0), .int .i64 ((rd_T72 l0_5 x11_1).f1), .int .i64 ((rd_T72 l0_5 x11_1).f2.f0), .int .i64 ((rd_T72 l0_5 x11_1).f2.f1), .string ((rd_T72 l0_5 x11_1).f2.f2), .slice A185_5 ((rd_T72 l0_5 x11_1).f3).length c185_5] 72 (0, 0)) (by (with_reducible repeat (first | refine blk_drewN ?_ _ | refine blk_drew ?_ | refine blk_alloc ?_ _)); refine blk_put (cs := #[.int .i64 ((rd_T72 l0_5 x11_1).f0), .int .i64 ((rd_T72 l0_5 x11_1).f1), .int .i64 ((rd_T72 l0_5 x11_1).f2.f0), .int .i64 ((rd_T72 l0_5 x11_1).f2.f1), .string ((rd_T72 l0_5 x11_1).f2.f2), .slice none 0 0]) ?_ 5 _ rfl; (with_reducible repeat (first | refine blk_drewN ?_ _ | refine blk_drew ?_ | refine blk_alloc ?_ _)); refine blk_put (cs := #[.int .i64 ((rd_T72 l0_5 x11_1).f0), .int .i64 ((rd_T72 l0_5 x11_1).f1), .int .i64 ((rd_T72 l0_5 x11_1).f2.f0), .int .i64 ((rd_T72 l0_5 x11_1).f2.f1), .string (⟨#[]⟩ : ByteArray), .slice none 0 0]) ?_ 4 _ rfl; (with_reducible repeat (first | refine blk_drewN ?_ _ | refine blk_drew ?_ | refine blk_alloc ?_ _)); refine blk_put (cs := #[.int .i64 ((rd_T72 l0_5 x11_1).f0), .int .i64 ((rd_T72 l0_5 x11_1).f1), .int .i64 ((rd_T72 l0_5 x11_1).f2.f0), .int .i64 0, .string (⟨#[]⟩ : ByteArray), .slice none 0 0]) ?_ 3 _ rfl; (with_reducible repeat (first | refine blk_drewN ?_ _ | refine blk_drew ?_ | refine blk_alloc ?_ _)); refine blk_put (cs := #[.int .i64 ((rd_T72 l0_5 x11_1).f0), .int .i64 ((rd_T72 l0_5 x11_1).f1), .int .i64 0, .int .i64 0, .string (⟨#[]⟩ : ByteArray), .slice none 0 0]) ?_ 2 _ rfl; (with_reducible repeat (first | refine blk_drewN ?_ _ | refine blk_drew ?_ | refine blk_alloc ?_ _)); refine blk_put (cs := #[.int .i64 ((rd_T72 l0_5 x11_1).f0), .int .i64 0, .int .i64 0, .int .i64 0, .string (⟨#[]⟩ : ByteArray), .slice none 0 0]) ?_ 1 _ rfl; (with_reducible repeat (first | refine blk_drewN ?_ _ | refine blk_drew ?_ | refine blk_alloc ?_ _)); refine blk_put (cs := #[.int .i64 0, .int .i64 0, .int .i64 0, .int .i64 0, .string (⟨#[]⟩ : ByteArray), .slice none 0 0]) ?_ 0 _ rfl; (with_reducible repeat (first | refine blk_drewN ?_ _ | refine blk_drew ?_ | refine blk_alloc ?_ _)); exact BK186.out) hb); have n2_ := Aside0.mk (below_step (by repeat (first | (with_reducible first | exact HB.out | apply below_alloc | apply pw_below_drewN | apply below_drew1 | refine below_set ?_ GE184.out | refine below_set ?_ GE186.out) | exact HB.out)) hb); clear BK184; clear BK186; clear HB; have BK184 := n0_; have BK186 := n1_; have HB := n2_; clear n0_ n1_ n2_; (try clear hb); (try clear hb2); (try clear hk); (try clear hi)))
              go_ret2
              exact ⟨by first | rfl | (simp [errW_none, errW_some] <;> rfl) | (simp only [← hji8]; first | rfl | (simp [errW_none, errW_some] <;> rfl)) | (simp [*, errW_none, errW_some] <;> rfl), by repeat (first | (with_reducible first | exact HB.out | apply below_alloc | apply pw_below_drewN | apply below_drew1 | refine below_set ?_ GE184.out | refine below_set ?_ GE186.out) | exact HB.out)⟩
            · rw [if_neg c9] at H
              have c9b0 : decide (24 < (wrap64 (x2_1 + t187))) = false := decide_eq_false c9
              clear c9
              have H' := Aside0.mk H
              clear H
              have p185 : 0 ≤ (x11_1 : Int) := of_decide_eq_true (by first | (with_reducible assumption) | assumption)
              have q185 : x11_1 < (l0_5.length : Int) := of_decide_eq_true (by first | (with_reducible assumption) | assumption)
              obtain ⟨ad185, A185_5, c185_5, e185, hx185_0, hx185_1, hx185_2, hx185_3, hx185_4, hx185_5, hl185_5, hi185_5⟩ := at_T72 HR0_5.out x11_1 p185 q185
              cases e185
              replace hx185_0 := (HB.out.cell (World.block_lt_of_cell? w _ hx185_0)).trans hx185_0
              replace hx185_1 := (HB.out.cell (World.block_lt_of_cell? w _ hx185_1)).trans hx185_1
              replace hx185_2 := (HB.out.cell (World.block_lt_of_cell? w _ hx185_2)).trans hx185_2
              replace hx185_3 := (HB.out.cell (World.block_lt_of_cell? w _ hx185_3)).trans hx185_3
              replace hx185_4 := (HB.out.cell (World.block_lt_of_cell? w _ hx185_4)).trans hx185_4
              replace hx185_5 := (HB.out.cell (World.block_lt_of_cell? w _ hx185_5)).trans hx185_5
              have HR185_5 := Aside0.mk hi185_5
              have HC185_5 := Aside0.mk hl185_5
              clear hi185_5 hl185_5
              replace p185 := eq_true p185
              replace q185 := eq_true q185
              go_wp2_with (first | ((with_reducible refine gate_dst (N := 5) rfl ?_); refine box_event ?hg (N := 5) ?hd (cs := #[.int .i64 0, .int .i64 0, .int .i64 0, .int .i64 0, .string (⟨#[]⟩ : ByteArray), .slice none 0 0]) (t := 72) ?hr ?_; (case hd => rfl); (case hg => rfl); (case hr => first | (go_simp; done) | (go_simp; rfl)); intro gb186 hg w14 hbox hb; have n0_ := Aside0.mk (blk_below (g := gb184) (o := .cells #[.int .i64 a0_0, .int .i64 a0_1, .int .i64 a0_2, .int .i64 a0_3, .string a0_4, .slice (some ad185) l0_5.length c0_5] 72 (0, 0)) (by (with_reducible repeat (first | refine blk_drewN ?_ _ | refine blk_drew ?_ | refine blk_alloc ?_ _)); exact BK184.out) hb); have n1_ := Aside0.mk (below_step (by repeat (first | (with_reducible first | exact HB.out | apply below_alloc | apply pw_below_drewN | apply below_drew1 | refine below_set ?_ GE184.out) | exact HB.out)) hb); have n2_ := Aside0.mk (hbox); have n3_ := Aside0.mk ((by rw [hg]; exact (below_size (by repeat (first | (with_reducible first | exact HB.out | apply below_alloc | apply pw_below_drewN | apply below_drew1 | refine below_set ?_ GE184.out) | exact HB.out))) : w.heap.size ≤ gb186)); have n4_ := Aside0.mk ((by rw [hg]; exact (below_size (by repeat (first | (with_reducible first | exact HB.out | apply below_alloc | apply pw_below_drewN | apply below_drew1 | refine below_set ?_ GE184.out) | exact HB.out))) : w.heap.size ≤ gb186)); have n5_ := Aside0.mk ((by rw [hg]; exact Nat.ne_of_lt (blk_lt (g := gb184) (o := .cells #[.int .i64 a0_0, .int .i64 a0_1, .int .i64 a0_2, .int .i64 a0_3, .string a0_4, .slice (some ad185) l0_5.length c0_5] 72 (0, 0)) (by (with_reducible repeat (first | refine blk_drewN ?_ _ | refine blk_drew ?_ | refine blk_alloc ?_ _)); exact BK184.out)) : gb184 ≠ gb186)); have n6_ := Aside0.mk ((by rw [hg]; exact Nat.ne_of_gt (blk_lt (g := gb184) (o := .cells #[.int .i64 a0_0, .int .i64 a0_1, .int .i64 a0_2, .int .i64 a0_3, .string a0_4, .slice (some ad185) l0_5.length c0_5] 72 (0, 0)) (by (with_reducible repeat (first | refine blk_drewN ?_ _ | refine blk_drew ?_ | refine blk_alloc ?_ _)); exact BK184.out)) : gb186 ≠ gb184)); clear BK184; clear HB; have BK184 := n0_; have HB := n1_; have BK186 := n2_; have GW186 := n3_; have GE186 := n4_; have NB184_186 := n5_; have NB186_184 := n6_; clear n0_ n1_ n2_ n3_ n4_ n5_ n6_; clear hb hbox hg; have hnb15 := NB186_184.out; have hnc15 := NB184_186.out; have hcz16_0 : w14.cell? ⟨gb186, 0, none⟩ = some (.int .i64 0) := (blk_cell BK186.out 0).trans rfl; have hcz16_1 : w14.cell? ⟨gb186, 1, none⟩ = some (.int .i64 0) := (blk_cell BK186.out 1).trans rfl; have hcz16_2 : w14.cell? ⟨gb186, 2, none⟩ = some (.int .i64 0) := (blk_cell BK186.out 2).trans rfl; have hcz16_3 : w14.cell? ⟨gb186, 3, none⟩ = some (.int .i64 0) := (blk_cell BK186.out 3).trans rfl; have hcz16_4 : w14.cell? ⟨gb186, 4, none⟩ = some (.string (⟨#[]⟩ : ByteArray)) := (blk_cell BK186.out 4).trans rfl; have hcz16_5 : w14.cell? ⟨gb186, 5, none⟩ = some (.slice none 0 0) := (blk_cell BK186.out 5).trans rfl; have hfz16_0 := blk_frozen BK186.out 0; have hfz16_1 := blk_frozen BK186.out 1; have hfz16_2 := blk_frozen BK186.out 2; have hfz16_3 := blk_frozen BK186.out 3; have hfz16_4 := blk_frozen BK186.out 4; have hfz16_5 := blk_frozen BK186.out 5) | ((with_reducible refine gate_callee (f := 88) rfl ?_); refine goesL_ (some 17) rfl rfl Tryd.func88 (by kernel_rfl) rfl #[.agg #[.int .i64 ((rd_T72 l0_5 x11_1).f0), .int .i64 ((rd_T72 l0_5 x11_1).f1), .int .i64 ((rd_T72 l0_5 x11_1).f2.f0), .int .i64 ((rd_T72 l0_5 x11_1).f2.f1), .string ((rd_T72 l0_5 x11_1).f2.f2), .slice A185_5 ((rd_T72 l0_5 x11_1).f3).length c185_5]] rfl (by (try simp only [List.map_toArray, List.map_cons, List.map_nil]); first | done | rfl | (simp only [List.length_drop, List.length_take]; rfl)) ?_; (with_reducible refine (ih k1 (by have := HK1.out; omega) ((rd_T72 l0_5 x11_1).f0) ((rd_T72 l0_5 x11_1).f1) ((rd_T72 l0_5 x11_1).f2.f0) ((rd_T72 l0_5 x11_1).f2.f1) ((rd_T72 l0_5 x11_1).f2.f2) _ _ ((rd_T72 l0_5 x11_1).f3) t187 t188 _ ?side1 ?side2 A7.out).mono ?_); (case side1 => exact Kd.C_below HR185_5.out (by repeat (first | (with_reducible first | exact HB.out | apply below_alloc | apply pw_below_drewN | apply below_drew1 | refine below_set ?_ GE184.out | refine below_set ?_ GE186.out) | exact HB.out))); (case side2 => exact HC185_5.out); rintro e w17 ⟨rfl, hb⟩; refine ⟨_, rfl, ?_⟩; have n0_ := Aside0.mk (blk_below (g := gb184) (o := .cells #[.int .i64 a0_0, .int .i64 a0_1, .int .i64 a0_2, .int .i64 a0_3, .string a0_4, .slice (some ad185) l0_5.length c0_5] 72 (0, 0)) (by (with_reducible repeat (first | refine blk_drewN ?_ _ | refine blk_drew ?_ | refine blk_alloc ?_ _)); refine blk_far ?_ NB184_186.out _; (with_reducible repeat (first | refine blk_drewN ?_ _ | refine blk_drew ?_ | refine blk_alloc ?_ _)); refine blk_far ?_ NB184_186.out _; (with_reducible repeat (first | refine blk_drewN ?_ _ | refine blk_drew ?_ | refine blk_alloc ?_ _)); refine blk_far ?_ NB184_186.out _; (with_reducible repeat (first | refine blk_drewN ?_ _ | refine blk_drew ?_ | refine blk_alloc ?_ _)); refine blk_far ?_ NB184_186.out _; (with_reducible repeat (first | refine blk_drewN ?_ _ | refine blk_drew ?_ | refine blk_alloc ?_ _)); refine blk_far ?_ NB184_186.out _; (with_reducible repeat (first | refine blk_drewN ?_ _ | refine blk_drew ?_ | refine blk_alloc ?_ _)); refine blk_far ?_ NB184_186.out _; (with_reducible repeat (first | refine blk_drewN ?_ _ | refine blk_drew ?_ | refine blk_alloc ?_ _)); exact BK184.out) hb); have n1_ := Aside0.mk (blk_below (g := gb186) (o := .cells #[.int .i64 ((rd_T72 l0_5 x11_1).f0), .int .i64 ((rd_T72 l0_5 x11_1).f1), .int .i64 ((rd_T72 l0_5 x11_1).f2.f0), .int .i64 ((rd_T72 l0_5 x11_1).f2.f1), .string ((rd_T72 l0_5 x11_1).f2.f2), .slice A185_5 ((rd_T72 l0_5 x11_1).f3).length c185_5] 72 (0, 0)) (by (with_reducible repeat (first | refine blk_drewN ?_ _ | refine blk_drew ?_ | refine blk_alloc ?_ _)); refine blk_put (cs := #[.int .i64 ((rd_T72 l0_5 x11_1).f0), .int .i64 ((rd_T72 l0_5 x11_1).f1), .int .i64 ((rd_T72 l0_5 x11_1).f2.f0), .int .i64 ((rd_T72 l0_5 x11_1).f2.f1), .string ((rd_T72 l0_5 x11_1).f2.f2), .slice none 0 0]) ?_ 5 _ rfl; (with_reducible repeat (first | refine blk_drewN ?_ _ | refine blk_drew ?_ | refine blk_alloc ?_ _)); refine blk_put (cs := #[.int .i64 ((rd_T72 l0_5 x11_1).f0), .int .i64 ((rd_T72 l0_5 x11_1).f1), .int .i64 ((rd_T72 l0_5 x11_1).f2.f0), .int .i64 ((rd_T72 l0_5 x11_1).f2.f1), .string (⟨#[]⟩ : ByteArray), .slice none 0 0]) ?_ 4 _ rfl; (with_reducible repeat (first | refine blk_drewN ?_ _ | refine blk_drew ?_ | refine blk_alloc ?_ _)); refine blk_put (cs := #[.int .i64 ((rd_T72 l0_5 x11_1).f0), .int .i64 ((rd_T72 l0_5 x11_1).f1), .int .i64 ((rd_T72 l0_5 x11_1).f2.f0), .int .i64 0, .string (⟨#[]⟩ : ByteArray), .slice none 0 0]) ?_ 3 _ rfl; (with_reducible repeat (first | refine blk_drewN ?_ _ | refine blk_drew ?_ | refine blk_alloc ?_ _)); refine blk_put (cs := #[.int .i64 ((rd_T72 l0_5 x11_1).f0), .int .i64 ((rd_T72 l0_5 x11_1).f1), .int .i64 0, .int .i64 0, .string (⟨#[]⟩ : ByteArray), .slice none 0 0]) ?_ 2 _ rfl; (with_reducible repeat (first | refine blk_drewN ?_ _ | refine blk_drew ?_ | refine blk_alloc ?_ _)); refine blk_put (cs := #[.int .i64 ((rd_T72 l0_5 x11_1).f0), .int .i64 0, .int .i64 0, .int .i64 0, .string (⟨#[]⟩ : ByteArray), .slice none 0 0]) ?_ 1 _ rfl; (with_reducible repeat (first | refine blk_drewN ?_ _ | refine blk_drew ?_ | refine blk_alloc ?_ _)); refine blk_put (cs := #[.int .i64 0, .int .i64 0, .int .i64 0, .int .i64 0, .string (⟨#[]⟩ : ByteArray), .slice none 0 0]) ?_ 0 _ rfl; (with_reducible repeat (first | refine blk_drewN ?_ _ | refine blk_drew ?_ | refine blk_alloc ?_ _)); exact BK186.out) hb); have n2_ := Aside0.mk (below_step (by repeat (first | (with_reducible first | exact HB.out | apply below_alloc | apply pw_below_drewN | apply below_drew1 | refine below_set ?_ GE184.out | refine below_set ?_ GE186.out) | exact HB.out)) hb); clear BK184; clear BK186; clear HB; have BK184 := n0_; have BK186 := n1_; have HB := n2_; clear n0_ n1_ n2_; (try clear hb); (try clear hb2); (try clear hk); (try clear hi)))
              go_roundg k1
              case measure => have := HK1.out; omega
              case rel => exact ⟨(wrap64 (x2_1 + t187)), (ji8), (wrap64 (x11_1 + 1)), (by first | rfl | (simp; done) | (simp [*]; done)), (by first | rfl | (simp; done) | (simp only [← hji8] <;> (first | rfl | simp)) | (simp [*]; done)), (by first | rfl | (simp; done) | (simp [*]; done)), H', ⟨by have := HK1.out; omega⟩, ⟨by (with_reducible repeat (first | refine blk_drewN ?_ _ | refine blk_drew ?_ | refine blk_alloc ?_ _)); exact BK184.out⟩, ⟨by repeat (first | (with_reducible first | exact HB.out | apply below_alloc | apply pw_below_drewN | apply below_drew1 | refine below_set ?_ GE184.out | refine below_set ?_ GE186.out) | exact HB.out)⟩⟩
          · rw [if_neg c6] at H
            exact absurd H (by simp)
        · rw [if_neg c5] at H
          exact absurd H (by simp)
      · rw [if_neg c4] at H
        have c4b0 : decide (x11_1 < (l0_5.length : Int)) = false := decide_eq_false c4
        clear c4
        simp only [Option.some.injEq, Prod.mk.injEq] at H
        obtain ⟨rfl, rfl⟩ := H
        go_wp2
        go_ret2
        exact ⟨by first | rfl | (simp [errW_none, errW_some] <;> rfl) | (simp [*, errW_none, errW_some] <;> rfl), by repeat (first | (with_reducible first | exact HB.out | apply below_alloc | apply pw_below_drewN | apply below_drew1 | refine below_set ?_ GE184.out) | exact HB.out)⟩
end Go.Proofs.YtefdfgmlmjnmlaaDoor.Rf
end

section
set_option linter.unusedSimpArgs false
set_option linter.unusedVariables false
namespace Go.Proofs.YtefdfgmlmjnmlaaDoor.My
open Go.RowKit Go.Proofs.YtefdfgmlmjnmlaaDoorW.PrintWords Go.Proofs.YtefdfgmlmjnmlaaDoorW.PrintMore Go.Proofs.YtefdfgmlmjnmlaaDoor.Rf
def maxL (l : List Nat) : Nat := l.foldr max 0
def cntE (e : S72) : Nat := 1 + (e.f3.attach.map fun x => cntE x.1).sum
termination_by SizeOf.sizeOf e
decreasing_by
  have := List.sizeOf_lt_of_mem x.2
  cases e
  simp only [S72.mk.sizeOf_spec]
  simp only at this
  omega
def depE (e : S72) : Nat := 1 + maxL (e.f3.attach.map fun x => depE x.1)
termination_by SizeOf.sizeOf e
decreasing_by
  have := List.sizeOf_lt_of_mem x.2
  cases e
  simp only [S72.mk.sizeOf_spec]
  simp only at this
  omega
theorem cntE_eq (e : S72) : cntE e = 1 + (e.f3.map cntE).sum := by
  rw [cntE]; simp
theorem depE_eq (e : S72) : depE e = 1 + maxL (e.f3.map depE) := by
  rw [depE]; simp
theorem max_sum {l : List S72} (h : ∀ x, x ∈ l → depE x ≤ cntE x) : maxL (l.map depE) ≤ (l.map cntE).sum := by
  induction l with
  | nil => exact Nat.le_refl _
  | cons x l ih =>
    have h1 := h x (by simp)
    have h2 := ih fun y hy => h y (by simp [hy])
    simp only [List.map_cons, List.sum_cons, maxL, List.foldr_cons] at *
    omega
theorem dep_le {e : S72} (h : OkE e) : depE e ≤ cntE e := by
  induction h with
  | mk e _ _ ih =>
    rw [depE_eq, cntE_eq]
    have := max_sum ih
    omega
theorem mx_max (a b : Nat) : mx (a : Int) (b : Int) = ((max a b : Nat) : Int) := by
  unfold mx; split <;> omega
theorem drop_get {l : List S72} {i : Nat} (h : i < l.length) : l.drop i = l.getD i z72 :: l.drop (i + 1) := by
  rw [List.drop_eq_getElem_cons h]
  simp [List.getD, List.getElem?_eq_getElem h]
theorem wrap_nat {n : Nat} (h : n < 9223372036854775808) : wrap64 ((n : Nat) : Int) = (n : Int) := by
  unfold wrap64; omega
theorem sizeR_l0 (l : List S72) (hl : l.length ≤ 9223372036854775807) (hd : ∀ x, x ∈ l → depE x ≤ cntE x) (h : ∀ x, x ∈ l → cntE x < 4611686018427387904 → Ev (fun k => mortmainref08_Size.f k x.f0 x.f1 x.f2.f0 x.f2.f1 x.f2.f2 x.f3) ((cntE x : Int), (depE x : Int))) : ∀ d i (a b : Nat), i + d = l.length → b ≤ a → a + ((l.drop i).map cntE).sum < 4611686018427387904 →
    Ev (fun k => mortmainref08_Size.l0 k (a : Int) (b : Int) l (l.length : Int) (i : Int)) (((a + ((l.drop i).map cntE).sum : Nat) : Int), ((max b (maxL ((l.drop i).map depE)) + 1 : Nat) : Int)) := by
  intro d
  induction d with
  | zero =>
    intro i a b hi hab hs
    rw [List.drop_eq_nil_of_le (by omega)]
    simp only [List.map_nil, List.sum_nil, maxL, List.foldr_nil, Nat.add_zero, Nat.max_zero]
    refine Ev.step (f := fun _ => some ((a : Int), ((b + 1 : Nat) : Int))) (fun k => ?_) (Ev.now _)
    simp only [mortmainref08_Size.l0]
    rw [if_neg (by omega), show ((b : Int) + 1) = ((b + 1 : Nat) : Int) by omega, wrap_nat (by rw [List.drop_eq_nil_of_le (by omega)] at hs; simp at hs; omega)]
  | succ d ih =>
    intro i a b hi hab hs
    have hlt : i < l.length := by omega
    have hm := mem_getD (z := z72) hlt
    have hdx := hd _ hm
    rw [drop_get hlt, List.map_cons, List.map_cons, List.sum_cons] at *
    have hx := h _ hm (by omega)
    have hn := ih (i + 1) (a + cntE (l.getD i z72)) (max b (depE (l.getD i z72))) (by omega) (by omega) (by omega)
    have e1 : ((a + (cntE (l.getD i z72) + ((l.drop (i + 1)).map cntE).sum) : Nat) : Int) = ((a + cntE (l.getD i z72) + ((l.drop (i + 1)).map cntE).sum : Nat) : Int) := by omega
    have e2 : max b (maxL (depE (l.getD i z72) :: (l.drop (i + 1)).map depE)) = max (max b (depE (l.getD i z72))) (maxL ((l.drop (i + 1)).map depE)) := by
      simp only [maxL, List.foldr_cons]; omega
    rw [e1, e2]
    refine Ev.step (fun k => ?_) (Ev.bind (f := fun k bt => mortmainref08_Size.l0 k (wrap64 ((a : Int) + bt.1)) (mx (b : Int) bt.2) l (l.length : Int) ((i + 1 : Nat) : Int)) hx (by
      rw [mx_max, show ((a : Int) + (cntE (l.getD i z72) : Int)) = ((a + cntE (l.getD i z72) : Nat) : Int) by omega, wrap_nat (by omega)]
      exact hn))
    simp only [mortmainref08_Size.l0]
    rw [if_pos (by omega), if_pos (by omega), if_pos (by omega), rd72_nat]
    simp only [wrap_next hlt hl]
theorem sizeR_ev {e : S72} (h : OkE e) (hb : cntE e < 4611686018427387904) : Ev (fun k => mortmainref08_Size.f k e.f0 e.f1 e.f2.f0 e.f2.f1 e.f2.f2 e.f3) ((cntE e : Int), (depE e : Int)) := by
  induction h with
  | mk e hl hs ih =>
    have hc := cntE_eq e
    have hd := depE_eq e
    have h0 := sizeR_l0 e.f3 hl (fun x hx => dep_le (hs x hx)) ih e.f3.length 0 1 0 (by omega) (by omega) (by rw [List.drop_zero]; omega)
    rw [List.drop_zero] at h0
    rw [hc, hd]
    refine Ev.step (fun k => by simp only [mortmainref08_Size.f]; rfl) ?_
    have e2 : max 0 (maxL (e.f3.map depE)) + 1 = 1 + maxL (e.f3.map depE) := by omega
    rw [e2] at h0
    exact h0
structure SzP (c d : Nat) (n m : Nat) : Prop where
  le : n ≤ c
  dle : m ≤ d
  eq : n ≤ 24 → n = c ∧ m = d
theorem em_ (b m : Nat) (h1 : b < 4611686018427387904) (h2 : m < 4611686018427387904) : wrap64 ((mx (b : Int) (m : Int)) + 1) = ((max b m + 1 : Nat) : Int) := by
  rw [mx_max, show (((max b m : Nat) : Int) + 1) = ((max b m + 1 : Nat) : Int) by omega, wrap_nat (by omega)]
theorem gt24 {n : Nat} (h : 24 < n) : ((n : Nat) : Int) > 24 := by omega
theorem ngt24 {n : Nat} (h : ¬ 24 < n) : ¬ ((n : Nat) : Int) > 24 := by omega
theorem ew_ (a n : Nat) (h : a + n < 4611686018427387904) : wrap64 ((a : Int) + (n : Int)) = ((a + n : Nat) : Int) := by
  rw [show ((a : Int) + (n : Int)) = ((a + n : Nat) : Int) by omega, wrap_nat (by omega)]
theorem szp_big {a b n m c d s r : Nat} (hbig : 24 < a + n) (h1 : n ≤ c) (h2 : m ≤ d) : SzP (a + (c + s)) (max (max b d) r + 1) (a + n) (max b m + 1) :=
  ⟨by omega, by omega, fun h => absurd h (by omega)⟩
def stepP (l : List S72) (a b j : Int) (k : Nat) (bt : Int × Int) : Option (Int × Int) :=
  if (wrap64 (a + bt.1)) > 24 then some (wrap64 (a + bt.1), wrap64 ((mx b bt.2) + 1)) else expr_size.l0 k (wrap64 (a + bt.1)) (mx b bt.2) l (l.length : Int) j
theorem sizeP_l0 (l : List S72) (hl : l.length ≤ 9223372036854775807) (hd : ∀ x, x ∈ l → depE x ≤ cntE x) (h : ∀ x, x ∈ l → cntE x < 4611686018427387904 → ∃ n m : Nat, Ev (fun k => expr_size.f k x.f0 x.f1 x.f2.f0 x.f2.f1 x.f2.f2 x.f3) ((n : Int), (m : Int)) ∧ SzP (cntE x) (depE x) n m) : ∀ d i (a b : Nat), i + d = l.length → b ≤ a → a + ((l.drop i).map cntE).sum < 4611686018427387904 →
    ∃ n m : Nat, Ev (fun k => expr_size.l0 k (a : Int) (b : Int) l (l.length : Int) (i : Int)) ((n : Int), (m : Int)) ∧ SzP (a + ((l.drop i).map cntE).sum) (max b (maxL ((l.drop i).map depE)) + 1) n m := by
  intro d
  induction d with
  | zero =>
    intro i a b hi hab hs
    rw [List.drop_eq_nil_of_le (by omega)] at *
    simp only [List.map_nil, List.sum_nil, maxL, List.foldr_nil, Nat.add_zero, Nat.max_zero] at *
    refine ⟨a, b + 1, Ev.step (f := fun _ => some ((a : Int), ((b + 1 : Nat) : Int))) (fun k => ?_) (Ev.now _), Nat.le_refl _, Nat.le_refl _, fun _ => ⟨rfl, rfl⟩⟩
    simp only [expr_size.l0]
    rw [if_neg (by omega), show ((b : Int) + 1) = ((b + 1 : Nat) : Int) by omega, wrap_nat (by omega)]
  | succ d ih =>
    intro i a b hi hab hs
    have hlt : i < l.length := by omega
    have hid : i + 1 + d = l.length := by omega
    have hm := mem_getD (z := z72) hlt
    have hdx := hd _ hm
    rw [drop_get hlt, List.map_cons, List.map_cons, List.sum_cons] at *
    obtain ⟨n, m, hx, hle, hdle, heq⟩ := h _ hm (Nat.lt_of_le_of_lt (Nat.le_trans (Nat.le_add_right _ _) (Nat.le_add_left _ _)) hs)
    have e2 : max b (maxL (depE (l.getD i z72) :: (l.drop (i + 1)).map depE)) = max (max b (depE (l.getD i z72))) (maxL ((l.drop (i + 1)).map depE)) := by
      simp only [maxL, List.foldr_cons]; omega
    have hstep : ∀ k, expr_size.l0 (k + 1) (a : Int) (b : Int) l (l.length : Int) (i : Int) = (expr_size.f k (l.getD i z72).f0 (l.getD i z72).f1 (l.getD i z72).f2.f0 (l.getD i z72).f2.f1 (l.getD i z72).f2.f2 (l.getD i z72).f3).bind (stepP l (a : Int) (b : Int) ((i + 1 : Nat) : Int) k) := by
      intro k
      simp only [expr_size.l0]
      rw [if_pos (by omega), if_pos (by omega), if_pos (by omega), rd72_nat, wrap_next hlt hl]
      rfl
    generalize l.getD i z72 = x at *
    have hcx : cntE x < 4611686018427387904 := Nat.lt_of_le_of_lt (Nat.le_trans (Nat.le_add_right _ _) (Nat.le_add_left _ _)) hs
    have ew := ew_ a n (Nat.lt_of_le_of_lt (Nat.add_le_add_left (Nat.le_trans hle (Nat.le_add_right _ _)) _) hs)
    have em := em_ b m (Nat.lt_of_le_of_lt (Nat.le_trans hab (Nat.le_add_right _ _)) hs) (Nat.lt_of_le_of_lt (Nat.le_trans hdle hdx) hcx)
    rw [e2]
    clear e2
    by_cases hbig : 24 < a + n
    · have h2 : Ev (fun k => stepP l (a : Int) (b : Int) ((i + 1 : Nat) : Int) k ((n : Int), (m : Int))) (((a + n : Nat) : Int), ((max b m + 1 : Nat) : Int)) :=
        ⟨0, fun k _ => by
          unfold stepP
          dsimp only
          rw [ew, em, if_pos (gt24 hbig)]⟩
      exact ⟨a + n, max b m + 1, Ev.step hstep (Ev.bind hx h2), szp_big hbig hle hdle⟩
    · obtain ⟨e3, e4⟩ := heq (Nat.le_trans (Nat.le_add_left n a) (Nat.le_of_not_lt hbig))
      obtain ⟨n2, m2, hn, hp⟩ := ih (i + 1) (a + n) (max b m) hid (Nat.max_le.2 ⟨Nat.le_trans hab (Nat.le_add_right _ _), Nat.le_trans (by rw [e3, e4]; exact hdx) (Nat.le_add_left _ _)⟩) (by rw [e3, Nat.add_assoc]; exact hs)
      have h2 : Ev (fun k => stepP l (a : Int) (b : Int) ((i + 1 : Nat) : Int) k ((n : Int), (m : Int))) ((n2 : Int), (m2 : Int)) := by
        obtain ⟨K, hK⟩ := hn
        refine ⟨K, fun k hk => ?_⟩
        have := hK k hk
        unfold stepP
        dsimp only
        rw [ew, mx_max, if_neg (ngt24 hbig)]
        exact this
      refine ⟨n2, m2, Ev.step hstep (Ev.bind hx h2), ?_⟩
      rw [← e3, ← e4, ← Nat.add_assoc]
      exact hp
theorem sizeP_ev {e : S72} (h : OkE e) (hb : cntE e < 4611686018427387904) : ∃ n m : Nat, Ev (fun k => expr_size.f k e.f0 e.f1 e.f2.f0 e.f2.f1 e.f2.f2 e.f3) ((n : Int), (m : Int)) ∧ SzP (cntE e) (depE e) n m := by
  induction h with
  | mk e hl hs ih =>
    have hc := cntE_eq e
    have hd := depE_eq e
    obtain ⟨n, m, h0, hp⟩ := sizeP_l0 e.f3 hl (fun x hx => dep_le (hs x hx)) ih e.f3.length 0 1 0 (by omega) (by omega) (by rw [List.drop_zero]; omega)
    rw [List.drop_zero] at hp
    refine ⟨n, m, Ev.step (fun k => by simp only [expr_size.f]; rfl) h0, ?_⟩
    rw [hc, hd]
    have e2 : max 0 (maxL (e.f3.map depE)) + 1 = 1 + maxL (e.f3.map depE) := by omega
    rw [e2] at hp
    exact hp
/-- Is it too great? -/
def tooE (e : S72) : Bool := decide (24 < cntE e) || decide (8 < depE e)
theorem too_same {e : S72} {n m : Nat} (h : SzP (cntE e) (depE e) n m) : (decide (24 < n) || decide (8 < m)) = tooE e := by
  unfold tooE
  by_cases hn : n ≤ 24
  · obtain ⟨e1, e2⟩ := h.eq hn
    rw [e1, e2]
  · have := h.le
    rw [decide_eq_true (show 24 < n by omega), decide_eq_true (show 24 < cntE e by omega)]
    rfl
end Go.Proofs.YtefdfgmlmjnmlaaDoor.My
end

section
set_option linter.unusedSimpArgs false
set_option maxRecDepth 10000
namespace Go.Proofs.YtefdfgmlmjnmlaaDoor.My
open Go.RowKit Go.Proofs.YtefdfgmlmjnmlaaDoorW.PrintWords Go.Proofs.YtefdfgmlmjnmlaaDoor.Rf
open Go.Proofs.YtefdfgmlmjnmlaaDoor
theorem cnts_le {H : Type} : ∀ {l : List S72} {es : List (DataW H)}, All2 (fun (y : S72) x => cntE y ≤ Rows.uptoBulk x) l es → (l.map cntE).sum ≤ Rows.uptoBulkAll es := by
  intro l es h
  induction h with
  | nil => exact Nat.le_refl _
  | cons h _ ih => simp only [List.map_cons, List.sum_cons, Rows.uptoBulkAll]; omega
theorem cnt_part {l : List S72} {x : S72} (h : x ∈ l) : cntE x ≤ (l.map cntE).sum := by
  induction l with
  | nil => cases h
  | cons y r ih =>
    simp only [List.map_cons, List.sum_cons]
    cases List.mem_cons.1 h with
    | inl e => subst e; omega
    | inr e => have := ih e; omega
section
variable {H : Type} {enc : TypeId × Value → H} {w : World} {b : Nat} {sp : Nat → Bool} {held : Bool}
theorem open72U : ∀ (fuel : Nat) (cs : List Value) (x : DataW H × List MemPlace), DataW.trod enc Tryd.prog w b sp held fuel 72 cs = some x → ∃ y, k72.K w y cs ∧ cntE y ≤ Rows.uptoBulk x.1 := by
  intro fuel
  induction fuel using Nat.strongRecOn with
  | ind fuel ih =>
    intro cs x h
    obtain ⟨xs, n, rfl, rfl, hl, hx, hf⟩ := DataW.trod_struct Tryd.underlying72 h
    rw [c72] at hl
    obtain ⟨v0, v1, v2, v3, v4, v5, rfl⟩ := list6 hl
    obtain ⟨x0, x1, x2, x3, rfl⟩ := list4 (show xs.length = 4 from hx)
    have h0 := hf 0 _ rfl
    have h1 := hf 1 _ rfl
    have h2 := hf 2 _ rfl
    have h3 := hf 3 _ rfl
    simp only [c3, c70, c43, List.drop_zero, List.drop_succ_cons, List.take_succ_cons, List.take_zero, List.getElem?_cons_zero, List.getElem?_cons_succ] at h0 h1 h2 h3
    obtain ⟨a0, e0, q0⟩ := open3 h0
    obtain ⟨a1, e1, q1⟩ := open3 h1
    obtain ⟨a2, e2, q2⟩ := open70 h2
    obtain ⟨A, c, l, es, e3, l3, g3, q3, u3⟩ := open_rowU (d := k72) (Q := fun (y : S72) x => cntE y ≤ Rows.uptoBulk x) Tryd.underlying43 (by rw [c72]; rfl) h3 (fun m hm => ih m (by omega))
    have e2 := k70_open e2
    cases e0; cases e1; cases e2; cases e3
    refine ⟨⟨a0, a1, a2, l⟩, k72_mk w ⟨a0, a1, a2, l⟩ l3 g3, ?_⟩
    have h5 := cnts_le q3
    rw [cntE_eq]
    simp only [List.map_cons, List.map_nil, Rows.uptoBulk, Rows.uptoBulkAll]
    show 1 + (l.map cntE).sum ≤ _
    omega
theorem open45V {fuel : Nat} {cs : List Value} {x : DataW H × List MemPlace} (h : DataW.trod enc Tryd.prog w b sp held fuel 45 cs = some x) :
    ∃ (t : S45) (A : Option Addr) (c : Nat) (A' : Option Addr) (c' : Nat), cs = [.string t.f0, .int .i64 t.f1, .slice A t.f2.length c, .slice A' t.f3.length c'] ∧ t.f2.length ≤ c ∧ Kd.C k59 w A t.f2.length t.f2 ∧ t.f3.length ≤ c' ∧ Kd.C k72 w A' t.f3.length t.f3 ∧ (∀ y, y ∈ t.f3 → cntE y ≤ Rows.uptoBulk x.1) ∧ t.f0.size ≤ 9223372036854775807 ∧ (∀ y, y ∈ t.f2 → y.f0.size ≤ 9223372036854775807) ∧ OkT t := by
  obtain ⟨xs, n, rfl, rfl, hl, hx, hf⟩ := DataW.trod_struct Tryd.underlying45 h
  rw [c45] at hl
  obtain ⟨v0, v1, v2, v3, rfl⟩ := list4 hl
  obtain ⟨x0, x1, x2, x3, rfl⟩ := list4 (show xs.length = 4 from hx)
  have h0 := hf 0 _ rfl
  have h1 := hf 1 _ rfl
  have h2 := hf 2 _ rfl
  have h3 := hf 3 _ rfl
  simp only [c3, c9, c42, c43, List.drop_zero, List.drop_succ_cons, List.take_succ_cons, List.take_zero, List.getElem?_cons_zero, List.getElem?_cons_succ] at h0 h1 h2 h3
  obtain ⟨a0, e0, q0⟩ := open9 h0
  obtain ⟨a1, e1, q1⟩ := open3 h1
  obtain ⟨A, c, l, e2, l2, g2, q2⟩ := open_rowK (d := k59) (Q := Q59) Tryd.underlying42 (by rw [c59]; rfl) h2 (fun m _ _ _ hm => open59 hm)
  obtain ⟨A', c', l', es, e3, l3, g3, q3, u3⟩ := open_rowU (d := k72) (Q := fun (y : S72) x => cntE y ≤ Rows.uptoBulk x) Tryd.underlying43 (by rw [c72]; rfl) h3 (fun m _ => open72U m)
  cases e0; cases e1; cases e2; cases e3
  refine ⟨⟨a0, a1, l, l'⟩, A, c, A', c', rfl, l2, g2, l3, g3, fun y hy => ?_, q0, fun y hy => (q2 y hy).a, okT_of (k45_mk w ⟨a0, a1, l, l'⟩ l2 g2 l3 g3)⟩
  have h5 := cnts_le q3
  have h6 : cntE y ≤ (l'.map cntE).sum := cnt_part hy
  simp only [List.map_cons, List.map_nil, Rows.uptoBulk, Rows.uptoBulkAll]
  omega
end
end Go.Proofs.YtefdfgmlmjnmlaaDoor.My
end

section
namespace Go.Proofs.YtefdfgmlmjnmlaaDoor.My
open Go.RowKit Go.Proofs.YtefdfgmlmjnmlaaDoorW.PrintWords Go.Proofs.YtefdfgmlmjnmlaaDoor.Rf
/-- Is this the column of a name? -/
def isC (nm : ByteArray) (t : S59) : Bool := t.f0.toList == nm.toList
def placeC (l : List S59) (nm : ByteArray) : Int := idx (isC nm) l
set_option maxHeartbeats 4000000 in
set_option maxRecDepth 100000 in
theorem isC_calls (t : S59) (nm : ByteArray) (b : Nat) (w : World) (hb : w.heap[b]? = some (.cells #[.string nm] 9 (0, 0))) :
    Calls Tryd.prog 59 #[.agg #[.string t.f0, .int .i64 t.f1, .bool t.f2, .bool t.f3, .string t.f4, .int .i64 t.f5], .pointer (some ⟨b, 0, none⟩)] w fun e w' => e = .returned (.bool (isC nm t)) ∧ Below w.heap.size w w' := by
  have c0 : w.cell? ⟨b, 0, none⟩ = some (.string nm) := blk_cell hb 0
  have hlt := blk_lt hb
  clear hb
  go_enter Tryd.func59, Tryd.ntmps59
  go_wp2
  go_ret
  exact ⟨rfl, (Below.refl _ _).alloc (Nat.le_refl _) _⟩
set_option maxHeartbeats 4000000 in
set_option maxRecDepth 100000 in
theorem idxC_calls (l : List S59) (A : Option Addr) (c : Nat) (nm : ByteArray) (b : Nat) (w : World) (hr : Kd.C k59 w A l.length l) (hb : w.heap[b]? = some (.cells #[.string nm] 9 (0, 0))) :
    Calls Tryd.prog 58 #[.slice A l.length c, .func (.func 59) #[] #[.pointer (some ⟨b, 0, none⟩)]] w fun e w' => e = .returned (.int .i64 (placeC l nm)) ∧ Below w.heap.size w w' := by
  have HR := Aside0.mk hr
  have HBL := Aside0.mk hb
  have hn : l.length ≤ 9223372036854775807 := hr.2.1
  clear hr hb
  go_enter Tryd.func58, Tryd.ntmps58
  go_wp2
  go_loopw [5, 8] (fun _ t8 wr => ∃ k : Nat, t8 = .int .i64 k ∧ k ≤ l.length ∧ Aside0 (∀ j, j < k → isC nm (l.getD j z59) = false) ∧ Aside0 (Below w.heap.size w wr)) (fun _ t8 _ => l.length - (intOf t8).toNat)
  case atStart => exact ⟨0, rfl, Nat.zero_le _, ⟨fun j hj => absurd hj (by omega)⟩, ⟨Below.refl _ _⟩⟩
  case round =>
    obtain ⟨k, rfl, hk, HA, HB⟩ := hrel
    by_cases hlt : k < l.length
    · obtain ⟨ad, e, hc0, hc1, hc2, hc3, hc4, hc5⟩ := at_T59 HR.out (k : Int) (by omega) (by omega)
      subst e
      simp only [Int.toNat_natCast, rd_T59] at hc0 hc1 hc2 hc3 hc4 hc5
      generalize hx : l.getD k z59 = x at hc0 hc1 hc2 hc3 hc4 hc5
      have HXX := Aside0.mk hx
      have d0 := (HB.out.cell (World.block_lt_of_cell? w _ hc0)).trans hc0
      have d1 := (HB.out.cell (World.block_lt_of_cell? w _ hc1)).trans hc1
      have d2 := (HB.out.cell (World.block_lt_of_cell? w _ hc2)).trans hc2
      have d3 := (HB.out.cell (World.block_lt_of_cell? w _ hc3)).trans hc3
      have d4 := (HB.out.cell (World.block_lt_of_cell? w _ hc4)).trans hc4
      have d5 := (HB.out.cell (World.block_lt_of_cell? w _ hc5)).trans hc5
      clear hc0 hc1 hc2 hc3 hc4 hc5 hx
      have hi0 : (0 : Int) ≤ (k : Int) := by omega
      have hi1 : (k : Int) < (l.length : Int) := by omega
      have HBLK := Aside0.mk (blk_below HBL.out HB.out)
      cases hp : isC nm x with
      | true =>
        have hres : placeC l nm = k := idx_hit _ l z59 k hlt HA.out (by rw [HXX.out]; exact hp)
        have HP := Aside0.mk hp
        have HRES := Aside0.mk hres
        clear hp hres
        go_wp2_with (go_at_call 59; refine (isC_calls x nm b _ HBLK.out).mono ?_; rw [HP.out]; rintro e w2 ⟨rfl, hb2⟩)
        go_ret
        exact ⟨by rw [HRES.out]; rfl, HB.out.trans (hb2.mono HB.out.size)⟩
      | false =>
        have hall : ∀ j, j < k + 1 → isC nm (l.getD j z59) = false := fun j hj => by
          rcases Nat.lt_or_ge j k with h | h
          · exact HA.out j h
          · obtain rfl : j = k := by omega
            rw [HXX.out]; exact hp
        have HP := Aside0.mk hp
        have HALL := Aside0.mk hall
        clear hp hall
        go_wp2_with (go_at_call 59; refine (isC_calls x nm b _ HBLK.out).mono ?_; rw [HP.out]; rintro e w2 ⟨rfl, hb2⟩)
        go_roundw
        case rel => exact ⟨k + 1, by go_num, by omega, HALL, ⟨HB.out.trans (hb2.mono HB.out.size)⟩⟩
        case measure => simp [intOf]; omega
    · have hres : placeC l nm = -1 := idx_none _ l z59 (fun j hj => HA.out j (by omega))
      have HRES := Aside0.mk hres
      clear hres
      go_wp2
      go_ret
      exact ⟨by rw [HRES.out]; rfl, HB.out⟩
structure IntPost (b : Int) (w : World) (e : Ending) (w' : World) : Prop where
  out : e = .returned (.int .i64 b) ∧ Below w.heap.size w w'
set_option maxHeartbeats 4000000 in
set_option maxRecDepth 100000 in
theorem place_calls (t : S45) (A : Option Addr) (c : Nat) (A' : Option Addr) (c' : Nat) (nm : ByteArray) (w : World) (hr : Kd.C k59 w A t.f2.length t.f2) :
    Calls Tryd.prog 34 #[.agg #[.string t.f0, .int .i64 t.f1, .slice A t.f2.length c, .slice A' t.f3.length c'], .string nm] w (IntPost (placeC t.f2 nm) w) := by
  have HR := Aside0.mk hr
  clear hr
  go_enter Tryd.func34, Tryd.ntmps34
  go_wp2_with fail
  refine (idxC_calls t.f2 A c nm (w.heap.size + 1) _ ?hC ?hN).mono ?_
  case hC => exact Kd.C_below HR.out (below2 w _ _)
  case hN => exact blk_new1 w _ _
  rintro e w4 ⟨rfl, hb⟩
  go_wp2
  go_ret
  exact ⟨rfl, below_step (below2 w _ _) hb⟩
end Go.Proofs.YtefdfgmlmjnmlaaDoor.My
end

section
set_option linter.unusedSimpArgs false
set_option linter.unusedVariables false
namespace Go.Proofs.YtefdfgmlmjnmlaaDoor.My
open Go.RowKit Go.Proofs.YtefdfgmlmjnmlaaDoorW.PrintWords Go.Proofs.YtefdfgmlmjnmlaaDoor.Rf
theorem add_none (a : Addr) : a.add 0 = a := by simp [Addr.add]
def colBad1 (l : List S59) (i : Nat) (c : S59) : Bool := !isName c.f0 || (decide (placeC l c.f0 ≠ (i : Int)) || (decide (c.f1 < 1) || (decide (3 < c.f1) || (decide (c.f5 < 0) || decide (2 < c.f5)))))
def colBad2 (i : Nat) (c : S59) : Bool := (decide (i = 0) && (!c.f2 || (c.f3 || !c.f4.toList.isEmpty))) || ((c.f4.toList.isEmpty && !decide (c.f5 = 0)) || (decide (c.f5 = 2) && c.f2))
/-- What is wrong with the tables that a column refers to. -/
def colRef (t : S45) (c : S59) (ts : List S45) : Int :=
  let o := if c.f4.toList == t.f0.toList then t else theT ts c.f4
  if ((c.f4.toList == t.f0.toList) = false ∧ findT ts c.f4 < 0) ∨ o.f2.length = 0 then 8
  else if (o.f2.getD 0 z59).f1 ≠ c.f1 then 9 else 0
def colE (t : S45) (i : Nat) (ts : List S45) : Int :=
  let c := t.f2.getD i z59
  if colBad1 t.f2 i c then 4 else if colBad2 i c then 4 else if c.f4.toList.isEmpty then 0 else colRef t c ts
theorem bad2_i0 {i : Nat} {x : S59} (h : i = 0) (he : x.f4.toList.isEmpty = false) : colBad2 i x = true := by
  simp [colBad2, h, he]
theorem bad2_set {i : Nat} {x : S59} (h : x.f5 = 2) (h2 : x.f2 = true) : colBad2 i x = true := by
  simp [colBad2, h, h2]
theorem bad2_no {i : Nat} {x : S59} (he : x.f4.toList.isEmpty = false) (h : ¬ i = 0) (h5 : ¬ x.f5 = 2 ∨ ¬ x.f2 = true) : colBad2 i x = false := by
  rcases h5 with h5 | h5 <;> simp [colBad2, he, h, h5]
theorem ref_self {t : S45} {x y : S59} {ts : List S45} (hs : (x.f4.toList == t.f0.toList) = true) (hz : ¬ t.f2.length = 0) (hy : t.f2.getD 0 z59 = y) : colRef t x ts = if y.f1 ≠ x.f1 then 9 else 0 := by
  unfold colRef
  simp only [hs, if_true]
  rw [if_neg (by intro h; rcases h with h | h; exact absurd h.1 (by decide); exact hz h), hy]
theorem ref_none {t : S45} {x : S59} {ts : List S45} (hs : (x.f4.toList == t.f0.toList) = false) (h : findT ts x.f4 < 0) : colRef t x ts = 8 := by
  unfold colRef
  simp only [hs]
  exact if_pos (.inl ⟨trivial, h⟩)
theorem ref_empty {t : S45} {x : S59} {ts : List S45} (hs : (x.f4.toList == t.f0.toList) = false) (h : (theT ts x.f4).f2.length = 0) : colRef t x ts = 8 := by
  unfold colRef
  simp only [hs]
  rw [if_pos (.inr h)]
theorem ref_other {t : S45} {x z : S59} {ts : List S45} (hs : (x.f4.toList == t.f0.toList) = false) (hn : ¬ findT ts x.f4 < 0) (hz : ¬ (theT ts x.f4).f2.length = 0) (hy : (theT ts x.f4).f2.getD 0 z59 = z) : colRef t x ts = if z.f1 ≠ x.f1 then 9 else 0 := by
  unfold colRef
  simp only [hs]
  rw [if_neg (by intro h; rcases h with h | h; exact hn h.2; exact hz h)]
  simp only [Bool.false_eq_true, if_false, hy]
theorem nine {a b : Int} (h : (a != b) = true) : (if a ≠ b then 9 else 0 : Int) = 9 := if_pos (by simpa using h)
theorem zero0 {a b : Int} (h : (a != b) = false) : (if a ≠ b then 9 else 0 : Int) = 0 := if_neg (by simpa using h)
set_option maxHeartbeats 4000000 in
set_option maxRecDepth 100000 in
theorem column_calls (t : S45) (A : Option Addr) (c : Nat) (A' : Option Addr) (c' : Nat) (i : Nat) (v : Int) (ts : List S45) (B : Option Addr) (d : Nat) (B' : Option Addr) (n' d' : Nat) (w : World)
    (hr : Kd.C k59 w A t.f2.length t.f2) (hts : Kd.C k45 w B ts.length ts) (hT : Tabs w) (hi : i < t.f2.length) (hok : ∀ x, x ∈ t.f2 → x.f0.size ≤ 9223372036854775807) :
    Calls Tryd.prog 60 #[.agg #[.string t.f0, .int .i64 t.f1, .slice A t.f2.length c, .slice A' t.f3.length c'], .int .i64 i, .agg #[.int .i64 v, .slice B ts.length d, .slice B' n' d']] w (IntPost (colE t i ts) w) := by
  have hC0 := hr
  obtain ⟨ad, e, hc0, hc1, hc2, hc3, hc4, hc5⟩ := at_T59 hr (i : Int) (by omega) (by omega)
  subst e
  obtain ⟨_, e', _, hy1, _, _, _, _⟩ := at_T59 hr 0 (by omega) (by omega)
  cases e'
  have hsz : (t.f2.getD i z59).f0.size ≤ 9223372036854775807 := hok _ (by simp [List.getD, List.getElem?_eq_getElem hi])
  simp only [Int.toNat_natCast, rd_T59] at hc0 hc1 hc2 hc3 hc4 hc5
  simp only [Int.toNat_zero, rd_T59, Nat.zero_mul, add_none] at hy1
  have hspec : colE t i ts = (if colBad1 t.f2 i (t.f2.getD i z59) then 4 else if colBad2 i (t.f2.getD i z59) then 4 else if (t.f2.getD i z59).f4.toList.isEmpty then 0 else colRef t (t.f2.getD i z59) ts) := rfl
  generalize hx : t.f2.getD i z59 = x at hc0 hc1 hc2 hc3 hc4 hc5 hsz hspec
  generalize hyy : t.f2.getD 0 z59 = y at hy1
  have HYY := Aside0.mk hyy
  have HXX := Aside0.mk hx
  have HSP := Aside0.mk hspec
  have hi0 : (0 : Int) ≤ (i : Int) := by omega
  have hz0 : 0 < t.f2.length := by omega
  have hz3 : ¬ t.f2.length = 0 := by omega
  have hi1 : (i : Int) < (t.f2.length : Int) := by omega
  have b2 := below2 w (.cells #[.string t.f0, .int .i64 t.f1, .slice (some ad) t.f2.length c, .slice A' t.f3.length c'] 45) (.cells #[.int .i64 v, .slice B ts.length d, .slice B' n' d'] 25)
  have d0 := cell_now b2 hc0
  have d1 := cell_now b2 hc1
  have d2 := cell_now b2 hc2
  have d3 := cell_now b2 hc3
  have d4 := cell_now b2 hc4
  have d5 := cell_now b2 hc5
  have b3 := below3 w (.cells #[.string t.f0, .int .i64 t.f1, .slice (some ad) t.f2.length c, .slice A' t.f3.length c'] 45) (.cells #[.int .i64 v, .slice B ts.length d, .slice B' n' d'] 25) (.cells #[.string x.f0, .int .i64 x.f1, .bool x.f2, .bool x.f3, .string x.f4, .int .i64 x.f5] 59)
  have hk3 := blk_alloc (blk_alloc (blk_new w (.cells #[.string t.f0, .int .i64 t.f1, .slice (some ad) t.f2.length c, .slice A' t.f3.length c'] 45)) (.cells #[.int .i64 v, .slice B ts.length d, .slice B' n' d'] 25)) (.cells #[.string x.f0, .int .i64 x.f1, .bool x.f2, .bool x.f3, .string x.f4, .int .i64 x.f5] 59)
  have hl3 := blk_alloc (blk_new1 w (.cells #[.string t.f0, .int .i64 t.f1, .slice (some ad) t.f2.length c, .slice A' t.f3.length c'] 45) (.cells #[.int .i64 v, .slice B ts.length d, .slice B' n' d'] 25)) (.cells #[.string x.f0, .int .i64 x.f1, .bool x.f2, .bool x.f3, .string x.f4, .int .i64 x.f5] 59)
  have hm3 := blk_new2 w (.cells #[.string t.f0, .int .i64 t.f1, .slice (some ad) t.f2.length c, .slice A' t.f3.length c'] 45) (.cells #[.int .i64 v, .slice B ts.length d, .slice B' n' d'] 25) (.cells #[.string x.f0, .int .i64 x.f1, .bool x.f2, .bool x.f3, .string x.f4, .int .i64 x.f5] 59)
  have HB3 := Aside0.mk b3
  have HK3 := Aside0.mk hk3
  have HL3 := Aside0.mk hl3
  have HM3 := Aside0.mk hm3
  have HR3 := Aside0.mk (Kd.C_below hr b3)
  have HS3 := Aside0.mk (Kd.C_below hts b3)
  have HT3 := Aside0.mk (hT.below b3)
  have HY3 := Aside0.mk (cell_now b3 hy1)
  clear hc0 hc1 hc2 hc3 hc4 hc5 hx hyy hspec b2 b3 hk3 hl3 hm3 hr hts hT hok hC0 hy1
  cases hn : isName x.f0 with
  | false =>
    go_enter Tryd.func60, Tryd.ntmps60
    go_wp2_with (first | (go_at_call 32; refine (name_calls x.f0 _ hsz HT3.out).mono ?_; rintro e wa ⟨rfl, hba⟩; rw [hn]; have HKa := Aside0.mk (blk_below HK3.out hba); have HLa := Aside0.mk (blk_below HL3.out hba); have HMa := Aside0.mk (blk_below HM3.out hba); have HRa := Aside0.mk (Kd.C_below HR3.out hba); have HSa := Aside0.mk (Kd.C_below HS3.out hba); have HTa := Aside0.mk (HT3.out.below hba); have HBa := Aside0.mk (below_step HB3.out hba); have k0a := blk_cell HKa.out 0; have k1a := blk_cell HKa.out 1; have k2a := blk_cell HKa.out 2; have k3a := blk_cell HKa.out 3; have l0a := blk_cell HLa.out 0; have l1a := blk_cell HLa.out 1; have l2a := blk_cell HLa.out 2; have m0a := blk_cell HMa.out 0; have m1a := blk_cell HMa.out 1; have m2a := blk_cell HMa.out 2; have m3a := blk_cell HMa.out 3; have m4a := blk_cell HMa.out 4; have m5a := blk_cell HMa.out 5))
    go_ret
    exact ⟨by rw [HSP.out]; simp only [colBad1, hn]; rfl, HBa.out⟩
  | true =>
    by_cases hp : placeC t.f2 x.f0 = (i : Int)
    · by_cases g1 : x.f1 < 1
      · have hd1 := decide_eq_true g1
        go_enter Tryd.func60, Tryd.ntmps60
        go_wp2_with (first | (go_at_call 32; refine (name_calls x.f0 _ hsz HT3.out).mono ?_; rintro e wa ⟨rfl, hba⟩; rw [hn]; have HKa := Aside0.mk (blk_below HK3.out hba); have HLa := Aside0.mk (blk_below HL3.out hba); have HMa := Aside0.mk (blk_below HM3.out hba); have HRa := Aside0.mk (Kd.C_below HR3.out hba); have HSa := Aside0.mk (Kd.C_below HS3.out hba); have HTa := Aside0.mk (HT3.out.below hba); have HBa := Aside0.mk (below_step HB3.out hba); have k0a := blk_cell HKa.out 0; have k1a := blk_cell HKa.out 1; have k2a := blk_cell HKa.out 2; have k3a := blk_cell HKa.out 3; have l0a := blk_cell HLa.out 0; have l1a := blk_cell HLa.out 1; have l2a := blk_cell HLa.out 2; have m0a := blk_cell HMa.out 0; have m1a := blk_cell HMa.out 1; have m2a := blk_cell HMa.out 2; have m3a := blk_cell HMa.out 3; have m4a := blk_cell HMa.out 4; have m5a := blk_cell HMa.out 5) | (go_at_call 34; refine (place_calls t (some ad) c A' c' x.f0 _ HRa.out).mono ?_; rintro e wb ⟨rfl, hbb⟩; rw [hp]; have HKb := Aside0.mk (blk_below HKa.out hbb); have HLb := Aside0.mk (blk_below HLa.out hbb); have HMb := Aside0.mk (blk_below HMa.out hbb); have HRb := Aside0.mk (Kd.C_below HRa.out hbb); have HSb := Aside0.mk (Kd.C_below HSa.out hbb); have HTb := Aside0.mk (HTa.out.below hbb); have HBb := Aside0.mk (below_step HBa.out hbb); have k0b := blk_cell HKb.out 0; have k1b := blk_cell HKb.out 1; have k2b := blk_cell HKb.out 2; have k3b := blk_cell HKb.out 3; have l0b := blk_cell HLb.out 0; have l1b := blk_cell HLb.out 1; have l2b := blk_cell HLb.out 2; have m0b := blk_cell HMb.out 0; have m1b := blk_cell HMb.out 1; have m2b := blk_cell HMb.out 2; have m3b := blk_cell HMb.out 3; have m4b := blk_cell HMb.out 4; have m5b := blk_cell HMb.out 5; clear k0a k1a k2a k3a l0a l1a l2a m0a m1a m2a m3a m4a m5a))
        go_ret
        exact ⟨by rw [HSP.out]; simp [colBad1, hn, hp, g1], HBb.out⟩
      · have hd1 := decide_eq_false g1
        by_cases g2 : 3 < x.f1
        · have hd2 := decide_eq_true g2
          go_enter Tryd.func60, Tryd.ntmps60
          go_wp2_with (first | (go_at_call 32; refine (name_calls x.f0 _ hsz HT3.out).mono ?_; rintro e wa ⟨rfl, hba⟩; rw [hn]; have HKa := Aside0.mk (blk_below HK3.out hba); have HLa := Aside0.mk (blk_below HL3.out hba); have HMa := Aside0.mk (blk_below HM3.out hba); have HRa := Aside0.mk (Kd.C_below HR3.out hba); have HSa := Aside0.mk (Kd.C_below HS3.out hba); have HTa := Aside0.mk (HT3.out.below hba); have HBa := Aside0.mk (below_step HB3.out hba); have k0a := blk_cell HKa.out 0; have k1a := blk_cell HKa.out 1; have k2a := blk_cell HKa.out 2; have k3a := blk_cell HKa.out 3; have l0a := blk_cell HLa.out 0; have l1a := blk_cell HLa.out 1; have l2a := blk_cell HLa.out 2; have m0a := blk_cell HMa.out 0; have m1a := blk_cell HMa.out 1; have m2a := blk_cell HMa.out 2; have m3a := blk_cell HMa.out 3; have m4a := blk_cell HMa.out 4; have m5a := blk_cell HMa.out 5) | (go_at_call 34; refine (place_calls t (some ad) c A' c' x.f0 _ HRa.out).mono ?_; rintro e wb ⟨rfl, hbb⟩; rw [hp]; have HKb := Aside0.mk (blk_below HKa.out hbb); have HLb := Aside0.mk (blk_below HLa.out hbb); have HMb := Aside0.mk (blk_below HMa.out hbb); have HRb := Aside0.mk (Kd.C_below HRa.out hbb); have HSb := Aside0.mk (Kd.C_below HSa.out hbb); have HTb := Aside0.mk (HTa.out.below hbb); have HBb := Aside0.mk (below_step HBa.out hbb); have k0b := blk_cell HKb.out 0; have k1b := blk_cell HKb.out 1; have k2b := blk_cell HKb.out 2; have k3b := blk_cell HKb.out 3; have l0b := blk_cell HLb.out 0; have l1b := blk_cell HLb.out 1; have l2b := blk_cell HLb.out 2; have m0b := blk_cell HMb.out 0; have m1b := blk_cell HMb.out 1; have m2b := blk_cell HMb.out 2; have m3b := blk_cell HMb.out 3; have m4b := blk_cell HMb.out 4; have m5b := blk_cell HMb.out 5; clear k0a k1a k2a k3a l0a l1a l2a m0a m1a m2a m3a m4a m5a))
          go_ret
          exact ⟨by rw [HSP.out]; simp [colBad1, hn, hp, g2], HBb.out⟩
        · have hd2 := decide_eq_false g2
          by_cases g3 : x.f5 < 0
          · have hd3 := decide_eq_true g3
            go_enter Tryd.func60, Tryd.ntmps60
            go_wp2_with (first | (go_at_call 32; refine (name_calls x.f0 _ hsz HT3.out).mono ?_; rintro e wa ⟨rfl, hba⟩; rw [hn]; have HKa := Aside0.mk (blk_below HK3.out hba); have HLa := Aside0.mk (blk_below HL3.out hba); have HMa := Aside0.mk (blk_below HM3.out hba); have HRa := Aside0.mk (Kd.C_below HR3.out hba); have HSa := Aside0.mk (Kd.C_below HS3.out hba); have HTa := Aside0.mk (HT3.out.below hba); have HBa := Aside0.mk (below_step HB3.out hba); have k0a := blk_cell HKa.out 0; have k1a := blk_cell HKa.out 1; have k2a := blk_cell HKa.out 2; have k3a := blk_cell HKa.out 3; have l0a := blk_cell HLa.out 0; have l1a := blk_cell HLa.out 1; have l2a := blk_cell HLa.out 2; have m0a := blk_cell HMa.out 0; have m1a := blk_cell HMa.out 1; have m2a := blk_cell HMa.out 2; have m3a := blk_cell HMa.out 3; have m4a := blk_cell HMa.out 4; have m5a := blk_cell HMa.out 5) | (go_at_call 34; refine (place_calls t (some ad) c A' c' x.f0 _ HRa.out).mono ?_; rintro e wb ⟨rfl, hbb⟩; rw [hp]; have HKb := Aside0.mk (blk_below HKa.out hbb); have HLb := Aside0.mk (blk_below HLa.out hbb); have HMb := Aside0.mk (blk_below HMa.out hbb); have HRb := Aside0.mk (Kd.C_below HRa.out hbb); have HSb := Aside0.mk (Kd.C_below HSa.out hbb); have HTb := Aside0.mk (HTa.out.below hbb); have HBb := Aside0.mk (below_step HBa.out hbb); have k0b := blk_cell HKb.out 0; have k1b := blk_cell HKb.out 1; have k2b := blk_cell HKb.out 2; have k3b := blk_cell HKb.out 3; have l0b := blk_cell HLb.out 0; have l1b := blk_cell HLb.out 1; have l2b := blk_cell HLb.out 2; have m0b := blk_cell HMb.out 0; have m1b := blk_cell HMb.out 1; have m2b := blk_cell HMb.out 2; have m3b := blk_cell HMb.out 3; have m4b := blk_cell HMb.out 4; have m5b := blk_cell HMb.out 5; clear k0a k1a k2a k3a l0a l1a l2a m0a m1a m2a m3a m4a m5a))
            go_ret
            exact ⟨by rw [HSP.out]; simp [colBad1, hn, hp, g3], HBb.out⟩
          · have hd3 := decide_eq_false g3
            by_cases g4 : 2 < x.f5
            · have hd4 := decide_eq_true g4
              go_enter Tryd.func60, Tryd.ntmps60
              go_wp2_with (first | (go_at_call 32; refine (name_calls x.f0 _ hsz HT3.out).mono ?_; rintro e wa ⟨rfl, hba⟩; rw [hn]; have HKa := Aside0.mk (blk_below HK3.out hba); have HLa := Aside0.mk (blk_below HL3.out hba); have HMa := Aside0.mk (blk_below HM3.out hba); have HRa := Aside0.mk (Kd.C_below HR3.out hba); have HSa := Aside0.mk (Kd.C_below HS3.out hba); have HTa := Aside0.mk (HT3.out.below hba); have HBa := Aside0.mk (below_step HB3.out hba); have k0a := blk_cell HKa.out 0; have k1a := blk_cell HKa.out 1; have k2a := blk_cell HKa.out 2; have k3a := blk_cell HKa.out 3; have l0a := blk_cell HLa.out 0; have l1a := blk_cell HLa.out 1; have l2a := blk_cell HLa.out 2; have m0a := blk_cell HMa.out 0; have m1a := blk_cell HMa.out 1; have m2a := blk_cell HMa.out 2; have m3a := blk_cell HMa.out 3; have m4a := blk_cell HMa.out 4; have m5a := blk_cell HMa.out 5) | (go_at_call 34; refine (place_calls t (some ad) c A' c' x.f0 _ HRa.out).mono ?_; rintro e wb ⟨rfl, hbb⟩; rw [hp]; have HKb := Aside0.mk (blk_below HKa.out hbb); have HLb := Aside0.mk (blk_below HLa.out hbb); have HMb := Aside0.mk (blk_below HMa.out hbb); have HRb := Aside0.mk (Kd.C_below HRa.out hbb); have HSb := Aside0.mk (Kd.C_below HSa.out hbb); have HTb := Aside0.mk (HTa.out.below hbb); have HBb := Aside0.mk (below_step HBa.out hbb); have k0b := blk_cell HKb.out 0; have k1b := blk_cell HKb.out 1; have k2b := blk_cell HKb.out 2; have k3b := blk_cell HKb.out 3; have l0b := blk_cell HLb.out 0; have l1b := blk_cell HLb.out 1; have l2b := blk_cell HLb.out 2; have m0b := blk_cell HMb.out 0; have m1b := blk_cell HMb.out 1; have m2b := blk_cell HMb.out 2; have m3b := blk_cell HMb.out 3; have m4b := blk_cell HMb.out 4; have m5b := blk_cell HMb.out 5; clear k0a k1a k2a k3a l0a l1a l2a m0a m1a m2a m3a m4a m5a))
              go_ret
              exact ⟨by rw [HSP.out]; simp [colBad1, hn, hp, g4], HBb.out⟩
            · have hd4 := decide_eq_false g4
              have hb1 : colBad1 t.f2 i x = false := by simp [colBad1, hn, hp, g1, g2, g3, g4]
              have HB1 := Aside0.mk hb1
              clear hb1
              cases he : x.f4.toList.isEmpty with
              | true =>
                go_enter Tryd.func60, Tryd.ntmps60
                go_wp2_with (first | (go_at_call 32; refine (name_calls x.f0 _ hsz HT3.out).mono ?_; rintro e wa ⟨rfl, hba⟩; rw [hn]; have HKa := Aside0.mk (blk_below HK3.out hba); have HLa := Aside0.mk (blk_below HL3.out hba); have HMa := Aside0.mk (blk_below HM3.out hba); have HRa := Aside0.mk (Kd.C_below HR3.out hba); have HSa := Aside0.mk (Kd.C_below HS3.out hba); have HTa := Aside0.mk (HT3.out.below hba); have HBa := Aside0.mk (below_step HB3.out hba); have k0a := blk_cell HKa.out 0; have k1a := blk_cell HKa.out 1; have k2a := blk_cell HKa.out 2; have k3a := blk_cell HKa.out 3; have l0a := blk_cell HLa.out 0; have l1a := blk_cell HLa.out 1; have l2a := blk_cell HLa.out 2; have m0a := blk_cell HMa.out 0; have m1a := blk_cell HMa.out 1; have m2a := blk_cell HMa.out 2; have m3a := blk_cell HMa.out 3; have m4a := blk_cell HMa.out 4; have m5a := blk_cell HMa.out 5) | (go_at_call 34; refine (place_calls t (some ad) c A' c' x.f0 _ HRa.out).mono ?_; rintro e wb ⟨rfl, hbb⟩; rw [hp]; have HKb := Aside0.mk (blk_below HKa.out hbb); have HLb := Aside0.mk (blk_below HLa.out hbb); have HMb := Aside0.mk (blk_below HMa.out hbb); have HRb := Aside0.mk (Kd.C_below HRa.out hbb); have HSb := Aside0.mk (Kd.C_below HSa.out hbb); have HTb := Aside0.mk (HTa.out.below hbb); have HBb := Aside0.mk (below_step HBa.out hbb); have k0b := blk_cell HKb.out 0; have k1b := blk_cell HKb.out 1; have k2b := blk_cell HKb.out 2; have k3b := blk_cell HKb.out 3; have l0b := blk_cell HLb.out 0; have l1b := blk_cell HLb.out 1; have l2b := blk_cell HLb.out 2; have m0b := blk_cell HMb.out 0; have m1b := blk_cell HMb.out 1; have m2b := blk_cell HMb.out 2; have m3b := blk_cell HMb.out 3; have m4b := blk_cell HMb.out 4; have m5b := blk_cell HMb.out 5; clear k0a k1a k2a k3a l0a l1a l2a m0a m1a m2a m3a m4a m5a))
                all_goals (first | (go_ret; refine ⟨congrArg (fun b => Ending.returned (.int .i64 b)) ?_, HBb.out⟩; rw [HSP.out, HB1.out]))
                all_goals (first | (simp_all [colBad2]; done))
              | false =>
                cases hs : (x.f4.toList == t.f0.toList) with
                | true =>
                  go_enter Tryd.func60, Tryd.ntmps60
                  go_wp2_with (first | (go_at_call 32; refine (name_calls x.f0 _ hsz HT3.out).mono ?_; rintro e wa ⟨rfl, hba⟩; rw [hn]; have HKa := Aside0.mk (blk_below HK3.out hba); have HLa := Aside0.mk (blk_below HL3.out hba); have HMa := Aside0.mk (blk_below HM3.out hba); have HRa := Aside0.mk (Kd.C_below HR3.out hba); have HSa := Aside0.mk (Kd.C_below HS3.out hba); have HTa := Aside0.mk (HT3.out.below hba); have HBa := Aside0.mk (below_step HB3.out hba); have k0a := blk_cell HKa.out 0; have k1a := blk_cell HKa.out 1; have k2a := blk_cell HKa.out 2; have k3a := blk_cell HKa.out 3; have l0a := blk_cell HLa.out 0; have l1a := blk_cell HLa.out 1; have l2a := blk_cell HLa.out 2; have m0a := blk_cell HMa.out 0; have m1a := blk_cell HMa.out 1; have m2a := blk_cell HMa.out 2; have m3a := blk_cell HMa.out 3; have m4a := blk_cell HMa.out 4; have m5a := blk_cell HMa.out 5) | (go_at_call 34; refine (place_calls t (some ad) c A' c' x.f0 _ HRa.out).mono ?_; rintro e wb ⟨rfl, hbb⟩; rw [hp]; have HKb := Aside0.mk (blk_below HKa.out hbb); have HLb := Aside0.mk (blk_below HLa.out hbb); have HMb := Aside0.mk (blk_below HMa.out hbb); have HRb := Aside0.mk (Kd.C_below HRa.out hbb); have HSb := Aside0.mk (Kd.C_below HSa.out hbb); have HTb := Aside0.mk (HTa.out.below hbb); have HBb := Aside0.mk (below_step HBa.out hbb); have k0b := blk_cell HKb.out 0; have k1b := blk_cell HKb.out 1; have k2b := blk_cell HKb.out 2; have k3b := blk_cell HKb.out 3; have l0b := blk_cell HLb.out 0; have l1b := blk_cell HLb.out 1; have l2b := blk_cell HLb.out 2; have m0b := blk_cell HMb.out 0; have m1b := blk_cell HMb.out 1; have m2b := blk_cell HMb.out 2; have m3b := blk_cell HMb.out 3; have m4b := blk_cell HMb.out 4; have m5b := blk_cell HMb.out 5; clear k0a k1a k2a k3a l0a l1a l2a m0a m1a m2a m3a m4a m5a) | (go_at_call 29; refine (find_calls v ts B d B' n' d' x.f4 _ HSb.out).mono ?_; rintro e wc ⟨A2, A3, c2, c3, rfl, hl2, hC2, hl3, hC3, hbc⟩; have HKc := Aside0.mk (blk_below HKb.out hbc); have HLc := Aside0.mk (blk_below HLb.out hbc); have HMc := Aside0.mk (blk_below HMb.out hbc); have HRc := Aside0.mk (Kd.C_below HRb.out hbc); have HSc := Aside0.mk (Kd.C_below HSb.out hbc); have HTc := Aside0.mk (HTb.out.below hbc); have HBc := Aside0.mk (below_step HBb.out hbc); have k0c := blk_cell HKc.out 0; have k1c := blk_cell HKc.out 1; have k2c := blk_cell HKc.out 2; have k3c := blk_cell HKc.out 3; have l0c := blk_cell HLc.out 0; have l1c := blk_cell HLc.out 1; have l2c := blk_cell HLc.out 2; have m0c := blk_cell HMc.out 0; have m1c := blk_cell HMc.out 1; have m2c := blk_cell HMc.out 2; have m3c := blk_cell HMc.out 3; have m4c := blk_cell HMc.out 4; have m5c := blk_cell HMc.out 5; clear k0b k1b k2b k3b l0b l1b l2b m0b m1b m2b m3b m4b m5b; have hyc := cell_now hbc (cell_now hbb (cell_now hba HY3.out)); have HC2 := Aside0.mk hC2; have HC3 := Aside0.mk hC3; clear hl2 hC2 hl3 hC3; have gk := blk_lt HKc.out; have gm := blk_lt HMc.out; have gy := World.block_lt_of_cell? wc _ hyc))
                  all_goals (try (go_quiet (fail); go_wp2))
                  all_goals (go_ret; refine ⟨congrArg (fun b => Ending.returned (.int .i64 b)) ?_, ?_⟩)
                  all_goals (first | exact HBb.out | exact HBc.out | exact below_alloc HBc.out _ | exact pw_below_drewN (below_alloc HBc.out _) _ | skip)
                  all_goals (first
                    | (rw [HSP.out, HB1.out, bad2_i0 (by assumption) he]; rfl)
                    | (rw [HSP.out, HB1.out, bad2_set (by assumption) (by assumption)]; rfl)
                    | (rw [HSP.out, HB1.out, bad2_no he (by assumption) (by first | (left; assumption) | (right; assumption) | (right; simp only [*]; decide)), he]; show _ = colRef t x ts; rw [ref_self hs hz3 HYY.out]; first | exact (nine (by assumption)).symm | exact (zero0 (by assumption)).symm)
                   )
                | false =>
                  by_cases hneg : findT ts x.f4 < 0
                  · have hfd : decide (0 ≤ findT ts x.f4) = false := decide_eq_false (by omega)
                    go_enter Tryd.func60, Tryd.ntmps60
                    go_wp2_with (first | (go_at_call 32; refine (name_calls x.f0 _ hsz HT3.out).mono ?_; rintro e wa ⟨rfl, hba⟩; rw [hn]; have HKa := Aside0.mk (blk_below HK3.out hba); have HLa := Aside0.mk (blk_below HL3.out hba); have HMa := Aside0.mk (blk_below HM3.out hba); have HRa := Aside0.mk (Kd.C_below HR3.out hba); have HSa := Aside0.mk (Kd.C_below HS3.out hba); have HTa := Aside0.mk (HT3.out.below hba); have HBa := Aside0.mk (below_step HB3.out hba); have k0a := blk_cell HKa.out 0; have k1a := blk_cell HKa.out 1; have k2a := blk_cell HKa.out 2; have k3a := blk_cell HKa.out 3; have l0a := blk_cell HLa.out 0; have l1a := blk_cell HLa.out 1; have l2a := blk_cell HLa.out 2; have m0a := blk_cell HMa.out 0; have m1a := blk_cell HMa.out 1; have m2a := blk_cell HMa.out 2; have m3a := blk_cell HMa.out 3; have m4a := blk_cell HMa.out 4; have m5a := blk_cell HMa.out 5) | (go_at_call 34; refine (place_calls t (some ad) c A' c' x.f0 _ HRa.out).mono ?_; rintro e wb ⟨rfl, hbb⟩; rw [hp]; have HKb := Aside0.mk (blk_below HKa.out hbb); have HLb := Aside0.mk (blk_below HLa.out hbb); have HMb := Aside0.mk (blk_below HMa.out hbb); have HRb := Aside0.mk (Kd.C_below HRa.out hbb); have HSb := Aside0.mk (Kd.C_below HSa.out hbb); have HTb := Aside0.mk (HTa.out.below hbb); have HBb := Aside0.mk (below_step HBa.out hbb); have k0b := blk_cell HKb.out 0; have k1b := blk_cell HKb.out 1; have k2b := blk_cell HKb.out 2; have k3b := blk_cell HKb.out 3; have l0b := blk_cell HLb.out 0; have l1b := blk_cell HLb.out 1; have l2b := blk_cell HLb.out 2; have m0b := blk_cell HMb.out 0; have m1b := blk_cell HMb.out 1; have m2b := blk_cell HMb.out 2; have m3b := blk_cell HMb.out 3; have m4b := blk_cell HMb.out 4; have m5b := blk_cell HMb.out 5; clear k0a k1a k2a k3a l0a l1a l2a m0a m1a m2a m3a m4a m5a) | (go_at_call 29; refine (find_calls v ts B d B' n' d' x.f4 _ HSb.out).mono ?_; rintro e wc ⟨A2, A3, c2, c3, rfl, hl2, hC2, hl3, hC3, hbc⟩; rw [hfd]; have HKc := Aside0.mk (blk_below HKb.out hbc); have HLc := Aside0.mk (blk_below HLb.out hbc); have HMc := Aside0.mk (blk_below HMb.out hbc); have HRc := Aside0.mk (Kd.C_below HRb.out hbc); have HSc := Aside0.mk (Kd.C_below HSb.out hbc); have HTc := Aside0.mk (HTb.out.below hbc); have HBc := Aside0.mk (below_step HBb.out hbc); have k0c := blk_cell HKc.out 0; have k1c := blk_cell HKc.out 1; have k2c := blk_cell HKc.out 2; have k3c := blk_cell HKc.out 3; have l0c := blk_cell HLc.out 0; have l1c := blk_cell HLc.out 1; have l2c := blk_cell HLc.out 2; have m0c := blk_cell HMc.out 0; have m1c := blk_cell HMc.out 1; have m2c := blk_cell HMc.out 2; have m3c := blk_cell HMc.out 3; have m4c := blk_cell HMc.out 4; have m5c := blk_cell HMc.out 5; clear k0b k1b k2b k3b l0b l1b l2b m0b m1b m2b m3b m4b m5b; have hyc := cell_now hbc (cell_now hbb (cell_now hba HY3.out)); have HC2 := Aside0.mk hC2; have HC3 := Aside0.mk hC3; clear hl2 hC2 hl3 hC3; have gk := blk_lt HKc.out; have gm := blk_lt HMc.out; have gy := World.block_lt_of_cell? wc _ hyc))
                    all_goals (try (go_quiet (fail); go_wp2))
                    all_goals (go_ret; refine ⟨congrArg (fun b => Ending.returned (.int .i64 b)) ?_, ?_⟩)
                    all_goals (first | exact HBb.out | exact HBc.out | exact below_alloc HBc.out _ | exact pw_below_drewN (below_alloc HBc.out _) _ | skip)
                    all_goals (first
                      | (rw [HSP.out, HB1.out, bad2_i0 (by assumption) he]; rfl)
                      | (rw [HSP.out, HB1.out, bad2_set (by assumption) (by assumption)]; rfl)
                      | (rw [HSP.out, HB1.out, bad2_no he (by assumption) (by first | (left; assumption) | (right; assumption) | (right; simp only [*]; decide)), he]; show _ = colRef t x ts; rw [ref_none hs hneg])
                     )
                  · have hfd : decide (0 ≤ findT ts x.f4) = true := decide_eq_true (by omega)
                    by_cases hz : (theT ts x.f4).f2.length = 0
                    · go_enter Tryd.func60, Tryd.ntmps60
                      go_wp2_with (first | (go_at_call 32; refine (name_calls x.f0 _ hsz HT3.out).mono ?_; rintro e wa ⟨rfl, hba⟩; rw [hn]; have HKa := Aside0.mk (blk_below HK3.out hba); have HLa := Aside0.mk (blk_below HL3.out hba); have HMa := Aside0.mk (blk_below HM3.out hba); have HRa := Aside0.mk (Kd.C_below HR3.out hba); have HSa := Aside0.mk (Kd.C_below HS3.out hba); have HTa := Aside0.mk (HT3.out.below hba); have HBa := Aside0.mk (below_step HB3.out hba); have k0a := blk_cell HKa.out 0; have k1a := blk_cell HKa.out 1; have k2a := blk_cell HKa.out 2; have k3a := blk_cell HKa.out 3; have l0a := blk_cell HLa.out 0; have l1a := blk_cell HLa.out 1; have l2a := blk_cell HLa.out 2; have m0a := blk_cell HMa.out 0; have m1a := blk_cell HMa.out 1; have m2a := blk_cell HMa.out 2; have m3a := blk_cell HMa.out 3; have m4a := blk_cell HMa.out 4; have m5a := blk_cell HMa.out 5) | (go_at_call 34; refine (place_calls t (some ad) c A' c' x.f0 _ HRa.out).mono ?_; rintro e wb ⟨rfl, hbb⟩; rw [hp]; have HKb := Aside0.mk (blk_below HKa.out hbb); have HLb := Aside0.mk (blk_below HLa.out hbb); have HMb := Aside0.mk (blk_below HMa.out hbb); have HRb := Aside0.mk (Kd.C_below HRa.out hbb); have HSb := Aside0.mk (Kd.C_below HSa.out hbb); have HTb := Aside0.mk (HTa.out.below hbb); have HBb := Aside0.mk (below_step HBa.out hbb); have k0b := blk_cell HKb.out 0; have k1b := blk_cell HKb.out 1; have k2b := blk_cell HKb.out 2; have k3b := blk_cell HKb.out 3; have l0b := blk_cell HLb.out 0; have l1b := blk_cell HLb.out 1; have l2b := blk_cell HLb.out 2; have m0b := blk_cell HMb.out 0; have m1b := blk_cell HMb.out 1; have m2b := blk_cell HMb.out 2; have m3b := blk_cell HMb.out 3; have m4b := blk_cell HMb.out 4; have m5b := blk_cell HMb.out 5; clear k0a k1a k2a k3a l0a l1a l2a m0a m1a m2a m3a m4a m5a) | (go_at_call 29; refine (find_calls v ts B d B' n' d' x.f4 _ HSb.out).mono ?_; rintro e wc ⟨A2, A3, c2, c3, rfl, hl2, hC2, hl3, hC3, hbc⟩; rw [hfd]; have HKc := Aside0.mk (blk_below HKb.out hbc); have HLc := Aside0.mk (blk_below HLb.out hbc); have HMc := Aside0.mk (blk_below HMb.out hbc); have HRc := Aside0.mk (Kd.C_below HRb.out hbc); have HSc := Aside0.mk (Kd.C_below HSb.out hbc); have HTc := Aside0.mk (HTb.out.below hbc); have HBc := Aside0.mk (below_step HBb.out hbc); have k0c := blk_cell HKc.out 0; have k1c := blk_cell HKc.out 1; have k2c := blk_cell HKc.out 2; have k3c := blk_cell HKc.out 3; have l0c := blk_cell HLc.out 0; have l1c := blk_cell HLc.out 1; have l2c := blk_cell HLc.out 2; have m0c := blk_cell HMc.out 0; have m1c := blk_cell HMc.out 1; have m2c := blk_cell HMc.out 2; have m3c := blk_cell HMc.out 3; have m4c := blk_cell HMc.out 4; have m5c := blk_cell HMc.out 5; clear k0b k1b k2b k3b l0b l1b l2b m0b m1b m2b m3b m4b m5b; have hyc := cell_now hbc (cell_now hbb (cell_now hba HY3.out)); have HC2 := Aside0.mk hC2; have HC3 := Aside0.mk hC3; clear hl2 hC2 hl3 hC3; have gk := blk_lt HKc.out; have gm := blk_lt HMc.out; have gy := World.block_lt_of_cell? wc _ hyc))
                      all_goals (try (go_quiet (fail); go_wp2))
                      all_goals (go_ret; refine ⟨congrArg (fun b => Ending.returned (.int .i64 b)) ?_, ?_⟩)
                      all_goals (first | exact HBb.out | exact HBc.out | exact below_alloc HBc.out _ | exact pw_below_drewN (below_alloc HBc.out _) _ | skip)
                      all_goals (first
                        | (rw [HSP.out, HB1.out, bad2_i0 (by assumption) he]; rfl)
                        | (rw [HSP.out, HB1.out, bad2_set (by assumption) (by assumption)]; rfl)
                        | (rw [HSP.out, HB1.out, bad2_no he (by assumption) (by first | (left; assumption) | (right; assumption) | (right; simp only [*]; decide)), he]; show _ = colRef t x ts; rw [ref_empty hs hz])
                       )
                    · have hz1 : (0 : Int) < ((theT ts x.f4).f2.length : Int) := by omega
                      have hz4 : 0 < (theT ts x.f4).f2.length := by omega
                      go_enter Tryd.func60, Tryd.ntmps60
                      go_wp2_with (first | (go_at_call 32; refine (name_calls x.f0 _ hsz HT3.out).mono ?_; rintro e wa ⟨rfl, hba⟩; rw [hn]; have HKa := Aside0.mk (blk_below HK3.out hba); have HLa := Aside0.mk (blk_below HL3.out hba); have HMa := Aside0.mk (blk_below HM3.out hba); have HRa := Aside0.mk (Kd.C_below HR3.out hba); have HSa := Aside0.mk (Kd.C_below HS3.out hba); have HTa := Aside0.mk (HT3.out.below hba); have HBa := Aside0.mk (below_step HB3.out hba); have k0a := blk_cell HKa.out 0; have k1a := blk_cell HKa.out 1; have k2a := blk_cell HKa.out 2; have k3a := blk_cell HKa.out 3; have l0a := blk_cell HLa.out 0; have l1a := blk_cell HLa.out 1; have l2a := blk_cell HLa.out 2; have m0a := blk_cell HMa.out 0; have m1a := blk_cell HMa.out 1; have m2a := blk_cell HMa.out 2; have m3a := blk_cell HMa.out 3; have m4a := blk_cell HMa.out 4; have m5a := blk_cell HMa.out 5) | (go_at_call 34; refine (place_calls t (some ad) c A' c' x.f0 _ HRa.out).mono ?_; rintro e wb ⟨rfl, hbb⟩; rw [hp]; have HKb := Aside0.mk (blk_below HKa.out hbb); have HLb := Aside0.mk (blk_below HLa.out hbb); have HMb := Aside0.mk (blk_below HMa.out hbb); have HRb := Aside0.mk (Kd.C_below HRa.out hbb); have HSb := Aside0.mk (Kd.C_below HSa.out hbb); have HTb := Aside0.mk (HTa.out.below hbb); have HBb := Aside0.mk (below_step HBa.out hbb); have k0b := blk_cell HKb.out 0; have k1b := blk_cell HKb.out 1; have k2b := blk_cell HKb.out 2; have k3b := blk_cell HKb.out 3; have l0b := blk_cell HLb.out 0; have l1b := blk_cell HLb.out 1; have l2b := blk_cell HLb.out 2; have m0b := blk_cell HMb.out 0; have m1b := blk_cell HMb.out 1; have m2b := blk_cell HMb.out 2; have m3b := blk_cell HMb.out 3; have m4b := blk_cell HMb.out 4; have m5b := blk_cell HMb.out 5; clear k0a k1a k2a k3a l0a l1a l2a m0a m1a m2a m3a m4a m5a) | (go_at_call 29; refine (find_calls v ts B d B' n' d' x.f4 _ HSb.out).mono ?_; rintro e wc ⟨A2, A3, c2, c3, rfl, hl2, hC2, hl3, hC3, hbc⟩; rw [hfd]; obtain ⟨ad2, eA, _, hz2, _, _, _, _⟩ := at_T59 hC2 0 (by omega) hz1; subst eA; simp only [Int.toNat_zero, rd_T59, Nat.zero_mul, add_none] at hz2; generalize hzz : (theT ts x.f4).f2.getD 0 z59 = z at hz2; have HZZ := Aside0.mk hzz; clear hzz; have hzc := cell_now hbc hz2; have gz := World.block_lt_of_cell? wc _ hzc; have HKc := Aside0.mk (blk_below HKb.out hbc); have HLc := Aside0.mk (blk_below HLb.out hbc); have HMc := Aside0.mk (blk_below HMb.out hbc); have HRc := Aside0.mk (Kd.C_below HRb.out hbc); have HSc := Aside0.mk (Kd.C_below HSb.out hbc); have HTc := Aside0.mk (HTb.out.below hbc); have HBc := Aside0.mk (below_step HBb.out hbc); have k0c := blk_cell HKc.out 0; have k1c := blk_cell HKc.out 1; have k2c := blk_cell HKc.out 2; have k3c := blk_cell HKc.out 3; have l0c := blk_cell HLc.out 0; have l1c := blk_cell HLc.out 1; have l2c := blk_cell HLc.out 2; have m0c := blk_cell HMc.out 0; have m1c := blk_cell HMc.out 1; have m2c := blk_cell HMc.out 2; have m3c := blk_cell HMc.out 3; have m4c := blk_cell HMc.out 4; have m5c := blk_cell HMc.out 5; clear k0b k1b k2b k3b l0b l1b l2b m0b m1b m2b m3b m4b m5b; have hyc := cell_now hbc (cell_now hbb (cell_now hba HY3.out)); have HC2 := Aside0.mk hC2; have HC3 := Aside0.mk hC3; clear hl2 hC2 hl3 hC3; have gk := blk_lt HKc.out; have gm := blk_lt HMc.out; have gy := World.block_lt_of_cell? wc _ hyc))
                      all_goals (try (go_quiet (fail); go_wp2))
                      all_goals (go_ret; refine ⟨congrArg (fun b => Ending.returned (.int .i64 b)) ?_, ?_⟩)
                      all_goals (first | exact HBb.out | exact HBc.out | exact below_alloc HBc.out _ | exact pw_below_drewN (below_alloc HBc.out _) _ | skip)
                      all_goals (first
                        | (rw [HSP.out, HB1.out, bad2_i0 (by assumption) he]; rfl)
                        | (rw [HSP.out, HB1.out, bad2_set (by assumption) (by assumption)]; rfl)
                        | (rw [HSP.out, HB1.out, bad2_no he (by assumption) (by first | (left; assumption) | (right; assumption) | (right; simp only [*]; decide)), he]; show _ = colRef t x ts; rw [ref_other hs (by omega) (by omega) HZZ.out]; first | exact (nine (by assumption)).symm | exact (zero0 (by assumption)).symm)
                       )
    · have hpd : decide (placeC t.f2 x.f0 = (i : Int)) = false := decide_eq_false hp
      go_enter Tryd.func60, Tryd.ntmps60
      go_wp2_with (first | (go_at_call 32; refine (name_calls x.f0 _ hsz HT3.out).mono ?_; rintro e wa ⟨rfl, hba⟩; rw [hn]; have HKa := Aside0.mk (blk_below HK3.out hba); have HLa := Aside0.mk (blk_below HL3.out hba); have HMa := Aside0.mk (blk_below HM3.out hba); have HRa := Aside0.mk (Kd.C_below HR3.out hba); have HSa := Aside0.mk (Kd.C_below HS3.out hba); have HTa := Aside0.mk (HT3.out.below hba); have HBa := Aside0.mk (below_step HB3.out hba); have k0a := blk_cell HKa.out 0; have k1a := blk_cell HKa.out 1; have k2a := blk_cell HKa.out 2; have k3a := blk_cell HKa.out 3; have l0a := blk_cell HLa.out 0; have l1a := blk_cell HLa.out 1; have l2a := blk_cell HLa.out 2; have m0a := blk_cell HMa.out 0; have m1a := blk_cell HMa.out 1; have m2a := blk_cell HMa.out 2; have m3a := blk_cell HMa.out 3; have m4a := blk_cell HMa.out 4; have m5a := blk_cell HMa.out 5) | (go_at_call 34; refine (place_calls t (some ad) c A' c' x.f0 _ HRa.out).mono ?_; rintro e wb ⟨rfl, hbb⟩; have HKb := Aside0.mk (blk_below HKa.out hbb); have HLb := Aside0.mk (blk_below HLa.out hbb); have HMb := Aside0.mk (blk_below HMa.out hbb); have HRb := Aside0.mk (Kd.C_below HRa.out hbb); have HSb := Aside0.mk (Kd.C_below HSa.out hbb); have HTb := Aside0.mk (HTa.out.below hbb); have HBb := Aside0.mk (below_step HBa.out hbb); have k0b := blk_cell HKb.out 0; have k1b := blk_cell HKb.out 1; have k2b := blk_cell HKb.out 2; have k3b := blk_cell HKb.out 3; have l0b := blk_cell HLb.out 0; have l1b := blk_cell HLb.out 1; have l2b := blk_cell HLb.out 2; have m0b := blk_cell HMb.out 0; have m1b := blk_cell HMb.out 1; have m2b := blk_cell HMb.out 2; have m3b := blk_cell HMb.out 3; have m4b := blk_cell HMb.out 4; have m5b := blk_cell HMb.out 5; clear k0a k1a k2a k3a l0a l1a l2a m0a m1a m2a m3a m4a m5a))
      go_ret
      exact ⟨by rw [HSP.out]; simp only [colBad1, hn, decide_eq_true hp]; rfl, HBb.out⟩
end Go.Proofs.YtefdfgmlmjnmlaaDoor.My
end

section
set_option linter.unusedSimpArgs false
set_option linter.unusedVariables false
namespace Go.Proofs.YtefdfgmlmjnmlaaDoor.My
open Go.RowKit Go.Proofs.YtefdfgmlmjnmlaaDoorW.PrintWords Go.Proofs.YtefdfgmlmjnmlaaDoor.Rf
/-- What is wrong with the first column with which something is. -/
def colsE (t : S45) (ts : List S45) : Int := ((List.range t.f2.length).find? (fun i => colE t i ts != 0)).elim 0 (fun i => colE t i ts)
theorem colsE_hit {t : S45} {ts : List S45} {k : Nat} (hk : k < t.f2.length) (ha : ∀ j, j < k → colE t j ts = 0) (h : colE t k ts ≠ 0) : colsE t ts = colE t k ts := by
  have : (List.range t.f2.length).find? (fun i => colE t i ts != 0) = some k := by
    rw [List.find?_range_eq_some]
    exact ⟨by simpa using h, List.mem_range.2 hk, fun j hj => by simp [ha j hj]⟩
  unfold colsE
  rw [this]
  rfl
theorem colsE_none {t : S45} {ts : List S45} (ha : ∀ j, j < t.f2.length → colE t j ts = 0) : colsE t ts = 0 := by
  have : (List.range t.f2.length).find? (fun i => colE t i ts != 0) = none := by
    rw [List.find?_eq_none]
    intro j hj
    simp [ha j (List.mem_range.1 hj)]
  unfold colsE
  rw [this]
  rfl
/-- What is wrong with a table, its checks aside. -/
def goodE0 (t : S45) (ts : List S45) : Int :=
  if !isName t.f0 || (decide (t.f1 < 0) || (decide (8 ≤ t.f1) || decide (t.f2.length = 0))) then 4
  else if decide (6 < t.f2.length) || decide (4 < t.f3.length) then 3
  else colsE t ts
theorem column0_calls (t : S45) (A : Option Addr) (c : Nat) (A' : Option Addr) (c' : Nat) (i : Nat) (v : Int) (ts : List S45) (B : Option Addr) (d : Nat) (B' : Option Addr) (n' d' : Nat) (w : World) (h3 : t.f3.length = 0)
    (hr : Kd.C k59 w A t.f2.length t.f2) (hts : Kd.C k45 w B ts.length ts) (hT : Tabs w) (hi : i < t.f2.length) (hok : ∀ x, x ∈ t.f2 → x.f0.size ≤ 9223372036854775807) :
    Calls Tryd.prog 60 #[.agg #[.string t.f0, .int .i64 t.f1, .slice A t.f2.length c, .slice A' 0 c'], .int .i64 i, .agg #[.int .i64 v, .slice B ts.length d, .slice B' n' d']] w (IntPost (colE t i ts) w) := by
  have h := column_calls t A c A' c' i v ts B d B' n' d' w hr hts hT hi hok
  rw [h3] at h
  exact h
set_option maxHeartbeats 4000000 in
set_option maxRecDepth 100000 in
theorem good0_calls (t : S45) (A : Option Addr) (c : Nat) (A' : Option Addr) (c' : Nat) (v : Int) (ts : List S45) (B : Option Addr) (d : Nat) (B' : Option Addr) (n' d' : Nat) (w : World)
    (hr : Kd.C k59 w A t.f2.length t.f2) (h3 : t.f3 = []) (hts : Kd.C k45 w B ts.length ts) (hT : Tabs w) (hs0 : t.f0.size ≤ 9223372036854775807) (hok : ∀ x, x ∈ t.f2 → x.f0.size ≤ 9223372036854775807) :
    Calls Tryd.prog 36 #[.agg #[.string t.f0, .int .i64 t.f1, .slice A t.f2.length c, .slice A' 0 c'], .agg #[.int .i64 v, .slice B ts.length d, .slice B' n' d']] w (IntPost (goodE0 t ts) w) := by
  have b2 := below2 w (.cells #[.string t.f0, .int .i64 t.f1, .slice A t.f2.length c, .slice A' 0 c'] 45) (.cells #[.int .i64 v, .slice B ts.length d, .slice B' n' d'] 25)
  have HB := Aside0.mk b2
  have HK := Aside0.mk (blk_alloc (blk_new w (.cells #[.string t.f0, .int .i64 t.f1, .slice A t.f2.length c, .slice A' 0 c'] 45)) (.cells #[.int .i64 v, .slice B ts.length d, .slice B' n' d'] 25))
  have HL := Aside0.mk (blk_new1 w (.cells #[.string t.f0, .int .i64 t.f1, .slice A t.f2.length c, .slice A' 0 c'] 45) (.cells #[.int .i64 v, .slice B ts.length d, .slice B' n' d'] 25))
  have HR := Aside0.mk (Kd.C_below hr b2)
  have HS := Aside0.mk (Kd.C_below hts b2)
  have HT := Aside0.mk (hT.below b2)
  have HO := Aside0.mk hok
  have hn := hr.2.1
  have hl3 : t.f3.length = 0 := by rw [h3]; rfl
  have HL3 := Aside0.mk hl3
  clear b2 hr hts hT hok hl3 h3
  cases hnm : isName t.f0 with
  | false =>
    go_enter Tryd.func36, Tryd.ntmps36
    go_wp2_with (first | (go_at_call 32; refine (name_calls t.f0 _ hs0 HT.out).mono ?_; rintro e wa ⟨rfl, hba⟩; rw [hnm]))
    go_ret
    exact ⟨by unfold goodE0; rw [hnm]; rfl, below_step HB.out hba⟩
  | true =>
    by_cases g1 : t.f1 < 0
    · have q1 := decide_eq_true g1
      have hres : goodE0 t ts = 4 := by unfold goodE0; rw [hnm]; simp [g1]
      have HRES := Aside0.mk hres
      clear hres
      go_enter Tryd.func36, Tryd.ntmps36
      go_wp2_with (first | (go_at_call 32; refine (name_calls t.f0 _ hs0 HT.out).mono ?_; rintro e wa ⟨rfl, hba⟩; rw [hnm]; have HKa := Aside0.mk (blk_below HK.out hba); have HLa := Aside0.mk (blk_below HL.out hba); have HBa := Aside0.mk (below_step HB.out hba); have a0 := blk_cell HKa.out 0; have a1 := blk_cell HKa.out 1; have a2 := blk_cell HKa.out 2; have a3 := blk_cell HKa.out 3))
      go_ret
      exact ⟨by rw [HRES.out]; rfl, HBa.out⟩
    · have q1 := decide_eq_false g1
      by_cases g2 : 8 ≤ t.f1
      · have q2 := decide_eq_true g2
        have hres : goodE0 t ts = 4 := by unfold goodE0; rw [hnm]; simp [g2]
        have HRES := Aside0.mk hres
        clear hres
        go_enter Tryd.func36, Tryd.ntmps36
        go_wp2_with (first | (go_at_call 32; refine (name_calls t.f0 _ hs0 HT.out).mono ?_; rintro e wa ⟨rfl, hba⟩; rw [hnm]; have HKa := Aside0.mk (blk_below HK.out hba); have HLa := Aside0.mk (blk_below HL.out hba); have HBa := Aside0.mk (below_step HB.out hba); have a0 := blk_cell HKa.out 0; have a1 := blk_cell HKa.out 1; have a2 := blk_cell HKa.out 2; have a3 := blk_cell HKa.out 3))
        go_ret
        exact ⟨by rw [HRES.out]; rfl, HBa.out⟩
      · have q2 := decide_eq_false g2
        by_cases g3 : t.f2.length = 0
        · have q3 : ((t.f2.length : Int) == 0) = true := by simp [g3]
          have hres : goodE0 t ts = 4 := by unfold goodE0; rw [hnm]; simp [g3]
          clear g3
          have HRES := Aside0.mk hres
          clear hres
          go_enter Tryd.func36, Tryd.ntmps36
          go_wp2_with (first | (go_at_call 32; refine (name_calls t.f0 _ hs0 HT.out).mono ?_; rintro e wa ⟨rfl, hba⟩; rw [hnm]; have HKa := Aside0.mk (blk_below HK.out hba); have HLa := Aside0.mk (blk_below HL.out hba); have HBa := Aside0.mk (below_step HB.out hba); have a0 := blk_cell HKa.out 0; have a1 := blk_cell HKa.out 1; have a2 := blk_cell HKa.out 2; have a3 := blk_cell HKa.out 3))
          go_ret
          exact ⟨by rw [HRES.out]; rfl, HBa.out⟩
        · have q3 : ((t.f2.length : Int) == 0) = false := by simp [g3]
          by_cases g4 : 6 < t.f2.length
          · have q4 : decide (6 < (t.f2.length : Int)) = true := decide_eq_true (by omega)
            have hres : goodE0 t ts = 3 := by unfold goodE0; rw [hnm]; simp [g1, g2, g3, g4]
            have HRES := Aside0.mk hres
            clear hres
            go_enter Tryd.func36, Tryd.ntmps36
            go_wp2_with (first | (go_at_call 32; refine (name_calls t.f0 _ hs0 HT.out).mono ?_; rintro e wa ⟨rfl, hba⟩; rw [hnm]; have HKa := Aside0.mk (blk_below HK.out hba); have HLa := Aside0.mk (blk_below HL.out hba); have HBa := Aside0.mk (below_step HB.out hba); have a0 := blk_cell HKa.out 0; have a1 := blk_cell HKa.out 1; have a2 := blk_cell HKa.out 2; have a3 := blk_cell HKa.out 3))
            go_ret
            exact ⟨by rw [HRES.out]; rfl, HBa.out⟩
          · have q4 : decide (6 < (t.f2.length : Int)) = false := decide_eq_false (by omega)
            have hres : goodE0 t ts = colsE t ts := by unfold goodE0; rw [hnm, HL3.out]; simp [g1, g2, g3, g4]
            have HRES := Aside0.mk hres
            clear hres
            have HBW : Aside0 (∀ wa : World, Below ((w.alloc (.cells #[.string t.f0, .int .i64 t.f1, .slice A t.f2.length c, .slice A' 0 c'] 45)).alloc (.cells #[.int .i64 v, .slice B ts.length d, .slice B' n' d'] 25)).heap.size ((w.alloc (.cells #[.string t.f0, .int .i64 t.f1, .slice A t.f2.length c, .slice A' 0 c'] 45)).alloc (.cells #[.int .i64 v, .slice B ts.length d, .slice B' n' d'] 25)) wa → True) := ⟨fun _ _ => trivial⟩
            go_enter Tryd.func36, Tryd.ntmps36
            go_wp2_with (first | (go_at_call 32; refine (name_calls t.f0 _ hs0 HT.out).mono ?_; rintro e wa ⟨rfl, hba⟩; rw [hnm]; have HKa := Aside0.mk (blk_below HK.out hba); have HLa := Aside0.mk (blk_below HL.out hba); have HBa := Aside0.mk (below_step HB.out hba); have a0 := blk_cell HKa.out 0; have a1 := blk_cell HKa.out 1; have a2 := blk_cell HKa.out 2; have a3 := blk_cell HKa.out 3))
            go_loopw [5, 6, 46] (fun _ _ t46 wr => ∃ k : Nat, t46 = .int .i64 k ∧ k ≤ t.f2.length ∧ Aside0 (∀ j, j < k → colE t j ts = 0) ∧ Aside0 (Below ((w.alloc (.cells #[.string t.f0, .int .i64 t.f1, .slice A t.f2.length c, .slice A' 0 c'] 45)).alloc (.cells #[.int .i64 v, .slice B ts.length d, .slice B' n' d'] 25)).heap.size ((w.alloc (.cells #[.string t.f0, .int .i64 t.f1, .slice A t.f2.length c, .slice A' 0 c'] 45)).alloc (.cells #[.int .i64 v, .slice B ts.length d, .slice B' n' d'] 25)) wr)) (fun _ _ t46 _ => t.f2.length - (intOf t46).toNat)
            case atStart => exact ⟨0, rfl, Nat.zero_le _, ⟨fun j hj => absurd hj (by omega)⟩, ⟨hba⟩⟩
            case round =>
              obtain ⟨k, rfl, hk, HA, HBr⟩ := hrel
              have HKr := Aside0.mk (blk_below HK.out HBr.out)
              have HLr := Aside0.mk (blk_below HL.out HBr.out)
              clear a0 a1 a2 a3
              have a0 := blk_cell HKr.out 0
              have a1 := blk_cell HKr.out 1
              have a2 := blk_cell HKr.out 2
              have a3 := blk_cell HKr.out 3
              have b0 := blk_cell HLr.out 0
              have b1 := blk_cell HLr.out 1
              have b2 := blk_cell HLr.out 2
              have HRr := Aside0.mk (Kd.C_below HR.out HBr.out)
              have HSr := Aside0.mk (Kd.C_below HS.out HBr.out)
              have HTr := Aside0.mk (HT.out.below HBr.out)
              by_cases hlt : k < t.f2.length
              · have hi1 : (k : Int) < (t.f2.length : Int) := by omega
                by_cases hce0 : colE t k ts = 0
                · have hce := hce0
                  have hall : ∀ j, j < k + 1 → colE t j ts = 0 := fun j hj => by
                    rcases Nat.lt_or_ge j k with h | h
                    · exact HA.out j h
                    · obtain rfl : j = k := by omega
                      exact hce0
                  have HALL := Aside0.mk hall
                  clear hall hce0
                  go_wp2_with (first | (go_at_call 60; refine (column0_calls t A c A' c' k v ts B d B' n' d' _ HL3.out HRr.out HSr.out HTr.out (by omega) HO.out).mono ?_; rintro e wc ⟨rfl, hbc⟩; rw [hce]))
                  go_roundw
                  case rel => exact ⟨k + 1, by go_num, by omega, HALL, ⟨below_step HBr.out hbc⟩⟩
                  case measure => simp [intOf]; omega
                · have hfin := colsE_hit hlt HA.out hce0
                  have HFIN := Aside0.mk hfin
                  generalize hce : colE t k ts = ce at hfin hce0
                  have HCE := Aside0.mk hce
                  clear hfin
                  have q5 : (ce != 0) = true := by simpa using hce0
                  go_wp2_with (first | (go_at_call 60; refine (column0_calls t A c A' c' k v ts B d B' n' d' _ HL3.out HRr.out HSr.out HTr.out (by omega) HO.out).mono ?_; rintro e wc ⟨rfl, hbc⟩; rw [hce]))
                  go_ret
                  exact ⟨by rw [HRES.out, HFIN.out, HCE.out]; rfl, below_step HB.out (below_step HBr.out hbc)⟩
              · have hfin := colsE_none (t := t) (ts := ts) (fun j hj => HA.out j (by omega))
                have HFIN := Aside0.mk hfin
                clear hfin
                have hkk : k = t.f2.length := by omega
                subst hkk
                go_wp2
                go_loopw [8, 60] (fun _ t60 w2 => t60 = .int .i64 0 ∧ w2 = wr) (fun _ _ _ => 0)
                case atStart => exact ⟨rfl, rfl⟩
                case round =>
                  obtain ⟨rfl, rfl⟩ := hrel
                  go_wp2
                  go_ret
                  exact ⟨by rw [HRES.out, HFIN.out]; rfl, below_step HB.out HBr.out⟩
end Go.Proofs.YtefdfgmlmjnmlaaDoor.My
end

section
set_option linter.unusedSimpArgs false
set_option linter.unusedVariables false
namespace Go.Proofs.YtefdfgmlmjnmlaaDoor.My
open Go.RowKit Go.Proofs.YtefdfgmlmjnmlaaDoorW.PrintWords Go.Proofs.YtefdfgmlmjnmlaaDoor.Rf
def keptF (b : Nat) : Int := if (FloatKind.f64.format.order b b != some .eq) = true then 9221120237041090560 else if (FloatKind.f64.format.order b 0 == some .eq) = true then 0 else wrap64 (b : Int)
def bitsF (n : Int) : Nat := (IntKind.u64.wrap n).toNat
def goodF (n : Int) : Bool := keptF (bitsF n) == n
theorem frombits (n : Int) (w : World) : (callFunc 127 #[.int .u64 n]).run Tryd.prog w = .ok (.value (.float .f64 n.toNat)) w := by
  rw [run_callFunc_extern Tryd.func127 (by kernel_rfl) (by kernel_rfl) (by kernel_rfl) (e := Extern.MathFloatBits.float64frombits) (by kernel_rfl)]
  rfl
theorem tobits (n : Nat) (w : World) : (callFunc 126 #[.float .f64 n]).run Tryd.prog w = .ok (.value (.int .u64 n)) w := by
  rw [run_callFunc_extern Tryd.func126 (by kernel_rfl) (by kernel_rfl) (by kernel_rfl) (e := Extern.MathFloatBits.float64bits) (by kernel_rfl)]
  rfl
set_option maxRecDepth 100000 in
theorem of_calls (n : Int) (w : World) : Calls Tryd.prog 130 #[.int .i64 n] w fun e w' => e = .returned (.float .f64 (bitsF n)) ∧ Below w.heap.size w w' := by
  have hd := frombits
  go_enter Tryd.func130, Tryd.ntmps130
  go_wp2_with (simp only [hd])
  go_ret
  exact ⟨rfl, Below.refl _ _⟩
set_option maxRecDepth 100000 in
theorem ofR_calls (n : Int) (w : World) : Calls Tryd.prog 119 #[.int .i64 n] w fun e w' => e = .returned (.float .f64 (bitsF n)) ∧ Below w.heap.size w w' := by
  have hd := frombits
  go_enter Tryd.func119, Tryd.ntmps119
  go_wp2_with (simp only [hd])
  go_ret
  exact ⟨rfl, Below.refl _ _⟩
set_option maxRecDepth 100000 in
theorem nan_calls (b : Nat) (w : World) : Calls Tryd.prog 125 #[.float .f64 b] w fun e w' => e = .returned (.bool (FloatKind.f64.format.order b b != some .eq)) ∧ Below w.heap.size w w' := by
  go_enter Tryd.func125, Tryd.ntmps125
  go_wp2
  go_ret
  exact ⟨rfl, Below.refl _ _⟩
set_option maxRecDepth 100000 in
theorem canon_calls (b : Nat) (w : World) : Calls Tryd.prog 129 #[.float .f64 b] w fun e w' => e = .returned (.int .i64 (keptF b)) ∧ Below w.heap.size w w' := by
  have hd := tobits
  unfold keptF
  cases h1 : (FloatKind.f64.format.order b b != some .eq) with
  | true =>
    go_enter Tryd.func129, Tryd.ntmps129
    go_wp2
    go_ret
    exact ⟨rfl, Below.refl _ _⟩
  | false =>
    cases h2 : (FloatKind.f64.format.order b 0 == some .eq) with
    | true =>
      go_enter Tryd.func129, Tryd.ntmps129
      go_wp2
      go_ret
      exact ⟨rfl, Below.refl _ _⟩
    | false =>
      go_enter Tryd.func129, Tryd.ntmps129
      go_wp2_with (simp only [hd])
      go_ret
      exact ⟨rfl, Below.refl _ _⟩
set_option maxRecDepth 100000 in
theorem kept_calls (b : Nat) (w : World) : Calls Tryd.prog 118 #[.float .f64 b] w fun e w' => e = .returned (.int .i64 (keptF b)) ∧ Below w.heap.size w w' := by
  have hd := tobits
  unfold keptF
  cases h1 : (FloatKind.f64.format.order b b != some .eq) with
  | true =>
    go_enter Tryd.func118, Tryd.ntmps118
    go_wp2_with (go_at_call 125; refine (nan_calls b _).mono ?_; rw [h1]; rintro e w2 ⟨rfl, hb2⟩)
    go_ret
    exact ⟨rfl, hb2⟩
  | false =>
    cases h2 : (FloatKind.f64.format.order b 0 == some .eq) with
    | true =>
      go_enter Tryd.func118, Tryd.ntmps118
      go_wp2_with (go_at_call 125; refine (nan_calls b _).mono ?_; rw [h1]; rintro e w2 ⟨rfl, hb2⟩)
      go_ret
      exact ⟨rfl, hb2⟩
    | false =>
      go_enter Tryd.func118, Tryd.ntmps118
      go_wp2_with (first | (go_at_call 125; refine (nan_calls b _).mono ?_; rw [h1]; rintro e w2 ⟨rfl, hb2⟩) | (simp only [hd]))
      go_ret
      exact ⟨rfl, hb2⟩
set_option maxRecDepth 100000 in
theorem realGood_calls (n : Int) (w : World) : Calls Tryd.prog 123 #[.int .i64 n] w fun e w' => e = .returned (.bool (goodF n)) ∧ Below w.heap.size w w' := by
  go_enter Tryd.func123, Tryd.ntmps123
  go_wp2_with (first
    | (go_at_call 130; refine (of_calls n _).mono ?_; rintro e w2 ⟨rfl, hb2⟩)
    | (go_at_call 129; refine (canon_calls (bitsF n) _).mono ?_; rintro e w3 ⟨rfl, hb3⟩))
  go_ret
  exact ⟨rfl, below_step hb2 hb3⟩
end Go.Proofs.YtefdfgmlmjnmlaaDoor.My
end

section
set_option linter.unusedSimpArgs false
set_option linter.unusedVariables false
namespace Go.Proofs.YtefdfgmlmjnmlaaDoor.My
open Go.RowKit Go.Proofs.YtefdfgmlmjnmlaaDoorW.PrintWords Go.Proofs.YtefdfgmlmjnmlaaDoor.Rf
open Go.Proofs.YtefdfgmlmjnmlaaDoorW.PrintLast Go.Proofs.YtefdfgmlmjnmlaaDoorW.PrintMore
theorem eqA70 (d : Nat) (w : World) (x0 y0 x1 y1 : Int) (x2 y2 : ByteArray) :
    (Op.equalIn (d + 2) 70 (.agg #[.int .i64 x0, .int .i64 x1, .string x2]) (.agg #[.int .i64 y0, .int .i64 y1, .string y2])).run Tryd.prog w = .ok (x0 == y0 && (x1 == y1 && (x2.toList == y2.toList))) w := by
  refine eqA_of Tryd.underlying70 (by kernel_rfl) ?_
  refine eqf_cons (by rfl) (by go_simp; rfl) (by go_simp; rfl) (by go_simp) ?_
  refine eqf_cons (by rfl) (by go_simp; rfl) (by go_simp; rfl) (by go_simp) ?_
  exact eqf_last (by rfl) (by go_simp; rfl) (by go_simp; rfl) (by go_simp)
attribute [local go_sem high] eqA70
def goodV (v : S70) : Bool :=
  if v.f0 = 0 then v.f1 == 0 && v.f2.toList.isEmpty
  else if v.f0 = 1 then v.f2.toList.isEmpty
  else if v.f0 = 2 then v.f2.toList.isEmpty && goodF v.f1
  else if v.f0 = 3 then v.f1 == 0 && decide ((v.f2.size : Int) ≤ 24)
  else false
set_option maxHeartbeats 4000000 in
set_option maxRecDepth 100000 in
theorem val_calls (v : S70) (w : World) : Calls Tryd.prog 113 #[.agg #[.int .i64 v.f0, .int .i64 v.f1, .string v.f2]] w fun e w' => e = .returned (.bool (goodV v)) ∧ Below w.heap.size w w' := by
  obtain ⟨f0, f1, f2⟩ := v
  unfold goodV
  dsimp only
  have hb1 := below1 w (.cells #[.int .i64 f0, .int .i64 f1, .string f2] 70)
  have HB := Aside0.mk hb1
  clear hb1
  by_cases h0 : f0 = 0
  · subst h0
    cases h1 : (f1 == 0) with
    | true =>
      go_enter Tryd.func113, Tryd.ntmps113
      go_wp2
      go_ret
      exact ⟨by simp, HB.out⟩
    | false =>
      go_enter Tryd.func113, Tryd.ntmps113
      go_wp2
      go_ret
      exact ⟨by simp, HB.out⟩
  · by_cases h1 : f0 = 1
    · subst h1
      go_enter Tryd.func113, Tryd.ntmps113
      go_wp2
      go_ret
      exact ⟨by simp, HB.out⟩
    · by_cases h2 : f0 = 2
      · subst h2
        rw [if_neg h0, if_neg h1, if_pos rfl]
        have HK := Aside0.mk (blk_new w (.cells #[.int .i64 2, .int .i64 f1, .string f2] 70))
        cases h4 : f2.toList.isEmpty with
        | true =>
          go_enter Tryd.func113, Tryd.ntmps113
          go_wp2_with (go_at_call 123; refine (realGood_calls f1 _).mono ?_; rintro e w2 ⟨rfl, hb2⟩)
          go_ret
          exact ⟨by simp, below_step HB.out hb2⟩
        | false =>
          go_enter Tryd.func113, Tryd.ntmps113
          go_wp2
          go_ret
          exact ⟨by simp, HB.out⟩
      · by_cases h3 : f0 = 3
        · subst h3
          cases h1 : (f1 == 0) with
          | true =>
            go_enter Tryd.func113, Tryd.ntmps113
            go_wp2
            go_ret
            exact ⟨by simp, HB.out⟩
          | false =>
            go_enter Tryd.func113, Tryd.ntmps113
            go_wp2
            go_ret
            exact ⟨by simp, HB.out⟩
        · rw [if_neg h0, if_neg h1, if_neg h2, if_neg h3]
          have e0 : (f0 == 0) = false := beq_eq_false_iff_ne.2 h0
          have e1 : (f0 == 1) = false := beq_eq_false_iff_ne.2 h1
          have e2 : (f0 == 2) = false := beq_eq_false_iff_ne.2 h2
          have e3 : (f0 == 3) = false := beq_eq_false_iff_ne.2 h3
          go_enter Tryd.func113, Tryd.ntmps113
          go_wp2
          go_ret
          exact ⟨rfl, HB.out⟩
set_option maxHeartbeats 4000000 in
set_option maxRecDepth 100000 in
theorem valR_calls (v : S70) (w : World) : Calls Tryd.prog 98 #[.agg #[.int .i64 v.f0, .int .i64 v.f1, .string v.f2]] w fun e w' => e = .returned (.bool (goodV v)) ∧ Below w.heap.size w w' := by
  obtain ⟨f0, f1, f2⟩ := v
  unfold goodV
  dsimp only
  have hb1 := below1 w (.cells #[.int .i64 f0, .int .i64 f1, .string f2] 70)
  have HB := Aside0.mk hb1
  clear hb1
  by_cases h0 : f0 = 0
  · subst h0
    cases h1 : (f1 == 0) with
    | true =>
      go_enter Tryd.func98, Tryd.ntmps98
      go_wp2
      go_ret
      exact ⟨by simp, HB.out⟩
    | false =>
      go_enter Tryd.func98, Tryd.ntmps98
      go_wp2
      go_ret
      exact ⟨by simp, HB.out⟩
  · by_cases h1 : f0 = 1
    · subst h1
      go_enter Tryd.func98, Tryd.ntmps98
      go_wp2
      go_ret
      exact ⟨by simp, HB.out⟩
    · by_cases h2 : f0 = 2
      · subst h2
        rw [if_neg h0, if_neg h1, if_pos rfl]
        have HK := Aside0.mk (blk_new w (.cells #[.int .i64 2, .int .i64 f1, .string f2] 70))
        cases h4 : f2.toList.isEmpty with
        | true =>
          go_enter Tryd.func98, Tryd.ntmps98
          go_wp2_with (fail)
          refine start_ (n := 13) (S := (fun w' => w'.cell? ⟨w.heap.size, 0, none⟩ = some (.int .i64 2) ∧ w'.cell? ⟨w.heap.size, 1, none⟩ = some (.int .i64 f1) ∧ w'.cell? ⟨w.heap.size, 2, none⟩ = some (.string f2))) (ds := []) #[false, false, false, false, false, false, false, false, false, false, false, false, false] (by kernel_rfl) rfl rfl ⟨blk_cell HK.out 0, blk_cell HK.out 1, blk_cell HK.out 2⟩ (fun hHeld => ?_)
          refine pure_ (i := 0) (N := some 22) (v := ?_) (a' := ?_) #[true, false, false, false, false, false, false, false, false, false, false, false, false] rfl rfl (by kernel_rfl) (fun _ _ _ h => h) (Or.inl ⟨by rfl, ?_⟩) ?_ ?_
          rotate_left
          · intro w'
            go_simp
            with_reducible rfl
          rotate_left
          · simp only [Act.put, List.setIfInBounds_toArray, List.set_cons_zero, List.set_cons_succ, i64_w, i32_w]
            rfl
          refine take_ (i := 1) (N := some 23) (v := ?_) (a' := ?_) #[true, true, false, false, false, false, false, false, false, false, false, false, false] rfl rfl (by kernel_rfl) (fun _ _ _ h => h) (Or.inl ⟨by rfl, ?_⟩) hHeld ?_ ?_
          rotate_left
          · rintro w' ⟨s0, s1, s2⟩
            go_simp
            with_reducible rfl
          rotate_left
          · simp only [Act.put, List.setIfInBounds_toArray, List.set_cons_zero, List.set_cons_succ, i64_w, i32_w]
            rfl
          refine pure_ (i := 2) (N := some 24) (v := ?_) (a' := ?_) #[true, true, true, false, false, false, false, false, false, false, false, false, false] rfl rfl (by kernel_rfl) (fun _ _ _ h => h) (Or.inl ⟨by rfl, ?_⟩) ?_ ?_
          rotate_left
          · intro w'
            go_simp
            with_reducible rfl
          rotate_left
          · simp only [Act.put, List.setIfInBounds_toArray, List.set_cons_zero, List.set_cons_succ, i64_w, i32_w]
            rfl
          refine pure_ (i := 3) (N := some 25) (v := ?_) (a' := ?_) #[true, true, true, true, false, false, false, false, false, false, false, false, false] rfl rfl (by kernel_rfl) (fun _ _ _ h => h) (Or.inl ⟨by rfl, ?_⟩) ?_ ?_
          rotate_left
          · intro w'
            go_simp
            with_reducible rfl
          rotate_left
          · simp only [Act.put, List.setIfInBounds_toArray, List.set_cons_zero, List.set_cons_succ, i64_w, i32_w]
            rfl
          refine pure_ (i := 4) (N := some 26) (v := ?_) (a' := ?_) #[true, true, true, true, true, false, false, false, false, false, false, false, false] rfl rfl (by kernel_rfl) (fun _ _ _ h => h) (Or.inl ⟨by rfl, ?_⟩) ?_ ?_
          rotate_left
          · intro w'
            go_simp
            with_reducible rfl
          rotate_left
          · simp only [Act.put, List.setIfInBounds_toArray, List.set_cons_zero, List.set_cons_succ, i64_w, i32_w]
            rfl
          refine pure_ (i := 8) (N := some 30) (v := ?_) (a' := ?_) #[true, true, true, true, true, false, false, false, true, false, false, false, false] rfl rfl (by kernel_rfl) (fun _ _ _ h => h) (Or.inl ⟨by rfl, ?_⟩) ?_ ?_
          rotate_left
          · intro w'
            go_simp
            with_reducible rfl
          rotate_left
          · simp only [Act.put, List.setIfInBounds_toArray, List.set_cons_zero, List.set_cons_succ, i64_w, i32_w]
            rfl
          refine take_ (i := 5) (N := some 27) (v := ?_) (a' := ?_) #[true, true, true, true, true, true, false, false, true, false, false, false, false] rfl rfl (by kernel_rfl) (fun _ _ _ h => h) (Or.inl ⟨by rfl, ?_⟩) hHeld ?_ ?_
          rotate_left
          · rintro w' ⟨s0, s1, s2⟩
            go_simp
            with_reducible rfl
          rotate_left
          · simp only [Act.put, List.setIfInBounds_toArray, List.set_cons_zero, List.set_cons_succ, i64_w, i32_w]
            rfl
          refine take_ (i := 9) (N := some 31) (v := ?_) (a' := ?_) #[true, true, true, true, true, true, false, false, true, true, false, false, false] rfl rfl (by kernel_rfl) (fun _ _ _ h => h) (Or.inl ⟨by rfl, ?_⟩) hHeld ?_ ?_
          rotate_left
          · rintro w' ⟨s0, s1, s2⟩
            go_simp
            with_reducible rfl
          rotate_left
          · simp only [Act.put, List.setIfInBounds_toArray, List.set_cons_zero, List.set_cons_succ, i64_w, i32_w]
            rfl
          refine one_ (i := 6) (N := some 28) #[true, true, true, true, true, true, true, false, true, true, false, false, false] rfl rfl (by kernel_rfl) (by decide) (fun K hK => ?_)
          refine goes_ Tryd.func119 (by kernel_rfl) rfl #[.int .i64 f1] (by rfl) rfl rfl (by first | rfl | (simp only [List.map_toArray, List.map_cons, List.map_nil]; rfl)) ?_
          refine (ofR_calls f1 _).mono ?_
          rintro e w2 ⟨rfl, hb2⟩
          have hb2 := undrew hb2
          have HK2 := Aside0.mk (blk_below HK.out hb2)
          refine ⟨_, rfl, ?_⟩
          refine hK.out _ _ ⟨blk_cell HK2.out 0, blk_cell HK2.out 1, blk_cell HK2.out 2⟩ (fun hHeld => ?_)
          clear hK K
          refine norm_ (a' := ?_) ?_ ?_
          rotate_left
          · show Act.put _ (some 28) _ = _
            simp only [Act.put, List.setIfInBounds_toArray, List.set_cons_zero, List.set_cons_succ, i64_w, i32_w]
            rfl
          refine one_ (i := 7) (N := some 29) #[true, true, true, true, true, true, true, true, true, true, false, false, false] rfl rfl (by kernel_rfl) (by decide) (fun K hK => ?_)
          refine goes_ Tryd.func118 (by kernel_rfl) rfl #[.float .f64 (bitsF f1)] (by rfl) rfl rfl (by first | rfl | (simp only [List.map_toArray, List.map_cons, List.map_nil]; rfl)) ?_
          refine (kept_calls (bitsF f1) _).mono ?_
          rintro e w3 ⟨rfl, hb3⟩
          have HK3 := Aside0.mk (blk_below HK2.out hb3)
          refine ⟨_, rfl, ?_⟩
          refine hK.out _ _ ⟨blk_cell HK3.out 0, blk_cell HK3.out 1, blk_cell HK3.out 2⟩ (fun hHeld => ?_)
          clear hK K
          refine norm_ (a' := ?_) ?_ ?_
          rotate_left
          · show Act.put _ (some 29) _ = _
            simp only [Act.put, List.setIfInBounds_toArray, List.set_cons_zero, List.set_cons_succ, i64_w, i32_w]
            rfl
          refine pure_ (i := 10) (N := some 32) (v := ?_) (a' := ?_) #[true, true, true, true, true, true, true, true, true, true, true, false, false] rfl rfl (by kernel_rfl) (fun _ _ _ h => h) (Or.inl ⟨by rfl, ?_⟩) ?_ ?_
          rotate_left
          · intro w'
            go_simp
            with_reducible rfl
          rotate_left
          · simp only [Act.put, List.setIfInBounds_toArray, List.set_cons_zero, List.set_cons_succ, i64_w, i32_w]
            rfl
          refine pure_ (i := 11) (N := some 33) (v := ?_) (a' := ?_) #[true, true, true, true, true, true, true, true, true, true, true, true, false] rfl rfl (by kernel_rfl) (fun _ _ _ h => h) (Or.inl ⟨by rfl, ?_⟩) ?_ ?_
          rotate_left
          · intro w'
            go_simp
            with_reducible rfl
          rotate_left
          · simp only [Act.put, List.setIfInBounds_toArray, List.set_cons_zero, List.set_cons_succ, i64_w, i32_w]
            rfl
          refine pure_ (i := 12) (N := some 2) (v := ?_) (a' := ?_) #[true, true, true, true, true, true, true, true, true, true, true, true, true] rfl rfl (by kernel_rfl) (fun _ _ _ h => h) (Or.inl ⟨by rfl, ?_⟩) ?_ ?_
          rotate_left
          · intro w'
            go_simp
            with_reducible rfl
          rotate_left
          · simp only [Act.put, List.setIfInBounds_toArray, List.set_cons_zero, List.set_cons_succ, i64_w, i32_w]
            rfl
          refine done_ (by kernel_rfl) ?_
          go_wp2
          go_ret
          exact ⟨by simp [goodF], below_step (below_step HB.out hb2) hb3⟩
        | false =>
          go_enter Tryd.func98, Tryd.ntmps98
          go_wp2_with (fail)
          refine start_ (n := 13) (S := (fun w' => w'.cell? ⟨w.heap.size, 0, none⟩ = some (.int .i64 2) ∧ w'.cell? ⟨w.heap.size, 1, none⟩ = some (.int .i64 f1) ∧ w'.cell? ⟨w.heap.size, 2, none⟩ = some (.string f2))) (ds := []) #[false, false, false, false, false, false, false, false, false, false, false, false, false] (by kernel_rfl) rfl rfl ⟨blk_cell HK.out 0, blk_cell HK.out 1, blk_cell HK.out 2⟩ (fun hHeld => ?_)
          refine pure_ (i := 0) (N := some 22) (v := ?_) (a' := ?_) #[true, false, false, false, false, false, false, false, false, false, false, false, false] rfl rfl (by kernel_rfl) (fun _ _ _ h => h) (Or.inl ⟨by rfl, ?_⟩) ?_ ?_
          rotate_left
          · intro w'
            go_simp
            with_reducible rfl
          rotate_left
          · simp only [Act.put, List.setIfInBounds_toArray, List.set_cons_zero, List.set_cons_succ, i64_w, i32_w]
            rfl
          refine take_ (i := 1) (N := some 23) (v := ?_) (a' := ?_) #[true, true, false, false, false, false, false, false, false, false, false, false, false] rfl rfl (by kernel_rfl) (fun _ _ _ h => h) (Or.inl ⟨by rfl, ?_⟩) hHeld ?_ ?_
          rotate_left
          · rintro w' ⟨s0, s1, s2⟩
            go_simp
            with_reducible rfl
          rotate_left
          · simp only [Act.put, List.setIfInBounds_toArray, List.set_cons_zero, List.set_cons_succ, i64_w, i32_w]
            rfl
          refine pure_ (i := 2) (N := some 24) (v := ?_) (a' := ?_) #[true, true, true, false, false, false, false, false, false, false, false, false, false] rfl rfl (by kernel_rfl) (fun _ _ _ h => h) (Or.inl ⟨by rfl, ?_⟩) ?_ ?_
          rotate_left
          · intro w'
            go_simp
            with_reducible rfl
          rotate_left
          · simp only [Act.put, List.setIfInBounds_toArray, List.set_cons_zero, List.set_cons_succ, i64_w, i32_w]
            rfl
          refine pure_ (i := 3) (N := some 25) (v := ?_) (a' := ?_) #[true, true, true, true, false, false, false, false, false, false, false, false, false] rfl rfl (by kernel_rfl) (fun _ _ _ h => h) (Or.inl ⟨by rfl, ?_⟩) ?_ ?_
          rotate_left
          · intro w'
            go_simp
            with_reducible rfl
          rotate_left
          · simp only [Act.put, List.setIfInBounds_toArray, List.set_cons_zero, List.set_cons_succ, i64_w, i32_w]
            rfl
          refine pure_ (i := 4) (N := some 26) (v := undef) (a' := ?_) #[true, true, true, true, true, false, false, false, false, false, false, false, false] rfl rfl (by kernel_rfl) (fun _ _ _ h => h) (Or.inr ⟨by rfl, rfl⟩) ?_ ?_
          rotate_left
          · simp only [Act.put, List.setIfInBounds_toArray, List.set_cons_zero, List.set_cons_succ, i64_w, i32_w]
            rfl
          refine pure_ (i := 5) (N := some 27) (v := undef) (a' := ?_) #[true, true, true, true, true, true, false, false, false, false, false, false, false] rfl rfl (by kernel_rfl) (fun _ _ _ h => h) (Or.inr ⟨by rfl, rfl⟩) ?_ ?_
          rotate_left
          · simp only [Act.put, List.setIfInBounds_toArray, List.set_cons_zero, List.set_cons_succ, i64_w, i32_w]
            rfl
          refine pure_ (i := 6) (N := some 28) (v := undef) (a' := ?_) #[true, true, true, true, true, true, true, false, false, false, false, false, false] rfl rfl (by kernel_rfl) (fun _ _ _ h => h) (Or.inr ⟨by rfl, rfl⟩) ?_ ?_
          rotate_left
          · simp only [Act.put, List.setIfInBounds_toArray, List.set_cons_zero, List.set_cons_succ, i64_w, i32_w]
            rfl
          refine pure_ (i := 7) (N := some 29) (v := undef) (a' := ?_) #[true, true, true, true, true, true, true, true, false, false, false, false, false] rfl rfl (by kernel_rfl) (fun _ _ _ h => h) (Or.inr ⟨by rfl, rfl⟩) ?_ ?_
          rotate_left
          · simp only [Act.put, List.setIfInBounds_toArray, List.set_cons_zero, List.set_cons_succ, i64_w, i32_w]
            rfl
          refine pure_ (i := 8) (N := some 30) (v := undef) (a' := ?_) #[true, true, true, true, true, true, true, true, true, false, false, false, false] rfl rfl (by kernel_rfl) (fun _ _ _ h => h) (Or.inr ⟨by rfl, rfl⟩) ?_ ?_
          rotate_left
          · simp only [Act.put, List.setIfInBounds_toArray, List.set_cons_zero, List.set_cons_succ, i64_w, i32_w]
            rfl
          refine pure_ (i := 9) (N := some 31) (v := undef) (a' := ?_) #[true, true, true, true, true, true, true, true, true, true, false, false, false] rfl rfl (by kernel_rfl) (fun _ _ _ h => h) (Or.inr ⟨by rfl, rfl⟩) ?_ ?_
          rotate_left
          · simp only [Act.put, List.setIfInBounds_toArray, List.set_cons_zero, List.set_cons_succ, i64_w, i32_w]
            rfl
          refine pure_ (i := 10) (N := some 32) (v := undef) (a' := ?_) #[true, true, true, true, true, true, true, true, true, true, true, false, false] rfl rfl (by kernel_rfl) (fun _ _ _ h => h) (Or.inr ⟨by rfl, rfl⟩) ?_ ?_
          rotate_left
          · simp only [Act.put, List.setIfInBounds_toArray, List.set_cons_zero, List.set_cons_succ, i64_w, i32_w]
            rfl
          refine pure_ (i := 11) (N := some 33) (v := ?_) (a' := ?_) #[true, true, true, true, true, true, true, true, true, true, true, true, false] rfl rfl (by kernel_rfl) (fun _ _ _ h => h) (Or.inl ⟨by rfl, ?_⟩) ?_ ?_
          rotate_left
          · intro w'
            go_simp
            with_reducible rfl
          rotate_left
          · simp only [Act.put, List.setIfInBounds_toArray, List.set_cons_zero, List.set_cons_succ, i64_w, i32_w]
            rfl
          refine pure_ (i := 12) (N := some 2) (v := ?_) (a' := ?_) #[true, true, true, true, true, true, true, true, true, true, true, true, true] rfl rfl (by kernel_rfl) (fun _ _ _ h => h) (Or.inl ⟨by rfl, ?_⟩) ?_ ?_
          rotate_left
          · intro w'
            go_simp
            with_reducible rfl
          rotate_left
          · simp only [Act.put, List.setIfInBounds_toArray, List.set_cons_zero, List.set_cons_succ, i64_w, i32_w]
            rfl
          refine done_ (by kernel_rfl) ?_
          go_wp2
          go_ret
          exact ⟨by simp, below_drew HB.out⟩
      · by_cases h3 : f0 = 3
        · subst h3
          cases h1 : (f1 == 0) with
          | true =>
            go_enter Tryd.func98, Tryd.ntmps98
            go_wp2
            go_ret
            exact ⟨by simp, HB.out⟩
          | false =>
            go_enter Tryd.func98, Tryd.ntmps98
            go_wp2
            go_ret
            exact ⟨by simp, HB.out⟩
        · rw [if_neg h0, if_neg h1, if_neg h2, if_neg h3]
          have e0 : (f0 == 0) = false := beq_eq_false_iff_ne.2 h0
          have e1 : (f0 == 1) = false := beq_eq_false_iff_ne.2 h1
          have e2 : (f0 == 2) = false := beq_eq_false_iff_ne.2 h2
          have e3 : (f0 == 3) = false := beq_eq_false_iff_ne.2 h3
          go_enter Tryd.func98, Tryd.ntmps98
          go_wp2
          go_ret
          exact ⟨rfl, HB.out⟩
end Go.Proofs.YtefdfgmlmjnmlaaDoor.My
end

section
set_option linter.unusedVariables false
set_option linter.unusedSimpArgs false
namespace Go.Proofs.YtefdfgmlmjnmlaaDoor.Rf
open Go.RowKit Go.Proofs.YtefdfgmlmjnmlaaDoorW.PrintWords Go.Proofs.YtefdfgmlmjnmlaaDoorW.PrintLast Go.Proofs.YtefdfgmlmjnmlaaDoorW.PrintMore
attribute [local go_sem] max2_int max_two
mutual
def expr_parts.j0 : Nat → Int → Bool → Option (Int)
  | 0, _, _ => none
  | k + 1, x3, x4 => if x4 = true then (some 0) else (if x3 = 7 then (expr_parts.j1 k x3 (x3 == 7)) else (expr_parts.j1 k x3 (x3 == 8)))
def expr_parts.j1 : Nat → Int → Bool → Option (Int)
  | 0, _, _ => none
  | k + 1, x3, x7 => if x7 = true then (some 1) else (if x3 = 3 then (some 2) else (if x3 = 4 then (some 2) else (if x3 = 5 then (some 2) else (if x3 = 6 then (some 2) else (if x3 = 9 then (some 2) else (if x3 = 10 then (some 2) else (some (-1))))))))
end
def expr_parts.f (k : Nat) (a0 : Int) : Option (Int) := if a0 = 1 then (expr_parts.j0 k a0 (a0 == 1)) else (expr_parts.j0 k a0 (a0 == 2))
set_option maxHeartbeats 8000000 in
set_option maxRecDepth 100000 in
theorem expr_parts.calls (k : Nat) (a0 : Int) (r : Int) (w : World) (h : expr_parts.f k a0 = some r) :
    Calls Tryd.prog 112 #[.int .i64 a0] w fun e w' => e = .returned (.int .i64 r) ∧ Drawn0 w w' := by
  have H : (if a0 = 1 then (expr_parts.j0 k a0 (a0 == 1)) else (expr_parts.j0 k a0 (a0 == 2))) = some r := h
  clear h
  have HC2 := Aside0.mk H
  clear H
  go_enter Tryd.func112, Tryd.ntmps112
  go_upto_if 4 with (fail)
  go_cut [4] (fun v4 wc => ∃ (kq : Nat) (x4_1 : Bool), v4 = .bool x4_1 ∧ Aside0 (expr_parts.j0 kq a0 x4_1 = some r) ∧ Aside0 (kq ≤ k) ∧ Drawn0 w wc)
  case first =>
    have H := HC2.out
    clear HC2
    by_cases c3 : a0 = 1
    · rw [if_pos c3] at H
      have c3b0 : (a0 == 1) = true := beq_iff_eq.mpr c3
      have c3b1 : (a0 != 1) = false := bne_eq_false_iff_eq.mpr c3
      clear c3
      (first | rw [c3b0] | (simp only [i64_w, i32_w]; rw [c3b0]) | skip)
      have H' := Aside0.mk H
      clear H
      go_wp2
      go_meet
      case rel => exact ⟨_, ((a0 == 1)), (by first | rfl | (simp; done) | (simp [*]; done)), H', ⟨by first | omega | exact Nat.le_refl _⟩, by repeat (first | exact Drawn0.refl _ | apply Drawn0.step)⟩
    · rw [if_neg c3] at H
      have c3b0 : (a0 == 1) = false := beq_eq_false_iff_ne.mpr c3
      have c3b1 : (a0 != 1) = true := bne_iff_ne.mpr c3
      (first | rw [c3b0] | (simp only [i64_w, i32_w]; rw [c3b0]) | skip)
      have H' := Aside0.mk H
      clear H
      go_wp2
      go_meet
      case rel => exact ⟨_, ((a0 == 2)), (by first | rfl | (simp; done) | (simp [*]; done)), H', ⟨by first | omega | exact Nat.le_refl _⟩, by repeat (first | exact Drawn0.refl _ | apply Drawn0.step)⟩
  case rest =>
    clear HC2
    try clear c1
    try clear p2
    try clear c3
    try clear c3b0
    try clear c3b1
    obtain ⟨kq, x4_1, rfl, HA, HJ1, ⟨mc1, rfl⟩⟩ := hcut
    cases kq with
    | zero => exact absurd HA.out (by simp [expr_parts.j0])
    | succ kj1 =>
      have H := HA.out
      clear HA
      simp only [expr_parts.j0] at H
      by_cases c4 : x4_1 = true
      · subst c4
        have H1 : (some 0) = some r := by rw [if_pos rfl] at H; exact H
        clear H
        have H := H1
        clear H1
        obtain rfl := Option.some.inj H
        go_wp2
        go_ret
        exact ⟨by first | rfl | (simp; done) | (simp [*]; done), by repeat (first | exact Drawn0.refl _ | apply Drawn0.step)⟩
      · replace c4 := Bool.eq_false_iff.mpr c4
        subst c4
        have H1 : (if a0 = 7 then (expr_parts.j1 kj1 a0 (a0 == 7)) else (expr_parts.j1 kj1 a0 (a0 == 8))) = some r := by rw [if_neg (show ¬ (false = true) by decide)] at H; exact H
        clear H
        have H := H1
        clear H1
        have HC5 := Aside0.mk H
        clear H
        go_upto_if 7 with (fail)
        go_cut [7] (fun v7 wc => ∃ (kq : Nat) (x7_4 : Bool), v7 = .bool x7_4 ∧ Aside0 (expr_parts.j1 kq a0 x7_4 = some r) ∧ Aside0 (kq ≤ kj1) ∧ Drawn0 w wc)
        case first =>
          have H := HC5.out
          clear HC5
          by_cases c6 : a0 = 7
          · rw [if_pos c6] at H
            have c6b0 : (a0 == 7) = true := beq_iff_eq.mpr c6
            have c6b1 : (a0 != 7) = false := bne_eq_false_iff_eq.mpr c6
            clear c6
            (first | rw [c6b0] | (simp only [i64_w, i32_w]; rw [c6b0]) | skip)
            have H' := Aside0.mk H
            clear H
            go_wp2
            go_meet
            case rel => exact ⟨_, ((a0 == 7)), (by first | rfl | (simp; done) | (simp [*]; done)), H', ⟨by have := HJ1.out; first | omega | exact Nat.le_refl _⟩, by repeat (first | exact Drawn0.refl _ | apply Drawn0.step)⟩
          · rw [if_neg c6] at H
            have c6b0 : (a0 == 7) = false := beq_eq_false_iff_ne.mpr c6
            have c6b1 : (a0 != 7) = true := bne_iff_ne.mpr c6
            (first | rw [c6b0] | (simp only [i64_w, i32_w]; rw [c6b0]) | skip)
            have H' := Aside0.mk H
            clear H
            go_wp2
            go_meet
            case rel => exact ⟨_, ((a0 == 8)), (by first | rfl | (simp; done) | (simp [*]; done)), H', ⟨by have := HJ1.out; first | omega | exact Nat.le_refl _⟩, by repeat (first | exact Drawn0.refl _ | apply Drawn0.step)⟩
        case rest =>
          clear HC5
          try clear c1
          try clear p2
          try clear c3
          try clear c3b0
          try clear c3b1
          try clear c4
          try clear c6
          try clear c6b0
          try clear c6b1
          try clear p2
          obtain ⟨kq, x7_4, rfl, HA, HJ4, ⟨mc4, rfl⟩⟩ := hcut
          cases kq with
          | zero => exact absurd HA.out (by simp [expr_parts.j1])
          | succ kj4 =>
            have H := HA.out
            clear HA
            simp only [expr_parts.j1] at H
            by_cases c7 : x7_4 = true
            · subst c7
              have H1 : (some 1) = some r := by rw [if_pos rfl] at H; exact H
              clear H
              have H := H1
              clear H1
              obtain rfl := Option.some.inj H
              go_wp2
              go_ret
              exact ⟨by first | rfl | (simp; done) | (simp [*]; done), by repeat (first | exact Drawn0.refl _ | apply Drawn0.step)⟩
            · replace c7 := Bool.eq_false_iff.mpr c7
              subst c7
              have H1 : (if a0 = 3 then (some 2) else (if a0 = 4 then (some 2) else (if a0 = 5 then (some 2) else (if a0 = 6 then (some 2) else (if a0 = 9 then (some 2) else (if a0 = 10 then (some 2) else (some (-1)))))))) = some r := by rw [if_neg (show ¬ (false = true) by decide)] at H; exact H
              clear H
              have H := H1
              clear H1
              by_cases c8 : a0 = 3
              · rw [if_pos c8] at H
                have c8b0 : (a0 == 3) = true := beq_iff_eq.mpr c8
                have c8b1 : (a0 != 3) = false := bne_eq_false_iff_eq.mpr c8
                clear c8
                obtain rfl := Option.some.inj H
                go_wp2
                go_ret
                exact ⟨by first | rfl | (simp; done) | (simp [*]; done), by repeat (first | exact Drawn0.refl _ | apply Drawn0.step)⟩
              · rw [if_neg c8] at H
                have c8b0 : (a0 == 3) = false := beq_eq_false_iff_ne.mpr c8
                have c8b1 : (a0 != 3) = true := bne_iff_ne.mpr c8
                by_cases c9 : a0 = 4
                · rw [if_pos c9] at H
                  have c9b0 : (a0 == 4) = true := beq_iff_eq.mpr c9
                  have c9b1 : (a0 != 4) = false := bne_eq_false_iff_eq.mpr c9
                  clear c9
                  obtain rfl := Option.some.inj H
                  go_wp2
                  go_ret
                  exact ⟨by first | rfl | (simp; done) | (simp [*]; done), by repeat (first | exact Drawn0.refl _ | apply Drawn0.step)⟩
                · rw [if_neg c9] at H
                  have c9b0 : (a0 == 4) = false := beq_eq_false_iff_ne.mpr c9
                  have c9b1 : (a0 != 4) = true := bne_iff_ne.mpr c9
                  by_cases c10 : a0 = 5
                  · rw [if_pos c10] at H
                    have c10b0 : (a0 == 5) = true := beq_iff_eq.mpr c10
                    have c10b1 : (a0 != 5) = false := bne_eq_false_iff_eq.mpr c10
                    clear c10
                    obtain rfl := Option.some.inj H
                    go_wp2
                    go_ret
                    exact ⟨by first | rfl | (simp; done) | (simp [*]; done), by repeat (first | exact Drawn0.refl _ | apply Drawn0.step)⟩
                  · rw [if_neg c10] at H
                    have c10b0 : (a0 == 5) = false := beq_eq_false_iff_ne.mpr c10
                    have c10b1 : (a0 != 5) = true := bne_iff_ne.mpr c10
                    by_cases c11 : a0 = 6
                    · rw [if_pos c11] at H
                      have c11b0 : (a0 == 6) = true := beq_iff_eq.mpr c11
                      have c11b1 : (a0 != 6) = false := bne_eq_false_iff_eq.mpr c11
                      clear c11
                      obtain rfl := Option.some.inj H
                      go_wp2
                      go_ret
                      exact ⟨by first | rfl | (simp; done) | (simp [*]; done), by repeat (first | exact Drawn0.refl _ | apply Drawn0.step)⟩
                    · rw [if_neg c11] at H
                      have c11b0 : (a0 == 6) = false := beq_eq_false_iff_ne.mpr c11
                      have c11b1 : (a0 != 6) = true := bne_iff_ne.mpr c11
                      by_cases c12 : a0 = 9
                      · rw [if_pos c12] at H
                        have c12b0 : (a0 == 9) = true := beq_iff_eq.mpr c12
                        have c12b1 : (a0 != 9) = false := bne_eq_false_iff_eq.mpr c12
                        clear c12
                        obtain rfl := Option.some.inj H
                        go_wp2
                        go_ret
                        exact ⟨by first | rfl | (simp; done) | (simp [*]; done), by repeat (first | exact Drawn0.refl _ | apply Drawn0.step)⟩
                      · rw [if_neg c12] at H
                        have c12b0 : (a0 == 9) = false := beq_eq_false_iff_ne.mpr c12
                        have c12b1 : (a0 != 9) = true := bne_iff_ne.mpr c12
                        by_cases c13 : a0 = 10
                        · rw [if_pos c13] at H
                          have c13b0 : (a0 == 10) = true := beq_iff_eq.mpr c13
                          have c13b1 : (a0 != 10) = false := bne_eq_false_iff_eq.mpr c13
                          clear c13
                          obtain rfl := Option.some.inj H
                          go_wp2
                          go_ret
                          exact ⟨by first | rfl | (simp; done) | (simp [*]; done), by repeat (first | exact Drawn0.refl _ | apply Drawn0.step)⟩
                        · rw [if_neg c13] at H
                          have c13b0 : (a0 == 10) = false := beq_eq_false_iff_ne.mpr c13
                          have c13b1 : (a0 != 10) = true := bne_iff_ne.mpr c13
                          obtain rfl := Option.some.inj H
                          go_wp2
                          go_ret
                          exact ⟨by first | rfl | (simp; done) | (simp [*]; done), by repeat (first | exact Drawn0.refl _ | apply Drawn0.step)⟩
end Go.Proofs.YtefdfgmlmjnmlaaDoor.Rf
end

section
set_option linter.unusedVariables false
set_option linter.unusedSimpArgs false
namespace Go.Proofs.YtefdfgmlmjnmlaaDoor.Rf
open Go.RowKit Go.Proofs.YtefdfgmlmjnmlaaDoorW.PrintWords Go.Proofs.YtefdfgmlmjnmlaaDoorW.PrintLast Go.Proofs.YtefdfgmlmjnmlaaDoorW.PrintMore
attribute [local go_sem] max2_int max_two
mutual
def mortmainref08_count.j0 : Nat → Int → Bool → Option (Int)
  | 0, _, _ => none
  | k + 1, x3, x4 => if x4 = true then (some 0) else (if x3 = 7 then (mortmainref08_count.j1 k x3 (x3 == 7)) else (mortmainref08_count.j1 k x3 (x3 == 8)))
def mortmainref08_count.j1 : Nat → Int → Bool → Option (Int)
  | 0, _, _ => none
  | k + 1, x3, x7 => if x7 = true then (some 1) else (if x3 = 3 then (some 2) else (if x3 = 4 then (some 2) else (if x3 = 5 then (some 2) else (if x3 = 6 then (some 2) else (if x3 = 9 then (some 2) else (if x3 = 10 then (some 2) else (some (-1))))))))
end
def mortmainref08_count.f (k : Nat) (a0 : Int) : Option (Int) := if a0 = 1 then (mortmainref08_count.j0 k a0 (a0 == 1)) else (mortmainref08_count.j0 k a0 (a0 == 2))
set_option maxHeartbeats 8000000 in
set_option maxRecDepth 100000 in
theorem mortmainref08_count.calls (k : Nat) (a0 : Int) (r : Int) (w : World) (h : mortmainref08_count.f k a0 = some r) :
    Calls Tryd.prog 115 #[.int .i64 a0] w fun e w' => e = .returned (.int .i64 r) ∧ Drawn0 w w' := by
  have H : (if a0 = 1 then (mortmainref08_count.j0 k a0 (a0 == 1)) else (mortmainref08_count.j0 k a0 (a0 == 2))) = some r := h
  clear h
  have HC2 := Aside0.mk H
  clear H
  go_enter Tryd.func115, Tryd.ntmps115
  go_upto_if 4 with (fail)
  go_cut [4] (fun v4 wc => ∃ (kq : Nat) (x4_1 : Bool), v4 = .bool x4_1 ∧ Aside0 (mortmainref08_count.j0 kq a0 x4_1 = some r) ∧ Aside0 (kq ≤ k) ∧ Drawn0 w wc)
  case first =>
    have H := HC2.out
    clear HC2
    by_cases c3 : a0 = 1
    · rw [if_pos c3] at H
      have c3b0 : (a0 == 1) = true := beq_iff_eq.mpr c3
      have c3b1 : (a0 != 1) = false := bne_eq_false_iff_eq.mpr c3
      clear c3
      (first | rw [c3b0] | (simp only [i64_w, i32_w]; rw [c3b0]) | skip)
      have H' := Aside0.mk H
      clear H
      go_wp2
      go_meet
      case rel => exact ⟨_, ((a0 == 1)), (by first | rfl | (simp; done) | (simp [*]; done)), H', ⟨by first | omega | exact Nat.le_refl _⟩, by repeat (first | exact Drawn0.refl _ | apply Drawn0.step)⟩
    · rw [if_neg c3] at H
      have c3b0 : (a0 == 1) = false := beq_eq_false_iff_ne.mpr c3
      have c3b1 : (a0 != 1) = true := bne_iff_ne.mpr c3
      (first | rw [c3b0] | (simp only [i64_w, i32_w]; rw [c3b0]) | skip)
      have H' := Aside0.mk H
      clear H
      go_wp2
      go_meet
      case rel => exact ⟨_, ((a0 == 2)), (by first | rfl | (simp; done) | (simp [*]; done)), H', ⟨by first | omega | exact Nat.le_refl _⟩, by repeat (first | exact Drawn0.refl _ | apply Drawn0.step)⟩
  case rest =>
    clear HC2
    try clear c1
    try clear p2
    try clear c3
    try clear c3b0
    try clear c3b1
    obtain ⟨kq, x4_1, rfl, HA, HJ1, ⟨mc1, rfl⟩⟩ := hcut
    cases kq with
    | zero => exact absurd HA.out (by simp [mortmainref08_count.j0])
    | succ kj1 =>
      have H := HA.out
      clear HA
      simp only [mortmainref08_count.j0] at H
      by_cases c4 : x4_1 = true
      · subst c4
        have H1 : (some 0) = some r := by rw [if_pos rfl] at H; exact H
        clear H
        have H := H1
        clear H1
        obtain rfl := Option.some.inj H
        go_wp2
        go_ret
        exact ⟨by first | rfl | (simp; done) | (simp [*]; done), by repeat (first | exact Drawn0.refl _ | apply Drawn0.step)⟩
      · replace c4 := Bool.eq_false_iff.mpr c4
        subst c4
        have H1 : (if a0 = 7 then (mortmainref08_count.j1 kj1 a0 (a0 == 7)) else (mortmainref08_count.j1 kj1 a0 (a0 == 8))) = some r := by rw [if_neg (show ¬ (false = true) by decide)] at H; exact H
        clear H
        have H := H1
        clear H1
        have HC5 := Aside0.mk H
        clear H
        go_upto_if 7 with (fail)
        go_cut [7] (fun v7 wc => ∃ (kq : Nat) (x7_4 : Bool), v7 = .bool x7_4 ∧ Aside0 (mortmainref08_count.j1 kq a0 x7_4 = some r) ∧ Aside0 (kq ≤ kj1) ∧ Drawn0 w wc)
        case first =>
          have H := HC5.out
          clear HC5
          by_cases c6 : a0 = 7
          · rw [if_pos c6] at H
            have c6b0 : (a0 == 7) = true := beq_iff_eq.mpr c6
            have c6b1 : (a0 != 7) = false := bne_eq_false_iff_eq.mpr c6
            clear c6
            (first | rw [c6b0] | (simp only [i64_w, i32_w]; rw [c6b0]) | skip)
            have H' := Aside0.mk H
            clear H
            go_wp2
            go_meet
            case rel => exact ⟨_, ((a0 == 7)), (by first | rfl | (simp; done) | (simp [*]; done)), H', ⟨by have := HJ1.out; first | omega | exact Nat.le_refl _⟩, by repeat (first | exact Drawn0.refl _ | apply Drawn0.step)⟩
          · rw [if_neg c6] at H
            have c6b0 : (a0 == 7) = false := beq_eq_false_iff_ne.mpr c6
            have c6b1 : (a0 != 7) = true := bne_iff_ne.mpr c6
            (first | rw [c6b0] | (simp only [i64_w, i32_w]; rw [c6b0]) | skip)
            have H' := Aside0.mk H
            clear H
            go_wp2
            go_meet
            case rel => exact ⟨_, ((a0 == 8)), (by first | rfl | (simp; done) | (simp [*]; done)), H', ⟨by have := HJ1.out; first | omega | exact Nat.le_refl _⟩, by repeat (first | exact Drawn0.refl _ | apply Drawn0.step)⟩
        case rest =>
          clear HC5
          try clear c1
          try clear p2
          try clear c3
          try clear c3b0
          try clear c3b1
          try clear c4
          try clear c6
          try clear c6b0
          try clear c6b1
          try clear p2
          obtain ⟨kq, x7_4, rfl, HA, HJ4, ⟨mc4, rfl⟩⟩ := hcut
          cases kq with
          | zero => exact absurd HA.out (by simp [mortmainref08_count.j1])
          | succ kj4 =>
            have H := HA.out
            clear HA
            simp only [mortmainref08_count.j1] at H
            by_cases c7 : x7_4 = true
            · subst c7
              have H1 : (some 1) = some r := by rw [if_pos rfl] at H; exact H
              clear H
              have H := H1
              clear H1
              obtain rfl := Option.some.inj H
              go_wp2
              go_ret
              exact ⟨by first | rfl | (simp; done) | (simp [*]; done), by repeat (first | exact Drawn0.refl _ | apply Drawn0.step)⟩
            · replace c7 := Bool.eq_false_iff.mpr c7
              subst c7
              have H1 : (if a0 = 3 then (some 2) else (if a0 = 4 then (some 2) else (if a0 = 5 then (some 2) else (if a0 = 6 then (some 2) else (if a0 = 9 then (some 2) else (if a0 = 10 then (some 2) else (some (-1)))))))) = some r := by rw [if_neg (show ¬ (false = true) by decide)] at H; exact H
              clear H
              have H := H1
              clear H1
              by_cases c8 : a0 = 3
              · rw [if_pos c8] at H
                have c8b0 : (a0 == 3) = true := beq_iff_eq.mpr c8
                have c8b1 : (a0 != 3) = false := bne_eq_false_iff_eq.mpr c8
                clear c8
                obtain rfl := Option.some.inj H
                go_wp2
                go_ret
                exact ⟨by first | rfl | (simp; done) | (simp [*]; done), by repeat (first | exact Drawn0.refl _ | apply Drawn0.step)⟩
              · rw [if_neg c8] at H
                have c8b0 : (a0 == 3) = false := beq_eq_false_iff_ne.mpr c8
                have c8b1 : (a0 != 3) = true := bne_iff_ne.mpr c8
                by_cases c9 : a0 = 4
                · rw [if_pos c9] at H
                  have c9b0 : (a0 == 4) = true := beq_iff_eq.mpr c9
                  have c9b1 : (a0 != 4) = false := bne_eq_false_iff_eq.mpr c9
                  clear c9
                  obtain rfl := Option.some.inj H
                  go_wp2
                  go_ret
                  exact ⟨by first | rfl | (simp; done) | (simp [*]; done), by repeat (first | exact Drawn0.refl _ | apply Drawn0.step)⟩
                · rw [if_neg c9] at H
                  have c9b0 : (a0 == 4) = false := beq_eq_false_iff_ne.mpr c9
                  have c9b1 : (a0 != 4) = true := bne_iff_ne.mpr c9
                  by_cases c10 : a0 = 5
                  · rw [if_pos c10] at H
                    have c10b0 : (a0 == 5) = true := beq_iff_eq.mpr c10
                    have c10b1 : (a0 != 5) = false := bne_eq_false_iff_eq.mpr c10
                    clear c10
                    obtain rfl := Option.some.inj H
                    go_wp2
                    go_ret
                    exact ⟨by first | rfl | (simp; done) | (simp [*]; done), by repeat (first | exact Drawn0.refl _ | apply Drawn0.step)⟩
                  · rw [if_neg c10] at H
                    have c10b0 : (a0 == 5) = false := beq_eq_false_iff_ne.mpr c10
                    have c10b1 : (a0 != 5) = true := bne_iff_ne.mpr c10
                    by_cases c11 : a0 = 6
                    · rw [if_pos c11] at H
                      have c11b0 : (a0 == 6) = true := beq_iff_eq.mpr c11
                      have c11b1 : (a0 != 6) = false := bne_eq_false_iff_eq.mpr c11
                      clear c11
                      obtain rfl := Option.some.inj H
                      go_wp2
                      go_ret
                      exact ⟨by first | rfl | (simp; done) | (simp [*]; done), by repeat (first | exact Drawn0.refl _ | apply Drawn0.step)⟩
                    · rw [if_neg c11] at H
                      have c11b0 : (a0 == 6) = false := beq_eq_false_iff_ne.mpr c11
                      have c11b1 : (a0 != 6) = true := bne_iff_ne.mpr c11
                      by_cases c12 : a0 = 9
                      · rw [if_pos c12] at H
                        have c12b0 : (a0 == 9) = true := beq_iff_eq.mpr c12
                        have c12b1 : (a0 != 9) = false := bne_eq_false_iff_eq.mpr c12
                        clear c12
                        obtain rfl := Option.some.inj H
                        go_wp2
                        go_ret
                        exact ⟨by first | rfl | (simp; done) | (simp [*]; done), by repeat (first | exact Drawn0.refl _ | apply Drawn0.step)⟩
                      · rw [if_neg c12] at H
                        have c12b0 : (a0 == 9) = false := beq_eq_false_iff_ne.mpr c12
                        have c12b1 : (a0 != 9) = true := bne_iff_ne.mpr c12
                        by_cases c13 : a0 = 10
                        · rw [if_pos c13] at H
                          have c13b0 : (a0 == 10) = true := beq_iff_eq.mpr c13
                          have c13b1 : (a0 != 10) = false := bne_eq_false_iff_eq.mpr c13
                          clear c13
                          obtain rfl := Option.some.inj H
                          go_wp2
                          go_ret
                          exact ⟨by first | rfl | (simp; done) | (simp [*]; done), by repeat (first | exact Drawn0.refl _ | apply Drawn0.step)⟩
                        · rw [if_neg c13] at H
                          have c13b0 : (a0 == 10) = false := beq_eq_false_iff_ne.mpr c13
                          have c13b1 : (a0 != 10) = true := bne_iff_ne.mpr c13
                          obtain rfl := Option.some.inj H
                          go_wp2
                          go_ret
                          exact ⟨by first | rfl | (simp; done) | (simp [*]; done), by repeat (first | exact Drawn0.refl _ | apply Drawn0.step)⟩
end Go.Proofs.YtefdfgmlmjnmlaaDoor.Rf
end

section
set_option linter.unusedSimpArgs false
set_option linter.unusedVariables false
namespace Go.Proofs.YtefdfgmlmjnmlaaDoor.My
open Go.RowKit Go.Proofs.YtefdfgmlmjnmlaaDoorW.PrintWords Go.Proofs.YtefdfgmlmjnmlaaDoor.Rf
open Go.Proofs.YtefdfgmlmjnmlaaDoorW.PrintLast Go.Proofs.YtefdfgmlmjnmlaaDoorW.PrintMore
def partsN (op : Int) : Int :=
  if op = 1 then 0 else if op = 2 then 0 else if op = 7 then 1 else if op = 8 then 1 else if op = 3 then 2 else if op = 4 then 2 else if op = 5 then 2 else if op = 6 then 2 else if op = 9 then 2 else if op = 10 then 2 else -1
theorem parts_f (op : Int) : expr_parts.f 3 op = some (partsN op) := by
  by_cases h1 : op = 1
  · subst h1; rfl
  by_cases h2 : op = 2
  · subst h2; rfl
  by_cases h7 : op = 7
  · subst h7; rfl
  by_cases h8 : op = 8
  · subst h8; rfl
  by_cases h3 : op = 3
  · subst h3; rfl
  by_cases h4 : op = 4
  · subst h4; rfl
  by_cases h5 : op = 5
  · subst h5; rfl
  by_cases h6 : op = 6
  · subst h6; rfl
  by_cases h9 : op = 9
  · subst h9; rfl
  by_cases h10 : op = 10
  · subst h10; rfl
  have e2 : (op == 2) = false := beq_eq_false_iff_ne.2 h2
  have e8 : (op == 8) = false := beq_eq_false_iff_ne.2 h8
  simp only [expr_parts.f, expr_parts.j0, expr_parts.j1, partsN, h1, h2, h7, h8, h3, h4, h5, h6, h9, h10, e2, e8, if_false, Bool.false_eq_true]
theorem count_f (op : Int) : mortmainref08_count.f 3 op = some (partsN op) := by
  by_cases h1 : op = 1
  · subst h1; rfl
  by_cases h2 : op = 2
  · subst h2; rfl
  by_cases h7 : op = 7
  · subst h7; rfl
  by_cases h8 : op = 8
  · subst h8; rfl
  by_cases h3 : op = 3
  · subst h3; rfl
  by_cases h4 : op = 4
  · subst h4; rfl
  by_cases h5 : op = 5
  · subst h5; rfl
  by_cases h6 : op = 6
  · subst h6; rfl
  by_cases h9 : op = 9
  · subst h9; rfl
  by_cases h10 : op = 10
  · subst h10; rfl
  have e2 : (op == 2) = false := beq_eq_false_iff_ne.2 h2
  have e8 : (op == 8) = false := beq_eq_false_iff_ne.2 h8
  simp only [mortmainref08_count.f, mortmainref08_count.j0, mortmainref08_count.j1, partsN, h1, h2, h7, h8, h3, h4, h5, h6, h9, h10, e2, e8, if_false, Bool.false_eq_true]
theorem drawn_below {w w' : World} (h : Drawn0 w w') : Below w.heap.size w w' := by
  obtain ⟨n, rfl⟩ := h
  exact pw_below_drewN (Below.refl _ _) n
theorem parts_calls (op : Int) (w : World) : Calls Tryd.prog 112 #[.int .i64 op] w fun e w' => e = .returned (.int .i64 (partsN op)) ∧ Below w.heap.size w w' :=
  (expr_parts.calls 3 op _ w (parts_f op)).mono fun e w' h => ⟨h.1, drawn_below h.2⟩
theorem count_calls (op : Int) (w : World) : Calls Tryd.prog 115 #[.int .i64 op] w fun e w' => e = .returned (.int .i64 (partsN op)) ∧ Below w.heap.size w w' :=
  (mortmainref08_count.calls 3 op _ w (count_f op)).mono fun e w' h => ⟨h.1, drawn_below h.2⟩
def zeroV (v : S70) : Bool := v.f0 == 0 && (v.f1 == 0 && v.f2.toList.isEmpty)
def preK (e : S72) : Bool := partsN e.f0 != (e.f3.length : Int) || (e.f0 != 2 && e.f1 != 0) || (e.f0 != 1 && !zeroV e.f2)
/-- Do two kinds not go together? -/
def apart (a b : Int) : Bool := a != b && (a != 0 && b != 0)
def finK (e : S72) (cols : List S59) (a b : Int) : Int × Int :=
  if e.f0 = 1 then (if goodV e.f2 = true then (e.f2.f0, 0) else (0, 4))
  else if e.f0 = 2 then (if 0 ≤ e.f1 ∧ e.f1 < (cols.length : Int) then ((cols.getD e.f1.toNat z59).f1, 0) else (0, 4))
  else if e.f0 = 9 ∨ e.f0 = 10 then (if (max a b == 3 || apart a b) = true then (0, 9) else (max a b, 0))
  else if e.f0 = 3 ∨ e.f0 = 4 then (if apart a b = true then (0, 9) else (1, 0))
  else if e.f0 = 5 ∨ e.f0 = 6 ∨ e.f0 = 7 then (if 1 < a ∨ 1 < b then (0, 9) else (1, 0))
  else (1, 0)
def joinK (e : S72) (cols : List S59) (rs : List (Int × Int)) : Int × Int :=
  if preK e = true then (0, 4) else
  match rs.find? (fun r => r.2 != 0) with
  | some r => (0, r.2)
  | none => finK e cols (rs.getD 0 (0, 0)).1 (rs.getD 1 (0, 0)).1
def kindE (cols : List S59) (e : S72) : Int × Int := joinK e cols (e.f3.attach.map fun x => kindE cols x.1)
termination_by SizeOf.sizeOf e
decreasing_by
  have := List.sizeOf_lt_of_mem x.2
  cases e
  simp only [S72.mk.sizeOf_spec]
  simp only at this
  omega
theorem kindE_eq (cols : List S59) (e : S72) : kindE cols e = joinK e cols (e.f3.map (kindE cols)) := by
  rw [kindE]
  congr 1
  simp
end Go.Proofs.YtefdfgmlmjnmlaaDoor.My
end

section
set_option linter.unusedSimpArgs false
set_option linter.unusedVariables false
namespace Go.Proofs.YtefdfgmlmjnmlaaDoor.My
open Go.RowKit Go.Proofs.YtefdfgmlmjnmlaaDoorW.PrintWords Go.Proofs.YtefdfgmlmjnmlaaDoor.Rf
open Go.Proofs.YtefdfgmlmjnmlaaDoorW.PrintLast Go.Proofs.YtefdfgmlmjnmlaaDoorW.PrintMore
/-- A call that gives a kind, or gives up with an error. -/
structure KindPost (r : Int × Int) (w : World) (e : Ending) (w' : World) : Prop where
  ok : r.2 = 0 → e = .returned (.int .i64 r.1)
  bad : r.2 ≠ 0 → e = .panicked [{ v := .iface 148 (.agg #[.int .i64 r.2]), recovered := false }]
  below : Below w.heap.size w w'
def numK (a b : Int) : Int × Int := if (max a b == 3 || apart a b) = true then (0, 9) else (max a b, 0)
theorem panics {fn : Func} {R : Ending → World → Prop} {a : Act} {w : World} {ch : List PanicEntry} (hd : a.defers = []) (h : R (.panicked ch) w) : bodyPost Tryd.prog fn R (.panic ch) a w := ⟨hd, h⟩
theorem kind_bad {n : Int} {w w' : World} (h : n ≠ 0) (hb : Below w.heap.size w w') : KindPost (0, n) w (.panicked [{ v := .iface 148 (.agg #[.int .i64 n]), recovered := false }]) w' :=
  ⟨fun h0 => absurd h0 h, fun _ => rfl, hb⟩
theorem kind_ok {k : Int} {w w' : World} (hb : Below w.heap.size w w') : KindPost (k, 0) w (.returned (.int .i64 k)) w' :=
  ⟨fun _ => rfl, fun h => absurd rfl h, hb⟩
theorem kind_bad2 {r : Int × Int} {n : Int} {w w' : World} (hr : r = (0, n)) (h : n ≠ 0) (hb : Below w.heap.size w w') : KindPost r w (.panicked [{ v := .iface 148 (.agg #[.int .i64 n]), recovered := false }]) w' := by
  rw [hr]; exact kind_bad h hb
theorem kind_ok2 {r : Int × Int} {k : Int} {w w' : World} (hr : r = (k, 0)) (hb : Below w.heap.size w w') : KindPost r w (.returned (.int .i64 k)) w' := by
  rw [hr]; exact kind_ok hb
set_option maxHeartbeats 4000000 in
set_option maxRecDepth 100000 in
theorem num_calls (a b : Int) (w : World) : Calls Tryd.prog 114 #[.int .i64 a, .int .i64 b] w (KindPost (numK a b) w) := by
  unfold numK apart
  cases h1 : (max a b == 3) with
  | true =>
    go_enter Tryd.func114, Tryd.ntmps114
    go_wp2
    exact panics rfl (kind_bad (by decide) (Below.refl _ _))
  | false =>
    cases h2 : (a != b) with
    | false =>
      go_enter Tryd.func114, Tryd.ntmps114
      go_wp2
      go_ret
      exact kind_ok (Below.refl _ _)
    | true =>
      cases h3 : (a != 0) with
      | false =>
        go_enter Tryd.func114, Tryd.ntmps114
        go_wp2
        go_ret
        exact kind_ok (Below.refl _ _)
      | true =>
        cases h4 : (b != 0) with
        | false =>
          go_enter Tryd.func114, Tryd.ntmps114
          go_wp2
          go_ret
          exact kind_ok (Below.refl _ _)
        | true =>
          go_enter Tryd.func114, Tryd.ntmps114
          go_wp2
          exact panics rfl (kind_bad (by decide) (Below.refl _ _))
end Go.Proofs.YtefdfgmlmjnmlaaDoor.My
end

section
set_option linter.unusedSimpArgs false
set_option linter.unusedVariables false
namespace Go.Proofs.YtefdfgmlmjnmlaaDoor.My
open Go.RowKit Go.Proofs.YtefdfgmlmjnmlaaDoorW.PrintWords Go.Proofs.YtefdfgmlmjnmlaaDoor.Rf
def kk (cols : List S59) (l : List S72) (j i : Nat) : Int := if i < j then (kindE cols (l.getD i z72)).1 else 0
theorem kinds_at (cols : List S59) (l : List S72) (i : Nat) (h : i < l.length) : (l.map (kindE cols))[i]? = some (kindE cols (l.getD i z72)) := by
  rw [List.getElem?_map, List.getElem?_eq_getElem h]
  simp [List.getD, List.getElem?_eq_getElem h]
theorem join_ok (cols : List S59) (e : S72) (hp : preK e = false) (h : ∀ i, i < e.f3.length → (kindE cols (e.f3.getD i z72)).2 = 0) :
    kindE cols e = finK e cols (kk cols e.f3 e.f3.length 0) (kk cols e.f3 e.f3.length 1) := by
  rw [kindE_eq, joinK, if_neg (by rw [hp]; decide)]
  have hf : (e.f3.map (kindE cols)).find? (fun r => r.2 != 0) = none := by
    rw [List.find?_eq_none]
    intro r hr
    obtain ⟨i, hi, rfl⟩ := List.getElem_of_mem hr
    rw [List.length_map] at hi
    have h1 := kinds_at cols e.f3 i hi
    rw [List.getElem?_eq_getElem (by simpa using hi)] at h1
    rw [Option.some.inj h1, h i hi]
    decide
  rw [hf]
  have hk : ∀ i, ((e.f3.map (kindE cols)).getD i (0, 0)).1 = kk cols e.f3 e.f3.length i := fun i => by
    unfold kk
    by_cases hi : i < e.f3.length
    · rw [if_pos hi, List.getD, kinds_at cols e.f3 i hi]; rfl
    · rw [if_neg hi, List.getD, List.getElem?_eq_none (by simp; omega)]; rfl
  dsimp only
  rw [hk, hk]
theorem join_bad (cols : List S59) (e : S72) (hp : preK e = false) (j : Nat) (hj : j < e.f3.length) (h : ∀ i, i < j → (kindE cols (e.f3.getD i z72)).2 = 0) (hb : (kindE cols (e.f3.getD j z72)).2 ≠ 0) :
    kindE cols e = (0, (kindE cols (e.f3.getD j z72)).2) := by
  rw [kindE_eq, joinK, if_neg (by rw [hp]; decide)]
  have hf : (e.f3.map (kindE cols)).find? (fun r => r.2 != 0) = some (kindE cols (e.f3.getD j z72)) := by
    have hx := kinds_at cols e.f3 j hj
    have hl : j < (e.f3.map (kindE cols)).length := by simpa using hj
    rw [List.getElem?_eq_getElem hl] at hx
    rw [List.find?_eq_some_iff_getElem]
    refine ⟨by simpa using hb, j, hl, Option.some.inj hx, fun i hi => ?_⟩
    have h1 := kinds_at cols e.f3 i (by omega)
    rw [List.getElem?_eq_getElem (by omega)] at h1
    rw [Option.some.inj h1, h i hi]
    decide
  rw [hf]
theorem pre_bad (cols : List S59) (e : S72) (hp : preK e = true) : kindE cols e = (0, 4) := by
  rw [kindE_eq, joinK, if_pos hp]
end Go.Proofs.YtefdfgmlmjnmlaaDoor.My
end
