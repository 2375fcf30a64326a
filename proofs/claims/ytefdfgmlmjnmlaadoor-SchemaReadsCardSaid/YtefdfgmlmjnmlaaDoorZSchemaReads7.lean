/- PROVED: the tied card of the law SchemaReads: whatever the input, the law returns true and leaves its arguments as they read. Its conditions:  those of the given row (the two tables of unicode/utf8 read as the program's text lays them). Joined out of this session's smaller texts (part 7 of 7). -/
import Derived.Test.YtefdfgmlmjnmlaaDoorZSchemaReads2
import Derived.Test.YtefdfgmlmjnmlaaDoorZSchemaReads6
import Derived.Test.YtefdfgmlmjnmlaaDoorZSchemaReads5
section
set_option linter.unusedVariables false
set_option linter.unusedSimpArgs false
namespace Go.Proofs.YtefdfgmlmjnmlaaDoor.Rf
open Go.RowKit Go.Proofs.YtefdfgmlmjnmlaaDoorW.PrintWords Go.Proofs.YtefdfgmlmjnmlaaDoorW.PrintLast Go.Proofs.YtefdfgmlmjnmlaaDoorW.PrintMore
mutual
def mortmainref09_Fits.j0 : Nat → Bool → Int → List (S45) → List (S27) → Option (Bool)
 | 0, _, _, _, _ => none
 | k + 1, x16, x372000, x372001, x372002 => if x16 = true then (some false) else (mortmainref09_Fits.l0 k x372001 (x372001.length : Int) 0)
def mortmainref09_Fits.l0 : Nat → List (S45) → Int → Int → Option (Bool)
 | 0, _, _, _ => none
 | k + 1, x18, x19, x20 => if x20 < x19 then (if 0 ≤ x20 then (if x20 < (x18.length : Int) then (if (((rd_T45 x18 x20).f2).length : Int) > 6 then (mortmainref09_Fits.j2 k x18 x19 x20 true ((rd_T45 x18 x20).f0) ((rd_T45 x18 x20).f1) ((rd_T45 x18 x20).f2) ((rd_T45 x18 x20).f3)) else (mortmainref09_Fits.j2 k x18 x19 x20 (decide ((((rd_T45 x18 x20).f3).length : Int) > 4)) ((rd_T45 x18 x20).f0) ((rd_T45 x18 x20).f1) ((rd_T45 x18 x20).f2) ((rd_T45 x18 x20).f3))) else (none)) else (none)) else (some true)
def mortmainref09_Fits.j2 : Nat → List (S45) → Int → Int → Bool → ByteArray → Int → List (S59) → List (S72) → Option (Bool)
 | 0, _, _, _, _, _, _, _, _ => none
 | k + 1, x18, x19, x20, x33, x374000, x374001, x374002, x374003 => if x33 = true then (some false) else (mortmainref09_Fits.l1 k x18 x19 x20 x374003 (x374003.length : Int) 0)
def mortmainref09_Fits.l1 : Nat → List (S45) → Int → Int → List (S72) → Int → Int → Option (Bool)
 | 0, _, _, _, _, _, _ => none
 | k + 1, x18, x19, x20, x35, x36, x37 => if x37 < x36 then (if 0 ≤ x37 then (if x37 < (x35.length : Int) then ((mortmainref09_fits.f k ((rd_T72 x35 x37).f0) ((rd_T72 x35 x37).f1) ((rd_T72 x35 x37).f2.f0) ((rd_T72 x35 x37).f2.f1) ((rd_T72 x35 x37).f2.f2) ((rd_T72 x35 x37).f3) 8).bind fun t376 => (if t376 = true then (mortmainref09_Fits.l1 k x18 x19 x20 x35 x36 (wrap64 (x37 + 1))) else (some false))) else (none)) else (none)) else (mortmainref09_Fits.l0 k x18 x19 (wrap64 (x20 + 1)))
end
def mortmainref09_Fits.f (k : Nat) (a0_0 : Int) (l0_1 : List (S45)) (l0_2 : List (S27)) : Option (Bool) := if (l0_1.length : Int) > 12 then (mortmainref09_Fits.j0 k true a0_0 l0_1 l0_2) else (mortmainref09_Fits.j0 k (decide ((l0_2.length : Int) > 64)) a0_0 l0_1 l0_2)
set_option maxHeartbeats 8000000 in
set_option maxRecDepth 100000 in
theorem mortmainref09_Fits.calls (k : Nat) (a0_0 : Int) (A0_1 : Option Addr) (c0_1 : Nat) (l0_1 : List (S45)) (A0_2 : Option Addr) (c0_2 : Nat) (l0_2 : List (S27)) (r : Bool) (w : World) (hr0_1 : Kd.C k45 w A0_1 l0_1.length l0_1) (hc0_1 : l0_1.length ≤ c0_1) (hr0_2 : Kd.C k27 w A0_2 l0_2.length l0_2) (hc0_2 : l0_2.length ≤ c0_2) (h : mortmainref09_Fits.f k a0_0 l0_1 l0_2 = some r) :
  Calls Tryd.prog 42 #[.agg #[.int .i64 a0_0, .slice A0_1 l0_1.length c0_1, .slice A0_2 l0_2.length c0_2]] w fun e w' => e = .returned (.bool r) ∧ Below w.heap.size w w' := by
 have hu25 := Tryd.underlying25
 have hu45 := Tryd.underlying45
 have hu72 := Tryd.underlying72
 have HR0_1 := Aside0.mk hr0_1
 have HC0_1 := Aside0.mk hc0_1
 clear hr0_1 hc0_1
 have HR0_2 := Aside0.mk hr0_2
 have HC0_2 := Aside0.mk hc0_2
 clear hr0_2 hc0_2
 have HB := Aside0.mk (Below.refl w.heap.size w)
 have H : (if (l0_1.length : Int) > 12 then (mortmainref09_Fits.j0 k true a0_0 l0_1 l0_2) else (mortmainref09_Fits.j0 k (decide ((l0_2.length : Int) > 64)) a0_0 l0_1 l0_2)) = some r := h
 clear h
 have HC2 := Aside0.mk H
 clear H
 go_enter Tryd.func42, Tryd.ntmps42
 go_upto_region 1 with (first | ((with_reducible refine gate_dst (N := 1) rfl ?_); (try (refine gate_guard (by rfl) ?_; dsimp only)); refine box_event ?hg (N := 1) ?hd (cs := #[.int .i64 a0_0, .slice A0_1 l0_1.length c0_1, .slice A0_2 l0_2.length c0_2]) (t := 25) ?hr ?_; (case hd => rfl); (case hg => rfl); (case hr => first | (go_simp; done) | (go_simp; rfl)); intro gb371 hg w3 hbox hb; have n0_ := Aside0.mk (below_step (by repeat (first | (with_reducible first | exact HB.out | apply below_alloc | apply pw_below_drewN | apply below_drew1) | exact HB.out)) hb); have n1_ := Aside0.mk (hbox); have n2_ := Aside0.mk ((by rw [hg]; exact (below_size (by repeat (first | (with_reducible first | exact HB.out | apply below_alloc | apply pw_below_drewN | apply below_drew1) | exact HB.out))) : w.heap.size ≤ gb371)); have n3_ := Aside0.mk ((by rw [hg]; exact (below_size (by repeat (first | (with_reducible first | exact HB.out | apply below_alloc | apply pw_below_drewN | apply below_drew1) | exact HB.out))) : w.heap.size ≤ gb371)); clear HB; have HB := n0_; have BK371 := n1_; have GW371 := n2_; have GE371 := n3_; clear n0_ n1_ n2_ n3_; clear hb hbox hg))
 (try simp only [Act.put, List.setIfInBounds_toArray, List.set_cons_zero, List.set_cons_succ])
 go_cut [16] (fun v16 wc => ∃ (kq : Nat) (x16_1 : Bool), v16 = .bool x16_1 ∧ Aside0 (mortmainref09_Fits.j0 kq x16_1 a0_0 l0_1 l0_2 = some r) ∧ Aside0 (kq ≤ k) ∧ Aside0 (wc.heap[gb371]? = some (.cells #[.int .i64 a0_0, (.slice A0_1 l0_1.length c0_1), (.slice A0_2 l0_2.length c0_2)] 25 (0, 0))) ∧ Aside0 (Below w.heap.size w wc))
 case first =>
  have H := HC2.out
  clear HC2
  by_cases c4 : (l0_1.length : Int) > 12
  ·rw [if_pos c4] at H
   have c4b0 : decide (12 < (l0_1.length : Int)) = true := decide_eq_true c4
   have c4b1 : decide (12 < l0_1.length) = true := decide_eq_true (by omega)
   clear c4
   (first | rw [c4b0] | (simp only [i64_w, i32_w]; rw [c4b0]) | skip)
   have H' := Aside0.mk H
   clear H
   have hcz5_0 : w3.cell? ⟨gb371, 0, none⟩ = some (.int .i64 a0_0) := (blk_cell BK371.out 0).trans rfl
   have hcz5_1 : w3.cell? ⟨gb371, 1, none⟩ = some (.slice A0_1 l0_1.length c0_1) := (blk_cell BK371.out 1).trans rfl
   have hcz5_2 : w3.cell? ⟨gb371, 2, none⟩ = some (.slice A0_2 l0_2.length c0_2) := (blk_cell BK371.out 2).trans rfl
   have hfz5_0 := blk_frozen BK371.out 0
   have hfz5_1 := blk_frozen BK371.out 1
   have hfz5_2 := blk_frozen BK371.out 2
   go_wp2
   go_meet
   case rel => exact ⟨_, (true), (by first | rfl | (simp; done) | (simp [*]; done)), H', ⟨by first | omega | exact Nat.le_refl _⟩, ⟨by (with_reducible repeat (first | refine blk_drewN ?_ _ | refine blk_drew ?_ | refine blk_alloc ?_ _)); exact BK371.out⟩, ⟨by repeat (first | (with_reducible first | exact HB.out | apply below_alloc | apply pw_below_drewN | apply below_drew1 | refine below_set ?_ GE371.out) | exact HB.out)⟩⟩
  ·rw [if_neg c4] at H
   have c4b0 : decide (12 < (l0_1.length : Int)) = false := decide_eq_false c4
   have c4b1 : decide (12 < l0_1.length) = false := decide_eq_false (by omega)
   clear c4
   (first | rw [c4b0] | (simp only [i64_w, i32_w]; rw [c4b0]) | skip)
   have H' := Aside0.mk H
   clear H
   have hcz6_0 : w3.cell? ⟨gb371, 0, none⟩ = some (.int .i64 a0_0) := (blk_cell BK371.out 0).trans rfl
   have hcz6_1 : w3.cell? ⟨gb371, 1, none⟩ = some (.slice A0_1 l0_1.length c0_1) := (blk_cell BK371.out 1).trans rfl
   have hcz6_2 : w3.cell? ⟨gb371, 2, none⟩ = some (.slice A0_2 l0_2.length c0_2) := (blk_cell BK371.out 2).trans rfl
   have hfz6_0 := blk_frozen BK371.out 0
   have hfz6_1 := blk_frozen BK371.out 1
   have hfz6_2 := blk_frozen BK371.out 2
   go_wp2
   go_meet
   case rel => exact ⟨_, (decide ((l0_2.length : Int) > 64)), (by first | rfl | (simp; done) | (simp [*]; done)), H', ⟨by first | omega | exact Nat.le_refl _⟩, ⟨by (with_reducible repeat (first | refine blk_drewN ?_ _ | refine blk_drew ?_ | refine blk_alloc ?_ _)); exact BK371.out⟩, ⟨by repeat (first | (with_reducible first | exact HB.out | apply below_alloc | apply pw_below_drewN | apply below_drew1 | refine below_set ?_ GE371.out) | exact HB.out)⟩⟩
 case rest =>
  clear HC2
  try clear p2
  try clear c4
  try clear c4b0
  try clear c4b1
  try clear hcz5_0
  try clear hcz5_1
  try clear hcz5_2
  try clear hcz6_0
  try clear hcz6_1
  try clear hcz6_2
  try clear hfz5_0
  try clear hfz5_1
  try clear hfz5_2
  try clear hfz6_0
  try clear hfz6_1
  try clear hfz6_2
  obtain ⟨kq, x16_1, rfl, HA, HJ1, BK371, HB⟩ := hcut
  cases kq with
  | zero => exact absurd HA.out (by simp [mortmainref09_Fits.j0])
  | succ kj1 =>
   have H := HA.out
   clear HA
   simp only [mortmainref09_Fits.j0] at H
   by_cases c7 : x16_1 = true
   ·subst c7
    have H1 : (some false) = some r := by rw [if_pos rfl] at H; exact H
    clear H
    have H := H1
    clear H1
    obtain rfl := Option.some.inj H
    go_wp2
    go_ret
    exact ⟨by first | rfl | (simp [errW_none, errW_some] <;> rfl) | (simp [*, errW_none, errW_some] <;> rfl), by repeat (first | (with_reducible first | exact HB.out | apply below_alloc | apply pw_below_drewN | apply below_drew1 | refine below_set ?_ GE371.out) | exact HB.out)⟩
   ·replace c7 := Bool.eq_false_iff.mpr c7
    subst c7
    have H1 : (mortmainref09_Fits.l0 kj1 l0_1 (l0_1.length : Int) 0) = some r := by rw [if_neg (show ¬ (false = true) by decide)] at H; exact H
    clear H
    have H := H1
    clear H1
    have H' := Aside0.mk H
    clear H
    have hcz8_0 : wc.cell? ⟨gb371, 0, none⟩ = some (.int .i64 a0_0) := (blk_cell BK371.out 0).trans rfl
    have hcz8_1 : wc.cell? ⟨gb371, 1, none⟩ = some (.slice A0_1 l0_1.length c0_1) := (blk_cell BK371.out 1).trans rfl
    have hcz8_2 : wc.cell? ⟨gb371, 2, none⟩ = some (.slice A0_2 l0_2.length c0_2) := (blk_cell BK371.out 2).trans rfl
    have hfz8_0 := blk_frozen BK371.out 0
    have hfz8_1 := blk_frozen BK371.out 1
    have hfz8_2 := blk_frozen BK371.out 2
    go_wp2
    go_loopg [20] kj1 (fun kq v20 w' => ∃ (x20_2 : Int), v20 = .int .i64 x20_2 ∧ Aside0 (mortmainref09_Fits.l0 kq l0_1 (l0_1.length : Int) x20_2 = some r) ∧ Aside0 (kq ≤ kj1) ∧ Aside0 (w'.heap[gb371]? = some (.cells #[.int .i64 a0_0, (.slice A0_1 l0_1.length c0_1), (.slice A0_2 l0_2.length c0_2)] 25 (0, 0))) ∧ Aside0 (Below w.heap.size w w'))
    case atStart => exact ⟨(0), (by first | rfl | (simp; done) | (simp [*]; done)), H', ⟨Nat.le_refl _⟩, ⟨by (with_reducible repeat (first | refine blk_drewN ?_ _ | refine blk_drew ?_ | refine blk_alloc ?_ _)); exact BK371.out⟩, ⟨by repeat (first | (with_reducible first | exact HB.out | apply below_alloc | apply pw_below_drewN | apply below_drew1 | refine below_set ?_ GE371.out) | exact HB.out)⟩⟩
    case round =>
     clear H'
     try clear p2
     try clear c4
     try clear c4b0
     try clear c4b1
     try clear c7
     try clear hcz5_0
     try clear hcz5_1
     try clear hcz5_2
     try clear hcz6_0
     try clear hcz6_1
     try clear hcz6_2
     try clear hcz8_0
     try clear hcz8_1
     try clear hcz8_2
     try clear hfz5_0
     try clear hfz5_1
     try clear hfz5_2
     try clear hfz6_0
     try clear hfz6_1
     try clear hfz6_2
     try clear hfz8_0
     try clear hfz8_1
     try clear hfz8_2
     try clear p2
     obtain ⟨x20_2, rfl, HA, HK2, BK371, HB⟩ := hrel
     cases gk with
     | zero => exact absurd HA.out (by simp [mortmainref09_Fits.l0])
     | succ k2 =>
      have H := HA.out
      clear HA
      simp only [mortmainref09_Fits.l0] at H
      by_cases c9 : x20_2 < (l0_1.length : Int)
      ·rw [if_pos c9] at H
       have c9b0 : decide (x20_2 < (l0_1.length : Int)) = true := decide_eq_true c9
       clear c9
       by_cases c10 : 0 ≤ x20_2
       ·rw [if_pos c10] at H
        have c10b0 : decide (0 ≤ x20_2) = true := decide_eq_true c10
        clear c10
        by_cases c11 : x20_2 < (l0_1.length : Int)
        ·rw [if_pos c11] at H
         have c11b0 : decide (x20_2 < (l0_1.length : Int)) = true := decide_eq_true c11
         clear c11
         have HC12 := Aside0.mk H
         clear H
         have p372 : 0 ≤ (x20_2 : Int) := of_decide_eq_true (by first | (with_reducible assumption) | assumption)
         have q372 : x20_2 < (l0_1.length : Int) := of_decide_eq_true (by first | (with_reducible assumption) | assumption)
         obtain ⟨ad372, A372_2, c372_2, A372_3, c372_3, e372, hx372_0, hx372_1, hx372_2, hx372_3, hl372_2, hi372_2, hl372_3, hi372_3⟩ := at_T45 HR0_1.out x20_2 p372 q372
         cases e372
         replace hx372_0 := (HB.out.cell (World.block_lt_of_cell? w _ hx372_0)).trans hx372_0
         replace hx372_1 := (HB.out.cell (World.block_lt_of_cell? w _ hx372_1)).trans hx372_1
         replace hx372_2 := (HB.out.cell (World.block_lt_of_cell? w _ hx372_2)).trans hx372_2
         replace hx372_3 := (HB.out.cell (World.block_lt_of_cell? w _ hx372_3)).trans hx372_3
         have HR372_2 := Aside0.mk hi372_2
         have HC372_2 := Aside0.mk hl372_2
         clear hi372_2 hl372_2
         have HR372_3 := Aside0.mk hi372_3
         have HC372_3 := Aside0.mk hl372_3
         clear hi372_3 hl372_3
         replace p372 := eq_true p372
         replace q372 := eq_true q372
         go_upto_region 6 with (first | ((with_reducible refine gate_dst (N := 4) rfl ?_); (try (refine gate_guard (by rfl) ?_; dsimp only)); refine box_event ?hg (N := 4) ?hd (cs := #[.string (⟨#[]⟩ : ByteArray), .int .i64 0, .slice none 0 0, .slice none 0 0]) (t := 45) ?hr ?_; (case hd => rfl); (case hg => rfl); (case hr => first | (go_simp; done) | (go_simp; rfl)); intro gb373 hg w13 hbox hb; have n0_ := Aside0.mk (blk_below (g := gb371) (o := .cells #[.int .i64 a0_0, .slice (some ad372) l0_1.length c0_1, .slice A0_2 l0_2.length c0_2] 25 (0, 0)) (by (with_reducible repeat (first | refine blk_drewN ?_ _ | refine blk_drew ?_ | refine blk_alloc ?_ _)); exact BK371.out) hb); have n1_ := Aside0.mk (below_step (by repeat (first | (with_reducible first | exact HB.out | apply below_alloc | apply pw_below_drewN | apply below_drew1 | refine below_set ?_ GE371.out) | exact HB.out)) hb); have n2_ := Aside0.mk (hbox); have n3_ := Aside0.mk ((by rw [hg]; exact (below_size (by repeat (first | (with_reducible first | exact HB.out | apply below_alloc | apply pw_below_drewN | apply below_drew1 | refine below_set ?_ GE371.out) | exact HB.out))) : w.heap.size ≤ gb373)); have n4_ := Aside0.mk ((by rw [hg]; exact (below_size (by repeat (first | (with_reducible first | exact HB.out | apply below_alloc | apply pw_below_drewN | apply below_drew1 | refine below_set ?_ GE371.out) | exact HB.out))) : w.heap.size ≤ gb373)); have n5_ := Aside0.mk ((by rw [hg]; exact Nat.ne_of_lt (blk_lt (g := gb371) (o := .cells #[.int .i64 a0_0, .slice (some ad372) l0_1.length c0_1, .slice A0_2 l0_2.length c0_2] 25 (0, 0)) (by (with_reducible repeat (first | refine blk_drewN ?_ _ | refine blk_drew ?_ | refine blk_alloc ?_ _)); exact BK371.out)) : gb371 ≠ gb373)); have n6_ := Aside0.mk ((by rw [hg]; exact Nat.ne_of_gt (blk_lt (g := gb371) (o := .cells #[.int .i64 a0_0, .slice (some ad372) l0_1.length c0_1, .slice A0_2 l0_2.length c0_2] 25 (0, 0)) (by (with_reducible repeat (first | refine blk_drewN ?_ _ | refine blk_drew ?_ | refine blk_alloc ?_ _)); exact BK371.out)) : gb373 ≠ gb371)); clear BK371; clear HB; have BK371 := n0_; have HB := n1_; have BK373 := n2_; have GW373 := n3_; have GE373 := n4_; have NB371_373 := n5_; have NB373_371 := n6_; clear n0_ n1_ n2_ n3_ n4_ n5_ n6_; clear hb hbox hg; have hnb14 := NB373_371.out; have hnc14 := NB371_373.out; have hcz15_0 : w13.cell? ⟨gb373, 0, none⟩ = some (.string (⟨#[]⟩ : ByteArray)) := (blk_cell BK373.out 0).trans rfl; have hcz15_1 : w13.cell? ⟨gb373, 1, none⟩ = some (.int .i64 0) := (blk_cell BK373.out 1).trans rfl; have hcz15_2 : w13.cell? ⟨gb373, 2, none⟩ = some (.slice none 0 0) := (blk_cell BK373.out 2).trans rfl; have hcz15_3 : w13.cell? ⟨gb373, 3, none⟩ = some (.slice none 0 0) := (blk_cell BK373.out 3).trans rfl; have hfz15_0 := blk_frozen BK373.out 0; have hfz15_1 := blk_frozen BK373.out 1; have hfz15_2 := blk_frozen BK373.out 2; have hfz15_3 := blk_frozen BK373.out 3))
         (try simp only [Act.put, List.setIfInBounds_toArray, List.set_cons_zero, List.set_cons_succ])
         go_cut [33] (fun v33 wc => ∃ (kq : Nat) (x33_11 : Bool), v33 = .bool x33_11 ∧ Aside0 (mortmainref09_Fits.j2 kq l0_1 (l0_1.length : Int) x20_2 x33_11 ((rd_T45 l0_1 x20_2).f0) ((rd_T45 l0_1 x20_2).f1) ((rd_T45 l0_1 x20_2).f2) ((rd_T45 l0_1 x20_2).f3) = some r) ∧ Aside0 (kq ≤ k2) ∧ Aside0 (wc.heap[gb371]? = some (.cells #[.int .i64 a0_0, (.slice (some ad372) l0_1.length c0_1), (.slice A0_2 l0_2.length c0_2)] 25 (0, 0))) ∧ Aside0 (wc.heap[gb373]? = some (.cells #[.string ((rd_T45 l0_1 x20_2).f0), .int .i64 ((rd_T45 l0_1 x20_2).f1), (.slice A372_2 ((rd_T45 l0_1 x20_2).f2).length c372_2), (.slice A372_3 ((rd_T45 l0_1 x20_2).f3).length c372_3)] 45 (0, 0))) ∧ Aside0 (Below w.heap.size w wc))
         case first =>
          have H := HC12.out
          clear HC12
          by_cases c16 : (((rd_T45 l0_1 x20_2).f2).length : Int) > 6
          ·rw [if_pos c16] at H
           have c16b0 : decide (6 < (((rd_T45 l0_1 x20_2).f2).length : Int)) = true := decide_eq_true c16
           have c16b1 : decide (6 < ((rd_T45 l0_1 x20_2).f2).length) = true := decide_eq_true (by omega)
           clear c16
           (first | rw [c16b0] | (simp only [i64_w, i32_w]; rw [c16b0]) | skip)
           have H' := Aside0.mk H
           clear H
           have hnb17 := NB373_371.out
           have hnc17 := NB371_373.out
           have hcz18_0 : w13.cell? ⟨gb373, 0, none⟩ = some (.string (⟨#[]⟩ : ByteArray)) := (blk_cell BK373.out 0).trans rfl
           have hcz18_1 : w13.cell? ⟨gb373, 1, none⟩ = some (.int .i64 0) := (blk_cell BK373.out 1).trans rfl
           have hcz18_2 : w13.cell? ⟨gb373, 2, none⟩ = some (.slice none 0 0) := (blk_cell BK373.out 2).trans rfl
           have hcz18_3 : w13.cell? ⟨gb373, 3, none⟩ = some (.slice none 0 0) := (blk_cell BK373.out 3).trans rfl
           have hfz18_0 := blk_frozen BK373.out 0
           have hfz18_1 := blk_frozen BK373.out 1
           have hfz18_2 := blk_frozen BK373.out 2
           have hfz18_3 := blk_frozen BK373.out 3
           go_wp2
           go_meet
           case rel => exact ⟨_, (true), (by first | rfl | (simp; done) | (simp [*]; done)), H', ⟨by have := HJ1.out; have := HK2.out; first | omega | exact Nat.le_refl _⟩, ⟨by (with_reducible repeat (first | refine blk_drewN ?_ _ | refine blk_drew ?_ | refine blk_alloc ?_ _)); refine blk_far ?_ NB371_373.out _; (with_reducible repeat (first | refine blk_drewN ?_ _ | refine blk_drew ?_ | refine blk_alloc ?_ _)); refine blk_far ?_ NB371_373.out _; (with_reducible repeat (first | refine blk_drewN ?_ _ | refine blk_drew ?_ | refine blk_alloc ?_ _)); refine blk_far ?_ NB371_373.out _; (with_reducible repeat (first | refine blk_drewN ?_ _ | refine blk_drew ?_ | refine blk_alloc ?_ _)); refine blk_far ?_ NB371_373.out _; (with_reducible repeat (first | refine blk_drewN ?_ _ | refine blk_drew ?_ | refine blk_alloc ?_ _)); exact BK371.out⟩, ⟨by (with_reducible repeat (first | refine blk_drewN ?_ _ | refine blk_drew ?_ | refine blk_alloc ?_ _)); refine blk_put (cs := #[.string ((rd_T45 l0_1 x20_2).f0), .int .i64 ((rd_T45 l0_1 x20_2).f1), .slice A372_2 ((rd_T45 l0_1 x20_2).f2).length c372_2, .slice none 0 0]) ?_ 3 _ rfl; (with_reducible repeat (first | refine blk_drewN ?_ _ | refine blk_drew ?_ | refine blk_alloc ?_ _)); refine blk_put (cs := #[.string ((rd_T45 l0_1 x20_2).f0), .int .i64 ((rd_T45 l0_1 x20_2).f1), .slice none 0 0, .slice none 0 0]) ?_ 2 _ rfl; (with_reducible repeat (first | refine blk_drewN ?_ _ | refine blk_drew ?_ | refine blk_alloc ?_ _)); refine blk_put (cs := #[.string ((rd_T45 l0_1 x20_2).f0), .int .i64 0, .slice none 0 0, .slice none 0 0]) ?_ 1 _ rfl; (with_reducible repeat (first | refine blk_drewN ?_ _ | refine blk_drew ?_ | refine blk_alloc ?_ _)); refine blk_put (cs := #[.string (⟨#[]⟩ : ByteArray), .int .i64 0, .slice none 0 0, .slice none 0 0]) ?_ 0 _ rfl; (with_reducible repeat (first | refine blk_drewN ?_ _ | refine blk_drew ?_ | refine blk_alloc ?_ _)); exact BK373.out⟩, ⟨by repeat (first | (with_reducible first | exact HB.out | apply below_alloc | apply pw_below_drewN | apply below_drew1 | refine below_set ?_ GE371.out | refine below_set ?_ GE373.out) | exact HB.out)⟩⟩
          ·rw [if_neg c16] at H
           have c16b0 : decide (6 < (((rd_T45 l0_1 x20_2).f2).length : Int)) = false := decide_eq_false c16
           have c16b1 : decide (6 < ((rd_T45 l0_1 x20_2).f2).length) = false := decide_eq_false (by omega)
           clear c16
           (first | rw [c16b0] | (simp only [i64_w, i32_w]; rw [c16b0]) | skip)
           have H' := Aside0.mk H
           clear H
           have hnb19 := NB373_371.out
           have hnc19 := NB371_373.out
           have hcz20_0 : w13.cell? ⟨gb373, 0, none⟩ = some (.string (⟨#[]⟩ : ByteArray)) := (blk_cell BK373.out 0).trans rfl
           have hcz20_1 : w13.cell? ⟨gb373, 1, none⟩ = some (.int .i64 0) := (blk_cell BK373.out 1).trans rfl
           have hcz20_2 : w13.cell? ⟨gb373, 2, none⟩ = some (.slice none 0 0) := (blk_cell BK373.out 2).trans rfl
           have hcz20_3 : w13.cell? ⟨gb373, 3, none⟩ = some (.slice none 0 0) := (blk_cell BK373.out 3).trans rfl
           have hfz20_0 := blk_frozen BK373.out 0
           have hfz20_1 := blk_frozen BK373.out 1
           have hfz20_2 := blk_frozen BK373.out 2
           have hfz20_3 := blk_frozen BK373.out 3
           go_wp2
           go_meet
           case rel => exact ⟨_, (decide ((((rd_T45 l0_1 x20_2).f3).length : Int) > 4)), (by first | rfl | (simp; done) | (simp [*]; done)), H', ⟨by have := HJ1.out; have := HK2.out; first | omega | exact Nat.le_refl _⟩, ⟨by (with_reducible repeat (first | refine blk_drewN ?_ _ | refine blk_drew ?_ | refine blk_alloc ?_ _)); refine blk_far ?_ NB371_373.out _; (with_reducible repeat (first | refine blk_drewN ?_ _ | refine blk_drew ?_ | refine blk_alloc ?_ _)); refine blk_far ?_ NB371_373.out _; (with_reducible repeat (first | refine blk_drewN ?_ _ | refine blk_drew ?_ | refine blk_alloc ?_ _)); refine blk_far ?_ NB371_373.out _; (with_reducible repeat (first | refine blk_drewN ?_ _ | refine blk_drew ?_ | refine blk_alloc ?_ _)); refine blk_far ?_ NB371_373.out _; (with_reducible repeat (first | refine blk_drewN ?_ _ | refine blk_drew ?_ | refine blk_alloc ?_ _)); exact BK371.out⟩, ⟨by (with_reducible repeat (first | refine blk_drewN ?_ _ | refine blk_drew ?_ | refine blk_alloc ?_ _)); refine blk_put (cs := #[.string ((rd_T45 l0_1 x20_2).f0), .int .i64 ((rd_T45 l0_1 x20_2).f1), .slice A372_2 ((rd_T45 l0_1 x20_2).f2).length c372_2, .slice none 0 0]) ?_ 3 _ rfl; (with_reducible repeat (first | refine blk_drewN ?_ _ | refine blk_drew ?_ | refine blk_alloc ?_ _)); refine blk_put (cs := #[.string ((rd_T45 l0_1 x20_2).f0), .int .i64 ((rd_T45 l0_1 x20_2).f1), .slice none 0 0, .slice none 0 0]) ?_ 2 _ rfl; (with_reducible repeat (first | refine blk_drewN ?_ _ | refine blk_drew ?_ | refine blk_alloc ?_ _)); refine blk_put (cs := #[.string ((rd_T45 l0_1 x20_2).f0), .int .i64 0, .slice none 0 0, .slice none 0 0]) ?_ 1 _ rfl; (with_reducible repeat (first | refine blk_drewN ?_ _ | refine blk_drew ?_ | refine blk_alloc ?_ _)); refine blk_put (cs := #[.string (⟨#[]⟩ : ByteArray), .int .i64 0, .slice none 0 0, .slice none 0 0]) ?_ 0 _ rfl; (with_reducible repeat (first | refine blk_drewN ?_ _ | refine blk_drew ?_ | refine blk_alloc ?_ _)); exact BK373.out⟩, ⟨by repeat (first | (with_reducible first | exact HB.out | apply below_alloc | apply pw_below_drewN | apply below_drew1 | refine below_set ?_ GE371.out | refine below_set ?_ GE373.out) | exact HB.out)⟩⟩
         case rest =>
          clear HC12
          try clear c1
          try clear p2
          try clear c3
          try clear p3
          try clear q3
          try clear hx3
          try clear c4
          try clear c4b0
          try clear c4b1
          try clear c7
          try clear c9
          try clear c9b0
          try clear c10
          try clear c10b0
          try clear c11
          try clear c11b0
          try clear c14
          try clear c16
          try clear c16b0
          try clear c16b1
          try clear c17
          try clear c19
          try clear hcz15_0
          try clear hcz15_1
          try clear hcz15_2
          try clear hcz15_3
          try clear hcz18_0
          try clear hcz18_1
          try clear hcz18_2
          try clear hcz18_3
          try clear hcz20_0
          try clear hcz20_1
          try clear hcz20_2
          try clear hcz20_3
          try clear hcz5_0
          try clear hcz5_1
          try clear hcz5_2
          try clear hcz6_0
          try clear hcz6_1
          try clear hcz6_2
          try clear hcz8_0
          try clear hcz8_1
          try clear hcz8_2
          try clear hfz15_0
          try clear hfz15_1
          try clear hfz15_2
          try clear hfz15_3
          try clear hfz18_0
          try clear hfz18_1
          try clear hfz18_2
          try clear hfz18_3
          try clear hfz20_0
          try clear hfz20_1
          try clear hfz20_2
          try clear hfz20_3
          try clear hfz5_0
          try clear hfz5_1
          try clear hfz5_2
          try clear hfz6_0
          try clear hfz6_1
          try clear hfz6_2
          try clear hfz8_0
          try clear hfz8_1
          try clear hfz8_2
          try clear hx372_0
          try clear hx372_1
          try clear hx372_2
          try clear hx372_3
          try clear p2
          try clear p372
          try clear q372
          obtain ⟨kq, x33_11, rfl, HA, HJ11, BK371, BK373, HB⟩ := hcut
          cases kq with
          | zero => exact absurd HA.out (by simp [mortmainref09_Fits.j2])
          | succ kj11 =>
           have H := HA.out
           clear HA
           simp only [mortmainref09_Fits.j2] at H
           by_cases c21 : x33_11 = true
           ·subst c21
            have H1 : (some false) = some r := by rw [if_pos rfl] at H; exact H
            clear H
            have H := H1
            clear H1
            obtain rfl := Option.some.inj H
            go_wp2
            go_ret
            exact ⟨by first | rfl | (simp [errW_none, errW_some] <;> rfl) | (simp [*, errW_none, errW_some] <;> rfl), by repeat (first | (with_reducible first | exact HB.out | apply below_alloc | apply pw_below_drewN | apply below_drew1 | refine below_set ?_ GE371.out | refine below_set ?_ GE373.out) | exact HB.out)⟩
           ·replace c21 := Bool.eq_false_iff.mpr c21
            subst c21
            have H1 : (mortmainref09_Fits.l1 kj11 l0_1 (l0_1.length : Int) x20_2 ((rd_T45 l0_1 x20_2).f3) (((rd_T45 l0_1 x20_2).f3).length : Int) 0) = some r := by rw [if_neg (show ¬ (false = true) by decide)] at H; exact H
            clear H
            have H := H1
            clear H1
            have H' := Aside0.mk H
            clear H
            have hnb22 := NB373_371.out
            have hnc22 := NB371_373.out
            have hcz23_0 : wc.cell? ⟨gb373, 0, none⟩ = some (.string ((rd_T45 l0_1 x20_2).f0)) := (blk_cell BK373.out 0).trans rfl
            have hcz23_1 : wc.cell? ⟨gb373, 1, none⟩ = some (.int .i64 ((rd_T45 l0_1 x20_2).f1)) := (blk_cell BK373.out 1).trans rfl
            have hcz23_2 : wc.cell? ⟨gb373, 2, none⟩ = some (.slice A372_2 ((rd_T45 l0_1 x20_2).f2).length c372_2) := (blk_cell BK373.out 2).trans rfl
            have hcz23_3 : wc.cell? ⟨gb373, 3, none⟩ = some (.slice A372_3 ((rd_T45 l0_1 x20_2).f3).length c372_3) := (blk_cell BK373.out 3).trans rfl
            have hfz23_0 := blk_frozen BK373.out 0
            have hfz23_1 := blk_frozen BK373.out 1
            have hfz23_2 := blk_frozen BK373.out 2
            have hfz23_3 := blk_frozen BK373.out 3
            go_wp2
            go_loopg [37] kj11 (fun kq v37 w' => ∃ (x37_4 : Int), v37 = .int .i64 x37_4 ∧ Aside0 (mortmainref09_Fits.l1 kq l0_1 (l0_1.length : Int) x20_2 ((rd_T45 l0_1 x20_2).f3) (((rd_T45 l0_1 x20_2).f3).length : Int) x37_4 = some r) ∧ Aside0 (kq ≤ kj11) ∧ Aside0 (w'.heap[gb371]? = some (.cells #[.int .i64 a0_0, (.slice (some ad372) l0_1.length c0_1), (.slice A0_2 l0_2.length c0_2)] 25 (0, 0))) ∧ Aside0 (w'.heap[gb373]? = some (.cells #[.string ((rd_T45 l0_1 x20_2).f0), .int .i64 ((rd_T45 l0_1 x20_2).f1), (.slice A372_2 ((rd_T45 l0_1 x20_2).f2).length c372_2), (.slice A372_3 ((rd_T45 l0_1 x20_2).f3).length c372_3)] 45 (0, 0))) ∧ Aside0 (Below w.heap.size w w'))
            case atStart => exact ⟨(0), (by first | rfl | (simp; done) | (simp [*]; done)), H', ⟨Nat.le_refl _⟩, ⟨by (with_reducible repeat (first | refine blk_drewN ?_ _ | refine blk_drew ?_ | refine blk_alloc ?_ _)); exact BK371.out⟩, ⟨by (with_reducible repeat (first | refine blk_drewN ?_ _ | refine blk_drew ?_ | refine blk_alloc ?_ _)); exact BK373.out⟩, ⟨by repeat (first | (with_reducible first | exact HB.out | apply below_alloc | apply pw_below_drewN | apply below_drew1 | refine below_set ?_ GE371.out | refine below_set ?_ GE373.out) | exact HB.out)⟩⟩
            case round =>
             clear H'
             try clear c1
             try clear c2
             try clear p2
             try clear c3
             try clear p3
             try clear q3
             try clear hx3
             try clear c4
             try clear c4b0
             try clear c4b1
             try clear c7
             try clear c9
             try clear c9b0
             try clear c10
             try clear c10b0
             try clear c11
             try clear c11b0
             try clear c14
             try clear c16
             try clear c16b0
             try clear c16b1
             try clear c17
             try clear c19
             try clear c21
             try clear c22
             try clear hcz15_0
             try clear hcz15_1
             try clear hcz15_2
             try clear hcz15_3
             try clear hcz18_0
             try clear hcz18_1
             try clear hcz18_2
             try clear hcz18_3
             try clear hcz20_0
             try clear hcz20_1
             try clear hcz20_2
             try clear hcz20_3
             try clear hcz23_0
             try clear hcz23_1
             try clear hcz23_2
             try clear hcz23_3
             try clear hcz5_0
             try clear hcz5_1
             try clear hcz5_2
             try clear hcz6_0
             try clear hcz6_1
             try clear hcz6_2
             try clear hcz8_0
             try clear hcz8_1
             try clear hcz8_2
             try clear hfz15_0
             try clear hfz15_1
             try clear hfz15_2
             try clear hfz15_3
             try clear hfz18_0
             try clear hfz18_1
             try clear hfz18_2
             try clear hfz18_3
             try clear hfz20_0
             try clear hfz20_1
             try clear hfz20_2
             try clear hfz20_3
             try clear hfz23_0
             try clear hfz23_1
             try clear hfz23_2
             try clear hfz23_3
             try clear hfz5_0
             try clear hfz5_1
             try clear hfz5_2
             try clear hfz6_0
             try clear hfz6_1
             try clear hfz6_2
             try clear hfz8_0
             try clear hfz8_1
             try clear hfz8_2
             try clear hx372_0
             try clear hx372_1
             try clear hx372_2
             try clear hx372_3
             try clear p2
             try clear p3
             try clear p372
             try clear q3
             try clear q372
             obtain ⟨x37_4, rfl, HA, HK4, BK371, BK373, HB⟩ := hrel
             cases gk with
             | zero => exact absurd HA.out (by simp [mortmainref09_Fits.l1])
             | succ k4 =>
              have H := HA.out
              clear HA
              simp only [mortmainref09_Fits.l1] at H
              by_cases c24 : x37_4 < (((rd_T45 l0_1 x20_2).f3).length : Int)
              ·rw [if_pos c24] at H
               have c24b0 : decide (x37_4 < (((rd_T45 l0_1 x20_2).f3).length : Int)) = true := decide_eq_true c24
               clear c24
               by_cases c25 : 0 ≤ x37_4
               ·rw [if_pos c25] at H
                have c25b0 : decide (0 ≤ x37_4) = true := decide_eq_true c25
                clear c25
                by_cases c26 : x37_4 < (((rd_T45 l0_1 x20_2).f3).length : Int)
                ·rw [if_pos c26] at H
                 have c26b0 : decide (x37_4 < (((rd_T45 l0_1 x20_2).f3).length : Int)) = true := decide_eq_true c26
                 clear c26
                 replace H := Option.bind_eq_some_iff.mp H
                 obtain ⟨t376, A270, H⟩ := H
                 replace H : (if t376 = true then (mortmainref09_Fits.l1 k4 l0_1 (l0_1.length : Int) x20_2 ((rd_T45 l0_1 x20_2).f3) (((rd_T45 l0_1 x20_2).f3).length : Int) (wrap64 (x37_4 + 1))) else (some false)) = some r := H
                 have A27 := Aside0.mk A270
                 clear A270
                 by_cases c28 : t376 = true
                 ·subst c28
                  have H1 : (mortmainref09_Fits.l1 k4 l0_1 (l0_1.length : Int) x20_2 ((rd_T45 l0_1 x20_2).f3) (((rd_T45 l0_1 x20_2).f3).length : Int) (wrap64 (x37_4 + 1))) = some r := by rw [if_pos rfl] at H; exact H
                  clear H
                  have H := H1
                  clear H1
                  have H' := Aside0.mk H
                  clear H
                  have p374 : 0 ≤ (x37_4 : Int) := of_decide_eq_true (by first | (with_reducible assumption) | assumption)
                  have q374 : x37_4 < (((rd_T45 l0_1 x20_2).f3).length : Int) := of_decide_eq_true (by first | (with_reducible assumption) | assumption)
                  obtain ⟨ad374, A374_5, c374_5, e374, hx374_0, hx374_1, hx374_2, hx374_3, hx374_4, hx374_5, hl374_5, hi374_5⟩ := at_T72 HR372_3.out x37_4 p374 q374
                  cases e374
                  replace hx374_0 := (HB.out.cell (World.block_lt_of_cell? w _ hx374_0)).trans hx374_0
                  replace hx374_1 := (HB.out.cell (World.block_lt_of_cell? w _ hx374_1)).trans hx374_1
                  replace hx374_2 := (HB.out.cell (World.block_lt_of_cell? w _ hx374_2)).trans hx374_2
                  replace hx374_3 := (HB.out.cell (World.block_lt_of_cell? w _ hx374_3)).trans hx374_3
                  replace hx374_4 := (HB.out.cell (World.block_lt_of_cell? w _ hx374_4)).trans hx374_4
                  replace hx374_5 := (HB.out.cell (World.block_lt_of_cell? w _ hx374_5)).trans hx374_5
                  have HR374_5 := Aside0.mk hi374_5
                  have HC374_5 := Aside0.mk hl374_5
                  clear hi374_5 hl374_5
                  replace p374 := eq_true p374
                  replace q374 := eq_true q374
                  go_wp2_with (first | ((with_reducible refine gate_dst (N := 6) rfl ?_); (try (refine gate_guard (by rfl) ?_; dsimp only)); refine box_event ?hg (N := 6) ?hd (cs := #[.int .i64 0, .int .i64 0, .int .i64 0, .int .i64 0, .string (⟨#[]⟩ : ByteArray), .slice none 0 0]) (t := 72) ?hr ?_; (case hd => rfl); (case hg => rfl); (case hr => first | (go_simp; done) | (go_simp; rfl)); intro gb375 hg w29 hbox hb; have n0_ := Aside0.mk (blk_below (g := gb371) (o := .cells #[.int .i64 a0_0, .slice (some ad372) l0_1.length c0_1, .slice A0_2 l0_2.length c0_2] 25 (0, 0)) (by (with_reducible repeat (first | refine blk_drewN ?_ _ | refine blk_drew ?_ | refine blk_alloc ?_ _)); exact BK371.out) hb); have n1_ := Aside0.mk (blk_below (g := gb373) (o := .cells #[.string ((rd_T45 l0_1 x20_2).f0), .int .i64 ((rd_T45 l0_1 x20_2).f1), .slice A372_2 ((rd_T45 l0_1 x20_2).f2).length c372_2, .slice (some ad374) ((rd_T45 l0_1 x20_2).f3).length c372_3] 45 (0, 0)) (by (with_reducible repeat (first | refine blk_drewN ?_ _ | refine blk_drew ?_ | refine blk_alloc ?_ _)); exact BK373.out) hb); have n2_ := Aside0.mk (below_step (by repeat (first | (with_reducible first | exact HB.out | apply below_alloc | apply pw_below_drewN | apply below_drew1 | refine below_set ?_ GE371.out | refine below_set ?_ GE373.out) | exact HB.out)) hb); have n3_ := Aside0.mk (hbox); have n4_ := Aside0.mk ((by rw [hg]; exact (below_size (by repeat (first | (with_reducible first | exact HB.out | apply below_alloc | apply pw_below_drewN | apply below_drew1 | refine below_set ?_ GE371.out | refine below_set ?_ GE373.out) | exact HB.out))) : w.heap.size ≤ gb375)); have n5_ := Aside0.mk ((by rw [hg]; exact (below_size (by repeat (first | (with_reducible first | exact HB.out | apply below_alloc | apply pw_below_drewN | apply below_drew1 | refine below_set ?_ GE371.out | refine below_set ?_ GE373.out) | exact HB.out))) : w.heap.size ≤ gb375)); have n6_ := Aside0.mk ((by rw [hg]; exact Nat.ne_of_lt (blk_lt (g := gb371) (o := .cells #[.int .i64 a0_0, .slice (some ad372) l0_1.length c0_1, .slice A0_2 l0_2.length c0_2] 25 (0, 0)) (by (with_reducible repeat (first | refine blk_drewN ?_ _ | refine blk_drew ?_ | refine blk_alloc ?_ _)); exact BK371.out)) : gb371 ≠ gb375)); have n7_ := Aside0.mk ((by rw [hg]; exact Nat.ne_of_gt (blk_lt (g := gb371) (o := .cells #[.int .i64 a0_0, .slice (some ad372) l0_1.length c0_1, .slice A0_2 l0_2.length c0_2] 25 (0, 0)) (by (with_reducible repeat (first | refine blk_drewN ?_ _ | refine blk_drew ?_ | refine blk_alloc ?_ _)); exact BK371.out)) : gb375 ≠ gb371)); have n8_ := Aside0.mk ((by rw [hg]; exact Nat.ne_of_lt (blk_lt (g := gb373) (o := .cells #[.string ((rd_T45 l0_1 x20_2).f0), .int .i64 ((rd_T45 l0_1 x20_2).f1), .slice A372_2 ((rd_T45 l0_1 x20_2).f2).length c372_2, .slice (some ad374) ((rd_T45 l0_1 x20_2).f3).length c372_3] 45 (0, 0)) (by (with_reducible repeat (first | refine blk_drewN ?_ _ | refine blk_drew ?_ | refine blk_alloc ?_ _)); exact BK373.out)) : gb373 ≠ gb375)); have n9_ := Aside0.mk ((by rw [hg]; exact Nat.ne_of_gt (blk_lt (g := gb373) (o := .cells #[.string ((rd_T45 l0_1 x20_2).f0), .int .i64 ((rd_T45 l0_1 x20_2).f1), .slice A372_2 ((rd_T45 l0_1 x20_2).f2).length c372_2, .slice (some ad374) ((rd_T45 l0_1 x20_2).f3).length c372_3] 45 (0, 0)) (by (with_reducible repeat (first | refine blk_drewN ?_ _ | refine blk_drew ?_ | refine blk_alloc ?_ _)); exact BK373.out)) : gb375 ≠ gb373)); clear BK371; clear BK373; clear HB; have BK371 := n0_; have BK373 := n1_; have HB := n2_; have BK375 := n3_; have GW375 := n4_; have GE375 := n5_; have NB371_375 := n6_; have NB375_371 := n7_; have NB373_375 := n8_; have NB375_373 := n9_; clear n0_ n1_ n2_ n3_ n4_ n5_ n6_ n7_ n8_ n9_; clear hb hbox hg; have hnb30 := NB375_371.out; have hnc30 := NB371_375.out; have hnb31 := NB375_373.out; have hnc31 := NB373_375.out; have hcz32_0 : w29.cell? ⟨gb375, 0, none⟩ = some (.int .i64 0) := (blk_cell BK375.out 0).trans rfl; have hcz32_1 : w29.cell? ⟨gb375, 1, none⟩ = some (.int .i64 0) := (blk_cell BK375.out 1).trans rfl; have hcz32_2 : w29.cell? ⟨gb375, 2, none⟩ = some (.int .i64 0) := (blk_cell BK375.out 2).trans rfl; have hcz32_3 : w29.cell? ⟨gb375, 3, none⟩ = some (.int .i64 0) := (blk_cell BK375.out 3).trans rfl; have hcz32_4 : w29.cell? ⟨gb375, 4, none⟩ = some (.string (⟨#[]⟩ : ByteArray)) := (blk_cell BK375.out 4).trans rfl; have hcz32_5 : w29.cell? ⟨gb375, 5, none⟩ = some (.slice none 0 0) := (blk_cell BK375.out 5).trans rfl; have hfz32_0 := blk_frozen BK375.out 0; have hfz32_1 := blk_frozen BK375.out 1; have hfz32_2 := blk_frozen BK375.out 2; have hfz32_3 := blk_frozen BK375.out 3; have hfz32_4 := blk_frozen BK375.out 4; have hfz32_5 := blk_frozen BK375.out 5) | ((with_reducible refine gate_callee (f := 70) rfl ?_); refine goesL_ (some 42) rfl rfl Tryd.func70 (by kernel_rfl) rfl #[.agg #[.int .i64 ((rd_T72 ((rd_T45 l0_1 x20_2).f3) x37_4).f0), .int .i64 ((rd_T72 ((rd_T45 l0_1 x20_2).f3) x37_4).f1), .int .i64 ((rd_T72 ((rd_T45 l0_1 x20_2).f3) x37_4).f2.f0), .int .i64 ((rd_T72 ((rd_T45 l0_1 x20_2).f3) x37_4).f2.f1), .string ((rd_T72 ((rd_T45 l0_1 x20_2).f3) x37_4).f2.f2), .slice A374_5 ((rd_T72 ((rd_T45 l0_1 x20_2).f3) x37_4).f3).length c374_5], .int .i64 8] rfl (by (try simp only [List.map_toArray, List.map_cons, List.map_nil]); first | done | rfl | (simp only [List.length_drop, List.length_take]; rfl)) ?_; (with_reducible refine (mortmainref09_fits.calls k4 ((rd_T72 ((rd_T45 l0_1 x20_2).f3) x37_4).f0) ((rd_T72 ((rd_T45 l0_1 x20_2).f3) x37_4).f1) ((rd_T72 ((rd_T45 l0_1 x20_2).f3) x37_4).f2.f0) ((rd_T72 ((rd_T45 l0_1 x20_2).f3) x37_4).f2.f1) ((rd_T72 ((rd_T45 l0_1 x20_2).f3) x37_4).f2.f2) _ _ ((rd_T72 ((rd_T45 l0_1 x20_2).f3) x37_4).f3) 8 true _ ?side1 ?side2 A27.out).mono ?_); (case side1 => exact Kd.C_below HR374_5.out (by repeat (first | (with_reducible first | exact HB.out | apply below_alloc | apply pw_below_drewN | apply below_drew1 | refine below_set ?_ GE371.out | refine below_set ?_ GE373.out | refine below_set ?_ GE375.out) | exact HB.out))); (case side2 => exact HC374_5.out); rintro e w33 ⟨rfl, hb⟩; refine ⟨_, rfl, ?_⟩; have n0_ := Aside0.mk (blk_below (g := gb371) (o := .cells #[.int .i64 a0_0, .slice (some ad372) l0_1.length c0_1, .slice A0_2 l0_2.length c0_2] 25 (0, 0)) (by (with_reducible repeat (first | refine blk_drewN ?_ _ | refine blk_drew ?_ | refine blk_alloc ?_ _)); refine blk_far ?_ NB371_375.out _; (with_reducible repeat (first | refine blk_drewN ?_ _ | refine blk_drew ?_ | refine blk_alloc ?_ _)); refine blk_far ?_ NB371_375.out _; (with_reducible repeat (first | refine blk_drewN ?_ _ | refine blk_drew ?_ | refine blk_alloc ?_ _)); refine blk_far ?_ NB371_375.out _; (with_reducible repeat (first | refine blk_drewN ?_ _ | refine blk_drew ?_ | refine blk_alloc ?_ _)); refine blk_far ?_ NB371_375.out _; (with_reducible repeat (first | refine blk_drewN ?_ _ | refine blk_drew ?_ | refine blk_alloc ?_ _)); refine blk_far ?_ NB371_375.out _; (with_reducible repeat (first | refine blk_drewN ?_ _ | refine blk_drew ?_ | refine blk_alloc ?_ _)); refine blk_far ?_ NB371_375.out _; (with_reducible repeat (first | refine blk_drewN ?_ _ | refine blk_drew ?_ | refine blk_alloc ?_ _)); exact BK371.out) hb); have n1_ := Aside0.mk (blk_below (g := gb373) (o := .cells #[.string ((rd_T45 l0_1 x20_2).f0), .int .i64 ((rd_T45 l0_1 x20_2).f1), .slice A372_2 ((rd_T45 l0_1 x20_2).f2).length c372_2, .slice (some ad374) ((rd_T45 l0_1 x20_2).f3).length c372_3] 45 (0, 0)) (by (with_reducible repeat (first | refine blk_drewN ?_ _ | refine blk_drew ?_ | refine blk_alloc ?_ _)); refine blk_far ?_ NB373_375.out _; (with_reducible repeat (first | refine blk_drewN ?_ _ | refine blk_drew ?_ | refine blk_alloc ?_ _)); refine blk_far ?_ NB373_375.out _; (with_reducible repeat (first | refine blk_drewN ?_ _ | refine blk_drew ?_ | refine blk_alloc ?_ _)); refine blk_far ?_ NB373_375.out _; (with_reducible repeat (first | refine blk_drewN ?_ _ | refine blk_drew ?_ | refine blk_alloc ?_ _)); refine blk_far ?_ NB373_375.out _; (with_reducible repeat (first | refine blk_drewN ?_ _ | refine blk_drew ?_ | refine blk_alloc ?_ _)); refine blk_far ?_ NB373_375.out _; (with_reducible repeat (first | refine blk_drewN ?_ _ | refine blk_drew ?_ | refine blk_alloc ?_ _)); refine blk_far ?_ NB373_375.out _; (with_reducible repeat (first | refine blk_drewN ?_ _ | refine blk_drew ?_ | refine blk_alloc ?_ _)); exact BK373.out) hb); have n2_ := Aside0.mk (blk_below (g := gb375) (o := .cells #[.int .i64 ((rd_T72 ((rd_T45 l0_1 x20_2).f3) x37_4).f0), .int .i64 ((rd_T72 ((rd_T45 l0_1 x20_2).f3) x37_4).f1), .int .i64 ((rd_T72 ((rd_T45 l0_1 x20_2).f3) x37_4).f2.f0), .int .i64 ((rd_T72 ((rd_T45 l0_1 x20_2).f3) x37_4).f2.f1), .string ((rd_T72 ((rd_T45 l0_1 x20_2).f3) x37_4).f2.f2), .slice A374_5 ((rd_T72 ((rd_T45 l0_1 x20_2).f3) x37_4).f3).length c374_5] 72 (0, 0)) (by (with_reducible repeat (first | refine blk_drewN ?_ _ | refine blk_drew ?_ | refine blk_alloc ?_ _)); refine blk_put (cs := #[.int .i64 ((rd_T72 ((rd_T45 l0_1 x20_2).f3) x37_4).f0), .int .i64 ((rd_T72 ((rd_T45 l0_1 x20_2).f3) x37_4).f1), .int .i64 ((rd_T72 ((rd_T45 l0_1 x20_2).f3) x37_4).f2.f0), .int .i64 ((rd_T72 ((rd_T45 l0_1 x20_2).f3) x37_4).f2.f1), .string ((rd_T72 ((rd_T45 l0_1 x20_2).f3) x37_4).f2.f2), .slice none 0 0]) ?_ 5 _ rfl; (with_reducible repeat (first | refine blk_drewN ?_ _ | refine blk_drew ?_ | refine blk_alloc ?_ _)); refine blk_put (cs := #[.int .i64 ((rd_T72 ((rd_T45 l0_1 x20_2).f3) x37_4).f0), .int .i64 ((rd_T72 ((rd_T45 l0_1 x20_2).f3) x37_4).f1), .int .i64 ((rd_T72 ((rd_T45 l0_1 x20_2).f3) x37_4).f2.f0), .int .i64 ((rd_T72 ((rd_T45 l0_1 x20_2).f3) x37_4).f2.f1), .string (⟨#[]⟩ : ByteArray), .slice none 0 0]) ?_ 4 _ rfl; (with_reducible repeat (first | refine blk_drewN ?_ _ | refine blk_drew ?_ | refine blk_alloc ?_ _)); refine blk_put (cs := #[.int .i64 ((rd_T72 ((rd_T45 l0_1 x20_2).f3) x37_4).f0), .int .i64 ((rd_T72 ((rd_T45 l0_1 x20_2).f3) x37_4).f1), .int .i64 ((rd_T72 ((rd_T45 l0_1 x20_2).f3) x37_4).f2.f0), .int .i64 0, .string (⟨#[]⟩ : ByteArray), .slice none 0 0]) ?_ 3 _ rfl; (with_reducible repeat (first | refine blk_drewN ?_ _ | refine blk_drew ?_ | refine blk_alloc ?_ _)); refine blk_put (cs := #[.int .i64 ((rd_T72 ((rd_T45 l0_1 x20_2).f3) x37_4).f0), .int .i64 ((rd_T72 ((rd_T45 l0_1 x20_2).f3) x37_4).f1), .int .i64 0, .int .i64 0, .string (⟨#[]⟩ : ByteArray), .slice none 0 0]) ?_ 2 _ rfl; (with_reducible repeat (first | refine blk_drewN ?_ _ | refine blk_drew ?_ | refine blk_alloc ?_ _)); refine blk_put (cs := #[.int .i64 ((rd_T72 ((rd_T45 l0_1 x20_2).f3) x37_4).f0), .int .i64 0, .int .i64 0, .int .i64 0, .string (⟨#[]⟩ : ByteArray), .slice none 0 0]) ?_ 1 _ rfl; (with_reducible repeat (first | refine blk_drewN ?_ _ | refine blk_drew ?_ | refine blk_alloc ?_ _)); refine blk_put (cs := #[.int .i64 0, .int .i64 0, .int .i64 0, .int .i64 0, .string (⟨#[]⟩ : ByteArray), .slice none 0 0]) ?_ 0 _ rfl; (with_reducible repeat (first | refine blk_drewN ?_ _ | refine blk_drew ?_ | refine blk_alloc ?_ _)); exact BK375.out) hb); have n3_ := Aside0.mk (below_step (by repeat (first | (with_reducible first | exact HB.out | apply below_alloc | apply pw_below_drewN | apply below_drew1 | refine below_set ?_ GE371.out | refine below_set ?_ GE373.out | refine below_set ?_ GE375.out) | exact HB.out)) hb); clear BK371; clear BK373; clear BK375; clear HB; have BK371 := n0_; have BK373 := n1_; have BK375 := n2_; have HB := n3_; clear n0_ n1_ n2_ n3_; (try clear hb); (try clear hb2); (try clear hk); (try clear hi)))
                  go_roundg k4
                  case measure => have := HJ1.out; have := HK2.out; have := HJ11.out; have := HK4.out; omega
                  case rel => exact ⟨(wrap64 (x37_4 + 1)), (by first | rfl | (simp; done) | (simp [*]; done)), H', ⟨by have := HJ1.out; have := HK2.out; have := HJ11.out; have := HK4.out; omega⟩, ⟨by (with_reducible repeat (first | refine blk_drewN ?_ _ | refine blk_drew ?_ | refine blk_alloc ?_ _)); exact BK371.out⟩, ⟨by (with_reducible repeat (first | refine blk_drewN ?_ _ | refine blk_drew ?_ | refine blk_alloc ?_ _)); exact BK373.out⟩, ⟨by repeat (first | (with_reducible first | exact HB.out | apply below_alloc | apply pw_below_drewN | apply below_drew1 | refine below_set ?_ GE371.out | refine below_set ?_ GE373.out | refine below_set ?_ GE375.out) | exact HB.out)⟩⟩
                 ·replace c28 := Bool.eq_false_iff.mpr c28
                  subst c28
                  have H1 : (some false) = some r := by rw [if_neg (show ¬ (false = true) by decide)] at H; exact H
                  clear H
                  have H := H1
                  clear H1
                  obtain rfl := Option.some.inj H
                  have p374 : 0 ≤ (x37_4 : Int) := of_decide_eq_true (by first | (with_reducible assumption) | assumption)
                  have q374 : x37_4 < (((rd_T45 l0_1 x20_2).f3).length : Int) := of_decide_eq_true (by first | (with_reducible assumption) | assumption)
                  obtain ⟨ad374, A374_5, c374_5, e374, hx374_0, hx374_1, hx374_2, hx374_3, hx374_4, hx374_5, hl374_5, hi374_5⟩ := at_T72 HR372_3.out x37_4 p374 q374
                  cases e374
                  replace hx374_0 := (HB.out.cell (World.block_lt_of_cell? w _ hx374_0)).trans hx374_0
                  replace hx374_1 := (HB.out.cell (World.block_lt_of_cell? w _ hx374_1)).trans hx374_1
                  replace hx374_2 := (HB.out.cell (World.block_lt_of_cell? w _ hx374_2)).trans hx374_2
                  replace hx374_3 := (HB.out.cell (World.block_lt_of_cell? w _ hx374_3)).trans hx374_3
                  replace hx374_4 := (HB.out.cell (World.block_lt_of_cell? w _ hx374_4)).trans hx374_4
                  replace hx374_5 := (HB.out.cell (World.block_lt_of_cell? w _ hx374_5)).trans hx374_5
                  have HR374_5 := Aside0.mk hi374_5
                  have HC374_5 := Aside0.mk hl374_5
                  clear hi374_5 hl374_5
                  replace p374 := eq_true p374
                  replace q374 := eq_true q374
                  go_wp2_with (first | ((with_reducible refine gate_dst (N := 6) rfl ?_); (try (refine gate_guard (by rfl) ?_; dsimp only)); refine box_event ?hg (N := 6) ?hd (cs := #[.int .i64 0, .int .i64 0, .int .i64 0, .int .i64 0, .string (⟨#[]⟩ : ByteArray), .slice none 0 0]) (t := 72) ?hr ?_; (case hd => rfl); (case hg => rfl); (case hr => first | (go_simp; done) | (go_simp; rfl)); intro gb375 hg w34 hbox hb; have n0_ := Aside0.mk (blk_below (g := gb371) (o := .cells #[.int .i64 a0_0, .slice (some ad372) l0_1.length c0_1, .slice A0_2 l0_2.length c0_2] 25 (0, 0)) (by (with_reducible repeat (first | refine blk_drewN ?_ _ | refine blk_drew ?_ | refine blk_alloc ?_ _)); exact BK371.out) hb); have n1_ := Aside0.mk (blk_below (g := gb373) (o := .cells #[.string ((rd_T45 l0_1 x20_2).f0), .int .i64 ((rd_T45 l0_1 x20_2).f1), .slice A372_2 ((rd_T45 l0_1 x20_2).f2).length c372_2, .slice (some ad374) ((rd_T45 l0_1 x20_2).f3).length c372_3] 45 (0, 0)) (by (with_reducible repeat (first | refine blk_drewN ?_ _ | refine blk_drew ?_ | refine blk_alloc ?_ _)); exact BK373.out) hb); have n2_ := Aside0.mk (below_step (by repeat (first | (with_reducible first | exact HB.out | apply below_alloc | apply pw_below_drewN | apply below_drew1 | refine below_set ?_ GE371.out | refine below_set ?_ GE373.out) | exact HB.out)) hb); have n3_ := Aside0.mk (hbox); have n4_ := Aside0.mk ((by rw [hg]; exact (below_size (by repeat (first | (with_reducible first | exact HB.out | apply below_alloc | apply pw_below_drewN | apply below_drew1 | refine below_set ?_ GE371.out | refine below_set ?_ GE373.out) | exact HB.out))) : w.heap.size ≤ gb375)); have n5_ := Aside0.mk ((by rw [hg]; exact (below_size (by repeat (first | (with_reducible first | exact HB.out | apply below_alloc | apply pw_below_drewN | apply below_drew1 | refine below_set ?_ GE371.out | refine below_set ?_ GE373.out) | exact HB.out))) : w.heap.size ≤ gb375)); have n6_ := Aside0.mk ((by rw [hg]; exact Nat.ne_of_lt (blk_lt (g := gb371) (o := .cells #[.int .i64 a0_0, .slice (some ad372) l0_1.length c0_1, .slice A0_2 l0_2.length c0_2] 25 (0, 0)) (by (with_reducible repeat (first | refine blk_drewN ?_ _ | refine blk_drew ?_ | refine blk_alloc ?_ _)); exact BK371.out)) : gb371 ≠ gb375)); have n7_ := Aside0.mk ((by rw [hg]; exact Nat.ne_of_gt (blk_lt (g := gb371) (o := .cells #[.int .i64 a0_0, .slice (some ad372) l0_1.length c0_1, .slice A0_2 l0_2.length c0_2] 25 (0, 0)) (by (with_reducible repeat (first | refine blk_drewN ?_ _ | refine blk_drew ?_ | refine blk_alloc ?_ _)); exact BK371.out)) : gb375 ≠ gb371)); have n8_ := Aside0.mk ((by rw [hg]; exact Nat.ne_of_lt (blk_lt (g := gb373) (o := .cells #[.string ((rd_T45 l0_1 x20_2).f0), .int .i64 ((rd_T45 l0_1 x20_2).f1), .slice A372_2 ((rd_T45 l0_1 x20_2).f2).length c372_2, .slice (some ad374) ((rd_T45 l0_1 x20_2).f3).length c372_3] 45 (0, 0)) (by (with_reducible repeat (first | refine blk_drewN ?_ _ | refine blk_drew ?_ | refine blk_alloc ?_ _)); exact BK373.out)) : gb373 ≠ gb375)); have n9_ := Aside0.mk ((by rw [hg]; exact Nat.ne_of_gt (blk_lt (g := gb373) (o := .cells #[.string ((rd_T45 l0_1 x20_2).f0), .int .i64 ((rd_T45 l0_1 x20_2).f1), .slice A372_2 ((rd_T45 l0_1 x20_2).f2).length c372_2, .slice (some ad374) ((rd_T45 l0_1 x20_2).f3).length c372_3] 45 (0, 0)) (by (with_reducible repeat (first | refine blk_drewN ?_ _ | refine blk_drew ?_ | refine blk_alloc ?_ _)); exact BK373.out)) : gb375 ≠ gb373)); clear BK371; clear BK373; clear HB; have BK371 := n0_; have BK373 := n1_; have HB := n2_; have BK375 := n3_; have GW375 := n4_; have GE375 := n5_; have NB371_375 := n6_; have NB375_371 := n7_; have NB373_375 := n8_; have NB375_373 := n9_; clear n0_ n1_ n2_ n3_ n4_ n5_ n6_ n7_ n8_ n9_; clear hb hbox hg; have hnb35 := NB375_371.out; have hnc35 := NB371_375.out; have hnb36 := NB375_373.out; have hnc36 := NB373_375.out; have hcz37_0 : w34.cell? ⟨gb375, 0, none⟩ = some (.int .i64 0) := (blk_cell BK375.out 0).trans rfl; have hcz37_1 : w34.cell? ⟨gb375, 1, none⟩ = some (.int .i64 0) := (blk_cell BK375.out 1).trans rfl; have hcz37_2 : w34.cell? ⟨gb375, 2, none⟩ = some (.int .i64 0) := (blk_cell BK375.out 2).trans rfl; have hcz37_3 : w34.cell? ⟨gb375, 3, none⟩ = some (.int .i64 0) := (blk_cell BK375.out 3).trans rfl; have hcz37_4 : w34.cell? ⟨gb375, 4, none⟩ = some (.string (⟨#[]⟩ : ByteArray)) := (blk_cell BK375.out 4).trans rfl; have hcz37_5 : w34.cell? ⟨gb375, 5, none⟩ = some (.slice none 0 0) := (blk_cell BK375.out 5).trans rfl; have hfz37_0 := blk_frozen BK375.out 0; have hfz37_1 := blk_frozen BK375.out 1; have hfz37_2 := blk_frozen BK375.out 2; have hfz37_3 := blk_frozen BK375.out 3; have hfz37_4 := blk_frozen BK375.out 4; have hfz37_5 := blk_frozen BK375.out 5) | ((with_reducible refine gate_callee (f := 70) rfl ?_); refine goesL_ (some 42) rfl rfl Tryd.func70 (by kernel_rfl) rfl #[.agg #[.int .i64 ((rd_T72 ((rd_T45 l0_1 x20_2).f3) x37_4).f0), .int .i64 ((rd_T72 ((rd_T45 l0_1 x20_2).f3) x37_4).f1), .int .i64 ((rd_T72 ((rd_T45 l0_1 x20_2).f3) x37_4).f2.f0), .int .i64 ((rd_T72 ((rd_T45 l0_1 x20_2).f3) x37_4).f2.f1), .string ((rd_T72 ((rd_T45 l0_1 x20_2).f3) x37_4).f2.f2), .slice A374_5 ((rd_T72 ((rd_T45 l0_1 x20_2).f3) x37_4).f3).length c374_5], .int .i64 8] rfl (by (try simp only [List.map_toArray, List.map_cons, List.map_nil]); first | done | rfl | (simp only [List.length_drop, List.length_take]; rfl)) ?_; (with_reducible refine (mortmainref09_fits.calls k4 ((rd_T72 ((rd_T45 l0_1 x20_2).f3) x37_4).f0) ((rd_T72 ((rd_T45 l0_1 x20_2).f3) x37_4).f1) ((rd_T72 ((rd_T45 l0_1 x20_2).f3) x37_4).f2.f0) ((rd_T72 ((rd_T45 l0_1 x20_2).f3) x37_4).f2.f1) ((rd_T72 ((rd_T45 l0_1 x20_2).f3) x37_4).f2.f2) _ _ ((rd_T72 ((rd_T45 l0_1 x20_2).f3) x37_4).f3) 8 false _ ?side1 ?side2 A27.out).mono ?_); (case side1 => exact Kd.C_below HR374_5.out (by repeat (first | (with_reducible first | exact HB.out | apply below_alloc | apply pw_below_drewN | apply below_drew1 | refine below_set ?_ GE371.out | refine below_set ?_ GE373.out | refine below_set ?_ GE375.out) | exact HB.out))); (case side2 => exact HC374_5.out); rintro e w38 ⟨rfl, hb⟩; refine ⟨_, rfl, ?_⟩; have n0_ := Aside0.mk (blk_below (g := gb371) (o := .cells #[.int .i64 a0_0, .slice (some ad372) l0_1.length c0_1, .slice A0_2 l0_2.length c0_2] 25 (0, 0)) (by (with_reducible repeat (first | refine blk_drewN ?_ _ | refine blk_drew ?_ | refine blk_alloc ?_ _)); refine blk_far ?_ NB371_375.out _; (with_reducible repeat (first | refine blk_drewN ?_ _ | refine blk_drew ?_ | refine blk_alloc ?_ _)); refine blk_far ?_ NB371_375.out _; (with_reducible repeat (first | refine blk_drewN ?_ _ | refine blk_drew ?_ | refine blk_alloc ?_ _)); refine blk_far ?_ NB371_375.out _; (with_reducible repeat (first | refine blk_drewN ?_ _ | refine blk_drew ?_ | refine blk_alloc ?_ _)); refine blk_far ?_ NB371_375.out _; (with_reducible repeat (first | refine blk_drewN ?_ _ | refine blk_drew ?_ | refine blk_alloc ?_ _)); refine blk_far ?_ NB371_375.out _; (with_reducible repeat (first | refine blk_drewN ?_ _ | refine blk_drew ?_ | refine blk_alloc ?_ _)); refine blk_far ?_ NB371_375.out _; (with_reducible repeat (first | refine blk_drewN ?_ _ | refine blk_drew ?_ | refine blk_alloc ?_ _)); exact BK371.out) hb); have n1_ := Aside0.mk (blk_below (g := gb373) (o := .cells #[.string ((rd_T45 l0_1 x20_2).f0), .int .i64 ((rd_T45 l0_1 x20_2).f1), .slice A372_2 ((rd_T45 l0_1 x20_2).f2).length c372_2, .slice (some ad374) ((rd_T45 l0_1 x20_2).f3).length c372_3] 45 (0, 0)) (by (with_reducible repeat (first | refine blk_drewN ?_ _ | refine blk_drew ?_ | refine blk_alloc ?_ _)); refine blk_far ?_ NB373_375.out _; (with_reducible repeat (first | refine blk_drewN ?_ _ | refine blk_drew ?_ | refine blk_alloc ?_ _)); refine blk_far ?_ NB373_375.out _; (with_reducible repeat (first | refine blk_drewN ?_ _ | refine blk_drew ?_ | refine blk_alloc ?_ _)); refine blk_far ?_ NB373_375.out _; (with_reducible repeat (first | refine blk_drewN ?_ _ | refine blk_drew ?_ | refine blk_alloc ?_ _)); refine blk_far ?_ NB373_375.out _; (with_reducible repeat (first | refine blk_drewN ?_ _ | refine blk_drew ?_ | refine blk_alloc ?_ _)); refine blk_far ?_ NB373_375.out _; (with_reducible repeat (first | refine blk_drewN ?_ _ | refine blk_drew ?_ | refine blk_alloc ?_ _)); refine blk_far ?_ NB373_375.out _; (with_reducible repeat (first | refine blk_drewN ?_ _ | refine blk_drew ?_ | refine blk_alloc ?_ _)); exact BK373.out) hb); have n2_ := Aside0.mk (blk_below (g := gb375) (o := .cells #[.int .i64 ((rd_T72 ((rd_T45 l0_1 x20_2).f3) x37_4).f0), .int .i64 ((rd_T72 ((rd_T45 l0_1 x20_2).f3) x37_4).f1), .int .i64 ((rd_T72 ((rd_T45 l0_1 x20_2).f3) x37_4).f2.f0), .int .i64 ((rd_T72 ((rd_T45 l0_1 x20_2).f3) x37_4).f2.f1), .string ((rd_T72 ((rd_T45 l0_1 x20_2).f3) x37_4).f2.f2), .slice A374_5 ((rd_T72 ((rd_T45 l0_1 x20_2).f3) x37_4).f3).length c374_5] 72 (0, 0)) (by (with_reducible repeat (first | refine blk_drewN ?_ _ | refine blk_drew ?_ | refine blk_alloc ?_ _)); refine blk_put (cs := #[.int .i64 ((rd_T72 ((rd_T45 l0_1 x20_2).f3) x37_4).f0), .int .i64 ((rd_T72 ((rd_T45 l0_1 x20_2).f3) x37_4).f1), .int .i64 ((rd_T72 ((rd_T45 l0_1 x20_2).f3) x37_4).f2.f0), .int .i64 ((rd_T72 ((rd_T45 l0_1 x20_2).f3) x37_4).f2.f1), .string ((rd_T72 ((rd_T45 l0_1 x20_2).f3) x37_4).f2.f2), .slice none 0 0]) ?_ 5 _ rfl; (with_reducible repeat (first | refine blk_drewN ?_ _ | refine blk_drew ?_ | refine blk_alloc ?_ _)); refine blk_put (cs := #[.int .i64 ((rd_T72 ((rd_T45 l0_1 x20_2).f3) x37_4).f0), .int .i64 ((rd_T72 ((rd_T45 l0_1 x20_2).f3) x37_4).f1), .int .i64 ((rd_T72 ((rd_T45 l0_1 x20_2).f3) x37_4).f2.f0), .int .i64 ((rd_T72 ((rd_T45 l0_1 x20_2).f3) x37_4).f2.f1), .string (⟨#[]⟩ : ByteArray), .slice none 0 0]) ?_ 4 _ rfl; (with_reducible repeat (first | refine blk_drewN ?_ _ | refine blk_drew ?_ | refine blk_alloc ?_ _)); refine blk_put (cs := #[.int .i64 ((rd_T72 ((rd_T45 l0_1 x20_2).f3) x37_4).f0), .int .i64 ((rd_T72 ((rd_T45 l0_1 x20_2).f3) x37_4).f1), .int .i64 ((rd_T72 ((rd_T45 l0_1 x20_2).f3) x37_4).f2.f0), .int .i64 0, .string (⟨#[]⟩ : ByteArray), .slice none 0 0]) ?_ 3 _ rfl; (with_reducible repeat (first | refine blk_drewN ?_ _ | refine blk_drew ?_ | refine blk_alloc ?_ _)); refine blk_put (cs := #[.int .i64 ((rd_T72 ((rd_T45 l0_1 x20_2).f3) x37_4).f0), .int .i64 ((rd_T72 ((rd_T45 l0_1 x20_2).f3) x37_4).f1), .int .i64 0, .int .i64 0, .string (⟨#[]⟩ : ByteArray), .slice none 0 0]) ?_ 2 _ rfl; (with_reducible repeat (first | refine blk_drewN ?_ _ | refine blk_drew ?_ | refine blk_alloc ?_ _)); refine blk_put (cs := #[.int .i64 ((rd_T72 ((rd_T45 l0_1 x20_2).f3) x37_4).f0), .int .i64 0, .int .i64 0, .int .i64 0, .string (⟨#[]⟩ : ByteArray), .slice none 0 0]) ?_ 1 _ rfl; (with_reducible repeat (first | refine blk_drewN ?_ _ | refine blk_drew ?_ | refine blk_alloc ?_ _)); refine blk_put (cs := #[.int .i64 0, .int .i64 0, .int .i64 0, .int .i64 0, .string (⟨#[]⟩ : ByteArray), .slice none 0 0]) ?_ 0 _ rfl; (with_reducible repeat (first | refine blk_drewN ?_ _ | refine blk_drew ?_ | refine blk_alloc ?_ _)); exact BK375.out) hb); have n3_ := Aside0.mk (below_step (by repeat (first | (with_reducible first | exact HB.out | apply below_alloc | apply pw_below_drewN | apply below_drew1 | refine below_set ?_ GE371.out | refine below_set ?_ GE373.out | refine below_set ?_ GE375.out) | exact HB.out)) hb); clear BK371; clear BK373; clear BK375; clear HB; have BK371 := n0_; have BK373 := n1_; have BK375 := n2_; have HB := n3_; clear n0_ n1_ n2_ n3_; (try clear hb); (try clear hb2); (try clear hk); (try clear hi)))
                  go_ret
                  exact ⟨by first | rfl | (simp [errW_none, errW_some] <;> rfl) | (simp [*, errW_none, errW_some] <;> rfl), by repeat (first | (with_reducible first | exact HB.out | apply below_alloc | apply pw_below_drewN | apply below_drew1 | refine below_set ?_ GE371.out | refine below_set ?_ GE373.out | refine below_set ?_ GE375.out) | exact HB.out)⟩
                ·rw [if_neg c26] at H
                 exact absurd H (by simp)
               ·rw [if_neg c25] at H
                exact absurd H (by simp)
              ·rw [if_neg c24] at H
               have c24b0 : decide (x37_4 < (((rd_T45 l0_1 x20_2).f3).length : Int)) = false := decide_eq_false c24
               clear c24
               have H' := Aside0.mk H
               clear H
               go_wp2
               go_roundg k4
               case measure => have := HJ1.out; have := HK2.out; have := HJ11.out; have := HK4.out; omega
               case rel => exact ⟨(wrap64 (x20_2 + 1)), (by first | rfl | (simp; done) | (simp [*]; done)), H', ⟨by have := HJ1.out; have := HK2.out; have := HJ11.out; have := HK4.out; omega⟩, ⟨by (with_reducible repeat (first | refine blk_drewN ?_ _ | refine blk_drew ?_ | refine blk_alloc ?_ _)); exact BK371.out⟩, ⟨by repeat (first | (with_reducible first | exact HB.out | apply below_alloc | apply pw_below_drewN | apply below_drew1 | refine below_set ?_ GE371.out | refine below_set ?_ GE373.out) | exact HB.out)⟩⟩
        ·rw [if_neg c11] at H
         exact absurd H (by simp)
       ·rw [if_neg c10] at H
        exact absurd H (by simp)
      ·rw [if_neg c9] at H
       have c9b0 : decide (x20_2 < (l0_1.length : Int)) = false := decide_eq_false c9
       clear c9
       obtain rfl := Option.some.inj H
       go_wp2
       go_ret
       exact ⟨by first | rfl | (simp [errW_none, errW_some] <;> rfl) | (simp [*, errW_none, errW_some] <;> rfl), by repeat (first | (with_reducible first | exact HB.out | apply below_alloc | apply pw_below_drewN | apply below_drew1 | refine below_set ?_ GE371.out) | exact HB.out)⟩
end Go.Proofs.YtefdfgmlmjnmlaaDoor.Rf
end

section
set_option linter.unusedSimpArgs false
set_option linter.unusedVariables false
namespace Go.Proofs.YtefdfgmlmjnmlaaDoor.My
open Go.RowKit Go.Proofs.YtefdfgmlmjnmlaaDoorW.PrintWords Go.Proofs.YtefdfgmlmjnmlaaDoor.Rf
open Go.Proofs.YtefdfgmlmjnmlaaDoorW.PrintLast Go.Proofs.YtefdfgmlmjnmlaaDoorW.PrintMore
theorem fits_l0 (d : Int) (l : List S72) (hl : l.length ≤ 9223372036854775807) (h : ∀ x, x ∈ l → Ev (fun k => mortmainref09_fits.f k x.f0 x.f1 x.f2.f0 x.f2.f1 x.f2.f2 x.f3 (wrap64 (d - 1))) true) : ∀ m i, i + m = l.length →
    Ev (fun k => mortmainref09_fits.l0 k d l (l.length : Int) (i : Int)) true := by
  intro m
  induction m with
  | zero =>
    intro i hi
    exact Ev.step (f := fun _ => some true) (fun k => by simp only [mortmainref09_fits.l0]; rw [if_neg (by omega)]) (Ev.now _)
  | succ m ih =>
    intro i hi
    have hlt : i < l.length := by omega
    refine Ev.step (fun k => by simp only [mortmainref09_fits.l0]; rw [if_pos (by omega), if_pos (by omega), if_pos (by omega), rd72_nat, wrap_next hlt hl]) ?_
    exact Ev.bind (h _ (mem_getD (z := z72) hlt)) (Ev.congr (fun k => if_pos rfl) (ih (i + 1) (by omega)))
theorem fits_ev {d : Nat} {e : S72} (h : FitE d e) : d < 1000 → Ev (fun k => mortmainref09_fits.f k e.f0 e.f1 e.f2.f0 e.f2.f1 e.f2.f2 e.f3 (d : Int)) true := by
  induction h with
  | mk d e v a b c l z hh ih =>
    intro hd
    have hl : Ev (fun k => mortmainref09_fits.l0 k (d : Int) e.f3 (e.f3.length : Int) ((0 : Nat) : Int)) true := by
      refine fits_l0 (d : Int) e.f3 (by omega) (fun x hx => ?_) e.f3.length 0 (by omega)
      have hd0 : d ≠ 0 := fun h0 => by rw [z h0] at hx; cases hx
      have e1 : wrap64 ((d : Int) - 1) = ((d - 1 : Nat) : Int) := by unfold wrap64; omega
      rw [e1]
      exact ih x hx (by omega)
    have hj : Ev (fun k => mortmainref09_fits.j0 k (d : Int) false e.f0 e.f1 e.f2.f0 e.f2.f1 e.f2.f2 e.f3) true := Ev.step (fun k => by simp only [mortmainref09_fits.j0]; rw [if_neg (by decide)]; rfl) hl
    refine Ev.step (f := fun k => mortmainref09_fits.j0 k (d : Int) false e.f0 e.f1 e.f2.f0 e.f2.f1 e.f2.f2 e.f3) (fun k => ?_) hj
    simp only [mortmainref09_fits.f, mortmainref03_Good.f, Option.bind_some]
    rw [if_pos v, if_neg (by omega)]
    by_cases h0 : d = 0
    · rw [if_pos (by omega), z h0]
      rfl
    · rw [if_neg (by omega)]
theorem Fits_l1 (ts : List S45) (n j : Int) (l : List S72) (hl : l.length ≤ 9223372036854775807) (h : ∀ x, x ∈ l → FitE 8 x) (hn : Ev (fun k => mortmainref09_Fits.l0 k ts n (wrap64 (j + 1))) true) : ∀ m i, i + m = l.length →
    Ev (fun k => mortmainref09_Fits.l1 k ts n j l (l.length : Int) (i : Int)) true := by
  intro m
  induction m with
  | zero =>
    intro i hi
    exact Ev.step (fun k => by simp only [mortmainref09_Fits.l1]; rw [if_neg (by omega)]) hn
  | succ m ih =>
    intro i hi
    have hlt : i < l.length := by omega
    refine Ev.step (fun k => by simp only [mortmainref09_Fits.l1]; rw [if_pos (by omega), if_pos (by omega), if_pos (by omega), rd72_nat, wrap_next hlt hl]) ?_
    have hx := fits_ev (d := 8) (h _ (mem_getD (z := z72) hlt)) (by omega)
    exact Ev.bind hx (Ev.congr (fun k => if_pos rfl) (ih (i + 1) (by omega)))
theorem Fits_l0 (ts : List S45) (hl : ts.length ≤ 9223372036854775807) (h : ∀ t, t ∈ ts → FitT t) : ∀ m i, i + m = ts.length →
    Ev (fun k => mortmainref09_Fits.l0 k ts (ts.length : Int) (i : Int)) true := by
  intro m
  induction m with
  | zero =>
    intro i hi
    exact Ev.step (f := fun _ => some true) (fun k => by simp only [mortmainref09_Fits.l0]; rw [if_neg (by omega)]) (Ev.now _)
  | succ m ih =>
    intro i hi
    have hlt : i < ts.length := by omega
    have ht := h _ (mem_getD (z := z45) hlt)
    have hi1 := ih (i + 1) (by omega)
    have h1 := ht.cols
    have h2 := ht.checks
    generalize hg : ts.getD i z45 = t at ht h1 h2
    have h3 := Fits_l1 ts (ts.length : Int) (i : Int) t.f3 (by omega) ht.each (by rw [wrap_next hlt hl]; exact hi1) t.f3.length 0 (by omega)
    refine Ev.step (f := fun k => mortmainref09_Fits.j2 k ts (ts.length : Int) (i : Int) false t.f0 t.f1 t.f2 t.f3) (fun k => ?_) (Ev.step (fun k => by simp only [mortmainref09_Fits.j2]; rw [if_neg (by decide)]; rfl) h3)
    simp only [mortmainref09_Fits.l0]
    rw [if_pos (by omega), if_pos (by omega), if_pos (by omega), rd45_nat, hg, if_neg (by omega), decide_eq_false (by omega)]
theorem Fits_ev (v : Int) (ts : List S45) (gs : List S27) (hl : ts.length ≤ 12) (h : ∀ t, t ∈ ts → FitT t) (hg : gs.length ≤ 64) : Ev (fun k => mortmainref09_Fits.f k v ts gs) true := by
  refine Ev.congr (f := fun k => mortmainref09_Fits.j0 k false v ts gs) (fun k => ?_) (Ev.step (fun k => by simp only [mortmainref09_Fits.j0]; rw [if_neg (by decide)]; rfl) (Fits_l0 ts (by omega) h ts.length 0 (by omega)))
  unfold mortmainref09_Fits.f
  rw [if_neg (by omega), decide_eq_false (by omega)]
theorem Same0_ev : Ev (fun k => mortmainref09_Same.f k 0 [] [] 0 [] []) true := by
  refine Ev.congr (f := fun k => mortmainref09_Same.j0 k false 0 [] [] 0 [] []) (fun k => rfl) (Ev.step (f := fun k => mortmainref09_Same.l0 k 0 0 0 [] [] 0 [] []) (fun k => by simp only [mortmainref09_Same.j0]; rw [if_neg (by decide)]; rfl) ?_)
  refine Ev.step (f := fun k => mortmainref09_Same.l1 k 0 0 0 [] [] 0 [] []) (fun k => by simp only [mortmainref09_Same.l0]; rw [if_neg (by decide)]; rfl) ?_
  exact Ev.step (f := fun _ => some true) (fun k => by simp only [mortmainref09_Same.l1]; rw [if_neg (by decide)]) (Ev.now _)
set_option maxHeartbeats 4000000 in
set_option maxRecDepth 100000 in
theorem reads_law (b : ByteArray) (w : World) (hT : Tabs w) : Calls Tryd.prog 10 #[.string b] w (BoolPost true w) := by
  have HT := Aside0.mk hT
  clear hT
  by_cases hlen : 2048 < (b.size : Int)
  · have hlen1 := decide_eq_true hlen
    go_enter Tryd.func10, Tryd.ntmps10
    go_wp2_with (first
      | (go_at_call 27; refine (alive9_calls _ HT.out).mono ?_; rintro e w1 ⟨rfl, hb1⟩))
    go_ret
    exact ⟨rfl, hb1⟩
  · have hlen1 := decide_eq_false hlen
    obtain ⟨v, ts, gs, q, hE, hR⟩ := read_rd b (by omega)
    obtain ⟨kR, hR1⟩ := hE
    have HR := Aside0.mk (hR1 kR (Nat.le_refl _))
    clear hR1
    rcases hR.out with ⟨rfl, rfl, rfl, rfl⟩ | ⟨rfl, iv, hts, hft, hgs, hqg, henc⟩
    · obtain ⟨kS, hS⟩ := Same0_ev
      have HS := Aside0.mk (hS kS (Nat.le_refl _))
      clear hS hR hlen
      go_enter Tryd.func10, Tryd.ntmps10
      go_wp2_with (first
        | (go_at_call 27; refine (alive9_calls _ HT.out).mono ?_; rintro e w1 ⟨rfl, hb1⟩)
        | (go_at_call 40; refine (schema_Read.calls kR b 0 [] [] 4 _ HR.out).mono ?_; rintro e w2 ⟨v1, v2, rfl, hq1, hq2, hb2⟩; obtain ⟨A1, c1, hv1, hl1, hC1⟩ := Kd.R_reads hq1; obtain ⟨A2, c2, hv2, hl2, hC2⟩ := Kd.R_reads hq2; subst hv1; subst hv2; have HC1 := Aside0.mk hC1; have HC2 := Aside0.mk hC2; clear hC1 hC2 hq1 hq2; have HO := Aside0.mk (blk_new w2 (.cells #[.int .i64 0, .slice A1 0 c1, .slice A2 0 c2] 25)); have hbo := below1 w2 (.cells #[.int .i64 0, .slice A1 0 c1, .slice A2 0 c2] 25))
        | (go_at_call 41; refine (mortmainref09_Same.calls kS 0 A1 c1 [] A2 c2 [] 0 none 0 [] none 0 [] true _ (Kd.C_below HC1.out hbo) hl1 (Kd.C_below HC2.out hbo) hl2 (Kd.C_nil _ _) (Nat.le_refl _) (Kd.C_nil _ _) (Nat.le_refl _) HS.out).mono ?_; rintro e w3 ⟨rfl, hb3⟩))
      go_ret
      exact ⟨by simp, below_step (below_step (below_step hb1 hb2) hbo) hb3⟩
    · obtain ⟨kF, hF⟩ := Fits_ev v ts gs hts hft hgs
      have hsz : (encH v ts gs).length = b.size := by rw [henc, data_len]
      obtain ⟨kB, hB⟩ := refBytes_ev v ts gs iv (by omega) (by omega) (fun t ht => ⟨(hft t ht).q, (hft t ht).ok⟩) hqg (by omega)
      have hB1 := hB kB (Nat.le_refl _)
      rw [henc, SB_of] at hB1
      have HF := Aside0.mk (hF kF (Nat.le_refl _))
      have HBy := Aside0.mk hB1
      clear hF hB hB1 hR hsz henc hft hqg iv hlen
      go_enter Tryd.func10, Tryd.ntmps10
      go_wp2_with (first
        | (go_at_call 27; refine (alive9_calls _ HT.out).mono ?_; rintro e w1 ⟨rfl, hb1⟩)
        | (go_at_call 40; refine (schema_Read.calls kR b v ts gs 0 _ HR.out).mono ?_; rintro e w2 ⟨v1, v2, rfl, hq1, hq2, hb2⟩; obtain ⟨A1, c1, hv1, hl1, hC1⟩ := Kd.R_reads hq1; obtain ⟨A2, c2, hv2, hl2, hC2⟩ := Kd.R_reads hq2; subst hv1; subst hv2; have HC1 := Aside0.mk hC1; have HC2 := Aside0.mk hC2; clear hC1 hC2 hq1 hq2; have hbo := below1 w2 (.cells #[.int .i64 v, .slice A1 ts.length c1, .slice A2 gs.length c2] 25); have HO := Aside0.mk (blk_new w2 (.cells #[.int .i64 v, .slice A1 ts.length c1, .slice A2 gs.length c2] 25)))
        | (go_at_call 42; refine (mortmainref09_Fits.calls kF v A1 c1 ts A2 c2 gs true _ (Kd.C_below HC1.out hbo) hl1 (Kd.C_below HC2.out hbo) hl2 HF.out).mono ?_; rintro e w3 ⟨rfl, hb3⟩; have HO3 := Aside0.mk (blk_below HO.out hb3); have o0 := blk_cell HO3.out 0; have o1 := blk_cell HO3.out 1; have o2 := blk_cell HO3.out 2)
        | (go_at_call 43; refine (mortmainref09_Bytes.calls kB v A1 c1 ts A2 c2 gs b _ (Kd.C_below (Kd.C_below HC1.out hbo) hb3) hl1 (Kd.C_below (Kd.C_below HC2.out hbo) hb3) hl2 HBy.out).mono ?_; rintro e w4 ⟨rfl, hb4⟩))
      go_ret
      exact ⟨by simp, below_step (below_step (below_step (below_step hb1 hb2) hbo) hb3) hb4⟩
end Go.Proofs.YtefdfgmlmjnmlaaDoor.My
end

section
set_option linter.unusedVariables false
namespace Go.Proofs.YtefdfgmlmjnmlaaDoor.My
open Go.ChangeShapes Go.WideShapes Go.ChangeAt Go.RowKit
open Go.ChangeMaps (open_string shut_string)
open Go.Proofs.YtefdfgmlmjnmlaaDoorW.PrintWords Go.Proofs.YtefdfgmlmjnmlaaDoor.Rf
open Go.Proofs.YtefdfgmlmjnmlaaDoor
set_option maxRecDepth 100000 in
theorem schemaReads_lifted (os : Os) (started : os.Started) (H : Type) (enc : TypeId × Value → H) :
    ReturnsInHanded {} Tryd.checked os 10 .any (fun w args => (Rows.schemaReadsSpec.pre enc Tryd.prog Tryd.f10 Rows.schemaReadsRow.domain false w args ∧ laidMetH Tryd.prog tabs w) ∧ sizedMet enc Tryd.prog Tryd.f10 (OpenSpec.ofChange Rows.schemaReadsSpec) false w args)
      (Rows.schemaReadsSpec.post enc Tryd.prog Tryd.f10 false true false false) := by
  refine returnsInHanded_of_change_and (C := Tryd.checked) (X := (fun w _ => laidMetH Tryd.prog tabs w)) (fun _ _ _ hh h => h.of_heap hh) own started (by kernel_rfl) Tryd.func10
    (ChangeSpec.witness_shaped (enc := enc) (C := Tryd.checked) (os := os) (X := (fun w _ => laidMetH Tryd.prog tabs w)) false (World.laidAll Tryd.prog os tabs) #[.string ByteArray.empty] 8 (World.laidAll_os _ _ _)
      (World.shaped_of_ZipB (by kernel_rfl) (by kernel_rfl)) (by kernel_rfl) (by kernel_rfl) (by kernel_rfl)
      (by rw [MakeChecks.laidMetH_plain _ _ _ (by kernel_rfl)]; exact laidMet_laidAll _ (by kernel_rfl) (by kernel_rfl))) ?_
  intro W base args ds gs before hval0 hW hc _ hL _
  have hval : ∀ (j : Nat) t v, Tryd.f10.params[j]? = some t → args[j]? = some v → Value.okWide Tryd.prog W .any base t v := hval0
  have hW' := hW
  obtain ⟨p, q, hA0, hV, rfl, _, _⟩ := hW
  have hA : DataW.TrodAll enc Tryd.prog W 0 (fun _ => true) true Tryd.f10.params.toList args.toList ds p := hA0
  rw [Tryd.params10] at hA hval
  obtain ⟨v0, vs0, d0, ds0, p0, q0, hargs, rfl, rfl, h0, r0⟩ := trodAll_cons hA
  obtain ⟨rfl, rfl, rfl⟩ := trodAll_nil r0
  obtain rfl : args = #[v0] := by cases args; simp_all
  obtain ⟨rfl, rfl⟩ := trodVars_none hV
  obtain ⟨a0, rfl, rfl, rfl, w0⟩ := open_string Tryd.underlying9 (hval 0 9 v0 rfl rfl) h0
  have hT := tabs_of hL
  clear hA0 hval0
  refine (reads_law a0 W hT).mono fun e W' ⟨he, bel⟩ => ?_
  subst he
  exact ⟨_, rfl, _, _, _, [], _, [], hW', trodAll_mk1 (shut_bool Tryd.underlying4 _), (trodAll_cons_mk (shut_string Tryd.underlying9 w0) trodAll_mk0), rfl, bel.frame _, fun h => by cases h⟩
theorem schemaReads_holds : Rows.SchemaReadsSaid :=
  OpenClaim.holds_of_wide 10 Tryd.f10 rfl rfl rfl rfl rfl rfl rfl ⟨rfl, rfl, rfl, rfl, rfl⟩ rfl rfl rfl rfl rfl (by kernel_rfl) Tryd.func10 (by kernel_rfl)
    (of_decide_eq_true (by kernel_rfl)) (by unfold Func.isWrapper; first | (rw [if_pos (by decide +kernel)]; kernel_rfl) | (rw [if_neg (by decide +kernel)]; exact ⟨rfl, rfl⟩))
    (fun os started H enc _ => schemaReads_lifted os started H enc)
theorem schemaReads_card : Rows.SchemaReadsCardSaid :=
  Claim7.holds_tied_plain_at .later [] [.data, .pinned] true (true, "ad361f8c9010d8bc8c83665426ff667c1a83a32d80b366ff0bd14d2eb2135fde") true schemaReads_holds (fun _ h => by cases h) (by kernel_rfl) (fun _ h => by cases h) schemaReads_row_tie rfl ⟨rfl, rfl⟩ (by kernel_rfl) rfl
    (fun f fn hf hfn => by
      obtain rfl : f = 10 := Option.some.inj ((show Tryd.prog.funcNamed "mortmain/mortmainlaw09.SchemaReads" = some 10 by kernel_rfl).symm.trans hf) |>.symm
      obtain rfl : fn = Tryd.f10 := (Option.some.inj (Tryd.func10.symm.trans hfn)).symm
      exact ⟨by kernel_rfl, fun j t ht => by
        rw [Tryd.params10] at ht
        have hm : t ∈ [9] := by simpa using Array.mem_of_getElem? ht
        have hall : ([9].all fun u => !Tryd.prog.wantsStandIn u) = true := by kernel_rfl
        exact (show Tryd.prog.wantsStandIn t = false by simpa using List.all_eq_true.1 hall t hm)⟩)
    (by kernel_rfl)
#print axioms schemaReads_card
end Go.Proofs.YtefdfgmlmjnmlaaDoor.My
end
