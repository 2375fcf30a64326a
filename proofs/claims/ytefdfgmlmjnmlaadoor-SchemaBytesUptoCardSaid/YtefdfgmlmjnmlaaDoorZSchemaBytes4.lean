/- Lemmas for the law SchemaBytes: what the functions that it reaches compute, with those words of the kit's print that they use. No condition. Joined out of this session's smaller texts (part 4 of 7). -/
import Derived.Test.YtefdfgmlmjnmlaaDoorZSchemaBytes2
import Derived.Test.YtefdfgmlmjnmlaaDoorZSchemaBytes3
import Derived.Laws.Cover2
import Derived.Laws.Externs
section
set_option linter.unusedVariables false
set_option linter.unusedSimpArgs false
namespace Go.Proofs.YtefdfgmlmjnmlaaDoor.Rf
open Go.RowKit Go.Proofs.YtefdfgmlmjnmlaaDoorW.PrintWords Go.Proofs.YtefdfgmlmjnmlaaDoorW.PrintLast Go.Proofs.YtefdfgmlmjnmlaaDoorW.PrintMore
attribute [local go_sem] jCg jCo
mutual
def jAm.l0 : Nat → Int → Int → ByteArray → Int → Bool → Option (Int × ByteArray × Int × Bool)
 | 0, _, _, _, _, _ => none
 | k + 1, x3, x14, x1000, x1001, x1002 => if x14 < 10 then (if x1001 = (x1000.size : Int) then ((jAy.f x1000 x1001 x1002).bind fun bt128 => (some (bt128.1, bt128.2.1, bt128.2.2.1, bt128.2.2.2))) else (if 0 ≤ x1001 then (if x1001 < (x1000.size : Int) then (if x14 = 9 then (jAm.j1 k x3 x14 (bt x1000 x1001) x14 (decide ((bt x1000 x1001) > 1)) x1000 (wrap64 (x1001 + 1)) x1002) else (jAm.j1 k x3 x14 (bt x1000 x1001) x14 false x1000 (wrap64 (x1001 + 1)) x1002)) else (none)) else (none))) else ((jAy.f x1000 x1001 x1002).bind fun bt124 => (some (bt124.1, bt124.2.1, bt124.2.2.1, bt124.2.2.2)))
def jAm.j1 : Nat → Int → Int → Int → Int → Bool → ByteArray → Int → Bool → Option (Int × ByteArray × Int × Bool)
 | 0, _, _, _, _, _, _, _, _ => none
 | k + 1, x3, x4, x5, x14, x50, x1000, x1001, x1002 => if x50 = true then ((jAy.f x1000 x1001 x1002).bind fun bt132 => (some (bt132.1, bt132.2.1, bt132.2.2.1, bt132.2.2.2))) else (if 0 ≤ (wrap64 (7 * x4)) then (if x5 < 128 then (if x5 = 0 then (jAm.j2 k (Go.bits .or .u64 x3 (shl .u64 (IntKind.u64.wrap (Go.bits .and .u8 x5 127)) (wrap64 (7 * x4)))) (decide (x4 > 0)) x1000 x1001 x1002) else (jAm.j2 k (Go.bits .or .u64 x3 (shl .u64 (IntKind.u64.wrap (Go.bits .and .u8 x5 127)) (wrap64 (7 * x4)))) false x1000 x1001 x1002)) else (jAm.l0 k (Go.bits .or .u64 x3 (shl .u64 (IntKind.u64.wrap (Go.bits .and .u8 x5 127)) (wrap64 (7 * x4)))) (wrap64 (x14 + 1)) x1000 x1001 x1002)) else (none))
def jAm.j2 : Nat → Int → Bool → ByteArray → Int → Bool → Option (Int × ByteArray × Int × Bool)
 | 0, _, _, _, _, _ => none
 | k + 1, x3, x68, x1000, x1001, x1002 => if x68 = true then ((jAy.f x1000 x1001 x1002).bind fun bt136 => (some (bt136.1, bt136.2.1, bt136.2.2.1, bt136.2.2.2))) else ((jDw.f x3).bind fun t140 => (some (t140, x1000, x1001, x1002)))
end
def jAm.f (k : Nat) (s0_0 : ByteArray) (s0_1 : Int) (s0_2 : Bool) : Option (Int × ByteArray × Int × Bool) := if s0_2 = true then (some (0, s0_0, s0_1, s0_2)) else (jAm.l0 k 0 0 s0_0 s0_1 s0_2)
set_option maxHeartbeats 8000000 in
set_option maxRecDepth 100000 in
theorem jAm.calls (k : Nat) (g : Nat) (s0_0 : ByteArray) (s0_1 : Int) (s0_2 : Bool) (r1 : Int) (r2 : ByteArray) (r3 : Int) (r4 : Bool) (w0 w : World) (hI : jAc w0 w g s0_0 s0_1 s0_2) (hB : Below w0.heap.size w0 w) (h : jAm.f k s0_0 s0_1 s0_2 = some (r1, r2, r3, r4)) :
  Calls Tryd.prog 65 #[.pointer (some ⟨g, 0, none⟩)] w fun e w' => e = .returned (.int .i64 r1) ∧ jAc w0 w' g r2 r3 r4 ∧ Below w0.heap.size w0 w' ∧ jAn w w' g none := by
 have HI0 := jAa.mk hI
 have HK := jAa.mk (jAn.refl w g none)
 have HL := jAa.mk hB.size
 clear hI
 have HW0 := jAa.mk hB.size
 have HB := jAa.mk hB
 clear hB
 have H : (if s0_2 = true then (some (0, s0_0, s0_1, s0_2)) else (jAm.l0 k 0 0 s0_0 s0_1 s0_2)) = some (r1, r2, r3, r4) := h
 clear h
 by_cases c2 : s0_2 = true
 ·subst c2
  have H1 : (some (0, s0_0, s0_1, true)) = some (r1, r2, r3, r4) := by rw [if_pos rfl] at H; exact H
  clear H
  have H := H1
  clear H1
  simp only [Option.some.injEq, Prod.mk.injEq] at H
  obtain ⟨rfl, rfl, rfl, rfl⟩ := H
  obtain ⟨HGz3, hgz3⟩ := HI0.out
  have hcz3_0 := jBw HGz3
  have hcz3_1 := jBx HGz3
  have hcz3_2 := jBy HGz3
  have hfz3_0 := jAg HGz3 0
  have hfz3_1 := jAg HGz3 1
  have hfz3_2 := jAg HGz3 2
  clear HGz3 hgz3
  go_enter Tryd.func65, Tryd.ntmps65
  go_wp2
  repeat (go_quiet (fail); try go_wp2)
  go_ret
  exact ⟨by first | rfl | (simp [jBd, jBe] <;> rfl) | (simp [*, jBd, jBe] <;> rfl), by repeat (first | (with_reducible first | exact HI0.out | apply jAc.alloc | apply jAc.drewN | apply jAc.drew | apply jAc.set_0 | apply jAc.set_1 | apply jAc.set_2) | exact HI0.out), by repeat (first | (with_reducible first | exact HB.out | apply jAj | apply jAd | apply jAk | refine jAh ?_ (jAc.ge HI0.out)) | exact HB.out), by repeat (first | (with_reducible first | exact HK.out | apply jAn.set_ | apply jAs | apply jAw | apply jAt) | exact HK.out)⟩
 ·replace c2 := Bool.eq_false_iff.mpr c2
  subst c2
  have H1 : (jAm.l0 k 0 0 s0_0 s0_1 false) = some (r1, r2, r3, r4) := by rw [if_neg (show ¬ (false = true) by decide)] at H; exact H
  clear H
  have H := H1
  clear H1
  have H' := jAa.mk H
  clear H
  obtain ⟨HGz4, hgz4⟩ := HI0.out
  have hcz4_0 := jBw HGz4
  have hcz4_1 := jBx HGz4
  have hcz4_2 := jBy HGz4
  have hfz4_0 := jAg HGz4 0
  have hfz4_1 := jAg HGz4 1
  have hfz4_2 := jAg HGz4 2
  clear HGz4 hgz4
  go_enter Tryd.func65, Tryd.ntmps65
  go_wp2
  repeat (go_quiet (fail); try go_wp2)
  go_loopg [3, 14] k (fun kq v3 v14 w' => ∃ (x3_1 : Int) (x14_1 : Int) (x1000_1 : ByteArray) (x1001_1 : Int) (x1002_1 : Bool), v3 = .int .u64 x3_1 ∧ v14 = .int .i64 x14_1 ∧ jAa (jAm.l0 kq x3_1 x14_1 x1000_1 x1001_1 x1002_1 = some (r1, r2, r3, r4)) ∧ jAa (kq ≤ k) ∧ jAa (jAc w0 w' g x1000_1 x1001_1 x1002_1) ∧ jAa (jAn w w' g none) ∧ jAa (Below w0.heap.size w0 w'))
  case atStart => exact ⟨(0), (0), (s0_0), (s0_1), (false), (by first | rfl | (simp; done) | (simp [*]; done)), (by first | rfl | (simp; done) | (simp [*]; done)), H', ⟨Nat.le_refl _⟩, ⟨by repeat (first | (with_reducible first | exact HI0.out | apply jAc.alloc | apply jAc.drewN | apply jAc.drew | apply jAc.set_0 | apply jAc.set_1 | apply jAc.set_2) | exact HI0.out)⟩, ⟨by repeat (first | (with_reducible first | exact HK.out | apply jAn.set_ | apply jAs | apply jAw | apply jAt) | exact HK.out)⟩, ⟨by repeat (first | (with_reducible first | exact HB.out | apply jAj | apply jAd | apply jAk | refine jAh ?_ (jAc.ge HI0.out)) | exact HB.out)⟩⟩
  case round =>
   clear H'
   try clear c2
   try clear p2
   try clear hcz3_0
   try clear hcz3_1
   try clear hcz3_2
   try clear hcz4_0
   try clear hcz4_1
   try clear hcz4_2
   try clear hfz3_0
   try clear hfz3_1
   try clear hfz3_2
   try clear hfz4_0
   try clear hfz4_1
   try clear hfz4_2
   obtain ⟨x3_1, x14_1, x1000_1, x1001_1, x1002_1, rfl, rfl, HA, HK1, HI0, HK, HB⟩ := hrel
   cases gk with
   | zero => exact absurd HA.out (by simp [jAm.l0])
   | succ k1 =>
    have H := HA.out
    clear HA
    simp only [jAm.l0] at H
    by_cases c5 : x14_1 < 10
    ·rw [if_pos c5] at H
     have c5b0 : decide (x14_1 < 10) = true := decide_eq_true c5
     clear c5
     by_cases c6 : x1001_1 = (x1000_1.size : Int)
     ·rw [if_pos c6] at H
      have c6b0 : (x1001_1 == (x1000_1.size : Int)) = true := beq_iff_eq.mpr c6
      have c6b1 : (x1001_1 != (x1000_1.size : Int)) = false := bne_eq_false_iff_eq.mpr c6
      clear c6
      replace H := Option.bind_eq_some_iff.mp H
      obtain ⟨⟨t128, t129, t130, t131⟩, A70, H⟩ := H
      replace H : (some (t128, t129, t130, t131)) = some (r1, r2, r3, r4) := H
      have A7 := jAa.mk A70
      clear A70
      simp only [Option.some.injEq, Prod.mk.injEq] at H
      obtain ⟨rfl, rfl, rfl, rfl⟩ := H
      obtain ⟨HGz8, hgz8⟩ := HI0.out
      have hcz8_0 := jBw HGz8
      have hcz8_1 := jBx HGz8
      have hcz8_2 := jBy HGz8
      have hfz8_0 := jAg HGz8 0
      have hfz8_1 := jAg HGz8 1
      have hfz8_2 := jAg HGz8 2
      clear HGz8 hgz8
      go_wp2_with (first | (go_at_call 94; (with_reducible refine (jAy.calls g x1000_1 x1001_1 x1002_1 t128 t129 t130 t131 w0 _ ?side1 ?side2 A7.out).mono ?_); (case side1 => repeat (first | (with_reducible first | exact HI0.out | apply jAc.alloc | apply jAc.drewN | apply jAc.drew | apply jAc.set_0 | apply jAc.set_1 | apply jAc.set_2) | exact HI0.out)); (case side2 => repeat (first | (with_reducible first | exact HB.out | apply jAj | apply jAd | apply jAk | refine jAh ?_ (jAc.ge HI0.out)) | exact HB.out)); rintro e w9 ⟨rfl, hi, hb, hk⟩; have n0_ := jAa.mk (jAn.trans (by repeat (first | (with_reducible first | exact HK.out | apply jAn.set_ | apply jAs | apply jAw | apply jAt) | exact HK.out)) hk (.inl rfl)); have n1_ := jAa.mk (hb); have n2_ := jAa.mk (hi); clear HK; clear HB; clear HI0; have HK := n0_; have HB := n1_; have HI0 := n2_; clear n0_ n1_ n2_; (try clear hb); (try clear hb2); (try clear hk); (try clear hi)))
      repeat (go_quiet (first | (go_at_call 94; (with_reducible refine (jAy.calls g x1000_1 x1001_1 x1002_1 t128 t129 t130 t131 w0 _ ?side1 ?side2 A7.out).mono ?_); (case side1 => repeat (first | (with_reducible first | exact HI0.out | apply jAc.alloc | apply jAc.drewN | apply jAc.drew | apply jAc.set_0 | apply jAc.set_1 | apply jAc.set_2) | exact HI0.out)); (case side2 => repeat (first | (with_reducible first | exact HB.out | apply jAj | apply jAd | apply jAk | refine jAh ?_ (jAc.ge HI0.out)) | exact HB.out)); rintro e w9 ⟨rfl, hi, hb, hk⟩; have n0_ := jAa.mk (jAn.trans (by repeat (first | (with_reducible first | exact HK.out | apply jAn.set_ | apply jAs | apply jAw | apply jAt) | exact HK.out)) hk (.inl rfl)); have n1_ := jAa.mk (hb); have n2_ := jAa.mk (hi); clear HK; clear HB; clear HI0; have HK := n0_; have HB := n1_; have HI0 := n2_; clear n0_ n1_ n2_; (try clear hb); (try clear hb2); (try clear hk); (try clear hi))); try go_wp2_with (first | (go_at_call 94; (with_reducible refine (jAy.calls g x1000_1 x1001_1 x1002_1 t128 t129 t130 t131 w0 _ ?side1 ?side2 A7.out).mono ?_); (case side1 => repeat (first | (with_reducible first | exact HI0.out | apply jAc.alloc | apply jAc.drewN | apply jAc.drew | apply jAc.set_0 | apply jAc.set_1 | apply jAc.set_2) | exact HI0.out)); (case side2 => repeat (first | (with_reducible first | exact HB.out | apply jAj | apply jAd | apply jAk | refine jAh ?_ (jAc.ge HI0.out)) | exact HB.out)); rintro e w9 ⟨rfl, hi, hb, hk⟩; have n0_ := jAa.mk (jAn.trans (by repeat (first | (with_reducible first | exact HK.out | apply jAn.set_ | apply jAs | apply jAw | apply jAt) | exact HK.out)) hk (.inl rfl)); have n1_ := jAa.mk (hb); have n2_ := jAa.mk (hi); clear HK; clear HB; clear HI0; have HK := n0_; have HB := n1_; have HI0 := n2_; clear n0_ n1_ n2_; (try clear hb); (try clear hb2); (try clear hk); (try clear hi))))
      go_ret
      exact ⟨by first | rfl | (simp [jBd, jBe] <;> rfl) | (simp [*, jBd, jBe] <;> rfl), by repeat (first | (with_reducible first | exact HI0.out | apply jAc.alloc | apply jAc.drewN | apply jAc.drew | apply jAc.set_0 | apply jAc.set_1 | apply jAc.set_2) | exact HI0.out), by repeat (first | (with_reducible first | exact HB.out | apply jAj | apply jAd | apply jAk | refine jAh ?_ (jAc.ge HI0.out)) | exact HB.out), by repeat (first | (with_reducible first | exact HK.out | apply jAn.set_ | apply jAs | apply jAw | apply jAt) | exact HK.out)⟩
     ·rw [if_neg c6] at H
      have c6b0 : (x1001_1 == (x1000_1.size : Int)) = false := beq_eq_false_iff_ne.mpr c6
      have c6b1 : (x1001_1 != (x1000_1.size : Int)) = true := bne_iff_ne.mpr c6
      by_cases c10 : 0 ≤ x1001_1
      ·rw [if_pos c10] at H
       have c10b0 : decide (0 ≤ x1001_1) = true := decide_eq_true c10
       clear c10
       by_cases c11 : x1001_1 < (x1000_1.size : Int)
       ·rw [if_pos c11] at H
        have c11b0 : decide (x1001_1 < (x1000_1.size : Int)) = true := decide_eq_true c11
        clear c11
        have HC13 := jAa.mk H
        clear H
        obtain ⟨HGz14, hgz14⟩ := HI0.out
        have hcz14_0 := jBw HGz14
        have hcz14_1 := jBx HGz14
        have hcz14_2 := jBy HGz14
        have hfz14_0 := jAg HGz14 0
        have hfz14_1 := jAg HGz14 1
        have hfz14_2 := jAg HGz14 2
        clear HGz14 hgz14
        have p12 : 0 ≤ (x1001_1 : Int) := of_decide_eq_true (by first | (with_reducible assumption) | assumption)
        have q12 : x1001_1 < (x1000_1.size : Int) := of_decide_eq_true (by first | (with_reducible assumption) | assumption)
        have hx12 := bt_at x1000_1 x1001_1
        replace p12 := eq_true p12
        replace q12 := eq_true q12
        go_upto_region 11 with (fail)
        repeat (go_quiet (fail); go_upto_region 11 with (fail))
        go_cut [50] (fun v50 wc => ∃ (kq : Nat) (x50_12 : Bool), v50 = .bool x50_12 ∧ jAa (jAm.j1 kq x3_1 x14_1 (bt x1000_1 x1001_1) x14_1 x50_12 x1000_1 (wrap64 (x1001_1 + 1)) x1002_1 = some (r1, r2, r3, r4)) ∧ jAa (kq ≤ k1) ∧ jAa (jAc w0 wc g x1000_1 (wrap64 (x1001_1 + 1)) x1002_1) ∧ jAa (jAn w wc g none) ∧ jAa (Below w0.heap.size w0 wc))
        case first =>
         have H := HC13.out
         clear HC13
         by_cases c15 : x14_1 = 9
         ·rw [if_pos c15] at H
          have c15b0 : (x14_1 == 9) = true := beq_iff_eq.mpr c15
          have c15b1 : (x14_1 != 9) = false := bne_eq_false_iff_eq.mpr c15
          clear c15
          (first | rw [c15b0] | (simp only [i64_w, i32_w]; rw [c15b0]) | skip)
          have H' := jAa.mk H
          clear H
          go_wp2
          repeat (go_quiet (fail); try go_wp2)
          go_meet
          case rel => exact ⟨_, (decide ((bt x1000_1 x1001_1) > 1)), (by first | rfl | (simp; done) | (simp [*]; done)), H', ⟨by have := HK1.out; first | omega | exact Nat.le_refl _⟩, ⟨by repeat (first | (with_reducible first | exact HI0.out | apply jAc.alloc | apply jAc.drewN | apply jAc.drew | apply jAc.set_0 | apply jAc.set_1 | apply jAc.set_2) | exact HI0.out)⟩, ⟨by repeat (first | (with_reducible first | exact HK.out | apply jAn.set_ | apply jAs | apply jAw | apply jAt) | exact HK.out)⟩, ⟨by repeat (first | (with_reducible first | exact HB.out | apply jAj | apply jAd | apply jAk | refine jAh ?_ (jAc.ge HI0.out)) | exact HB.out)⟩⟩
         ·rw [if_neg c15] at H
          have c15b0 : (x14_1 == 9) = false := beq_eq_false_iff_ne.mpr c15
          have c15b1 : (x14_1 != 9) = true := bne_iff_ne.mpr c15
          (first | rw [c15b0] | (simp only [i64_w, i32_w]; rw [c15b0]) | skip)
          have H' := jAa.mk H
          clear H
          go_wp2
          repeat (go_quiet (fail); try go_wp2)
          go_meet
          case rel => exact ⟨_, (false), (by first | rfl | (simp; done) | (simp [*]; done)), H', ⟨by have := HK1.out; first | omega | exact Nat.le_refl _⟩, ⟨by repeat (first | (with_reducible first | exact HI0.out | apply jAc.alloc | apply jAc.drewN | apply jAc.drew | apply jAc.set_0 | apply jAc.set_1 | apply jAc.set_2) | exact HI0.out)⟩, ⟨by repeat (first | (with_reducible first | exact HK.out | apply jAn.set_ | apply jAs | apply jAw | apply jAt) | exact HK.out)⟩, ⟨by repeat (first | (with_reducible first | exact HB.out | apply jAj | apply jAd | apply jAk | refine jAh ?_ (jAc.ge HI0.out)) | exact HB.out)⟩⟩
        case rest =>
         clear HC13
         try clear c1
         try clear p1
         try clear q1
         try clear hx1
         try clear c2
         try clear p2
         try clear c5
         try clear c5b0
         try clear c6
         try clear c6b0
         try clear c6b1
         try clear p6
         try clear c10
         try clear c10b0
         try clear c11
         try clear c11b0
         try clear p12
         try clear q12
         try clear hx12
         try clear c15
         try clear c15b0
         try clear c15b1
         try clear hcz14_0
         try clear hcz14_1
         try clear hcz14_2
         try clear hcz3_0
         try clear hcz3_1
         try clear hcz3_2
         try clear hcz4_0
         try clear hcz4_1
         try clear hcz4_2
         try clear hcz8_0
         try clear hcz8_1
         try clear hcz8_2
         try clear hfz14_0
         try clear hfz14_1
         try clear hfz14_2
         try clear hfz3_0
         try clear hfz3_1
         try clear hfz3_2
         try clear hfz4_0
         try clear hfz4_1
         try clear hfz4_2
         try clear hfz8_0
         try clear hfz8_1
         try clear hfz8_2
         try clear p12
         try clear p2
         try clear q12
         obtain ⟨kq, x50_12, rfl, HA, HJ12, HI0, HK, HB⟩ := hcut
         cases kq with
         | zero => exact absurd HA.out (by simp [jAm.j1])
         | succ kj12 =>
          have H := HA.out
          clear HA
          simp only [jAm.j1] at H
          by_cases c16 : x50_12 = true
          ·subst c16
           have H1 : ((jAy.f x1000_1 (wrap64 (x1001_1 + 1)) x1002_1).bind fun bt132 => (some (bt132.1, bt132.2.1, bt132.2.2.1, bt132.2.2.2))) = some (r1, r2, r3, r4) := by rw [if_pos rfl] at H; exact H
           clear H
           have H := H1
           clear H1
           replace H := Option.bind_eq_some_iff.mp H
           obtain ⟨⟨t132, t133, t134, t135⟩, A170, H⟩ := H
           replace H : (some (t132, t133, t134, t135)) = some (r1, r2, r3, r4) := H
           have A17 := jAa.mk A170
           clear A170
           simp only [Option.some.injEq, Prod.mk.injEq] at H
           obtain ⟨rfl, rfl, rfl, rfl⟩ := H
           go_wp2_with (first | (go_at_call 94; (with_reducible refine (jAy.calls g x1000_1 (wrap64 (x1001_1 + 1)) x1002_1 t132 t133 t134 t135 w0 _ ?side1 ?side2 A17.out).mono ?_); (case side1 => repeat (first | (with_reducible first | exact HI0.out | apply jAc.alloc | apply jAc.drewN | apply jAc.drew | apply jAc.set_0 | apply jAc.set_1 | apply jAc.set_2) | exact HI0.out)); (case side2 => repeat (first | (with_reducible first | exact HB.out | apply jAj | apply jAd | apply jAk | refine jAh ?_ (jAc.ge HI0.out)) | exact HB.out)); rintro e w18 ⟨rfl, hi, hb, hk⟩; have n0_ := jAa.mk (jAn.trans (by repeat (first | (with_reducible first | exact HK.out | apply jAn.set_ | apply jAs | apply jAw | apply jAt) | exact HK.out)) hk (.inl rfl)); have n1_ := jAa.mk (hb); have n2_ := jAa.mk (hi); clear HK; clear HB; clear HI0; have HK := n0_; have HB := n1_; have HI0 := n2_; clear n0_ n1_ n2_; (try clear hb); (try clear hb2); (try clear hk); (try clear hi)))
           repeat (go_quiet (first | (go_at_call 94; (with_reducible refine (jAy.calls g x1000_1 (wrap64 (x1001_1 + 1)) x1002_1 t132 t133 t134 t135 w0 _ ?side1 ?side2 A17.out).mono ?_); (case side1 => repeat (first | (with_reducible first | exact HI0.out | apply jAc.alloc | apply jAc.drewN | apply jAc.drew | apply jAc.set_0 | apply jAc.set_1 | apply jAc.set_2) | exact HI0.out)); (case side2 => repeat (first | (with_reducible first | exact HB.out | apply jAj | apply jAd | apply jAk | refine jAh ?_ (jAc.ge HI0.out)) | exact HB.out)); rintro e w18 ⟨rfl, hi, hb, hk⟩; have n0_ := jAa.mk (jAn.trans (by repeat (first | (with_reducible first | exact HK.out | apply jAn.set_ | apply jAs | apply jAw | apply jAt) | exact HK.out)) hk (.inl rfl)); have n1_ := jAa.mk (hb); have n2_ := jAa.mk (hi); clear HK; clear HB; clear HI0; have HK := n0_; have HB := n1_; have HI0 := n2_; clear n0_ n1_ n2_; (try clear hb); (try clear hb2); (try clear hk); (try clear hi))); try go_wp2_with (first | (go_at_call 94; (with_reducible refine (jAy.calls g x1000_1 (wrap64 (x1001_1 + 1)) x1002_1 t132 t133 t134 t135 w0 _ ?side1 ?side2 A17.out).mono ?_); (case side1 => repeat (first | (with_reducible first | exact HI0.out | apply jAc.alloc | apply jAc.drewN | apply jAc.drew | apply jAc.set_0 | apply jAc.set_1 | apply jAc.set_2) | exact HI0.out)); (case side2 => repeat (first | (with_reducible first | exact HB.out | apply jAj | apply jAd | apply jAk | refine jAh ?_ (jAc.ge HI0.out)) | exact HB.out)); rintro e w18 ⟨rfl, hi, hb, hk⟩; have n0_ := jAa.mk (jAn.trans (by repeat (first | (with_reducible first | exact HK.out | apply jAn.set_ | apply jAs | apply jAw | apply jAt) | exact HK.out)) hk (.inl rfl)); have n1_ := jAa.mk (hb); have n2_ := jAa.mk (hi); clear HK; clear HB; clear HI0; have HK := n0_; have HB := n1_; have HI0 := n2_; clear n0_ n1_ n2_; (try clear hb); (try clear hb2); (try clear hk); (try clear hi))))
           go_ret
           exact ⟨by first | rfl | (simp [jBd, jBe] <;> rfl) | (simp [*, jBd, jBe] <;> rfl), by repeat (first | (with_reducible first | exact HI0.out | apply jAc.alloc | apply jAc.drewN | apply jAc.drew | apply jAc.set_0 | apply jAc.set_1 | apply jAc.set_2) | exact HI0.out), by repeat (first | (with_reducible first | exact HB.out | apply jAj | apply jAd | apply jAk | refine jAh ?_ (jAc.ge HI0.out)) | exact HB.out), by repeat (first | (with_reducible first | exact HK.out | apply jAn.set_ | apply jAs | apply jAw | apply jAt) | exact HK.out)⟩
          ·replace c16 := Bool.eq_false_iff.mpr c16
           subst c16
           have H1 : (if 0 ≤ (wrap64 (7 * x14_1)) then (if (bt x1000_1 x1001_1) < 128 then (if (bt x1000_1 x1001_1) = 0 then (jAm.j2 kj12 (Go.bits .or .u64 x3_1 (shl .u64 (IntKind.u64.wrap (Go.bits .and .u8 (bt x1000_1 x1001_1) 127)) (wrap64 (7 * x14_1)))) (decide (x14_1 > 0)) x1000_1 (wrap64 (x1001_1 + 1)) x1002_1) else (jAm.j2 kj12 (Go.bits .or .u64 x3_1 (shl .u64 (IntKind.u64.wrap (Go.bits .and .u8 (bt x1000_1 x1001_1) 127)) (wrap64 (7 * x14_1)))) false x1000_1 (wrap64 (x1001_1 + 1)) x1002_1)) else (jAm.l0 kj12 (Go.bits .or .u64 x3_1 (shl .u64 (IntKind.u64.wrap (Go.bits .and .u8 (bt x1000_1 x1001_1) 127)) (wrap64 (7 * x14_1)))) (wrap64 (x14_1 + 1)) x1000_1 (wrap64 (x1001_1 + 1)) x1002_1)) else (none)) = some (r1, r2, r3, r4) := by rw [if_neg (show ¬ (false = true) by decide)] at H; exact H
           clear H
           have H := H1
           clear H1
           obtain ⟨ji19, hji19⟩ : ∃ j_ : Int, (wrap64 (7 * x14_1)) = j_ := ⟨_, rfl⟩
           replace H : (if 0 ≤ (ji19) then (if (bt x1000_1 x1001_1) < 128 then (if (bt x1000_1 x1001_1) = 0 then (jAm.j2 kj12 (Go.bits .or .u64 x3_1 (shl .u64 (IntKind.u64.wrap (Go.bits .and .u8 (bt x1000_1 x1001_1) 127)) (ji19))) (decide (x14_1 > 0)) x1000_1 (wrap64 (x1001_1 + 1)) x1002_1) else (jAm.j2 kj12 (Go.bits .or .u64 x3_1 (shl .u64 (IntKind.u64.wrap (Go.bits .and .u8 (bt x1000_1 x1001_1) 127)) (ji19))) false x1000_1 (wrap64 (x1001_1 + 1)) x1002_1)) else (jAm.l0 kj12 (Go.bits .or .u64 x3_1 (shl .u64 (IntKind.u64.wrap (Go.bits .and .u8 (bt x1000_1 x1001_1) 127)) (ji19))) (wrap64 (x14_1 + 1)) x1000_1 (wrap64 (x1001_1 + 1)) x1002_1)) else (none)) = some (r1, r2, r3, r4) := by first | (rw [hji19] at H; exact H) | (simp only [hji19] at H ⊢; exact H)
           have hji19w : (IntKind.i64.wrap (7 * x14_1)) = ji19 := (i64_w _).trans hji19
           by_cases c20 : 0 ≤ (ji19)
           ·rw [if_pos c20] at H
            have c20b0 := eq_true c20
            have c20b1 : decide (0 ≤ (ji19)) = true := decide_eq_true c20
            clear c20
            obtain ⟨ji21, hji21⟩ : ∃ j_ : Int, (shl .u64 (IntKind.u64.wrap (Go.bits .and .u8 (bt x1000_1 x1001_1) 127)) (ji19)) = j_ := ⟨_, rfl⟩
            replace H : (if (bt x1000_1 x1001_1) < 128 then (if (bt x1000_1 x1001_1) = 0 then (jAm.j2 kj12 (Go.bits .or .u64 x3_1 (ji21)) (decide (x14_1 > 0)) x1000_1 (wrap64 (x1001_1 + 1)) x1002_1) else (jAm.j2 kj12 (Go.bits .or .u64 x3_1 (ji21)) false x1000_1 (wrap64 (x1001_1 + 1)) x1002_1)) else (jAm.l0 kj12 (Go.bits .or .u64 x3_1 (ji21)) (wrap64 (x14_1 + 1)) x1000_1 (wrap64 (x1001_1 + 1)) x1002_1)) = some (r1, r2, r3, r4) := by first | (rw [hji21] at H; exact H) | (simp only [hji21] at H ⊢; exact H)
            have hji21_ : (IntKind.u64.wrap ((IntKind.u64.wrap (Go.bits .and .u8 (bt x1000_1 x1001_1) 127)) * 2 ^ min (ji19).toNat 64)) = ji21 := hji21
            have hji21z : (ji19) ≤ 64 → (IntKind.u64.wrap ((IntKind.u64.wrap (Go.bits .and .u8 (bt x1000_1 x1001_1) 127)) * 2 ^ (ji19).toNat)) = ji21 := shl_small hji21
            by_cases c22 : (bt x1000_1 x1001_1) < 128
            ·rw [if_pos c22] at H
             have c22b0 : decide ((bt x1000_1 x1001_1) < 128) = true := decide_eq_true c22
             clear c22
             have HC23 := jAa.mk H
             clear H
             go_upto_region 15 with (fail)
             repeat (go_quiet (fail); go_upto_region 15 with (fail))
             go_cut [68] (fun v68 wc => ∃ (kq : Nat) (x68_22 : Bool), v68 = .bool x68_22 ∧ jAa (jAm.j2 kq (Go.bits .or .u64 x3_1 (ji21)) x68_22 x1000_1 (wrap64 (x1001_1 + 1)) x1002_1 = some (r1, r2, r3, r4)) ∧ jAa (kq ≤ kj12) ∧ jAa (jAc w0 wc g x1000_1 (wrap64 (x1001_1 + 1)) x1002_1) ∧ jAa (jAn w wc g none) ∧ jAa (Below w0.heap.size w0 wc))
             case first =>
              have H := HC23.out
              clear HC23
              by_cases c24 : (bt x1000_1 x1001_1) = 0
              ·rw [if_pos c24] at H
               have c24b0 : ((bt x1000_1 x1001_1) == 0) = true := beq_iff_eq.mpr c24
               have c24b1 : ((bt x1000_1 x1001_1) != 0) = false := bne_eq_false_iff_eq.mpr c24
               clear c24
               (first | rw [c24b0] | (simp only [i64_w, i32_w]; rw [c24b0]) | skip)
               have H' := jAa.mk H
               clear H
               go_wp2
               repeat (go_quiet (fail); try go_wp2)
               go_meet
               case rel => exact ⟨_, (decide (x14_1 > 0)), (by first | rfl | (simp; done) | (simp [*]; done)), H', ⟨by have := HK1.out; have := HJ12.out; first | omega | exact Nat.le_refl _⟩, ⟨by repeat (first | (with_reducible first | exact HI0.out | apply jAc.alloc | apply jAc.drewN | apply jAc.drew | apply jAc.set_0 | apply jAc.set_1 | apply jAc.set_2) | exact HI0.out)⟩, ⟨by repeat (first | (with_reducible first | exact HK.out | apply jAn.set_ | apply jAs | apply jAw | apply jAt) | exact HK.out)⟩, ⟨by repeat (first | (with_reducible first | exact HB.out | apply jAj | apply jAd | apply jAk | refine jAh ?_ (jAc.ge HI0.out)) | exact HB.out)⟩⟩
              ·rw [if_neg c24] at H
               have c24b0 : ((bt x1000_1 x1001_1) == 0) = false := beq_eq_false_iff_ne.mpr c24
               have c24b1 : ((bt x1000_1 x1001_1) != 0) = true := bne_iff_ne.mpr c24
               (first | rw [c24b0] | (simp only [i64_w, i32_w]; rw [c24b0]) | skip)
               have H' := jAa.mk H
               clear H
               go_wp2
               repeat (go_quiet (fail); try go_wp2)
               go_meet
               case rel => exact ⟨_, (false), (by first | rfl | (simp; done) | (simp [*]; done)), H', ⟨by have := HK1.out; have := HJ12.out; first | omega | exact Nat.le_refl _⟩, ⟨by repeat (first | (with_reducible first | exact HI0.out | apply jAc.alloc | apply jAc.drewN | apply jAc.drew | apply jAc.set_0 | apply jAc.set_1 | apply jAc.set_2) | exact HI0.out)⟩, ⟨by repeat (first | (with_reducible first | exact HK.out | apply jAn.set_ | apply jAs | apply jAw | apply jAt) | exact HK.out)⟩, ⟨by repeat (first | (with_reducible first | exact HB.out | apply jAj | apply jAd | apply jAk | refine jAh ?_ (jAc.ge HI0.out)) | exact HB.out)⟩⟩
             case rest =>
              clear HC23
              try clear c1
              try clear p1
              try clear q1
              try clear hx1
              try clear c2
              try clear p2
              try clear c5
              try clear c5b0
              try clear c6
              try clear c6b0
              try clear c6b1
              try clear p6
              try clear c10
              try clear c10b0
              try clear c11
              try clear c11b0
              try clear p12
              try clear q12
              try clear hx12
              try clear c15
              try clear c15b0
              try clear c15b1
              try clear c16
              try clear c20
              try clear c20b0
              try clear c20b1
              try clear c22
              try clear c22b0
              try clear c24
              try clear c24b0
              try clear c24b1
              try clear hcz14_0
              try clear hcz14_1
              try clear hcz14_2
              try clear hcz3_0
              try clear hcz3_1
              try clear hcz3_2
              try clear hcz4_0
              try clear hcz4_1
              try clear hcz4_2
              try clear hcz8_0
              try clear hcz8_1
              try clear hcz8_2
              try clear hfz14_0
              try clear hfz14_1
              try clear hfz14_2
              try clear hfz3_0
              try clear hfz3_1
              try clear hfz3_2
              try clear hfz4_0
              try clear hfz4_1
              try clear hfz4_2
              try clear hfz8_0
              try clear hfz8_1
              try clear hfz8_2
              try clear p1
              try clear p12
              try clear p2
              try clear p6
              try clear q1
              try clear q12
              obtain ⟨kq, x68_22, rfl, HA, HJ22, HI0, HK, HB⟩ := hcut
              cases kq with
              | zero => exact absurd HA.out (by simp [jAm.j2])
              | succ kj22 =>
               have H := HA.out
               clear HA
               simp only [jAm.j2] at H
               by_cases c25 : x68_22 = true
               ·subst c25
                have H1 : ((jAy.f x1000_1 (wrap64 (x1001_1 + 1)) x1002_1).bind fun bt136 => (some (bt136.1, bt136.2.1, bt136.2.2.1, bt136.2.2.2))) = some (r1, r2, r3, r4) := by rw [if_pos rfl] at H; exact H
                clear H
                have H := H1
                clear H1
                replace H := Option.bind_eq_some_iff.mp H
                obtain ⟨⟨t136, t137, t138, t139⟩, A260, H⟩ := H
                replace H : (some (t136, t137, t138, t139)) = some (r1, r2, r3, r4) := H
                have A26 := jAa.mk A260
                clear A260
                simp only [Option.some.injEq, Prod.mk.injEq] at H
                obtain ⟨rfl, rfl, rfl, rfl⟩ := H
                go_wp2_with (first | (go_at_call 94; (with_reducible refine (jAy.calls g x1000_1 (wrap64 (x1001_1 + 1)) x1002_1 t136 t137 t138 t139 w0 _ ?side1 ?side2 A26.out).mono ?_); (case side1 => repeat (first | (with_reducible first | exact HI0.out | apply jAc.alloc | apply jAc.drewN | apply jAc.drew | apply jAc.set_0 | apply jAc.set_1 | apply jAc.set_2) | exact HI0.out)); (case side2 => repeat (first | (with_reducible first | exact HB.out | apply jAj | apply jAd | apply jAk | refine jAh ?_ (jAc.ge HI0.out)) | exact HB.out)); rintro e w27 ⟨rfl, hi, hb, hk⟩; have n0_ := jAa.mk (jAn.trans (by repeat (first | (with_reducible first | exact HK.out | apply jAn.set_ | apply jAs | apply jAw | apply jAt) | exact HK.out)) hk (.inl rfl)); have n1_ := jAa.mk (hb); have n2_ := jAa.mk (hi); clear HK; clear HB; clear HI0; have HK := n0_; have HB := n1_; have HI0 := n2_; clear n0_ n1_ n2_; (try clear hb); (try clear hb2); (try clear hk); (try clear hi)))
                repeat (go_quiet (first | (go_at_call 94; (with_reducible refine (jAy.calls g x1000_1 (wrap64 (x1001_1 + 1)) x1002_1 t136 t137 t138 t139 w0 _ ?side1 ?side2 A26.out).mono ?_); (case side1 => repeat (first | (with_reducible first | exact HI0.out | apply jAc.alloc | apply jAc.drewN | apply jAc.drew | apply jAc.set_0 | apply jAc.set_1 | apply jAc.set_2) | exact HI0.out)); (case side2 => repeat (first | (with_reducible first | exact HB.out | apply jAj | apply jAd | apply jAk | refine jAh ?_ (jAc.ge HI0.out)) | exact HB.out)); rintro e w27 ⟨rfl, hi, hb, hk⟩; have n0_ := jAa.mk (jAn.trans (by repeat (first | (with_reducible first | exact HK.out | apply jAn.set_ | apply jAs | apply jAw | apply jAt) | exact HK.out)) hk (.inl rfl)); have n1_ := jAa.mk (hb); have n2_ := jAa.mk (hi); clear HK; clear HB; clear HI0; have HK := n0_; have HB := n1_; have HI0 := n2_; clear n0_ n1_ n2_; (try clear hb); (try clear hb2); (try clear hk); (try clear hi))); try go_wp2_with (first | (go_at_call 94; (with_reducible refine (jAy.calls g x1000_1 (wrap64 (x1001_1 + 1)) x1002_1 t136 t137 t138 t139 w0 _ ?side1 ?side2 A26.out).mono ?_); (case side1 => repeat (first | (with_reducible first | exact HI0.out | apply jAc.alloc | apply jAc.drewN | apply jAc.drew | apply jAc.set_0 | apply jAc.set_1 | apply jAc.set_2) | exact HI0.out)); (case side2 => repeat (first | (with_reducible first | exact HB.out | apply jAj | apply jAd | apply jAk | refine jAh ?_ (jAc.ge HI0.out)) | exact HB.out)); rintro e w27 ⟨rfl, hi, hb, hk⟩; have n0_ := jAa.mk (jAn.trans (by repeat (first | (with_reducible first | exact HK.out | apply jAn.set_ | apply jAs | apply jAw | apply jAt) | exact HK.out)) hk (.inl rfl)); have n1_ := jAa.mk (hb); have n2_ := jAa.mk (hi); clear HK; clear HB; clear HI0; have HK := n0_; have HB := n1_; have HI0 := n2_; clear n0_ n1_ n2_; (try clear hb); (try clear hb2); (try clear hk); (try clear hi))))
                go_ret
                exact ⟨by first | rfl | (simp [jBd, jBe] <;> rfl) | (simp only [← hji19, ← hji21]; first | rfl | (simp [jBd, jBe] <;> rfl)) | (simp [*, jBd, jBe] <;> rfl), by repeat (first | (with_reducible first | exact HI0.out | apply jAc.alloc | apply jAc.drewN | apply jAc.drew | apply jAc.set_0 | apply jAc.set_1 | apply jAc.set_2) | exact HI0.out), by repeat (first | (with_reducible first | exact HB.out | apply jAj | apply jAd | apply jAk | refine jAh ?_ (jAc.ge HI0.out)) | exact HB.out), by repeat (first | (with_reducible first | exact HK.out | apply jAn.set_ | apply jAs | apply jAw | apply jAt) | exact HK.out)⟩
               ·replace c25 := Bool.eq_false_iff.mpr c25
                subst c25
                have H1 : ((jDw.f (Go.bits .or .u64 x3_1 (ji21))).bind fun t140 => (some (t140, x1000_1, (wrap64 (x1001_1 + 1)), x1002_1))) = some (r1, r2, r3, r4) := by rw [if_neg (show ¬ (false = true) by decide)] at H; exact H
                clear H
                have H := H1
                clear H1
                replace H := Option.bind_eq_some_iff.mp H
                obtain ⟨t140, A280, H⟩ := H
                replace H : (some (t140, x1000_1, (wrap64 (x1001_1 + 1)), x1002_1)) = some (r1, r2, r3, r4) := H
                have A28 := jAa.mk A280
                clear A280
                simp only [Option.some.injEq, Prod.mk.injEq] at H
                obtain ⟨rfl, rfl, rfl, rfl⟩ := H
                go_wp2_with (first | (go_at_call 95; (with_reducible refine (jDw.calls (Go.bits .or .u64 x3_1 (ji21)) t140 _ A28.out).mono ?_); rintro e w' ⟨rfl, ⟨nd, rfl⟩⟩; (try first | exact ⟨rfl, _, World.drewN_drewN _ _ _⟩ | exact ⟨rfl, _, Eq.trans (World.drewN_drewN _ _ _) (congrArg (World.drewN _) (Nat.add_assoc _ _ _))⟩)))
                repeat (go_quiet (first | (go_at_call 95; (with_reducible refine (jDw.calls (Go.bits .or .u64 x3_1 (ji21)) t140 _ A28.out).mono ?_); rintro e w' ⟨rfl, ⟨nd, rfl⟩⟩; (try first | exact ⟨rfl, _, World.drewN_drewN _ _ _⟩ | exact ⟨rfl, _, Eq.trans (World.drewN_drewN _ _ _) (congrArg (World.drewN _) (Nat.add_assoc _ _ _))⟩))); try go_wp2_with (first | (go_at_call 95; (with_reducible refine (jDw.calls (Go.bits .or .u64 x3_1 (ji21)) t140 _ A28.out).mono ?_); rintro e w' ⟨rfl, ⟨nd, rfl⟩⟩; (try first | exact ⟨rfl, _, World.drewN_drewN _ _ _⟩ | exact ⟨rfl, _, Eq.trans (World.drewN_drewN _ _ _) (congrArg (World.drewN _) (Nat.add_assoc _ _ _))⟩))))
                go_ret
                exact ⟨by first | rfl | (simp [jBd, jBe] <;> rfl) | (simp only [← hji19, ← hji21]; first | rfl | (simp [jBd, jBe] <;> rfl)) | (simp [*, jBd, jBe] <;> rfl), by repeat (first | (with_reducible first | exact HI0.out | apply jAc.alloc | apply jAc.drewN | apply jAc.drew | apply jAc.set_0 | apply jAc.set_1 | apply jAc.set_2) | exact HI0.out), by repeat (first | (with_reducible first | exact HB.out | apply jAj | apply jAd | apply jAk | refine jAh ?_ (jAc.ge HI0.out)) | exact HB.out), by repeat (first | (with_reducible first | exact HK.out | apply jAn.set_ | apply jAs | apply jAw | apply jAt) | exact HK.out)⟩
            ·rw [if_neg c22] at H
             have c22b0 : decide ((bt x1000_1 x1001_1) < 128) = false := decide_eq_false c22
             clear c22
             have H' := jAa.mk H
             clear H
             go_wp2
             repeat (go_quiet (fail); try go_wp2)
             go_roundg kj12
             case measure => have := HK1.out; have := HJ12.out; omega
             case rel => exact ⟨(Go.bits .or .u64 x3_1 (ji21)), (wrap64 (x14_1 + 1)), (x1000_1), ((wrap64 (x1001_1 + 1))), (x1002_1), (by first | rfl | (simp; done) | (simp only [← hji21] <;> (first | rfl | simp)) | (simp [*]; done)), (by first | rfl | (simp; done) | (simp [*]; done)), H', ⟨by have := HK1.out; have := HJ12.out; omega⟩, ⟨by repeat (first | (with_reducible first | exact HI0.out | apply jAc.alloc | apply jAc.drewN | apply jAc.drew | apply jAc.set_0 | apply jAc.set_1 | apply jAc.set_2) | exact HI0.out)⟩, ⟨by repeat (first | (with_reducible first | exact HK.out | apply jAn.set_ | apply jAs | apply jAw | apply jAt) | exact HK.out)⟩, ⟨by repeat (first | (with_reducible first | exact HB.out | apply jAj | apply jAd | apply jAk | refine jAh ?_ (jAc.ge HI0.out)) | exact HB.out)⟩⟩
           ·rw [if_neg c20] at H
            exact absurd H (by simp)
       ·rw [if_neg c11] at H
        exact absurd H (by simp)
      ·rw [if_neg c10] at H
       exact absurd H (by simp)
    ·rw [if_neg c5] at H
     have c5b0 : decide (x14_1 < 10) = false := decide_eq_false c5
     clear c5
     replace H := Option.bind_eq_some_iff.mp H
     obtain ⟨⟨t124, t125, t126, t127⟩, A290, H⟩ := H
     replace H : (some (t124, t125, t126, t127)) = some (r1, r2, r3, r4) := H
     have A29 := jAa.mk A290
     clear A290
     simp only [Option.some.injEq, Prod.mk.injEq] at H
     obtain ⟨rfl, rfl, rfl, rfl⟩ := H
     go_wp2_with (first | (go_at_call 94; (with_reducible refine (jAy.calls g x1000_1 x1001_1 x1002_1 t124 t125 t126 t127 w0 _ ?side1 ?side2 A29.out).mono ?_); (case side1 => repeat (first | (with_reducible first | exact HI0.out | apply jAc.alloc | apply jAc.drewN | apply jAc.drew | apply jAc.set_0 | apply jAc.set_1 | apply jAc.set_2) | exact HI0.out)); (case side2 => repeat (first | (with_reducible first | exact HB.out | apply jAj | apply jAd | apply jAk | refine jAh ?_ (jAc.ge HI0.out)) | exact HB.out)); rintro e w30 ⟨rfl, hi, hb, hk⟩; have n0_ := jAa.mk (jAn.trans (by repeat (first | (with_reducible first | exact HK.out | apply jAn.set_ | apply jAs | apply jAw | apply jAt) | exact HK.out)) hk (.inl rfl)); have n1_ := jAa.mk (hb); have n2_ := jAa.mk (hi); clear HK; clear HB; clear HI0; have HK := n0_; have HB := n1_; have HI0 := n2_; clear n0_ n1_ n2_; (try clear hb); (try clear hb2); (try clear hk); (try clear hi)))
     repeat (go_quiet (first | (go_at_call 94; (with_reducible refine (jAy.calls g x1000_1 x1001_1 x1002_1 t124 t125 t126 t127 w0 _ ?side1 ?side2 A29.out).mono ?_); (case side1 => repeat (first | (with_reducible first | exact HI0.out | apply jAc.alloc | apply jAc.drewN | apply jAc.drew | apply jAc.set_0 | apply jAc.set_1 | apply jAc.set_2) | exact HI0.out)); (case side2 => repeat (first | (with_reducible first | exact HB.out | apply jAj | apply jAd | apply jAk | refine jAh ?_ (jAc.ge HI0.out)) | exact HB.out)); rintro e w30 ⟨rfl, hi, hb, hk⟩; have n0_ := jAa.mk (jAn.trans (by repeat (first | (with_reducible first | exact HK.out | apply jAn.set_ | apply jAs | apply jAw | apply jAt) | exact HK.out)) hk (.inl rfl)); have n1_ := jAa.mk (hb); have n2_ := jAa.mk (hi); clear HK; clear HB; clear HI0; have HK := n0_; have HB := n1_; have HI0 := n2_; clear n0_ n1_ n2_; (try clear hb); (try clear hb2); (try clear hk); (try clear hi))); try go_wp2_with (first | (go_at_call 94; (with_reducible refine (jAy.calls g x1000_1 x1001_1 x1002_1 t124 t125 t126 t127 w0 _ ?side1 ?side2 A29.out).mono ?_); (case side1 => repeat (first | (with_reducible first | exact HI0.out | apply jAc.alloc | apply jAc.drewN | apply jAc.drew | apply jAc.set_0 | apply jAc.set_1 | apply jAc.set_2) | exact HI0.out)); (case side2 => repeat (first | (with_reducible first | exact HB.out | apply jAj | apply jAd | apply jAk | refine jAh ?_ (jAc.ge HI0.out)) | exact HB.out)); rintro e w30 ⟨rfl, hi, hb, hk⟩; have n0_ := jAa.mk (jAn.trans (by repeat (first | (with_reducible first | exact HK.out | apply jAn.set_ | apply jAs | apply jAw | apply jAt) | exact HK.out)) hk (.inl rfl)); have n1_ := jAa.mk (hb); have n2_ := jAa.mk (hi); clear HK; clear HB; clear HI0; have HK := n0_; have HB := n1_; have HI0 := n2_; clear n0_ n1_ n2_; (try clear hb); (try clear hb2); (try clear hk); (try clear hi))))
     go_ret
     exact ⟨by first | rfl | (simp [jBd, jBe] <;> rfl) | (simp [*, jBd, jBe] <;> rfl), by repeat (first | (with_reducible first | exact HI0.out | apply jAc.alloc | apply jAc.drewN | apply jAc.drew | apply jAc.set_0 | apply jAc.set_1 | apply jAc.set_2) | exact HI0.out), by repeat (first | (with_reducible first | exact HB.out | apply jAj | apply jAd | apply jAk | refine jAh ?_ (jAc.ge HI0.out)) | exact HB.out), by repeat (first | (with_reducible first | exact HK.out | apply jAn.set_ | apply jAs | apply jAw | apply jAt) | exact HK.out)⟩
end Go.Proofs.YtefdfgmlmjnmlaaDoor.Rf
end

section
set_option linter.unusedVariables false
set_option linter.unusedSimpArgs false
namespace Go.Proofs.YtefdfgmlmjnmlaaDoor.Rf
open Go.RowKit Go.Proofs.YtefdfgmlmjnmlaaDoorW.PrintWords Go.Proofs.YtefdfgmlmjnmlaaDoorW.PrintLast Go.Proofs.YtefdfgmlmjnmlaaDoorW.PrintMore
attribute [local go_sem] jCg jCo
def jBk.f (k : Nat) (s0_0 : ByteArray) (s0_1 : Int) (s0_2 : Bool) (a1 : Int) : Option (Int × ByteArray × Int × Bool) := (jAm.f k s0_0 s0_1 s0_2).bind fun bt141 => (if bt141.2.2.2 = true then (some (0, bt141.2.1, bt141.2.2.1, bt141.2.2.2)) else (if bt141.1 < 0 then ((jAy.f bt141.2.1 bt141.2.2.1 bt141.2.2.2).bind fun bt145 => (some (bt145.1, bt145.2.1, bt145.2.2.1, bt145.2.2.2))) else (if bt141.1 > a1 then ((jAy.f bt141.2.1 bt141.2.2.1 bt141.2.2.2).bind fun bt149 => (some (bt149.1, bt149.2.1, bt149.2.2.1, bt149.2.2.2))) else (if bt141.1 > (wrap64 ((bt141.2.1.size : Int) - bt141.2.2.1)) then ((jAy.f bt141.2.1 bt141.2.2.1 bt141.2.2.2).bind fun bt153 => (some (bt153.1, bt153.2.1, bt153.2.2.1, bt153.2.2.2))) else (some (bt141.1, bt141.2.1, bt141.2.2.1, bt141.2.2.2))))))
set_option maxHeartbeats 8000000 in
set_option maxRecDepth 100000 in
theorem jBk.calls (k : Nat) (g : Nat) (s0_0 : ByteArray) (s0_1 : Int) (s0_2 : Bool) (a1 : Int) (r1 : Int) (r2 : ByteArray) (r3 : Int) (r4 : Bool) (w0 w : World) (hI : jAc w0 w g s0_0 s0_1 s0_2) (hB : Below w0.heap.size w0 w) (h : jBk.f k s0_0 s0_1 s0_2 a1 = some (r1, r2, r3, r4)) :
  Calls Tryd.prog 66 #[.pointer (some ⟨g, 0, none⟩), .int .i64 a1] w fun e w' => e = .returned (.int .i64 r1) ∧ jAc w0 w' g r2 r3 r4 ∧ Below w0.heap.size w0 w' ∧ jAn w w' g none := by
 have HI0 := jAa.mk hI
 have HK := jAa.mk (jAn.refl w g none)
 have HL := jAa.mk hB.size
 clear hI
 have HW0 := jAa.mk hB.size
 have HB := jAa.mk hB
 clear hB
 have H : ((jAm.f k s0_0 s0_1 s0_2).bind fun bt141 => (if bt141.2.2.2 = true then (some (0, bt141.2.1, bt141.2.2.1, bt141.2.2.2)) else (if bt141.1 < 0 then ((jAy.f bt141.2.1 bt141.2.2.1 bt141.2.2.2).bind fun bt145 => (some (bt145.1, bt145.2.1, bt145.2.2.1, bt145.2.2.2))) else (if bt141.1 > a1 then ((jAy.f bt141.2.1 bt141.2.2.1 bt141.2.2.2).bind fun bt149 => (some (bt149.1, bt149.2.1, bt149.2.2.1, bt149.2.2.2))) else (if bt141.1 > (wrap64 ((bt141.2.1.size : Int) - bt141.2.2.1)) then ((jAy.f bt141.2.1 bt141.2.2.1 bt141.2.2.2).bind fun bt153 => (some (bt153.1, bt153.2.1, bt153.2.2.1, bt153.2.2.2))) else (some (bt141.1, bt141.2.1, bt141.2.2.1, bt141.2.2.2))))))) = some (r1, r2, r3, r4) := h
 clear h
 replace H := Option.bind_eq_some_iff.mp H
 obtain ⟨⟨t141, t142, t143, t144⟩, A30, H⟩ := H
 replace H : (if t144 = true then (some (0, t142, t143, t144)) else (if t141 < 0 then ((jAy.f t142 t143 t144).bind fun bt145 => (some (bt145.1, bt145.2.1, bt145.2.2.1, bt145.2.2.2))) else (if t141 > a1 then ((jAy.f t142 t143 t144).bind fun bt149 => (some (bt149.1, bt149.2.1, bt149.2.2.1, bt149.2.2.2))) else (if t141 > (wrap64 ((t142.size : Int) - t143)) then ((jAy.f t142 t143 t144).bind fun bt153 => (some (bt153.1, bt153.2.1, bt153.2.2.1, bt153.2.2.2))) else (some (t141, t142, t143, t144)))))) = some (r1, r2, r3, r4) := H
 have A3 := jAa.mk A30
 clear A30
 by_cases c4 : t144 = true
 ·subst c4
  have H1 : (some (0, t142, t143, true)) = some (r1, r2, r3, r4) := by rw [if_pos rfl] at H; exact H
  clear H
  have H := H1
  clear H1
  simp only [Option.some.injEq, Prod.mk.injEq] at H
  obtain ⟨rfl, rfl, rfl, rfl⟩ := H
  go_enter Tryd.func66, Tryd.ntmps66
  go_wp2_with (first | (go_at_call 65; (with_reducible refine (jAm.calls k g s0_0 s0_1 s0_2 t141 t142 t143 true w0 _ ?side1 ?side2 A3.out).mono ?_); (case side1 => repeat (first | (with_reducible first | exact HI0.out | apply jAc.alloc | apply jAc.drewN | apply jAc.drew | apply jAc.set_0 | apply jAc.set_1 | apply jAc.set_2) | exact HI0.out)); (case side2 => repeat (first | (with_reducible first | exact HB.out | apply jAj | apply jAd | apply jAk | refine jAh ?_ (jAc.ge HI0.out)) | exact HB.out)); rintro e w5 ⟨rfl, hi, hb, hk⟩; have n0_ := jAa.mk (jAn.trans (by repeat (first | (with_reducible first | exact HK.out | apply jAn.set_ | apply jAs | apply jAw | apply jAt) | exact HK.out)) hk (.inl rfl)); have n1_ := jAa.mk (hb); have n2_ := jAa.mk (hi); clear HK; clear HB; clear HI0; have HK := n0_; have HB := n1_; have HI0 := n2_; clear n0_ n1_ n2_; (try clear hb); (try clear hb2); (try clear hk); (try clear hi); obtain ⟨HGz6, hgz6⟩ := HI0.out; have hcz6_0 := jBw HGz6; have hcz6_1 := jBx HGz6; have hcz6_2 := jBy HGz6; have hfz6_0 := jAg HGz6 0; have hfz6_1 := jAg HGz6 1; have hfz6_2 := jAg HGz6 2; clear HGz6 hgz6))
  repeat (go_quiet (first | (go_at_call 65; (with_reducible refine (jAm.calls k g s0_0 s0_1 s0_2 t141 t142 t143 true w0 _ ?side1 ?side2 A3.out).mono ?_); (case side1 => repeat (first | (with_reducible first | exact HI0.out | apply jAc.alloc | apply jAc.drewN | apply jAc.drew | apply jAc.set_0 | apply jAc.set_1 | apply jAc.set_2) | exact HI0.out)); (case side2 => repeat (first | (with_reducible first | exact HB.out | apply jAj | apply jAd | apply jAk | refine jAh ?_ (jAc.ge HI0.out)) | exact HB.out)); rintro e w5 ⟨rfl, hi, hb, hk⟩; have n0_ := jAa.mk (jAn.trans (by repeat (first | (with_reducible first | exact HK.out | apply jAn.set_ | apply jAs | apply jAw | apply jAt) | exact HK.out)) hk (.inl rfl)); have n1_ := jAa.mk (hb); have n2_ := jAa.mk (hi); clear HK; clear HB; clear HI0; have HK := n0_; have HB := n1_; have HI0 := n2_; clear n0_ n1_ n2_; (try clear hb); (try clear hb2); (try clear hk); (try clear hi); obtain ⟨HGz6, hgz6⟩ := HI0.out; have hcz6_0 := jBw HGz6; have hcz6_1 := jBx HGz6; have hcz6_2 := jBy HGz6; have hfz6_0 := jAg HGz6 0; have hfz6_1 := jAg HGz6 1; have hfz6_2 := jAg HGz6 2; clear HGz6 hgz6)); try go_wp2_with (first | (go_at_call 65; (with_reducible refine (jAm.calls k g s0_0 s0_1 s0_2 t141 t142 t143 true w0 _ ?side1 ?side2 A3.out).mono ?_); (case side1 => repeat (first | (with_reducible first | exact HI0.out | apply jAc.alloc | apply jAc.drewN | apply jAc.drew | apply jAc.set_0 | apply jAc.set_1 | apply jAc.set_2) | exact HI0.out)); (case side2 => repeat (first | (with_reducible first | exact HB.out | apply jAj | apply jAd | apply jAk | refine jAh ?_ (jAc.ge HI0.out)) | exact HB.out)); rintro e w5 ⟨rfl, hi, hb, hk⟩; have n0_ := jAa.mk (jAn.trans (by repeat (first | (with_reducible first | exact HK.out | apply jAn.set_ | apply jAs | apply jAw | apply jAt) | exact HK.out)) hk (.inl rfl)); have n1_ := jAa.mk (hb); have n2_ := jAa.mk (hi); clear HK; clear HB; clear HI0; have HK := n0_; have HB := n1_; have HI0 := n2_; clear n0_ n1_ n2_; (try clear hb); (try clear hb2); (try clear hk); (try clear hi); obtain ⟨HGz6, hgz6⟩ := HI0.out; have hcz6_0 := jBw HGz6; have hcz6_1 := jBx HGz6; have hcz6_2 := jBy HGz6; have hfz6_0 := jAg HGz6 0; have hfz6_1 := jAg HGz6 1; have hfz6_2 := jAg HGz6 2; clear HGz6 hgz6)))
  go_ret
  exact ⟨by first | rfl | (simp [jBd, jBe] <;> rfl) | (simp [*, jBd, jBe] <;> rfl), by repeat (first | (with_reducible first | exact HI0.out | apply jAc.alloc | apply jAc.drewN | apply jAc.drew | apply jAc.set_0 | apply jAc.set_1 | apply jAc.set_2) | exact HI0.out), by repeat (first | (with_reducible first | exact HB.out | apply jAj | apply jAd | apply jAk | refine jAh ?_ (jAc.ge HI0.out)) | exact HB.out), by repeat (first | (with_reducible first | exact HK.out | apply jAn.set_ | apply jAs | apply jAw | apply jAt) | exact HK.out)⟩
 ·replace c4 := Bool.eq_false_iff.mpr c4
  subst c4
  have H1 : (if t141 < 0 then ((jAy.f t142 t143 false).bind fun bt145 => (some (bt145.1, bt145.2.1, bt145.2.2.1, bt145.2.2.2))) else (if t141 > a1 then ((jAy.f t142 t143 false).bind fun bt149 => (some (bt149.1, bt149.2.1, bt149.2.2.1, bt149.2.2.2))) else (if t141 > (wrap64 ((t142.size : Int) - t143)) then ((jAy.f t142 t143 false).bind fun bt153 => (some (bt153.1, bt153.2.1, bt153.2.2.1, bt153.2.2.2))) else (some (t141, t142, t143, false))))) = some (r1, r2, r3, r4) := by rw [if_neg (show ¬ (false = true) by decide)] at H; exact H
  clear H
  have H := H1
  clear H1
  by_cases c7 : t141 < 0
  ·rw [if_pos c7] at H
   have c7b0 : decide (t141 < 0) = true := decide_eq_true c7
   clear c7
   replace H := Option.bind_eq_some_iff.mp H
   obtain ⟨⟨t145, t146, t147, t148⟩, A80, H⟩ := H
   replace H : (some (t145, t146, t147, t148)) = some (r1, r2, r3, r4) := H
   have A8 := jAa.mk A80
   clear A80
   simp only [Option.some.injEq, Prod.mk.injEq] at H
   obtain ⟨rfl, rfl, rfl, rfl⟩ := H
   go_enter Tryd.func66, Tryd.ntmps66
   go_wp2_with (first | (go_at_call 65; (with_reducible refine (jAm.calls k g s0_0 s0_1 s0_2 t141 t142 t143 false w0 _ ?side1 ?side2 A3.out).mono ?_); (case side1 => repeat (first | (with_reducible first | exact HI0.out | apply jAc.alloc | apply jAc.drewN | apply jAc.drew | apply jAc.set_0 | apply jAc.set_1 | apply jAc.set_2) | exact HI0.out)); (case side2 => repeat (first | (with_reducible first | exact HB.out | apply jAj | apply jAd | apply jAk | refine jAh ?_ (jAc.ge HI0.out)) | exact HB.out)); rintro e w9 ⟨rfl, hi, hb, hk⟩; have n0_ := jAa.mk (jAn.trans (by repeat (first | (with_reducible first | exact HK.out | apply jAn.set_ | apply jAs | apply jAw | apply jAt) | exact HK.out)) hk (.inl rfl)); have n1_ := jAa.mk (hb); have n2_ := jAa.mk (hi); clear HK; clear HB; clear HI0; have HK := n0_; have HB := n1_; have HI0 := n2_; clear n0_ n1_ n2_; (try clear hb); (try clear hb2); (try clear hk); (try clear hi); obtain ⟨HGz10, hgz10⟩ := HI0.out; have hcz10_0 := jBw HGz10; have hcz10_1 := jBx HGz10; have hcz10_2 := jBy HGz10; have hfz10_0 := jAg HGz10 0; have hfz10_1 := jAg HGz10 1; have hfz10_2 := jAg HGz10 2; clear HGz10 hgz10) | (go_at_call 94; (with_reducible refine (jAy.calls g t142 t143 false t145 t146 t147 t148 w0 _ ?side1 ?side2 A8.out).mono ?_); (case side1 => repeat (first | (with_reducible first | exact HI0.out | apply jAc.alloc | apply jAc.drewN | apply jAc.drew | apply jAc.set_0 | apply jAc.set_1 | apply jAc.set_2) | exact HI0.out)); (case side2 => repeat (first | (with_reducible first | exact HB.out | apply jAj | apply jAd | apply jAk | refine jAh ?_ (jAc.ge HI0.out)) | exact HB.out)); rintro e w11 ⟨rfl, hi, hb, hk⟩; have n0_ := jAa.mk (jAn.trans (by repeat (first | (with_reducible first | exact HK.out | apply jAn.set_ | apply jAs | apply jAw | apply jAt) | exact HK.out)) hk (.inl rfl)); have n1_ := jAa.mk (hb); have n2_ := jAa.mk (hi); clear HK; clear HB; clear HI0; have HK := n0_; have HB := n1_; have HI0 := n2_; clear n0_ n1_ n2_; (try clear hb); (try clear hb2); (try clear hk); (try clear hi)))
   repeat (go_quiet (first | (go_at_call 65; (with_reducible refine (jAm.calls k g s0_0 s0_1 s0_2 t141 t142 t143 false w0 _ ?side1 ?side2 A3.out).mono ?_); (case side1 => repeat (first | (with_reducible first | exact HI0.out | apply jAc.alloc | apply jAc.drewN | apply jAc.drew | apply jAc.set_0 | apply jAc.set_1 | apply jAc.set_2) | exact HI0.out)); (case side2 => repeat (first | (with_reducible first | exact HB.out | apply jAj | apply jAd | apply jAk | refine jAh ?_ (jAc.ge HI0.out)) | exact HB.out)); rintro e w9 ⟨rfl, hi, hb, hk⟩; have n0_ := jAa.mk (jAn.trans (by repeat (first | (with_reducible first | exact HK.out | apply jAn.set_ | apply jAs | apply jAw | apply jAt) | exact HK.out)) hk (.inl rfl)); have n1_ := jAa.mk (hb); have n2_ := jAa.mk (hi); clear HK; clear HB; clear HI0; have HK := n0_; have HB := n1_; have HI0 := n2_; clear n0_ n1_ n2_; (try clear hb); (try clear hb2); (try clear hk); (try clear hi); obtain ⟨HGz10, hgz10⟩ := HI0.out; have hcz10_0 := jBw HGz10; have hcz10_1 := jBx HGz10; have hcz10_2 := jBy HGz10; have hfz10_0 := jAg HGz10 0; have hfz10_1 := jAg HGz10 1; have hfz10_2 := jAg HGz10 2; clear HGz10 hgz10) | (go_at_call 94; (with_reducible refine (jAy.calls g t142 t143 false t145 t146 t147 t148 w0 _ ?side1 ?side2 A8.out).mono ?_); (case side1 => repeat (first | (with_reducible first | exact HI0.out | apply jAc.alloc | apply jAc.drewN | apply jAc.drew | apply jAc.set_0 | apply jAc.set_1 | apply jAc.set_2) | exact HI0.out)); (case side2 => repeat (first | (with_reducible first | exact HB.out | apply jAj | apply jAd | apply jAk | refine jAh ?_ (jAc.ge HI0.out)) | exact HB.out)); rintro e w11 ⟨rfl, hi, hb, hk⟩; have n0_ := jAa.mk (jAn.trans (by repeat (first | (with_reducible first | exact HK.out | apply jAn.set_ | apply jAs | apply jAw | apply jAt) | exact HK.out)) hk (.inl rfl)); have n1_ := jAa.mk (hb); have n2_ := jAa.mk (hi); clear HK; clear HB; clear HI0; have HK := n0_; have HB := n1_; have HI0 := n2_; clear n0_ n1_ n2_; (try clear hb); (try clear hb2); (try clear hk); (try clear hi))); try go_wp2_with (first | (go_at_call 65; (with_reducible refine (jAm.calls k g s0_0 s0_1 s0_2 t141 t142 t143 false w0 _ ?side1 ?side2 A3.out).mono ?_); (case side1 => repeat (first | (with_reducible first | exact HI0.out | apply jAc.alloc | apply jAc.drewN | apply jAc.drew | apply jAc.set_0 | apply jAc.set_1 | apply jAc.set_2) | exact HI0.out)); (case side2 => repeat (first | (with_reducible first | exact HB.out | apply jAj | apply jAd | apply jAk | refine jAh ?_ (jAc.ge HI0.out)) | exact HB.out)); rintro e w9 ⟨rfl, hi, hb, hk⟩; have n0_ := jAa.mk (jAn.trans (by repeat (first | (with_reducible first | exact HK.out | apply jAn.set_ | apply jAs | apply jAw | apply jAt) | exact HK.out)) hk (.inl rfl)); have n1_ := jAa.mk (hb); have n2_ := jAa.mk (hi); clear HK; clear HB; clear HI0; have HK := n0_; have HB := n1_; have HI0 := n2_; clear n0_ n1_ n2_; (try clear hb); (try clear hb2); (try clear hk); (try clear hi); obtain ⟨HGz10, hgz10⟩ := HI0.out; have hcz10_0 := jBw HGz10; have hcz10_1 := jBx HGz10; have hcz10_2 := jBy HGz10; have hfz10_0 := jAg HGz10 0; have hfz10_1 := jAg HGz10 1; have hfz10_2 := jAg HGz10 2; clear HGz10 hgz10) | (go_at_call 94; (with_reducible refine (jAy.calls g t142 t143 false t145 t146 t147 t148 w0 _ ?side1 ?side2 A8.out).mono ?_); (case side1 => repeat (first | (with_reducible first | exact HI0.out | apply jAc.alloc | apply jAc.drewN | apply jAc.drew | apply jAc.set_0 | apply jAc.set_1 | apply jAc.set_2) | exact HI0.out)); (case side2 => repeat (first | (with_reducible first | exact HB.out | apply jAj | apply jAd | apply jAk | refine jAh ?_ (jAc.ge HI0.out)) | exact HB.out)); rintro e w11 ⟨rfl, hi, hb, hk⟩; have n0_ := jAa.mk (jAn.trans (by repeat (first | (with_reducible first | exact HK.out | apply jAn.set_ | apply jAs | apply jAw | apply jAt) | exact HK.out)) hk (.inl rfl)); have n1_ := jAa.mk (hb); have n2_ := jAa.mk (hi); clear HK; clear HB; clear HI0; have HK := n0_; have HB := n1_; have HI0 := n2_; clear n0_ n1_ n2_; (try clear hb); (try clear hb2); (try clear hk); (try clear hi))))
   go_ret
   exact ⟨by first | rfl | (simp [jBd, jBe] <;> rfl) | (simp [*, jBd, jBe] <;> rfl), by repeat (first | (with_reducible first | exact HI0.out | apply jAc.alloc | apply jAc.drewN | apply jAc.drew | apply jAc.set_0 | apply jAc.set_1 | apply jAc.set_2) | exact HI0.out), by repeat (first | (with_reducible first | exact HB.out | apply jAj | apply jAd | apply jAk | refine jAh ?_ (jAc.ge HI0.out)) | exact HB.out), by repeat (first | (with_reducible first | exact HK.out | apply jAn.set_ | apply jAs | apply jAw | apply jAt) | exact HK.out)⟩
  ·rw [if_neg c7] at H
   have c7b0 : decide (t141 < 0) = false := decide_eq_false c7
   clear c7
   by_cases c12 : t141 > a1
   ·rw [if_pos c12] at H
    have c12b0 : decide (a1 < t141) = true := decide_eq_true c12
    clear c12
    replace H := Option.bind_eq_some_iff.mp H
    obtain ⟨⟨t149, t150, t151, t152⟩, A130, H⟩ := H
    replace H : (some (t149, t150, t151, t152)) = some (r1, r2, r3, r4) := H
    have A13 := jAa.mk A130
    clear A130
    simp only [Option.some.injEq, Prod.mk.injEq] at H
    obtain ⟨rfl, rfl, rfl, rfl⟩ := H
    go_enter Tryd.func66, Tryd.ntmps66
    go_wp2_with (first | (go_at_call 65; (with_reducible refine (jAm.calls k g s0_0 s0_1 s0_2 t141 t142 t143 false w0 _ ?side1 ?side2 A3.out).mono ?_); (case side1 => repeat (first | (with_reducible first | exact HI0.out | apply jAc.alloc | apply jAc.drewN | apply jAc.drew | apply jAc.set_0 | apply jAc.set_1 | apply jAc.set_2) | exact HI0.out)); (case side2 => repeat (first | (with_reducible first | exact HB.out | apply jAj | apply jAd | apply jAk | refine jAh ?_ (jAc.ge HI0.out)) | exact HB.out)); rintro e w14 ⟨rfl, hi, hb, hk⟩; have n0_ := jAa.mk (jAn.trans (by repeat (first | (with_reducible first | exact HK.out | apply jAn.set_ | apply jAs | apply jAw | apply jAt) | exact HK.out)) hk (.inl rfl)); have n1_ := jAa.mk (hb); have n2_ := jAa.mk (hi); clear HK; clear HB; clear HI0; have HK := n0_; have HB := n1_; have HI0 := n2_; clear n0_ n1_ n2_; (try clear hb); (try clear hb2); (try clear hk); (try clear hi); obtain ⟨HGz15, hgz15⟩ := HI0.out; have hcz15_0 := jBw HGz15; have hcz15_1 := jBx HGz15; have hcz15_2 := jBy HGz15; have hfz15_0 := jAg HGz15 0; have hfz15_1 := jAg HGz15 1; have hfz15_2 := jAg HGz15 2; clear HGz15 hgz15) | (go_at_call 94; (with_reducible refine (jAy.calls g t142 t143 false t149 t150 t151 t152 w0 _ ?side1 ?side2 A13.out).mono ?_); (case side1 => repeat (first | (with_reducible first | exact HI0.out | apply jAc.alloc | apply jAc.drewN | apply jAc.drew | apply jAc.set_0 | apply jAc.set_1 | apply jAc.set_2) | exact HI0.out)); (case side2 => repeat (first | (with_reducible first | exact HB.out | apply jAj | apply jAd | apply jAk | refine jAh ?_ (jAc.ge HI0.out)) | exact HB.out)); rintro e w16 ⟨rfl, hi, hb, hk⟩; have n0_ := jAa.mk (jAn.trans (by repeat (first | (with_reducible first | exact HK.out | apply jAn.set_ | apply jAs | apply jAw | apply jAt) | exact HK.out)) hk (.inl rfl)); have n1_ := jAa.mk (hb); have n2_ := jAa.mk (hi); clear HK; clear HB; clear HI0; have HK := n0_; have HB := n1_; have HI0 := n2_; clear n0_ n1_ n2_; (try clear hb); (try clear hb2); (try clear hk); (try clear hi)))
    repeat (go_quiet (first | (go_at_call 65; (with_reducible refine (jAm.calls k g s0_0 s0_1 s0_2 t141 t142 t143 false w0 _ ?side1 ?side2 A3.out).mono ?_); (case side1 => repeat (first | (with_reducible first | exact HI0.out | apply jAc.alloc | apply jAc.drewN | apply jAc.drew | apply jAc.set_0 | apply jAc.set_1 | apply jAc.set_2) | exact HI0.out)); (case side2 => repeat (first | (with_reducible first | exact HB.out | apply jAj | apply jAd | apply jAk | refine jAh ?_ (jAc.ge HI0.out)) | exact HB.out)); rintro e w14 ⟨rfl, hi, hb, hk⟩; have n0_ := jAa.mk (jAn.trans (by repeat (first | (with_reducible first | exact HK.out | apply jAn.set_ | apply jAs | apply jAw | apply jAt) | exact HK.out)) hk (.inl rfl)); have n1_ := jAa.mk (hb); have n2_ := jAa.mk (hi); clear HK; clear HB; clear HI0; have HK := n0_; have HB := n1_; have HI0 := n2_; clear n0_ n1_ n2_; (try clear hb); (try clear hb2); (try clear hk); (try clear hi); obtain ⟨HGz15, hgz15⟩ := HI0.out; have hcz15_0 := jBw HGz15; have hcz15_1 := jBx HGz15; have hcz15_2 := jBy HGz15; have hfz15_0 := jAg HGz15 0; have hfz15_1 := jAg HGz15 1; have hfz15_2 := jAg HGz15 2; clear HGz15 hgz15) | (go_at_call 94; (with_reducible refine (jAy.calls g t142 t143 false t149 t150 t151 t152 w0 _ ?side1 ?side2 A13.out).mono ?_); (case side1 => repeat (first | (with_reducible first | exact HI0.out | apply jAc.alloc | apply jAc.drewN | apply jAc.drew | apply jAc.set_0 | apply jAc.set_1 | apply jAc.set_2) | exact HI0.out)); (case side2 => repeat (first | (with_reducible first | exact HB.out | apply jAj | apply jAd | apply jAk | refine jAh ?_ (jAc.ge HI0.out)) | exact HB.out)); rintro e w16 ⟨rfl, hi, hb, hk⟩; have n0_ := jAa.mk (jAn.trans (by repeat (first | (with_reducible first | exact HK.out | apply jAn.set_ | apply jAs | apply jAw | apply jAt) | exact HK.out)) hk (.inl rfl)); have n1_ := jAa.mk (hb); have n2_ := jAa.mk (hi); clear HK; clear HB; clear HI0; have HK := n0_; have HB := n1_; have HI0 := n2_; clear n0_ n1_ n2_; (try clear hb); (try clear hb2); (try clear hk); (try clear hi))); try go_wp2_with (first | (go_at_call 65; (with_reducible refine (jAm.calls k g s0_0 s0_1 s0_2 t141 t142 t143 false w0 _ ?side1 ?side2 A3.out).mono ?_); (case side1 => repeat (first | (with_reducible first | exact HI0.out | apply jAc.alloc | apply jAc.drewN | apply jAc.drew | apply jAc.set_0 | apply jAc.set_1 | apply jAc.set_2) | exact HI0.out)); (case side2 => repeat (first | (with_reducible first | exact HB.out | apply jAj | apply jAd | apply jAk | refine jAh ?_ (jAc.ge HI0.out)) | exact HB.out)); rintro e w14 ⟨rfl, hi, hb, hk⟩; have n0_ := jAa.mk (jAn.trans (by repeat (first | (with_reducible first | exact HK.out | apply jAn.set_ | apply jAs | apply jAw | apply jAt) | exact HK.out)) hk (.inl rfl)); have n1_ := jAa.mk (hb); have n2_ := jAa.mk (hi); clear HK; clear HB; clear HI0; have HK := n0_; have HB := n1_; have HI0 := n2_; clear n0_ n1_ n2_; (try clear hb); (try clear hb2); (try clear hk); (try clear hi); obtain ⟨HGz15, hgz15⟩ := HI0.out; have hcz15_0 := jBw HGz15; have hcz15_1 := jBx HGz15; have hcz15_2 := jBy HGz15; have hfz15_0 := jAg HGz15 0; have hfz15_1 := jAg HGz15 1; have hfz15_2 := jAg HGz15 2; clear HGz15 hgz15) | (go_at_call 94; (with_reducible refine (jAy.calls g t142 t143 false t149 t150 t151 t152 w0 _ ?side1 ?side2 A13.out).mono ?_); (case side1 => repeat (first | (with_reducible first | exact HI0.out | apply jAc.alloc | apply jAc.drewN | apply jAc.drew | apply jAc.set_0 | apply jAc.set_1 | apply jAc.set_2) | exact HI0.out)); (case side2 => repeat (first | (with_reducible first | exact HB.out | apply jAj | apply jAd | apply jAk | refine jAh ?_ (jAc.ge HI0.out)) | exact HB.out)); rintro e w16 ⟨rfl, hi, hb, hk⟩; have n0_ := jAa.mk (jAn.trans (by repeat (first | (with_reducible first | exact HK.out | apply jAn.set_ | apply jAs | apply jAw | apply jAt) | exact HK.out)) hk (.inl rfl)); have n1_ := jAa.mk (hb); have n2_ := jAa.mk (hi); clear HK; clear HB; clear HI0; have HK := n0_; have HB := n1_; have HI0 := n2_; clear n0_ n1_ n2_; (try clear hb); (try clear hb2); (try clear hk); (try clear hi))))
    go_ret
    exact ⟨by first | rfl | (simp [jBd, jBe] <;> rfl) | (simp [*, jBd, jBe] <;> rfl), by repeat (first | (with_reducible first | exact HI0.out | apply jAc.alloc | apply jAc.drewN | apply jAc.drew | apply jAc.set_0 | apply jAc.set_1 | apply jAc.set_2) | exact HI0.out), by repeat (first | (with_reducible first | exact HB.out | apply jAj | apply jAd | apply jAk | refine jAh ?_ (jAc.ge HI0.out)) | exact HB.out), by repeat (first | (with_reducible first | exact HK.out | apply jAn.set_ | apply jAs | apply jAw | apply jAt) | exact HK.out)⟩
   ·rw [if_neg c12] at H
    have c12b0 : decide (a1 < t141) = false := decide_eq_false c12
    clear c12
    by_cases c17 : t141 > (wrap64 ((t142.size : Int) - t143))
    ·rw [if_pos c17] at H
     have c17b0 : decide ((wrap64 ((t142.size : Int) - t143)) < t141) = true := decide_eq_true c17
     clear c17
     replace H := Option.bind_eq_some_iff.mp H
     obtain ⟨⟨t153, t154, t155, t156⟩, A180, H⟩ := H
     replace H : (some (t153, t154, t155, t156)) = some (r1, r2, r3, r4) := H
     have A18 := jAa.mk A180
     clear A180
     simp only [Option.some.injEq, Prod.mk.injEq] at H
     obtain ⟨rfl, rfl, rfl, rfl⟩ := H
     go_enter Tryd.func66, Tryd.ntmps66
     go_wp2_with (first | (go_at_call 65; (with_reducible refine (jAm.calls k g s0_0 s0_1 s0_2 t141 t142 t143 false w0 _ ?side1 ?side2 A3.out).mono ?_); (case side1 => repeat (first | (with_reducible first | exact HI0.out | apply jAc.alloc | apply jAc.drewN | apply jAc.drew | apply jAc.set_0 | apply jAc.set_1 | apply jAc.set_2) | exact HI0.out)); (case side2 => repeat (first | (with_reducible first | exact HB.out | apply jAj | apply jAd | apply jAk | refine jAh ?_ (jAc.ge HI0.out)) | exact HB.out)); rintro e w19 ⟨rfl, hi, hb, hk⟩; have n0_ := jAa.mk (jAn.trans (by repeat (first | (with_reducible first | exact HK.out | apply jAn.set_ | apply jAs | apply jAw | apply jAt) | exact HK.out)) hk (.inl rfl)); have n1_ := jAa.mk (hb); have n2_ := jAa.mk (hi); clear HK; clear HB; clear HI0; have HK := n0_; have HB := n1_; have HI0 := n2_; clear n0_ n1_ n2_; (try clear hb); (try clear hb2); (try clear hk); (try clear hi); obtain ⟨HGz20, hgz20⟩ := HI0.out; have hcz20_0 := jBw HGz20; have hcz20_1 := jBx HGz20; have hcz20_2 := jBy HGz20; have hfz20_0 := jAg HGz20 0; have hfz20_1 := jAg HGz20 1; have hfz20_2 := jAg HGz20 2; clear HGz20 hgz20) | (go_at_call 94; (with_reducible refine (jAy.calls g t142 t143 false t153 t154 t155 t156 w0 _ ?side1 ?side2 A18.out).mono ?_); (case side1 => repeat (first | (with_reducible first | exact HI0.out | apply jAc.alloc | apply jAc.drewN | apply jAc.drew | apply jAc.set_0 | apply jAc.set_1 | apply jAc.set_2) | exact HI0.out)); (case side2 => repeat (first | (with_reducible first | exact HB.out | apply jAj | apply jAd | apply jAk | refine jAh ?_ (jAc.ge HI0.out)) | exact HB.out)); rintro e w21 ⟨rfl, hi, hb, hk⟩; have n0_ := jAa.mk (jAn.trans (by repeat (first | (with_reducible first | exact HK.out | apply jAn.set_ | apply jAs | apply jAw | apply jAt) | exact HK.out)) hk (.inl rfl)); have n1_ := jAa.mk (hb); have n2_ := jAa.mk (hi); clear HK; clear HB; clear HI0; have HK := n0_; have HB := n1_; have HI0 := n2_; clear n0_ n1_ n2_; (try clear hb); (try clear hb2); (try clear hk); (try clear hi)))
     repeat (go_quiet (first | (go_at_call 65; (with_reducible refine (jAm.calls k g s0_0 s0_1 s0_2 t141 t142 t143 false w0 _ ?side1 ?side2 A3.out).mono ?_); (case side1 => repeat (first | (with_reducible first | exact HI0.out | apply jAc.alloc | apply jAc.drewN | apply jAc.drew | apply jAc.set_0 | apply jAc.set_1 | apply jAc.set_2) | exact HI0.out)); (case side2 => repeat (first | (with_reducible first | exact HB.out | apply jAj | apply jAd | apply jAk | refine jAh ?_ (jAc.ge HI0.out)) | exact HB.out)); rintro e w19 ⟨rfl, hi, hb, hk⟩; have n0_ := jAa.mk (jAn.trans (by repeat (first | (with_reducible first | exact HK.out | apply jAn.set_ | apply jAs | apply jAw | apply jAt) | exact HK.out)) hk (.inl rfl)); have n1_ := jAa.mk (hb); have n2_ := jAa.mk (hi); clear HK; clear HB; clear HI0; have HK := n0_; have HB := n1_; have HI0 := n2_; clear n0_ n1_ n2_; (try clear hb); (try clear hb2); (try clear hk); (try clear hi); obtain ⟨HGz20, hgz20⟩ := HI0.out; have hcz20_0 := jBw HGz20; have hcz20_1 := jBx HGz20; have hcz20_2 := jBy HGz20; have hfz20_0 := jAg HGz20 0; have hfz20_1 := jAg HGz20 1; have hfz20_2 := jAg HGz20 2; clear HGz20 hgz20) | (go_at_call 94; (with_reducible refine (jAy.calls g t142 t143 false t153 t154 t155 t156 w0 _ ?side1 ?side2 A18.out).mono ?_); (case side1 => repeat (first | (with_reducible first | exact HI0.out | apply jAc.alloc | apply jAc.drewN | apply jAc.drew | apply jAc.set_0 | apply jAc.set_1 | apply jAc.set_2) | exact HI0.out)); (case side2 => repeat (first | (with_reducible first | exact HB.out | apply jAj | apply jAd | apply jAk | refine jAh ?_ (jAc.ge HI0.out)) | exact HB.out)); rintro e w21 ⟨rfl, hi, hb, hk⟩; have n0_ := jAa.mk (jAn.trans (by repeat (first | (with_reducible first | exact HK.out | apply jAn.set_ | apply jAs | apply jAw | apply jAt) | exact HK.out)) hk (.inl rfl)); have n1_ := jAa.mk (hb); have n2_ := jAa.mk (hi); clear HK; clear HB; clear HI0; have HK := n0_; have HB := n1_; have HI0 := n2_; clear n0_ n1_ n2_; (try clear hb); (try clear hb2); (try clear hk); (try clear hi))); try go_wp2_with (first | (go_at_call 65; (with_reducible refine (jAm.calls k g s0_0 s0_1 s0_2 t141 t142 t143 false w0 _ ?side1 ?side2 A3.out).mono ?_); (case side1 => repeat (first | (with_reducible first | exact HI0.out | apply jAc.alloc | apply jAc.drewN | apply jAc.drew | apply jAc.set_0 | apply jAc.set_1 | apply jAc.set_2) | exact HI0.out)); (case side2 => repeat (first | (with_reducible first | exact HB.out | apply jAj | apply jAd | apply jAk | refine jAh ?_ (jAc.ge HI0.out)) | exact HB.out)); rintro e w19 ⟨rfl, hi, hb, hk⟩; have n0_ := jAa.mk (jAn.trans (by repeat (first | (with_reducible first | exact HK.out | apply jAn.set_ | apply jAs | apply jAw | apply jAt) | exact HK.out)) hk (.inl rfl)); have n1_ := jAa.mk (hb); have n2_ := jAa.mk (hi); clear HK; clear HB; clear HI0; have HK := n0_; have HB := n1_; have HI0 := n2_; clear n0_ n1_ n2_; (try clear hb); (try clear hb2); (try clear hk); (try clear hi); obtain ⟨HGz20, hgz20⟩ := HI0.out; have hcz20_0 := jBw HGz20; have hcz20_1 := jBx HGz20; have hcz20_2 := jBy HGz20; have hfz20_0 := jAg HGz20 0; have hfz20_1 := jAg HGz20 1; have hfz20_2 := jAg HGz20 2; clear HGz20 hgz20) | (go_at_call 94; (with_reducible refine (jAy.calls g t142 t143 false t153 t154 t155 t156 w0 _ ?side1 ?side2 A18.out).mono ?_); (case side1 => repeat (first | (with_reducible first | exact HI0.out | apply jAc.alloc | apply jAc.drewN | apply jAc.drew | apply jAc.set_0 | apply jAc.set_1 | apply jAc.set_2) | exact HI0.out)); (case side2 => repeat (first | (with_reducible first | exact HB.out | apply jAj | apply jAd | apply jAk | refine jAh ?_ (jAc.ge HI0.out)) | exact HB.out)); rintro e w21 ⟨rfl, hi, hb, hk⟩; have n0_ := jAa.mk (jAn.trans (by repeat (first | (with_reducible first | exact HK.out | apply jAn.set_ | apply jAs | apply jAw | apply jAt) | exact HK.out)) hk (.inl rfl)); have n1_ := jAa.mk (hb); have n2_ := jAa.mk (hi); clear HK; clear HB; clear HI0; have HK := n0_; have HB := n1_; have HI0 := n2_; clear n0_ n1_ n2_; (try clear hb); (try clear hb2); (try clear hk); (try clear hi))))
     go_ret
     exact ⟨by first | rfl | (simp [jBd, jBe] <;> rfl) | (simp [*, jBd, jBe] <;> rfl), by repeat (first | (with_reducible first | exact HI0.out | apply jAc.alloc | apply jAc.drewN | apply jAc.drew | apply jAc.set_0 | apply jAc.set_1 | apply jAc.set_2) | exact HI0.out), by repeat (first | (with_reducible first | exact HB.out | apply jAj | apply jAd | apply jAk | refine jAh ?_ (jAc.ge HI0.out)) | exact HB.out), by repeat (first | (with_reducible first | exact HK.out | apply jAn.set_ | apply jAs | apply jAw | apply jAt) | exact HK.out)⟩
    ·rw [if_neg c17] at H
     have c17b0 : decide ((wrap64 ((t142.size : Int) - t143)) < t141) = false := decide_eq_false c17
     clear c17
     simp only [Option.some.injEq, Prod.mk.injEq] at H
     obtain ⟨rfl, rfl, rfl, rfl⟩ := H
     go_enter Tryd.func66, Tryd.ntmps66
     go_wp2_with (first | (go_at_call 65; (with_reducible refine (jAm.calls k g s0_0 s0_1 s0_2 t141 t142 t143 false w0 _ ?side1 ?side2 A3.out).mono ?_); (case side1 => repeat (first | (with_reducible first | exact HI0.out | apply jAc.alloc | apply jAc.drewN | apply jAc.drew | apply jAc.set_0 | apply jAc.set_1 | apply jAc.set_2) | exact HI0.out)); (case side2 => repeat (first | (with_reducible first | exact HB.out | apply jAj | apply jAd | apply jAk | refine jAh ?_ (jAc.ge HI0.out)) | exact HB.out)); rintro e w22 ⟨rfl, hi, hb, hk⟩; have n0_ := jAa.mk (jAn.trans (by repeat (first | (with_reducible first | exact HK.out | apply jAn.set_ | apply jAs | apply jAw | apply jAt) | exact HK.out)) hk (.inl rfl)); have n1_ := jAa.mk (hb); have n2_ := jAa.mk (hi); clear HK; clear HB; clear HI0; have HK := n0_; have HB := n1_; have HI0 := n2_; clear n0_ n1_ n2_; (try clear hb); (try clear hb2); (try clear hk); (try clear hi); obtain ⟨HGz23, hgz23⟩ := HI0.out; have hcz23_0 := jBw HGz23; have hcz23_1 := jBx HGz23; have hcz23_2 := jBy HGz23; have hfz23_0 := jAg HGz23 0; have hfz23_1 := jAg HGz23 1; have hfz23_2 := jAg HGz23 2; clear HGz23 hgz23))
     repeat (go_quiet (first | (go_at_call 65; (with_reducible refine (jAm.calls k g s0_0 s0_1 s0_2 t141 t142 t143 false w0 _ ?side1 ?side2 A3.out).mono ?_); (case side1 => repeat (first | (with_reducible first | exact HI0.out | apply jAc.alloc | apply jAc.drewN | apply jAc.drew | apply jAc.set_0 | apply jAc.set_1 | apply jAc.set_2) | exact HI0.out)); (case side2 => repeat (first | (with_reducible first | exact HB.out | apply jAj | apply jAd | apply jAk | refine jAh ?_ (jAc.ge HI0.out)) | exact HB.out)); rintro e w22 ⟨rfl, hi, hb, hk⟩; have n0_ := jAa.mk (jAn.trans (by repeat (first | (with_reducible first | exact HK.out | apply jAn.set_ | apply jAs | apply jAw | apply jAt) | exact HK.out)) hk (.inl rfl)); have n1_ := jAa.mk (hb); have n2_ := jAa.mk (hi); clear HK; clear HB; clear HI0; have HK := n0_; have HB := n1_; have HI0 := n2_; clear n0_ n1_ n2_; (try clear hb); (try clear hb2); (try clear hk); (try clear hi); obtain ⟨HGz23, hgz23⟩ := HI0.out; have hcz23_0 := jBw HGz23; have hcz23_1 := jBx HGz23; have hcz23_2 := jBy HGz23; have hfz23_0 := jAg HGz23 0; have hfz23_1 := jAg HGz23 1; have hfz23_2 := jAg HGz23 2; clear HGz23 hgz23)); try go_wp2_with (first | (go_at_call 65; (with_reducible refine (jAm.calls k g s0_0 s0_1 s0_2 t141 t142 t143 false w0 _ ?side1 ?side2 A3.out).mono ?_); (case side1 => repeat (first | (with_reducible first | exact HI0.out | apply jAc.alloc | apply jAc.drewN | apply jAc.drew | apply jAc.set_0 | apply jAc.set_1 | apply jAc.set_2) | exact HI0.out)); (case side2 => repeat (first | (with_reducible first | exact HB.out | apply jAj | apply jAd | apply jAk | refine jAh ?_ (jAc.ge HI0.out)) | exact HB.out)); rintro e w22 ⟨rfl, hi, hb, hk⟩; have n0_ := jAa.mk (jAn.trans (by repeat (first | (with_reducible first | exact HK.out | apply jAn.set_ | apply jAs | apply jAw | apply jAt) | exact HK.out)) hk (.inl rfl)); have n1_ := jAa.mk (hb); have n2_ := jAa.mk (hi); clear HK; clear HB; clear HI0; have HK := n0_; have HB := n1_; have HI0 := n2_; clear n0_ n1_ n2_; (try clear hb); (try clear hb2); (try clear hk); (try clear hi); obtain ⟨HGz23, hgz23⟩ := HI0.out; have hcz23_0 := jBw HGz23; have hcz23_1 := jBx HGz23; have hcz23_2 := jBy HGz23; have hfz23_0 := jAg HGz23 0; have hfz23_1 := jAg HGz23 1; have hfz23_2 := jAg HGz23 2; clear HGz23 hgz23)))
     go_ret
     exact ⟨by first | rfl | (simp [jBd, jBe] <;> rfl) | (simp [*, jBd, jBe] <;> rfl), by repeat (first | (with_reducible first | exact HI0.out | apply jAc.alloc | apply jAc.drewN | apply jAc.drew | apply jAc.set_0 | apply jAc.set_1 | apply jAc.set_2) | exact HI0.out), by repeat (first | (with_reducible first | exact HB.out | apply jAj | apply jAd | apply jAk | refine jAh ?_ (jAc.ge HI0.out)) | exact HB.out), by repeat (first | (with_reducible first | exact HK.out | apply jAn.set_ | apply jAs | apply jAw | apply jAt) | exact HK.out)⟩
end Go.Proofs.YtefdfgmlmjnmlaaDoor.Rf
end

section
set_option linter.unusedVariables false
set_option linter.unusedSimpArgs false
namespace Go.Proofs.YtefdfgmlmjnmlaaDoor.Rf
open Go.RowKit Go.Proofs.YtefdfgmlmjnmlaaDoorW.PrintWords Go.Proofs.YtefdfgmlmjnmlaaDoorW.PrintLast Go.Proofs.YtefdfgmlmjnmlaaDoorW.PrintMore
attribute [local go_sem] jCg jCo
def jBr.f (k : Nat) (s0_0 : ByteArray) (s0_1 : Int) (s0_2 : Bool) : Option (ByteArray × ByteArray × Int × Bool) := (jAm.f k s0_0 s0_1 s0_2).bind fun bt157 => (if bt157.2.2.2 = true then (some ((⟨#[]⟩ : ByteArray), bt157.2.1, bt157.2.2.1, bt157.2.2.2)) else (if bt157.1 < 0 then ((jAy.f bt157.2.1 bt157.2.2.1 bt157.2.2.2).bind fun bt161 => (some ((⟨#[]⟩ : ByteArray), bt161.2.1, bt161.2.2.1, bt161.2.2.2))) else (if bt157.1 > (wrap64 ((bt157.2.1.size : Int) - bt157.2.2.1)) then ((jAy.f bt157.2.1 bt157.2.2.1 bt157.2.2.2).bind fun bt165 => (some ((⟨#[]⟩ : ByteArray), bt165.2.1, bt165.2.2.1, bt165.2.2.2))) else (if 0 ≤ bt157.2.2.1 then (if bt157.2.2.1 ≤ (wrap64 (bt157.2.2.1 + bt157.1)) then (if (wrap64 (bt157.2.2.1 + bt157.1)) ≤ (bt157.2.1.size : Int) then (some (bt157.2.1.extract (bt157.2.2.1 : Int).toNat ((wrap64 (bt157.2.2.1 + bt157.1)) : Int).toNat, bt157.2.1, wrap64 (bt157.2.2.1 + bt157.1), bt157.2.2.2)) else (none)) else (none)) else (none)))))
set_option maxHeartbeats 8000000 in
set_option maxRecDepth 100000 in
theorem jBr.calls (k : Nat) (g : Nat) (s0_0 : ByteArray) (s0_1 : Int) (s0_2 : Bool) (r1 : ByteArray) (r2 : ByteArray) (r3 : Int) (r4 : Bool) (w0 w : World) (hI : jAc w0 w g s0_0 s0_1 s0_2) (hB : Below w0.heap.size w0 w) (h : jBr.f k s0_0 s0_1 s0_2 = some (r1, r2, r3, r4)) :
  Calls Tryd.prog 68 #[.pointer (some ⟨g, 0, none⟩)] w fun e w' => e = .returned (.string r1) ∧ jAc w0 w' g r2 r3 r4 ∧ Below w0.heap.size w0 w' ∧ jAn w w' g none := by
 have HI0 := jAa.mk hI
 have HK := jAa.mk (jAn.refl w g none)
 have HL := jAa.mk hB.size
 clear hI
 have HW0 := jAa.mk hB.size
 have HB := jAa.mk hB
 clear hB
 have H : ((jAm.f k s0_0 s0_1 s0_2).bind fun bt157 => (if bt157.2.2.2 = true then (some ((⟨#[]⟩ : ByteArray), bt157.2.1, bt157.2.2.1, bt157.2.2.2)) else (if bt157.1 < 0 then ((jAy.f bt157.2.1 bt157.2.2.1 bt157.2.2.2).bind fun bt161 => (some ((⟨#[]⟩ : ByteArray), bt161.2.1, bt161.2.2.1, bt161.2.2.2))) else (if bt157.1 > (wrap64 ((bt157.2.1.size : Int) - bt157.2.2.1)) then ((jAy.f bt157.2.1 bt157.2.2.1 bt157.2.2.2).bind fun bt165 => (some ((⟨#[]⟩ : ByteArray), bt165.2.1, bt165.2.2.1, bt165.2.2.2))) else (if 0 ≤ bt157.2.2.1 then (if bt157.2.2.1 ≤ (wrap64 (bt157.2.2.1 + bt157.1)) then (if (wrap64 (bt157.2.2.1 + bt157.1)) ≤ (bt157.2.1.size : Int) then (some (bt157.2.1.extract (bt157.2.2.1 : Int).toNat ((wrap64 (bt157.2.2.1 + bt157.1)) : Int).toNat, bt157.2.1, wrap64 (bt157.2.2.1 + bt157.1), bt157.2.2.2)) else (none)) else (none)) else (none)))))) = some (r1, r2, r3, r4) := h
 clear h
 replace H := Option.bind_eq_some_iff.mp H
 obtain ⟨⟨t157, t158, t159, t160⟩, A20, H⟩ := H
 replace H : (if t160 = true then (some ((⟨#[]⟩ : ByteArray), t158, t159, t160)) else (if t157 < 0 then ((jAy.f t158 t159 t160).bind fun bt161 => (some ((⟨#[]⟩ : ByteArray), bt161.2.1, bt161.2.2.1, bt161.2.2.2))) else (if t157 > (wrap64 ((t158.size : Int) - t159)) then ((jAy.f t158 t159 t160).bind fun bt165 => (some ((⟨#[]⟩ : ByteArray), bt165.2.1, bt165.2.2.1, bt165.2.2.2))) else (if 0 ≤ t159 then (if t159 ≤ (wrap64 (t159 + t157)) then (if (wrap64 (t159 + t157)) ≤ (t158.size : Int) then (some (t158.extract (t159 : Int).toNat ((wrap64 (t159 + t157)) : Int).toNat, t158, wrap64 (t159 + t157), t160)) else (none)) else (none)) else (none))))) = some (r1, r2, r3, r4) := H
 have A2 := jAa.mk A20
 clear A20
 by_cases c3 : t160 = true
 ·subst c3
  have H1 : (some ((⟨#[]⟩ : ByteArray), t158, t159, true)) = some (r1, r2, r3, r4) := by rw [if_pos rfl] at H; exact H
  clear H
  have H := H1
  clear H1
  simp only [Option.some.injEq, Prod.mk.injEq] at H
  obtain ⟨rfl, rfl, rfl, rfl⟩ := H
  go_enter Tryd.func68, Tryd.ntmps68
  go_wp2_with (first | (go_at_call 65; (with_reducible refine (jAm.calls k g s0_0 s0_1 s0_2 t157 t158 t159 true w0 _ ?side1 ?side2 A2.out).mono ?_); (case side1 => repeat (first | (with_reducible first | exact HI0.out | apply jAc.alloc | apply jAc.drewN | apply jAc.drew | apply jAc.set_0 | apply jAc.set_1 | apply jAc.set_2) | exact HI0.out)); (case side2 => repeat (first | (with_reducible first | exact HB.out | apply jAj | apply jAd | apply jAk | refine jAh ?_ (jAc.ge HI0.out)) | exact HB.out)); rintro e w4 ⟨rfl, hi, hb, hk⟩; have n0_ := jAa.mk (jAn.trans (by repeat (first | (with_reducible first | exact HK.out | apply jAn.set_ | apply jAs | apply jAw | apply jAt) | exact HK.out)) hk (.inl rfl)); have n1_ := jAa.mk (hb); have n2_ := jAa.mk (hi); clear HK; clear HB; clear HI0; have HK := n0_; have HB := n1_; have HI0 := n2_; clear n0_ n1_ n2_; (try clear hb); (try clear hb2); (try clear hk); (try clear hi); obtain ⟨HGz5, hgz5⟩ := HI0.out; have hcz5_0 := jBw HGz5; have hcz5_1 := jBx HGz5; have hcz5_2 := jBy HGz5; have hfz5_0 := jAg HGz5 0; have hfz5_1 := jAg HGz5 1; have hfz5_2 := jAg HGz5 2; clear HGz5 hgz5))
  repeat (go_quiet (first | (go_at_call 65; (with_reducible refine (jAm.calls k g s0_0 s0_1 s0_2 t157 t158 t159 true w0 _ ?side1 ?side2 A2.out).mono ?_); (case side1 => repeat (first | (with_reducible first | exact HI0.out | apply jAc.alloc | apply jAc.drewN | apply jAc.drew | apply jAc.set_0 | apply jAc.set_1 | apply jAc.set_2) | exact HI0.out)); (case side2 => repeat (first | (with_reducible first | exact HB.out | apply jAj | apply jAd | apply jAk | refine jAh ?_ (jAc.ge HI0.out)) | exact HB.out)); rintro e w4 ⟨rfl, hi, hb, hk⟩; have n0_ := jAa.mk (jAn.trans (by repeat (first | (with_reducible first | exact HK.out | apply jAn.set_ | apply jAs | apply jAw | apply jAt) | exact HK.out)) hk (.inl rfl)); have n1_ := jAa.mk (hb); have n2_ := jAa.mk (hi); clear HK; clear HB; clear HI0; have HK := n0_; have HB := n1_; have HI0 := n2_; clear n0_ n1_ n2_; (try clear hb); (try clear hb2); (try clear hk); (try clear hi); obtain ⟨HGz5, hgz5⟩ := HI0.out; have hcz5_0 := jBw HGz5; have hcz5_1 := jBx HGz5; have hcz5_2 := jBy HGz5; have hfz5_0 := jAg HGz5 0; have hfz5_1 := jAg HGz5 1; have hfz5_2 := jAg HGz5 2; clear HGz5 hgz5)); try go_wp2_with (first | (go_at_call 65; (with_reducible refine (jAm.calls k g s0_0 s0_1 s0_2 t157 t158 t159 true w0 _ ?side1 ?side2 A2.out).mono ?_); (case side1 => repeat (first | (with_reducible first | exact HI0.out | apply jAc.alloc | apply jAc.drewN | apply jAc.drew | apply jAc.set_0 | apply jAc.set_1 | apply jAc.set_2) | exact HI0.out)); (case side2 => repeat (first | (with_reducible first | exact HB.out | apply jAj | apply jAd | apply jAk | refine jAh ?_ (jAc.ge HI0.out)) | exact HB.out)); rintro e w4 ⟨rfl, hi, hb, hk⟩; have n0_ := jAa.mk (jAn.trans (by repeat (first | (with_reducible first | exact HK.out | apply jAn.set_ | apply jAs | apply jAw | apply jAt) | exact HK.out)) hk (.inl rfl)); have n1_ := jAa.mk (hb); have n2_ := jAa.mk (hi); clear HK; clear HB; clear HI0; have HK := n0_; have HB := n1_; have HI0 := n2_; clear n0_ n1_ n2_; (try clear hb); (try clear hb2); (try clear hk); (try clear hi); obtain ⟨HGz5, hgz5⟩ := HI0.out; have hcz5_0 := jBw HGz5; have hcz5_1 := jBx HGz5; have hcz5_2 := jBy HGz5; have hfz5_0 := jAg HGz5 0; have hfz5_1 := jAg HGz5 1; have hfz5_2 := jAg HGz5 2; clear HGz5 hgz5)))
  go_ret
  exact ⟨by first | rfl | (simp [jBd, jBe] <;> rfl) | (simp [*, jBd, jBe] <;> rfl), by repeat (first | (with_reducible first | exact HI0.out | apply jAc.alloc | apply jAc.drewN | apply jAc.drew | apply jAc.set_0 | apply jAc.set_1 | apply jAc.set_2) | exact HI0.out), by repeat (first | (with_reducible first | exact HB.out | apply jAj | apply jAd | apply jAk | refine jAh ?_ (jAc.ge HI0.out)) | exact HB.out), by repeat (first | (with_reducible first | exact HK.out | apply jAn.set_ | apply jAs | apply jAw | apply jAt) | exact HK.out)⟩
 ·replace c3 := Bool.eq_false_iff.mpr c3
  subst c3
  have H1 : (if t157 < 0 then ((jAy.f t158 t159 false).bind fun bt161 => (some ((⟨#[]⟩ : ByteArray), bt161.2.1, bt161.2.2.1, bt161.2.2.2))) else (if t157 > (wrap64 ((t158.size : Int) - t159)) then ((jAy.f t158 t159 false).bind fun bt165 => (some ((⟨#[]⟩ : ByteArray), bt165.2.1, bt165.2.2.1, bt165.2.2.2))) else (if 0 ≤ t159 then (if t159 ≤ (wrap64 (t159 + t157)) then (if (wrap64 (t159 + t157)) ≤ (t158.size : Int) then (some (t158.extract (t159 : Int).toNat ((wrap64 (t159 + t157)) : Int).toNat, t158, wrap64 (t159 + t157), false)) else (none)) else (none)) else (none)))) = some (r1, r2, r3, r4) := by rw [if_neg (show ¬ (false = true) by decide)] at H; exact H
  clear H
  have H := H1
  clear H1
  by_cases c6 : t157 < 0
  ·rw [if_pos c6] at H
   have c6b0 : decide (t157 < 0) = true := decide_eq_true c6
   clear c6
   replace H := Option.bind_eq_some_iff.mp H
   obtain ⟨⟨t161, t162, t163, t164⟩, A70, H⟩ := H
   replace H : (some ((⟨#[]⟩ : ByteArray), t162, t163, t164)) = some (r1, r2, r3, r4) := H
   have A7 := jAa.mk A70
   clear A70
   simp only [Option.some.injEq, Prod.mk.injEq] at H
   obtain ⟨rfl, rfl, rfl, rfl⟩ := H
   go_enter Tryd.func68, Tryd.ntmps68
   go_wp2_with (first | (go_at_call 65; (with_reducible refine (jAm.calls k g s0_0 s0_1 s0_2 t157 t158 t159 false w0 _ ?side1 ?side2 A2.out).mono ?_); (case side1 => repeat (first | (with_reducible first | exact HI0.out | apply jAc.alloc | apply jAc.drewN | apply jAc.drew | apply jAc.set_0 | apply jAc.set_1 | apply jAc.set_2) | exact HI0.out)); (case side2 => repeat (first | (with_reducible first | exact HB.out | apply jAj | apply jAd | apply jAk | refine jAh ?_ (jAc.ge HI0.out)) | exact HB.out)); rintro e w8 ⟨rfl, hi, hb, hk⟩; have n0_ := jAa.mk (jAn.trans (by repeat (first | (with_reducible first | exact HK.out | apply jAn.set_ | apply jAs | apply jAw | apply jAt) | exact HK.out)) hk (.inl rfl)); have n1_ := jAa.mk (hb); have n2_ := jAa.mk (hi); clear HK; clear HB; clear HI0; have HK := n0_; have HB := n1_; have HI0 := n2_; clear n0_ n1_ n2_; (try clear hb); (try clear hb2); (try clear hk); (try clear hi); obtain ⟨HGz9, hgz9⟩ := HI0.out; have hcz9_0 := jBw HGz9; have hcz9_1 := jBx HGz9; have hcz9_2 := jBy HGz9; have hfz9_0 := jAg HGz9 0; have hfz9_1 := jAg HGz9 1; have hfz9_2 := jAg HGz9 2; clear HGz9 hgz9) | (go_at_call 94; (with_reducible refine (jAy.calls g t158 t159 false t161 t162 t163 t164 w0 _ ?side1 ?side2 A7.out).mono ?_); (case side1 => repeat (first | (with_reducible first | exact HI0.out | apply jAc.alloc | apply jAc.drewN | apply jAc.drew | apply jAc.set_0 | apply jAc.set_1 | apply jAc.set_2) | exact HI0.out)); (case side2 => repeat (first | (with_reducible first | exact HB.out | apply jAj | apply jAd | apply jAk | refine jAh ?_ (jAc.ge HI0.out)) | exact HB.out)); rintro e w10 ⟨rfl, hi, hb, hk⟩; have n0_ := jAa.mk (jAn.trans (by repeat (first | (with_reducible first | exact HK.out | apply jAn.set_ | apply jAs | apply jAw | apply jAt) | exact HK.out)) hk (.inl rfl)); have n1_ := jAa.mk (hb); have n2_ := jAa.mk (hi); clear HK; clear HB; clear HI0; have HK := n0_; have HB := n1_; have HI0 := n2_; clear n0_ n1_ n2_; (try clear hb); (try clear hb2); (try clear hk); (try clear hi)))
   repeat (go_quiet (first | (go_at_call 65; (with_reducible refine (jAm.calls k g s0_0 s0_1 s0_2 t157 t158 t159 false w0 _ ?side1 ?side2 A2.out).mono ?_); (case side1 => repeat (first | (with_reducible first | exact HI0.out | apply jAc.alloc | apply jAc.drewN | apply jAc.drew | apply jAc.set_0 | apply jAc.set_1 | apply jAc.set_2) | exact HI0.out)); (case side2 => repeat (first | (with_reducible first | exact HB.out | apply jAj | apply jAd | apply jAk | refine jAh ?_ (jAc.ge HI0.out)) | exact HB.out)); rintro e w8 ⟨rfl, hi, hb, hk⟩; have n0_ := jAa.mk (jAn.trans (by repeat (first | (with_reducible first | exact HK.out | apply jAn.set_ | apply jAs | apply jAw | apply jAt) | exact HK.out)) hk (.inl rfl)); have n1_ := jAa.mk (hb); have n2_ := jAa.mk (hi); clear HK; clear HB; clear HI0; have HK := n0_; have HB := n1_; have HI0 := n2_; clear n0_ n1_ n2_; (try clear hb); (try clear hb2); (try clear hk); (try clear hi); obtain ⟨HGz9, hgz9⟩ := HI0.out; have hcz9_0 := jBw HGz9; have hcz9_1 := jBx HGz9; have hcz9_2 := jBy HGz9; have hfz9_0 := jAg HGz9 0; have hfz9_1 := jAg HGz9 1; have hfz9_2 := jAg HGz9 2; clear HGz9 hgz9) | (go_at_call 94; (with_reducible refine (jAy.calls g t158 t159 false t161 t162 t163 t164 w0 _ ?side1 ?side2 A7.out).mono ?_); (case side1 => repeat (first | (with_reducible first | exact HI0.out | apply jAc.alloc | apply jAc.drewN | apply jAc.drew | apply jAc.set_0 | apply jAc.set_1 | apply jAc.set_2) | exact HI0.out)); (case side2 => repeat (first | (with_reducible first | exact HB.out | apply jAj | apply jAd | apply jAk | refine jAh ?_ (jAc.ge HI0.out)) | exact HB.out)); rintro e w10 ⟨rfl, hi, hb, hk⟩; have n0_ := jAa.mk (jAn.trans (by repeat (first | (with_reducible first | exact HK.out | apply jAn.set_ | apply jAs | apply jAw | apply jAt) | exact HK.out)) hk (.inl rfl)); have n1_ := jAa.mk (hb); have n2_ := jAa.mk (hi); clear HK; clear HB; clear HI0; have HK := n0_; have HB := n1_; have HI0 := n2_; clear n0_ n1_ n2_; (try clear hb); (try clear hb2); (try clear hk); (try clear hi))); try go_wp2_with (first | (go_at_call 65; (with_reducible refine (jAm.calls k g s0_0 s0_1 s0_2 t157 t158 t159 false w0 _ ?side1 ?side2 A2.out).mono ?_); (case side1 => repeat (first | (with_reducible first | exact HI0.out | apply jAc.alloc | apply jAc.drewN | apply jAc.drew | apply jAc.set_0 | apply jAc.set_1 | apply jAc.set_2) | exact HI0.out)); (case side2 => repeat (first | (with_reducible first | exact HB.out | apply jAj | apply jAd | apply jAk | refine jAh ?_ (jAc.ge HI0.out)) | exact HB.out)); rintro e w8 ⟨rfl, hi, hb, hk⟩; have n0_ := jAa.mk (jAn.trans (by repeat (first | (with_reducible first | exact HK.out | apply jAn.set_ | apply jAs | apply jAw | apply jAt) | exact HK.out)) hk (.inl rfl)); have n1_ := jAa.mk (hb); have n2_ := jAa.mk (hi); clear HK; clear HB; clear HI0; have HK := n0_; have HB := n1_; have HI0 := n2_; clear n0_ n1_ n2_; (try clear hb); (try clear hb2); (try clear hk); (try clear hi); obtain ⟨HGz9, hgz9⟩ := HI0.out; have hcz9_0 := jBw HGz9; have hcz9_1 := jBx HGz9; have hcz9_2 := jBy HGz9; have hfz9_0 := jAg HGz9 0; have hfz9_1 := jAg HGz9 1; have hfz9_2 := jAg HGz9 2; clear HGz9 hgz9) | (go_at_call 94; (with_reducible refine (jAy.calls g t158 t159 false t161 t162 t163 t164 w0 _ ?side1 ?side2 A7.out).mono ?_); (case side1 => repeat (first | (with_reducible first | exact HI0.out | apply jAc.alloc | apply jAc.drewN | apply jAc.drew | apply jAc.set_0 | apply jAc.set_1 | apply jAc.set_2) | exact HI0.out)); (case side2 => repeat (first | (with_reducible first | exact HB.out | apply jAj | apply jAd | apply jAk | refine jAh ?_ (jAc.ge HI0.out)) | exact HB.out)); rintro e w10 ⟨rfl, hi, hb, hk⟩; have n0_ := jAa.mk (jAn.trans (by repeat (first | (with_reducible first | exact HK.out | apply jAn.set_ | apply jAs | apply jAw | apply jAt) | exact HK.out)) hk (.inl rfl)); have n1_ := jAa.mk (hb); have n2_ := jAa.mk (hi); clear HK; clear HB; clear HI0; have HK := n0_; have HB := n1_; have HI0 := n2_; clear n0_ n1_ n2_; (try clear hb); (try clear hb2); (try clear hk); (try clear hi))))
   go_ret
   exact ⟨by first | rfl | (simp [jBd, jBe] <;> rfl) | (simp [*, jBd, jBe] <;> rfl), by repeat (first | (with_reducible first | exact HI0.out | apply jAc.alloc | apply jAc.drewN | apply jAc.drew | apply jAc.set_0 | apply jAc.set_1 | apply jAc.set_2) | exact HI0.out), by repeat (first | (with_reducible first | exact HB.out | apply jAj | apply jAd | apply jAk | refine jAh ?_ (jAc.ge HI0.out)) | exact HB.out), by repeat (first | (with_reducible first | exact HK.out | apply jAn.set_ | apply jAs | apply jAw | apply jAt) | exact HK.out)⟩
  ·rw [if_neg c6] at H
   have c6b0 : decide (t157 < 0) = false := decide_eq_false c6
   clear c6
   by_cases c11 : t157 > (wrap64 ((t158.size : Int) - t159))
   ·rw [if_pos c11] at H
    have c11b0 : decide ((wrap64 ((t158.size : Int) - t159)) < t157) = true := decide_eq_true c11
    clear c11
    replace H := Option.bind_eq_some_iff.mp H
    obtain ⟨⟨t165, t166, t167, t168⟩, A120, H⟩ := H
    replace H : (some ((⟨#[]⟩ : ByteArray), t166, t167, t168)) = some (r1, r2, r3, r4) := H
    have A12 := jAa.mk A120
    clear A120
    simp only [Option.some.injEq, Prod.mk.injEq] at H
    obtain ⟨rfl, rfl, rfl, rfl⟩ := H
    go_enter Tryd.func68, Tryd.ntmps68
    go_wp2_with (first | (go_at_call 65; (with_reducible refine (jAm.calls k g s0_0 s0_1 s0_2 t157 t158 t159 false w0 _ ?side1 ?side2 A2.out).mono ?_); (case side1 => repeat (first | (with_reducible first | exact HI0.out | apply jAc.alloc | apply jAc.drewN | apply jAc.drew | apply jAc.set_0 | apply jAc.set_1 | apply jAc.set_2) | exact HI0.out)); (case side2 => repeat (first | (with_reducible first | exact HB.out | apply jAj | apply jAd | apply jAk | refine jAh ?_ (jAc.ge HI0.out)) | exact HB.out)); rintro e w13 ⟨rfl, hi, hb, hk⟩; have n0_ := jAa.mk (jAn.trans (by repeat (first | (with_reducible first | exact HK.out | apply jAn.set_ | apply jAs | apply jAw | apply jAt) | exact HK.out)) hk (.inl rfl)); have n1_ := jAa.mk (hb); have n2_ := jAa.mk (hi); clear HK; clear HB; clear HI0; have HK := n0_; have HB := n1_; have HI0 := n2_; clear n0_ n1_ n2_; (try clear hb); (try clear hb2); (try clear hk); (try clear hi); obtain ⟨HGz14, hgz14⟩ := HI0.out; have hcz14_0 := jBw HGz14; have hcz14_1 := jBx HGz14; have hcz14_2 := jBy HGz14; have hfz14_0 := jAg HGz14 0; have hfz14_1 := jAg HGz14 1; have hfz14_2 := jAg HGz14 2; clear HGz14 hgz14) | (go_at_call 94; (with_reducible refine (jAy.calls g t158 t159 false t165 t166 t167 t168 w0 _ ?side1 ?side2 A12.out).mono ?_); (case side1 => repeat (first | (with_reducible first | exact HI0.out | apply jAc.alloc | apply jAc.drewN | apply jAc.drew | apply jAc.set_0 | apply jAc.set_1 | apply jAc.set_2) | exact HI0.out)); (case side2 => repeat (first | (with_reducible first | exact HB.out | apply jAj | apply jAd | apply jAk | refine jAh ?_ (jAc.ge HI0.out)) | exact HB.out)); rintro e w15 ⟨rfl, hi, hb, hk⟩; have n0_ := jAa.mk (jAn.trans (by repeat (first | (with_reducible first | exact HK.out | apply jAn.set_ | apply jAs | apply jAw | apply jAt) | exact HK.out)) hk (.inl rfl)); have n1_ := jAa.mk (hb); have n2_ := jAa.mk (hi); clear HK; clear HB; clear HI0; have HK := n0_; have HB := n1_; have HI0 := n2_; clear n0_ n1_ n2_; (try clear hb); (try clear hb2); (try clear hk); (try clear hi)))
    repeat (go_quiet (first | (go_at_call 65; (with_reducible refine (jAm.calls k g s0_0 s0_1 s0_2 t157 t158 t159 false w0 _ ?side1 ?side2 A2.out).mono ?_); (case side1 => repeat (first | (with_reducible first | exact HI0.out | apply jAc.alloc | apply jAc.drewN | apply jAc.drew | apply jAc.set_0 | apply jAc.set_1 | apply jAc.set_2) | exact HI0.out)); (case side2 => repeat (first | (with_reducible first | exact HB.out | apply jAj | apply jAd | apply jAk | refine jAh ?_ (jAc.ge HI0.out)) | exact HB.out)); rintro e w13 ⟨rfl, hi, hb, hk⟩; have n0_ := jAa.mk (jAn.trans (by repeat (first | (with_reducible first | exact HK.out | apply jAn.set_ | apply jAs | apply jAw | apply jAt) | exact HK.out)) hk (.inl rfl)); have n1_ := jAa.mk (hb); have n2_ := jAa.mk (hi); clear HK; clear HB; clear HI0; have HK := n0_; have HB := n1_; have HI0 := n2_; clear n0_ n1_ n2_; (try clear hb); (try clear hb2); (try clear hk); (try clear hi); obtain ⟨HGz14, hgz14⟩ := HI0.out; have hcz14_0 := jBw HGz14; have hcz14_1 := jBx HGz14; have hcz14_2 := jBy HGz14; have hfz14_0 := jAg HGz14 0; have hfz14_1 := jAg HGz14 1; have hfz14_2 := jAg HGz14 2; clear HGz14 hgz14) | (go_at_call 94; (with_reducible refine (jAy.calls g t158 t159 false t165 t166 t167 t168 w0 _ ?side1 ?side2 A12.out).mono ?_); (case side1 => repeat (first | (with_reducible first | exact HI0.out | apply jAc.alloc | apply jAc.drewN | apply jAc.drew | apply jAc.set_0 | apply jAc.set_1 | apply jAc.set_2) | exact HI0.out)); (case side2 => repeat (first | (with_reducible first | exact HB.out | apply jAj | apply jAd | apply jAk | refine jAh ?_ (jAc.ge HI0.out)) | exact HB.out)); rintro e w15 ⟨rfl, hi, hb, hk⟩; have n0_ := jAa.mk (jAn.trans (by repeat (first | (with_reducible first | exact HK.out | apply jAn.set_ | apply jAs | apply jAw | apply jAt) | exact HK.out)) hk (.inl rfl)); have n1_ := jAa.mk (hb); have n2_ := jAa.mk (hi); clear HK; clear HB; clear HI0; have HK := n0_; have HB := n1_; have HI0 := n2_; clear n0_ n1_ n2_; (try clear hb); (try clear hb2); (try clear hk); (try clear hi))); try go_wp2_with (first | (go_at_call 65; (with_reducible refine (jAm.calls k g s0_0 s0_1 s0_2 t157 t158 t159 false w0 _ ?side1 ?side2 A2.out).mono ?_); (case side1 => repeat (first | (with_reducible first | exact HI0.out | apply jAc.alloc | apply jAc.drewN | apply jAc.drew | apply jAc.set_0 | apply jAc.set_1 | apply jAc.set_2) | exact HI0.out)); (case side2 => repeat (first | (with_reducible first | exact HB.out | apply jAj | apply jAd | apply jAk | refine jAh ?_ (jAc.ge HI0.out)) | exact HB.out)); rintro e w13 ⟨rfl, hi, hb, hk⟩; have n0_ := jAa.mk (jAn.trans (by repeat (first | (with_reducible first | exact HK.out | apply jAn.set_ | apply jAs | apply jAw | apply jAt) | exact HK.out)) hk (.inl rfl)); have n1_ := jAa.mk (hb); have n2_ := jAa.mk (hi); clear HK; clear HB; clear HI0; have HK := n0_; have HB := n1_; have HI0 := n2_; clear n0_ n1_ n2_; (try clear hb); (try clear hb2); (try clear hk); (try clear hi); obtain ⟨HGz14, hgz14⟩ := HI0.out; have hcz14_0 := jBw HGz14; have hcz14_1 := jBx HGz14; have hcz14_2 := jBy HGz14; have hfz14_0 := jAg HGz14 0; have hfz14_1 := jAg HGz14 1; have hfz14_2 := jAg HGz14 2; clear HGz14 hgz14) | (go_at_call 94; (with_reducible refine (jAy.calls g t158 t159 false t165 t166 t167 t168 w0 _ ?side1 ?side2 A12.out).mono ?_); (case side1 => repeat (first | (with_reducible first | exact HI0.out | apply jAc.alloc | apply jAc.drewN | apply jAc.drew | apply jAc.set_0 | apply jAc.set_1 | apply jAc.set_2) | exact HI0.out)); (case side2 => repeat (first | (with_reducible first | exact HB.out | apply jAj | apply jAd | apply jAk | refine jAh ?_ (jAc.ge HI0.out)) | exact HB.out)); rintro e w15 ⟨rfl, hi, hb, hk⟩; have n0_ := jAa.mk (jAn.trans (by repeat (first | (with_reducible first | exact HK.out | apply jAn.set_ | apply jAs | apply jAw | apply jAt) | exact HK.out)) hk (.inl rfl)); have n1_ := jAa.mk (hb); have n2_ := jAa.mk (hi); clear HK; clear HB; clear HI0; have HK := n0_; have HB := n1_; have HI0 := n2_; clear n0_ n1_ n2_; (try clear hb); (try clear hb2); (try clear hk); (try clear hi))))
    go_ret
    exact ⟨by first | rfl | (simp [jBd, jBe] <;> rfl) | (simp [*, jBd, jBe] <;> rfl), by repeat (first | (with_reducible first | exact HI0.out | apply jAc.alloc | apply jAc.drewN | apply jAc.drew | apply jAc.set_0 | apply jAc.set_1 | apply jAc.set_2) | exact HI0.out), by repeat (first | (with_reducible first | exact HB.out | apply jAj | apply jAd | apply jAk | refine jAh ?_ (jAc.ge HI0.out)) | exact HB.out), by repeat (first | (with_reducible first | exact HK.out | apply jAn.set_ | apply jAs | apply jAw | apply jAt) | exact HK.out)⟩
   ·rw [if_neg c11] at H
    have c11b0 : decide ((wrap64 ((t158.size : Int) - t159)) < t157) = false := decide_eq_false c11
    clear c11
    by_cases c16 : 0 ≤ t159
    ·rw [if_pos c16] at H
     have c16b0 := eq_true c16
     have c16b1 : decide (0 ≤ t159) = true := decide_eq_true c16
     clear c16
     by_cases c17 : t159 ≤ (wrap64 (t159 + t157))
     ·rw [if_pos c17] at H
      have c17b0 := eq_true c17
      have c17b1 : decide (t159 ≤ (wrap64 (t159 + t157))) = true := decide_eq_true c17
      by_cases c18 : (wrap64 (t159 + t157)) ≤ (t158.size : Int)
      ·rw [if_pos c18] at H
       have c18b0 := eq_true c18
       have c18b1 : decide ((wrap64 (t159 + t157)) ≤ (t158.size : Int)) = true := decide_eq_true c18
       simp only [Option.some.injEq, Prod.mk.injEq] at H
       obtain ⟨rfl, rfl, rfl, rfl⟩ := H
       go_enter Tryd.func68, Tryd.ntmps68
       go_wp2_with (first | (go_at_call 65; (with_reducible refine (jAm.calls k g s0_0 s0_1 s0_2 t157 t158 t159 false w0 _ ?side1 ?side2 A2.out).mono ?_); (case side1 => repeat (first | (with_reducible first | exact HI0.out | apply jAc.alloc | apply jAc.drewN | apply jAc.drew | apply jAc.set_0 | apply jAc.set_1 | apply jAc.set_2) | exact HI0.out)); (case side2 => repeat (first | (with_reducible first | exact HB.out | apply jAj | apply jAd | apply jAk | refine jAh ?_ (jAc.ge HI0.out)) | exact HB.out)); rintro e w19 ⟨rfl, hi, hb, hk⟩; have n0_ := jAa.mk (jAn.trans (by repeat (first | (with_reducible first | exact HK.out | apply jAn.set_ | apply jAs | apply jAw | apply jAt) | exact HK.out)) hk (.inl rfl)); have n1_ := jAa.mk (hb); have n2_ := jAa.mk (hi); clear HK; clear HB; clear HI0; have HK := n0_; have HB := n1_; have HI0 := n2_; clear n0_ n1_ n2_; (try clear hb); (try clear hb2); (try clear hk); (try clear hi); obtain ⟨HGz20, hgz20⟩ := HI0.out; have hcz20_0 := jBw HGz20; have hcz20_1 := jBx HGz20; have hcz20_2 := jBy HGz20; have hfz20_0 := jAg HGz20 0; have hfz20_1 := jAg HGz20 1; have hfz20_2 := jAg HGz20 2; clear HGz20 hgz20))
       repeat (go_quiet (first | (go_at_call 65; (with_reducible refine (jAm.calls k g s0_0 s0_1 s0_2 t157 t158 t159 false w0 _ ?side1 ?side2 A2.out).mono ?_); (case side1 => repeat (first | (with_reducible first | exact HI0.out | apply jAc.alloc | apply jAc.drewN | apply jAc.drew | apply jAc.set_0 | apply jAc.set_1 | apply jAc.set_2) | exact HI0.out)); (case side2 => repeat (first | (with_reducible first | exact HB.out | apply jAj | apply jAd | apply jAk | refine jAh ?_ (jAc.ge HI0.out)) | exact HB.out)); rintro e w19 ⟨rfl, hi, hb, hk⟩; have n0_ := jAa.mk (jAn.trans (by repeat (first | (with_reducible first | exact HK.out | apply jAn.set_ | apply jAs | apply jAw | apply jAt) | exact HK.out)) hk (.inl rfl)); have n1_ := jAa.mk (hb); have n2_ := jAa.mk (hi); clear HK; clear HB; clear HI0; have HK := n0_; have HB := n1_; have HI0 := n2_; clear n0_ n1_ n2_; (try clear hb); (try clear hb2); (try clear hk); (try clear hi); obtain ⟨HGz20, hgz20⟩ := HI0.out; have hcz20_0 := jBw HGz20; have hcz20_1 := jBx HGz20; have hcz20_2 := jBy HGz20; have hfz20_0 := jAg HGz20 0; have hfz20_1 := jAg HGz20 1; have hfz20_2 := jAg HGz20 2; clear HGz20 hgz20)); try go_wp2_with (first | (go_at_call 65; (with_reducible refine (jAm.calls k g s0_0 s0_1 s0_2 t157 t158 t159 false w0 _ ?side1 ?side2 A2.out).mono ?_); (case side1 => repeat (first | (with_reducible first | exact HI0.out | apply jAc.alloc | apply jAc.drewN | apply jAc.drew | apply jAc.set_0 | apply jAc.set_1 | apply jAc.set_2) | exact HI0.out)); (case side2 => repeat (first | (with_reducible first | exact HB.out | apply jAj | apply jAd | apply jAk | refine jAh ?_ (jAc.ge HI0.out)) | exact HB.out)); rintro e w19 ⟨rfl, hi, hb, hk⟩; have n0_ := jAa.mk (jAn.trans (by repeat (first | (with_reducible first | exact HK.out | apply jAn.set_ | apply jAs | apply jAw | apply jAt) | exact HK.out)) hk (.inl rfl)); have n1_ := jAa.mk (hb); have n2_ := jAa.mk (hi); clear HK; clear HB; clear HI0; have HK := n0_; have HB := n1_; have HI0 := n2_; clear n0_ n1_ n2_; (try clear hb); (try clear hb2); (try clear hk); (try clear hi); obtain ⟨HGz20, hgz20⟩ := HI0.out; have hcz20_0 := jBw HGz20; have hcz20_1 := jBx HGz20; have hcz20_2 := jBy HGz20; have hfz20_0 := jAg HGz20 0; have hfz20_1 := jAg HGz20 1; have hfz20_2 := jAg HGz20 2; clear HGz20 hgz20)))
       go_ret
       exact ⟨by first | rfl | (simp [jBd, jBe] <;> rfl) | (simp [*, jBd, jBe] <;> rfl), by repeat (first | (with_reducible first | exact HI0.out | apply jAc.alloc | apply jAc.drewN | apply jAc.drew | apply jAc.set_0 | apply jAc.set_1 | apply jAc.set_2) | exact HI0.out), by repeat (first | (with_reducible first | exact HB.out | apply jAj | apply jAd | apply jAk | refine jAh ?_ (jAc.ge HI0.out)) | exact HB.out), by repeat (first | (with_reducible first | exact HK.out | apply jAn.set_ | apply jAs | apply jAw | apply jAt) | exact HK.out)⟩
      ·rw [if_neg c18] at H
       exact absurd H (by simp)
     ·rw [if_neg c17] at H
      exact absurd H (by simp)
    ·rw [if_neg c16] at H
     exact absurd H (by simp)
end Go.Proofs.YtefdfgmlmjnmlaaDoor.Rf
end

section
set_option linter.unusedVariables false
set_option linter.unusedSimpArgs false
namespace Go.Proofs.YtefdfgmlmjnmlaaDoor.Rf
open Go.RowKit Go.Proofs.YtefdfgmlmjnmlaaDoorW.PrintWords Go.Proofs.YtefdfgmlmjnmlaaDoorW.PrintLast Go.Proofs.YtefdfgmlmjnmlaaDoorW.PrintMore
attribute [local go_sem] jCg jCo
def jBz.f (k : Nat) (s0_0 : ByteArray) (s0_1 : Int) (s0_2 : Bool) : Option (Bool × ByteArray × Int × Bool) := (jAm.f k s0_0 s0_1 s0_2).bind fun bt169 => (if bt169.1 = 0 then (some ((bt169.1 == 1), bt169.2.1, bt169.2.2.1, bt169.2.2.2)) else (if bt169.1 = 1 then (some ((bt169.1 == 1), bt169.2.1, bt169.2.2.1, bt169.2.2.2)) else ((jAy.f bt169.2.1 bt169.2.2.1 bt169.2.2.2).bind fun bt173 => (some ((bt169.1 == 1), bt173.2.1, bt173.2.2.1, bt173.2.2.2)))))
set_option maxHeartbeats 8000000 in
set_option maxRecDepth 100000 in
theorem jBz.calls (k : Nat) (g : Nat) (s0_0 : ByteArray) (s0_1 : Int) (s0_2 : Bool) (r1 : Bool) (r2 : ByteArray) (r3 : Int) (r4 : Bool) (w0 w : World) (hI : jAc w0 w g s0_0 s0_1 s0_2) (hB : Below w0.heap.size w0 w) (h : jBz.f k s0_0 s0_1 s0_2 = some (r1, r2, r3, r4)) :
  Calls Tryd.prog 96 #[.pointer (some ⟨g, 0, none⟩)] w fun e w' => e = .returned (.bool r1) ∧ jAc w0 w' g r2 r3 r4 ∧ Below w0.heap.size w0 w' ∧ jAn w w' g none := by
 have HI0 := jAa.mk hI
 have HK := jAa.mk (jAn.refl w g none)
 have HL := jAa.mk hB.size
 clear hI
 have HW0 := jAa.mk hB.size
 have HB := jAa.mk hB
 clear hB
 have H : ((jAm.f k s0_0 s0_1 s0_2).bind fun bt169 => (if bt169.1 = 0 then (some ((bt169.1 == 1), bt169.2.1, bt169.2.2.1, bt169.2.2.2)) else (if bt169.1 = 1 then (some ((bt169.1 == 1), bt169.2.1, bt169.2.2.1, bt169.2.2.2)) else ((jAy.f bt169.2.1 bt169.2.2.1 bt169.2.2.2).bind fun bt173 => (some ((bt169.1 == 1), bt173.2.1, bt173.2.2.1, bt173.2.2.2)))))) = some (r1, r2, r3, r4) := h
 clear h
 replace H := Option.bind_eq_some_iff.mp H
 obtain ⟨⟨t169, t170, t171, t172⟩, A20, H⟩ := H
 replace H : (if t169 = 0 then (some ((t169 == 1), t170, t171, t172)) else (if t169 = 1 then (some ((t169 == 1), t170, t171, t172)) else ((jAy.f t170 t171 t172).bind fun bt173 => (some ((t169 == 1), bt173.2.1, bt173.2.2.1, bt173.2.2.2))))) = some (r1, r2, r3, r4) := H
 have A2 := jAa.mk A20
 clear A20
 by_cases c3 : t169 = 0
 ·rw [if_pos c3] at H
  have c3b0 : (t169 == 0) = true := beq_iff_eq.mpr c3
  have c3b1 : (t169 != 0) = false := bne_eq_false_iff_eq.mpr c3
  clear c3
  simp only [Option.some.injEq, Prod.mk.injEq] at H
  obtain ⟨rfl, rfl, rfl, rfl⟩ := H
  go_enter Tryd.func96, Tryd.ntmps96
  go_wp2_with (first | ((with_reducible refine jBl (f := 65) rfl ?_); refine jCe (some 5) rfl rfl Tryd.func65 (by kernel_rfl) rfl #[.pointer (some ⟨g, 0, none⟩)] rfl (by (try simp only [List.map_toArray, List.map_cons, List.map_nil]); first | done | rfl | (simp only [List.length_drop, List.length_take]; rfl)) ?_; (with_reducible refine (jAm.calls k g s0_0 s0_1 s0_2 t169 t170 t171 t172 w0 _ ?side1 ?side2 A2.out).mono ?_); (case side1 => repeat (first | (with_reducible first | exact HI0.out | apply jAc.alloc | apply jAc.drewN | apply jAc.drew | apply jAc.set_0 | apply jAc.set_1 | apply jAc.set_2) | exact HI0.out)); (case side2 => repeat (first | (with_reducible first | exact HB.out | apply jAj | apply jAd | apply jAk | refine jAh ?_ (jAc.ge HI0.out)) | exact HB.out)); rintro e w4 ⟨rfl, hi, hb, hk⟩; refine ⟨_, rfl, ?_⟩; have n0_ := jAa.mk (jAn.trans (by repeat (first | (with_reducible first | exact HK.out | apply jAn.set_ | apply jAs | apply jAw | apply jAt) | exact HK.out)) hk (.inl rfl)); have n1_ := jAa.mk (hb); have n2_ := jAa.mk (hi); clear HK; clear HB; clear HI0; have HK := n0_; have HB := n1_; have HI0 := n2_; clear n0_ n1_ n2_; (try clear hb); (try clear hb2); (try clear hk); (try clear hi)))
  go_ret
  exact ⟨by first | rfl | (simp [jBd, jBe] <;> rfl) | (simp [*, jBd, jBe] <;> rfl), by repeat (first | (with_reducible first | exact HI0.out | apply jAc.alloc | apply jAc.drewN | apply jAc.drew | apply jAc.set_0 | apply jAc.set_1 | apply jAc.set_2) | exact HI0.out), by repeat (first | (with_reducible first | exact HB.out | apply jAj | apply jAd | apply jAk | refine jAh ?_ (jAc.ge HI0.out)) | exact HB.out), by repeat (first | (with_reducible first | exact HK.out | apply jAn.set_ | apply jAs | apply jAw | apply jAt) | exact HK.out)⟩
 ·rw [if_neg c3] at H
  have c3b0 : (t169 == 0) = false := beq_eq_false_iff_ne.mpr c3
  have c3b1 : (t169 != 0) = true := bne_iff_ne.mpr c3
  by_cases c5 : t169 = 1
  ·rw [if_pos c5] at H
   have c5b0 : (t169 == 1) = true := beq_iff_eq.mpr c5
   have c5b1 : (t169 != 1) = false := bne_eq_false_iff_eq.mpr c5
   clear c5
   simp only [Option.some.injEq, Prod.mk.injEq] at H
   obtain ⟨rfl, rfl, rfl, rfl⟩ := H
   go_enter Tryd.func96, Tryd.ntmps96
   go_wp2_with (first | ((with_reducible refine jBl (f := 65) rfl ?_); refine jCe (some 5) rfl rfl Tryd.func65 (by kernel_rfl) rfl #[.pointer (some ⟨g, 0, none⟩)] rfl (by (try simp only [List.map_toArray, List.map_cons, List.map_nil]); first | done | rfl | (simp only [List.length_drop, List.length_take]; rfl)) ?_; (with_reducible refine (jAm.calls k g s0_0 s0_1 s0_2 t169 t170 t171 t172 w0 _ ?side1 ?side2 A2.out).mono ?_); (case side1 => repeat (first | (with_reducible first | exact HI0.out | apply jAc.alloc | apply jAc.drewN | apply jAc.drew | apply jAc.set_0 | apply jAc.set_1 | apply jAc.set_2) | exact HI0.out)); (case side2 => repeat (first | (with_reducible first | exact HB.out | apply jAj | apply jAd | apply jAk | refine jAh ?_ (jAc.ge HI0.out)) | exact HB.out)); rintro e w6 ⟨rfl, hi, hb, hk⟩; refine ⟨_, rfl, ?_⟩; have n0_ := jAa.mk (jAn.trans (by repeat (first | (with_reducible first | exact HK.out | apply jAn.set_ | apply jAs | apply jAw | apply jAt) | exact HK.out)) hk (.inl rfl)); have n1_ := jAa.mk (hb); have n2_ := jAa.mk (hi); clear HK; clear HB; clear HI0; have HK := n0_; have HB := n1_; have HI0 := n2_; clear n0_ n1_ n2_; (try clear hb); (try clear hb2); (try clear hk); (try clear hi)))
   go_ret
   exact ⟨by first | rfl | (simp [jBd, jBe] <;> rfl) | (simp [*, jBd, jBe] <;> rfl), by repeat (first | (with_reducible first | exact HI0.out | apply jAc.alloc | apply jAc.drewN | apply jAc.drew | apply jAc.set_0 | apply jAc.set_1 | apply jAc.set_2) | exact HI0.out), by repeat (first | (with_reducible first | exact HB.out | apply jAj | apply jAd | apply jAk | refine jAh ?_ (jAc.ge HI0.out)) | exact HB.out), by repeat (first | (with_reducible first | exact HK.out | apply jAn.set_ | apply jAs | apply jAw | apply jAt) | exact HK.out)⟩
  ·rw [if_neg c5] at H
   have c5b0 : (t169 == 1) = false := beq_eq_false_iff_ne.mpr c5
   have c5b1 : (t169 != 1) = true := bne_iff_ne.mpr c5
   replace H := Option.bind_eq_some_iff.mp H
   obtain ⟨⟨t173, t174, t175, t176⟩, A70, H⟩ := H
   replace H : (some ((t169 == 1), t174, t175, t176)) = some (r1, r2, r3, r4) := H
   have A7 := jAa.mk A70
   clear A70
   simp only [Option.some.injEq, Prod.mk.injEq] at H
   obtain ⟨rfl, rfl, rfl, rfl⟩ := H
   go_enter Tryd.func96, Tryd.ntmps96
   go_wp2_with (first | ((with_reducible refine jBl (f := 65) rfl ?_); refine jCe (some 5) rfl rfl Tryd.func65 (by kernel_rfl) rfl #[.pointer (some ⟨g, 0, none⟩)] rfl (by (try simp only [List.map_toArray, List.map_cons, List.map_nil]); first | done | rfl | (simp only [List.length_drop, List.length_take]; rfl)) ?_; (with_reducible refine (jAm.calls k g s0_0 s0_1 s0_2 t169 t170 t171 t172 w0 _ ?side1 ?side2 A2.out).mono ?_); (case side1 => repeat (first | (with_reducible first | exact HI0.out | apply jAc.alloc | apply jAc.drewN | apply jAc.drew | apply jAc.set_0 | apply jAc.set_1 | apply jAc.set_2) | exact HI0.out)); (case side2 => repeat (first | (with_reducible first | exact HB.out | apply jAj | apply jAd | apply jAk | refine jAh ?_ (jAc.ge HI0.out)) | exact HB.out)); rintro e w8 ⟨rfl, hi, hb, hk⟩; refine ⟨_, rfl, ?_⟩; have n0_ := jAa.mk (jAn.trans (by repeat (first | (with_reducible first | exact HK.out | apply jAn.set_ | apply jAs | apply jAw | apply jAt) | exact HK.out)) hk (.inl rfl)); have n1_ := jAa.mk (hb); have n2_ := jAa.mk (hi); clear HK; clear HB; clear HI0; have HK := n0_; have HB := n1_; have HI0 := n2_; clear n0_ n1_ n2_; (try clear hb); (try clear hb2); (try clear hk); (try clear hi)) | ((with_reducible refine jBl (f := 94) rfl ?_); refine jCe (some 17) rfl rfl Tryd.func94 (by kernel_rfl) rfl #[.pointer (some ⟨g, 0, none⟩)] rfl (by (try simp only [List.map_toArray, List.map_cons, List.map_nil]); first | done | rfl | (simp only [List.length_drop, List.length_take]; rfl)) ?_; (with_reducible refine (jAy.calls g t170 t171 t172 t173 t174 t175 t176 w0 _ ?side1 ?side2 A7.out).mono ?_); (case side1 => repeat (first | (with_reducible first | exact HI0.out | apply jAc.alloc | apply jAc.drewN | apply jAc.drew | apply jAc.set_0 | apply jAc.set_1 | apply jAc.set_2) | exact HI0.out)); (case side2 => repeat (first | (with_reducible first | exact HB.out | apply jAj | apply jAd | apply jAk | refine jAh ?_ (jAc.ge HI0.out)) | exact HB.out)); rintro e w9 ⟨rfl, hi, hb, hk⟩; refine ⟨_, rfl, ?_⟩; have n0_ := jAa.mk (jAn.trans (by repeat (first | (with_reducible first | exact HK.out | apply jAn.set_ | apply jAs | apply jAw | apply jAt) | exact HK.out)) hk (.inl rfl)); have n1_ := jAa.mk (hb); have n2_ := jAa.mk (hi); clear HK; clear HB; clear HI0; have HK := n0_; have HB := n1_; have HI0 := n2_; clear n0_ n1_ n2_; (try clear hb); (try clear hb2); (try clear hk); (try clear hi)))
   go_ret
   exact ⟨by first | rfl | (simp [jBd, jBe] <;> rfl) | (simp [*, jBd, jBe] <;> rfl), by repeat (first | (with_reducible first | exact HI0.out | apply jAc.alloc | apply jAc.drewN | apply jAc.drew | apply jAc.set_0 | apply jAc.set_1 | apply jAc.set_2) | exact HI0.out), by repeat (first | (with_reducible first | exact HB.out | apply jAj | apply jAd | apply jAk | refine jAh ?_ (jAc.ge HI0.out)) | exact HB.out), by repeat (first | (with_reducible first | exact HK.out | apply jAn.set_ | apply jAs | apply jAw | apply jAt) | exact HK.out)⟩
end Go.Proofs.YtefdfgmlmjnmlaaDoor.Rf
end

section
set_option linter.unusedSimpArgs false
set_option linter.unusedVariables false
namespace Go.Proofs.YtefdfgmlmjnmlaaDoor.My
open Go.RowKit Go.Proofs.YtefdfgmlmjnmlaaDoorW.PrintWords Go.Proofs.YtefdfgmlmjnmlaaDoor.Rf
def keptF (b : Nat) : Int := if (FloatKind.f64.format.order b b != some .eq) = true then 9221120237041090560 else if (FloatKind.f64.format.order b 0 == some .eq) = true then 0 else wrap64 (b : Int)
def bitsF (n : Int) : Nat := (IntKind.u64.wrap n).toNat
def goodF (n : Int) : Bool := keptF (bitsF n) == n
theorem frombits (n : Int) (w : World) : (callFunc 127 #[.int .u64 n]).run Tryd.prog w = .ok (.value (.float .f64 n.toNat)) w := by
  rw [run_callFunc_extern Tryd.func127 (by kernel_rfl) (by kernel_rfl) (by kernel_rfl) (e := Extern.MathFloatBits.float64frombits) (by kernel_rfl)]
  rfl
theorem tobits (n : Nat) (w : World) : (callFunc 126 #[.float .f64 n]).run Tryd.prog w = .ok (.value (.int .u64 n)) w := by
  rw [run_callFunc_extern Tryd.func126 (by kernel_rfl) (by kernel_rfl) (by kernel_rfl) (e := Extern.MathFloatBits.float64bits) (by kernel_rfl)]
  rfl
set_option maxRecDepth 100000 in
theorem of_calls (n : Int) (w : World) : Calls Tryd.prog 130 #[.int .i64 n] w fun e w' => e = .returned (.float .f64 (bitsF n)) ∧ Below w.heap.size w w' := by
  have hd := frombits
  go_enter Tryd.func130, Tryd.ntmps130
  go_wp2_with (simp only [hd])
  go_ret
  exact ⟨rfl, Below.refl _ _⟩
set_option maxRecDepth 100000 in
theorem ofR_calls (n : Int) (w : World) : Calls Tryd.prog 119 #[.int .i64 n] w fun e w' => e = .returned (.float .f64 (bitsF n)) ∧ Below w.heap.size w w' := by
  have hd := frombits
  go_enter Tryd.func119, Tryd.ntmps119
  go_wp2_with (simp only [hd])
  go_ret
  exact ⟨rfl, Below.refl _ _⟩
set_option maxRecDepth 100000 in
theorem jGt (b : Nat) (w : World) : Calls Tryd.prog 125 #[.float .f64 b] w fun e w' => e = .returned (.bool (FloatKind.f64.format.order b b != some .eq)) ∧ Below w.heap.size w w' := by
  go_enter Tryd.func125, Tryd.ntmps125
  go_wp2
  go_ret
  exact ⟨rfl, Below.refl _ _⟩
set_option maxRecDepth 100000 in
theorem canon_calls (b : Nat) (w : World) : Calls Tryd.prog 129 #[.float .f64 b] w fun e w' => e = .returned (.int .i64 (keptF b)) ∧ Below w.heap.size w w' := by
  have hd := tobits
  unfold keptF
  cases h1 : (FloatKind.f64.format.order b b != some .eq) with
  | true =>
    go_enter Tryd.func129, Tryd.ntmps129
    go_wp2
    go_ret
    exact ⟨rfl, Below.refl _ _⟩
  | false =>
    cases h2 : (FloatKind.f64.format.order b 0 == some .eq) with
    | true =>
      go_enter Tryd.func129, Tryd.ntmps129
      go_wp2
      go_ret
      exact ⟨rfl, Below.refl _ _⟩
    | false =>
      go_enter Tryd.func129, Tryd.ntmps129
      go_wp2_with (simp only [hd])
      go_ret
      exact ⟨rfl, Below.refl _ _⟩
set_option maxRecDepth 100000 in
theorem kept_calls (b : Nat) (w : World) : Calls Tryd.prog 118 #[.float .f64 b] w fun e w' => e = .returned (.int .i64 (keptF b)) ∧ Below w.heap.size w w' := by
  have hd := tobits
  unfold keptF
  cases h1 : (FloatKind.f64.format.order b b != some .eq) with
  | true =>
    go_enter Tryd.func118, Tryd.ntmps118
    go_wp2_with (go_at_call 125; refine (jGt b _).mono ?_; rw [h1]; rintro e w2 ⟨rfl, hb2⟩)
    go_ret
    exact ⟨rfl, hb2⟩
  | false =>
    cases h2 : (FloatKind.f64.format.order b 0 == some .eq) with
    | true =>
      go_enter Tryd.func118, Tryd.ntmps118
      go_wp2_with (go_at_call 125; refine (jGt b _).mono ?_; rw [h1]; rintro e w2 ⟨rfl, hb2⟩)
      go_ret
      exact ⟨rfl, hb2⟩
    | false =>
      go_enter Tryd.func118, Tryd.ntmps118
      go_wp2_with (first | (go_at_call 125; refine (jGt b _).mono ?_; rw [h1]; rintro e w2 ⟨rfl, hb2⟩) | (simp only [hd]))
      go_ret
      exact ⟨rfl, hb2⟩
set_option maxRecDepth 100000 in
theorem jHh (n : Int) (w : World) : Calls Tryd.prog 123 #[.int .i64 n] w fun e w' => e = .returned (.bool (goodF n)) ∧ Below w.heap.size w w' := by
  go_enter Tryd.func123, Tryd.ntmps123
  go_wp2_with (first
    | (go_at_call 130; refine (of_calls n _).mono ?_; rintro e w2 ⟨rfl, hb2⟩)
    | (go_at_call 129; refine (canon_calls (bitsF n) _).mono ?_; rintro e w3 ⟨rfl, hb3⟩))
  go_ret
  exact ⟨rfl, jAu hb2 hb3⟩
end Go.Proofs.YtefdfgmlmjnmlaaDoor.My
end

section
set_option linter.unusedSimpArgs false
set_option linter.unusedVariables false
namespace Go.Proofs.YtefdfgmlmjnmlaaDoor.My
open Go.RowKit Go.Proofs.YtefdfgmlmjnmlaaDoorW.PrintWords Go.Proofs.YtefdfgmlmjnmlaaDoor.Rf
open Go.Proofs.YtefdfgmlmjnmlaaDoorW.PrintLast Go.Proofs.YtefdfgmlmjnmlaaDoorW.PrintMore
theorem eqA70 (d : Nat) (w : World) (x0 y0 x1 y1 : Int) (x2 y2 : ByteArray) :
    (Op.equalIn (d + 2) 70 (.agg #[.int .i64 x0, .int .i64 x1, .string x2]) (.agg #[.int .i64 y0, .int .i64 y1, .string y2])).run Tryd.prog w = .ok (x0 == y0 && (x1 == y1 && (x2.toList == y2.toList))) w := by
  refine eqA_of Tryd.underlying70 (by kernel_rfl) ?_
  refine jDn (by rfl) (by go_simp; rfl) (by go_simp; rfl) (by go_simp) ?_
  refine jDn (by rfl) (by go_simp; rfl) (by go_simp; rfl) (by go_simp) ?_
  exact jGh (by rfl) (by go_simp; rfl) (by go_simp; rfl) (by go_simp)
attribute [local go_sem high] eqA70
def goodV (v : S70) : Bool :=
  if v.f0 = 0 then v.f1 == 0 && v.f2.toList.isEmpty
  else if v.f0 = 1 then v.f2.toList.isEmpty
  else if v.f0 = 2 then v.f2.toList.isEmpty && goodF v.f1
  else if v.f0 = 3 then v.f1 == 0 && decide ((v.f2.size : Int) ≤ 24)
  else false
set_option maxHeartbeats 4000000 in
set_option maxRecDepth 100000 in
theorem val_calls (v : S70) (w : World) : Calls Tryd.prog 113 #[.agg #[.int .i64 v.f0, .int .i64 v.f1, .string v.f2]] w fun e w' => e = .returned (.bool (goodV v)) ∧ Below w.heap.size w w' := by
  obtain ⟨f0, f1, f2⟩ := v
  unfold goodV
  dsimp only
  have hb1 := jHp w (.cells #[.int .i64 f0, .int .i64 f1, .string f2] 70)
  have HB := jAa.mk hb1
  clear hb1
  by_cases h0 : f0 = 0
  · subst h0
    cases h1 : (f1 == 0) with
    | true =>
      go_enter Tryd.func113, Tryd.ntmps113
      go_wp2
      go_ret
      exact ⟨by simp, HB.out⟩
    | false =>
      go_enter Tryd.func113, Tryd.ntmps113
      go_wp2
      go_ret
      exact ⟨by simp, HB.out⟩
  · by_cases h1 : f0 = 1
    · subst h1
      go_enter Tryd.func113, Tryd.ntmps113
      go_wp2
      go_ret
      exact ⟨by simp, HB.out⟩
    · by_cases h2 : f0 = 2
      · subst h2
        rw [if_neg h0, if_neg h1, if_pos rfl]
        have HK := jAa.mk (jCt w (.cells #[.int .i64 2, .int .i64 f1, .string f2] 70))
        cases h4 : f2.toList.isEmpty with
        | true =>
          go_enter Tryd.func113, Tryd.ntmps113
          go_wp2_with (go_at_call 123; refine (jHh f1 _).mono ?_; rintro e w2 ⟨rfl, hb2⟩)
          go_ret
          exact ⟨by simp, jAu HB.out hb2⟩
        | false =>
          go_enter Tryd.func113, Tryd.ntmps113
          go_wp2
          go_ret
          exact ⟨by simp, HB.out⟩
      · by_cases h3 : f0 = 3
        · subst h3
          cases h1 : (f1 == 0) with
          | true =>
            go_enter Tryd.func113, Tryd.ntmps113
            go_wp2
            go_ret
            exact ⟨by simp, HB.out⟩
          | false =>
            go_enter Tryd.func113, Tryd.ntmps113
            go_wp2
            go_ret
            exact ⟨by simp, HB.out⟩
        · rw [if_neg h0, if_neg h1, if_neg h2, if_neg h3]
          have e0 : (f0 == 0) = false := beq_eq_false_iff_ne.2 h0
          have e1 : (f0 == 1) = false := beq_eq_false_iff_ne.2 h1
          have e2 : (f0 == 2) = false := beq_eq_false_iff_ne.2 h2
          have e3 : (f0 == 3) = false := beq_eq_false_iff_ne.2 h3
          go_enter Tryd.func113, Tryd.ntmps113
          go_wp2
          go_ret
          exact ⟨rfl, HB.out⟩
set_option maxHeartbeats 4000000 in
set_option maxRecDepth 100000 in
theorem valR_calls (v : S70) (w : World) : Calls Tryd.prog 98 #[.agg #[.int .i64 v.f0, .int .i64 v.f1, .string v.f2]] w fun e w' => e = .returned (.bool (goodV v)) ∧ Below w.heap.size w w' := by
  obtain ⟨f0, f1, f2⟩ := v
  unfold goodV
  dsimp only
  have hb1 := jHp w (.cells #[.int .i64 f0, .int .i64 f1, .string f2] 70)
  have HB := jAa.mk hb1
  clear hb1
  by_cases h0 : f0 = 0
  · subst h0
    cases h1 : (f1 == 0) with
    | true =>
      go_enter Tryd.func98, Tryd.ntmps98
      go_wp2
      go_ret
      exact ⟨by simp, HB.out⟩
    | false =>
      go_enter Tryd.func98, Tryd.ntmps98
      go_wp2
      go_ret
      exact ⟨by simp, HB.out⟩
  · by_cases h1 : f0 = 1
    · subst h1
      go_enter Tryd.func98, Tryd.ntmps98
      go_wp2
      go_ret
      exact ⟨by simp, HB.out⟩
    · by_cases h2 : f0 = 2
      · subst h2
        rw [if_neg h0, if_neg h1, if_pos rfl]
        have HK := jAa.mk (jCt w (.cells #[.int .i64 2, .int .i64 f1, .string f2] 70))
        cases h4 : f2.toList.isEmpty with
        | true =>
          go_enter Tryd.func98, Tryd.ntmps98
          go_wp2_with (fail)
          refine jDz (n := 13) (S := (fun w' => w'.cell? ⟨w.heap.size, 0, none⟩ = some (.int .i64 2) ∧ w'.cell? ⟨w.heap.size, 1, none⟩ = some (.int .i64 f1) ∧ w'.cell? ⟨w.heap.size, 2, none⟩ = some (.string f2))) (ds := []) #[false, false, false, false, false, false, false, false, false, false, false, false, false] (by kernel_rfl) rfl rfl ⟨jAb HK.out 0, jAb HK.out 1, jAb HK.out 2⟩ (fun hHeld => ?_)
          refine pure_ (i := 0) (N := some 22) (v := ?_) (a' := ?_) #[true, false, false, false, false, false, false, false, false, false, false, false, false] rfl rfl (by kernel_rfl) (fun _ _ _ h => h) (Or.inl ⟨by rfl, ?_⟩) ?_ ?_
          rotate_left
          · intro w'
            go_simp
            with_reducible rfl
          rotate_left
          · simp only [Act.put, List.setIfInBounds_toArray, List.set_cons_zero, List.set_cons_succ, i64_w, i32_w]
            rfl
          refine take_ (i := 1) (N := some 23) (v := ?_) (a' := ?_) #[true, true, false, false, false, false, false, false, false, false, false, false, false] rfl rfl (by kernel_rfl) (fun _ _ _ h => h) (Or.inl ⟨by rfl, ?_⟩) hHeld ?_ ?_
          rotate_left
          · rintro w' ⟨s0, s1, s2⟩
            go_simp
            with_reducible rfl
          rotate_left
          · simp only [Act.put, List.setIfInBounds_toArray, List.set_cons_zero, List.set_cons_succ, i64_w, i32_w]
            rfl
          refine pure_ (i := 2) (N := some 24) (v := ?_) (a' := ?_) #[true, true, true, false, false, false, false, false, false, false, false, false, false] rfl rfl (by kernel_rfl) (fun _ _ _ h => h) (Or.inl ⟨by rfl, ?_⟩) ?_ ?_
          rotate_left
          · intro w'
            go_simp
            with_reducible rfl
          rotate_left
          · simp only [Act.put, List.setIfInBounds_toArray, List.set_cons_zero, List.set_cons_succ, i64_w, i32_w]
            rfl
          refine pure_ (i := 3) (N := some 25) (v := ?_) (a' := ?_) #[true, true, true, true, false, false, false, false, false, false, false, false, false] rfl rfl (by kernel_rfl) (fun _ _ _ h => h) (Or.inl ⟨by rfl, ?_⟩) ?_ ?_
          rotate_left
          · intro w'
            go_simp
            with_reducible rfl
          rotate_left
          · simp only [Act.put, List.setIfInBounds_toArray, List.set_cons_zero, List.set_cons_succ, i64_w, i32_w]
            rfl
          refine pure_ (i := 4) (N := some 26) (v := ?_) (a' := ?_) #[true, true, true, true, true, false, false, false, false, false, false, false, false] rfl rfl (by kernel_rfl) (fun _ _ _ h => h) (Or.inl ⟨by rfl, ?_⟩) ?_ ?_
          rotate_left
          · intro w'
            go_simp
            with_reducible rfl
          rotate_left
          · simp only [Act.put, List.setIfInBounds_toArray, List.set_cons_zero, List.set_cons_succ, i64_w, i32_w]
            rfl
          refine pure_ (i := 8) (N := some 30) (v := ?_) (a' := ?_) #[true, true, true, true, true, false, false, false, true, false, false, false, false] rfl rfl (by kernel_rfl) (fun _ _ _ h => h) (Or.inl ⟨by rfl, ?_⟩) ?_ ?_
          rotate_left
          · intro w'
            go_simp
            with_reducible rfl
          rotate_left
          · simp only [Act.put, List.setIfInBounds_toArray, List.set_cons_zero, List.set_cons_succ, i64_w, i32_w]
            rfl
          refine take_ (i := 5) (N := some 27) (v := ?_) (a' := ?_) #[true, true, true, true, true, true, false, false, true, false, false, false, false] rfl rfl (by kernel_rfl) (fun _ _ _ h => h) (Or.inl ⟨by rfl, ?_⟩) hHeld ?_ ?_
          rotate_left
          · rintro w' ⟨s0, s1, s2⟩
            go_simp
            with_reducible rfl
          rotate_left
          · simp only [Act.put, List.setIfInBounds_toArray, List.set_cons_zero, List.set_cons_succ, i64_w, i32_w]
            rfl
          refine take_ (i := 9) (N := some 31) (v := ?_) (a' := ?_) #[true, true, true, true, true, true, false, false, true, true, false, false, false] rfl rfl (by kernel_rfl) (fun _ _ _ h => h) (Or.inl ⟨by rfl, ?_⟩) hHeld ?_ ?_
          rotate_left
          · rintro w' ⟨s0, s1, s2⟩
            go_simp
            with_reducible rfl
          rotate_left
          · simp only [Act.put, List.setIfInBounds_toArray, List.set_cons_zero, List.set_cons_succ, i64_w, i32_w]
            rfl
          refine one_ (i := 6) (N := some 28) #[true, true, true, true, true, true, true, false, true, true, false, false, false] rfl rfl (by kernel_rfl) (by decide) (fun K hK => ?_)
          refine goes_ Tryd.func119 (by kernel_rfl) rfl #[.int .i64 f1] (by rfl) rfl rfl (by first | rfl | (simp only [List.map_toArray, List.map_cons, List.map_nil]; rfl)) ?_
          refine (ofR_calls f1 _).mono ?_
          rintro e w2 ⟨rfl, hb2⟩
          have hb2 := undrew hb2
          have HK2 := jAa.mk (jAp HK.out hb2)
          refine ⟨_, rfl, ?_⟩
          refine hK.out _ _ ⟨jAb HK2.out 0, jAb HK2.out 1, jAb HK2.out 2⟩ (fun hHeld => ?_)
          clear hK K
          refine norm_ (a' := ?_) ?_ ?_
          rotate_left
          · show Act.put _ (some 28) _ = _
            simp only [Act.put, List.setIfInBounds_toArray, List.set_cons_zero, List.set_cons_succ, i64_w, i32_w]
            rfl
          refine one_ (i := 7) (N := some 29) #[true, true, true, true, true, true, true, true, true, true, false, false, false] rfl rfl (by kernel_rfl) (by decide) (fun K hK => ?_)
          refine goes_ Tryd.func118 (by kernel_rfl) rfl #[.float .f64 (bitsF f1)] (by rfl) rfl rfl (by first | rfl | (simp only [List.map_toArray, List.map_cons, List.map_nil]; rfl)) ?_
          refine (kept_calls (bitsF f1) _).mono ?_
          rintro e w3 ⟨rfl, hb3⟩
          have HK3 := jAa.mk (jAp HK2.out hb3)
          refine ⟨_, rfl, ?_⟩
          refine hK.out _ _ ⟨jAb HK3.out 0, jAb HK3.out 1, jAb HK3.out 2⟩ (fun hHeld => ?_)
          clear hK K
          refine norm_ (a' := ?_) ?_ ?_
          rotate_left
          · show Act.put _ (some 29) _ = _
            simp only [Act.put, List.setIfInBounds_toArray, List.set_cons_zero, List.set_cons_succ, i64_w, i32_w]
            rfl
          refine pure_ (i := 10) (N := some 32) (v := ?_) (a' := ?_) #[true, true, true, true, true, true, true, true, true, true, true, false, false] rfl rfl (by kernel_rfl) (fun _ _ _ h => h) (Or.inl ⟨by rfl, ?_⟩) ?_ ?_
          rotate_left
          · intro w'
            go_simp
            with_reducible rfl
          rotate_left
          · simp only [Act.put, List.setIfInBounds_toArray, List.set_cons_zero, List.set_cons_succ, i64_w, i32_w]
            rfl
          refine pure_ (i := 11) (N := some 33) (v := ?_) (a' := ?_) #[true, true, true, true, true, true, true, true, true, true, true, true, false] rfl rfl (by kernel_rfl) (fun _ _ _ h => h) (Or.inl ⟨by rfl, ?_⟩) ?_ ?_
          rotate_left
          · intro w'
            go_simp
            with_reducible rfl
          rotate_left
          · simp only [Act.put, List.setIfInBounds_toArray, List.set_cons_zero, List.set_cons_succ, i64_w, i32_w]
            rfl
          refine pure_ (i := 12) (N := some 2) (v := ?_) (a' := ?_) #[true, true, true, true, true, true, true, true, true, true, true, true, true] rfl rfl (by kernel_rfl) (fun _ _ _ h => h) (Or.inl ⟨by rfl, ?_⟩) ?_ ?_
          rotate_left
          · intro w'
            go_simp
            with_reducible rfl
          rotate_left
          · simp only [Act.put, List.setIfInBounds_toArray, List.set_cons_zero, List.set_cons_succ, i64_w, i32_w]
            rfl
          refine done_ (by kernel_rfl) ?_
          go_wp2
          go_ret
          exact ⟨by simp [goodF], jAu (jAu HB.out hb2) hb3⟩
        | false =>
          go_enter Tryd.func98, Tryd.ntmps98
          go_wp2_with (fail)
          refine jDz (n := 13) (S := (fun w' => w'.cell? ⟨w.heap.size, 0, none⟩ = some (.int .i64 2) ∧ w'.cell? ⟨w.heap.size, 1, none⟩ = some (.int .i64 f1) ∧ w'.cell? ⟨w.heap.size, 2, none⟩ = some (.string f2))) (ds := []) #[false, false, false, false, false, false, false, false, false, false, false, false, false] (by kernel_rfl) rfl rfl ⟨jAb HK.out 0, jAb HK.out 1, jAb HK.out 2⟩ (fun hHeld => ?_)
          refine pure_ (i := 0) (N := some 22) (v := ?_) (a' := ?_) #[true, false, false, false, false, false, false, false, false, false, false, false, false] rfl rfl (by kernel_rfl) (fun _ _ _ h => h) (Or.inl ⟨by rfl, ?_⟩) ?_ ?_
          rotate_left
          · intro w'
            go_simp
            with_reducible rfl
          rotate_left
          · simp only [Act.put, List.setIfInBounds_toArray, List.set_cons_zero, List.set_cons_succ, i64_w, i32_w]
            rfl
          refine take_ (i := 1) (N := some 23) (v := ?_) (a' := ?_) #[true, true, false, false, false, false, false, false, false, false, false, false, false] rfl rfl (by kernel_rfl) (fun _ _ _ h => h) (Or.inl ⟨by rfl, ?_⟩) hHeld ?_ ?_
          rotate_left
          · rintro w' ⟨s0, s1, s2⟩
            go_simp
            with_reducible rfl
          rotate_left
          · simp only [Act.put, List.setIfInBounds_toArray, List.set_cons_zero, List.set_cons_succ, i64_w, i32_w]
            rfl
          refine pure_ (i := 2) (N := some 24) (v := ?_) (a' := ?_) #[true, true, true, false, false, false, false, false, false, false, false, false, false] rfl rfl (by kernel_rfl) (fun _ _ _ h => h) (Or.inl ⟨by rfl, ?_⟩) ?_ ?_
          rotate_left
          · intro w'
            go_simp
            with_reducible rfl
          rotate_left
          · simp only [Act.put, List.setIfInBounds_toArray, List.set_cons_zero, List.set_cons_succ, i64_w, i32_w]
            rfl
          refine pure_ (i := 3) (N := some 25) (v := ?_) (a' := ?_) #[true, true, true, true, false, false, false, false, false, false, false, false, false] rfl rfl (by kernel_rfl) (fun _ _ _ h => h) (Or.inl ⟨by rfl, ?_⟩) ?_ ?_
          rotate_left
          · intro w'
            go_simp
            with_reducible rfl
          rotate_left
          · simp only [Act.put, List.setIfInBounds_toArray, List.set_cons_zero, List.set_cons_succ, i64_w, i32_w]
            rfl
          refine pure_ (i := 4) (N := some 26) (v := undef) (a' := ?_) #[true, true, true, true, true, false, false, false, false, false, false, false, false] rfl rfl (by kernel_rfl) (fun _ _ _ h => h) (Or.inr ⟨by rfl, rfl⟩) ?_ ?_
          rotate_left
          · simp only [Act.put, List.setIfInBounds_toArray, List.set_cons_zero, List.set_cons_succ, i64_w, i32_w]
            rfl
          refine pure_ (i := 5) (N := some 27) (v := undef) (a' := ?_) #[true, true, true, true, true, true, false, false, false, false, false, false, false] rfl rfl (by kernel_rfl) (fun _ _ _ h => h) (Or.inr ⟨by rfl, rfl⟩) ?_ ?_
          rotate_left
          · simp only [Act.put, List.setIfInBounds_toArray, List.set_cons_zero, List.set_cons_succ, i64_w, i32_w]
            rfl
          refine pure_ (i := 6) (N := some 28) (v := undef) (a' := ?_) #[true, true, true, true, true, true, true, false, false, false, false, false, false] rfl rfl (by kernel_rfl) (fun _ _ _ h => h) (Or.inr ⟨by rfl, rfl⟩) ?_ ?_
          rotate_left
          · simp only [Act.put, List.setIfInBounds_toArray, List.set_cons_zero, List.set_cons_succ, i64_w, i32_w]
            rfl
          refine pure_ (i := 7) (N := some 29) (v := undef) (a' := ?_) #[true, true, true, true, true, true, true, true, false, false, false, false, false] rfl rfl (by kernel_rfl) (fun _ _ _ h => h) (Or.inr ⟨by rfl, rfl⟩) ?_ ?_
          rotate_left
          · simp only [Act.put, List.setIfInBounds_toArray, List.set_cons_zero, List.set_cons_succ, i64_w, i32_w]
            rfl
          refine pure_ (i := 8) (N := some 30) (v := undef) (a' := ?_) #[true, true, true, true, true, true, true, true, true, false, false, false, false] rfl rfl (by kernel_rfl) (fun _ _ _ h => h) (Or.inr ⟨by rfl, rfl⟩) ?_ ?_
          rotate_left
          · simp only [Act.put, List.setIfInBounds_toArray, List.set_cons_zero, List.set_cons_succ, i64_w, i32_w]
            rfl
          refine pure_ (i := 9) (N := some 31) (v := undef) (a' := ?_) #[true, true, true, true, true, true, true, true, true, true, false, false, false] rfl rfl (by kernel_rfl) (fun _ _ _ h => h) (Or.inr ⟨by rfl, rfl⟩) ?_ ?_
          rotate_left
          · simp only [Act.put, List.setIfInBounds_toArray, List.set_cons_zero, List.set_cons_succ, i64_w, i32_w]
            rfl
          refine pure_ (i := 10) (N := some 32) (v := undef) (a' := ?_) #[true, true, true, true, true, true, true, true, true, true, true, false, false] rfl rfl (by kernel_rfl) (fun _ _ _ h => h) (Or.inr ⟨by rfl, rfl⟩) ?_ ?_
          rotate_left
          · simp only [Act.put, List.setIfInBounds_toArray, List.set_cons_zero, List.set_cons_succ, i64_w, i32_w]
            rfl
          refine pure_ (i := 11) (N := some 33) (v := ?_) (a' := ?_) #[true, true, true, true, true, true, true, true, true, true, true, true, false] rfl rfl (by kernel_rfl) (fun _ _ _ h => h) (Or.inl ⟨by rfl, ?_⟩) ?_ ?_
          rotate_left
          · intro w'
            go_simp
            with_reducible rfl
          rotate_left
          · simp only [Act.put, List.setIfInBounds_toArray, List.set_cons_zero, List.set_cons_succ, i64_w, i32_w]
            rfl
          refine pure_ (i := 12) (N := some 2) (v := ?_) (a' := ?_) #[true, true, true, true, true, true, true, true, true, true, true, true, true] rfl rfl (by kernel_rfl) (fun _ _ _ h => h) (Or.inl ⟨by rfl, ?_⟩) ?_ ?_
          rotate_left
          · intro w'
            go_simp
            with_reducible rfl
          rotate_left
          · simp only [Act.put, List.setIfInBounds_toArray, List.set_cons_zero, List.set_cons_succ, i64_w, i32_w]
            rfl
          refine done_ (by kernel_rfl) ?_
          go_wp2
          go_ret
          exact ⟨by simp, jFx HB.out⟩
      · by_cases h3 : f0 = 3
        · subst h3
          cases h1 : (f1 == 0) with
          | true =>
            go_enter Tryd.func98, Tryd.ntmps98
            go_wp2
            go_ret
            exact ⟨by simp, HB.out⟩
          | false =>
            go_enter Tryd.func98, Tryd.ntmps98
            go_wp2
            go_ret
            exact ⟨by simp, HB.out⟩
        · rw [if_neg h0, if_neg h1, if_neg h2, if_neg h3]
          have e0 : (f0 == 0) = false := beq_eq_false_iff_ne.2 h0
          have e1 : (f0 == 1) = false := beq_eq_false_iff_ne.2 h1
          have e2 : (f0 == 2) = false := beq_eq_false_iff_ne.2 h2
          have e3 : (f0 == 3) = false := beq_eq_false_iff_ne.2 h3
          go_enter Tryd.func98, Tryd.ntmps98
          go_wp2
          go_ret
          exact ⟨rfl, HB.out⟩
end Go.Proofs.YtefdfgmlmjnmlaaDoor.My
end

section
namespace Go.Proofs.YtefdfgmlmjnmlaaDoor.Rf
open Go.RowKit Go.Proofs.YtefdfgmlmjnmlaaDoorW.PrintWords Go.Proofs.YtefdfgmlmjnmlaaDoorW.PrintLast Go.Proofs.YtefdfgmlmjnmlaaDoorW.PrintMore
def jDd.f (a0_0 : Int) (a0_1 : Int) (a0_2 : ByteArray) : Option (Bool) := some (My.goodV ⟨a0_0, a0_1, a0_2⟩)
theorem jDd.calls (a0_0 : Int) (a0_1 : Int) (a0_2 : ByteArray) (r : Bool) (w : World) (h : jDd.f a0_0 a0_1 a0_2 = some r) :
  Calls Tryd.prog 113 #[.agg #[.int .i64 a0_0, .int .i64 a0_1, .string a0_2]] w fun e w' => e = .returned (.bool r) ∧ Below w.heap.size w w' := by
 obtain rfl := Option.some.inj h
 exact My.val_calls ⟨a0_0, a0_1, a0_2⟩ w
end Go.Proofs.YtefdfgmlmjnmlaaDoor.Rf
end

section
set_option linter.unusedVariables false
set_option linter.unusedSimpArgs false
namespace Go.Proofs.YtefdfgmlmjnmlaaDoor.Rf
open Go.RowKit Go.Proofs.YtefdfgmlmjnmlaaDoorW.PrintWords Go.Proofs.YtefdfgmlmjnmlaaDoorW.PrintLast Go.Proofs.YtefdfgmlmjnmlaaDoorW.PrintMore
attribute [local go_sem] jCg jCo
def jDg.f (k : Nat) (s0_0 : ByteArray) (s0_1 : Int) (s0_2 : Bool) : Option (Int × Int × ByteArray × ByteArray × Int × Bool) := (jAm.f k s0_0 s0_1 s0_2).bind fun bt179 => ((jAm.f k bt179.2.1 bt179.2.2.1 bt179.2.2.2).bind fun bt183 => ((jBr.f k bt183.2.1 bt183.2.2.1 bt183.2.2.2).bind fun bt187 => ((jDd.f bt179.1 bt183.1 bt187.1).bind fun t191 => (if t191 = true then (some (bt179.1, bt183.1, bt187.1, bt187.2.1, bt187.2.2.1, bt187.2.2.2)) else ((jBk.f k bt187.2.1 bt187.2.2.1 bt187.2.2.2 (-1)).bind fun bt192 => (some (0, 0, (⟨#[]⟩ : ByteArray), bt192.2.1, bt192.2.2.1, bt192.2.2.2)))))))
set_option maxHeartbeats 8000000 in
set_option maxRecDepth 100000 in
theorem jDg.calls (k : Nat) (g : Nat) (s0_0 : ByteArray) (s0_1 : Int) (s0_2 : Bool) (r1 : Int) (r2 : Int) (r3 : ByteArray) (r4 : ByteArray) (r5 : Int) (r6 : Bool) (w0 w : World) (hI : jAc w0 w g s0_0 s0_1 s0_2) (hB : Below w0.heap.size w0 w) (h : jDg.f k s0_0 s0_1 s0_2 = some (r1, r2, r3, r4, r5, r6)) :
  Calls Tryd.prog 117 #[.pointer (some ⟨g, 0, none⟩)] w fun e w' => e = .returned (.agg #[.int .i64 r1, .int .i64 r2, .string r3]) ∧ jAc w0 w' g r4 r5 r6 ∧ Below w0.heap.size w0 w' ∧ jAn w w' g none := by
 have hu70 := Tryd.underlying70
 have HI0 := jAa.mk hI
 have HK := jAa.mk (jAn.refl w g none)
 have HL := jAa.mk hB.size
 clear hI
 have HW0 := jAa.mk hB.size
 have HB := jAa.mk hB
 clear hB
 have H : ((jAm.f k s0_0 s0_1 s0_2).bind fun bt179 => ((jAm.f k bt179.2.1 bt179.2.2.1 bt179.2.2.2).bind fun bt183 => ((jBr.f k bt183.2.1 bt183.2.2.1 bt183.2.2.2).bind fun bt187 => ((jDd.f bt179.1 bt183.1 bt187.1).bind fun t191 => (if t191 = true then (some (bt179.1, bt183.1, bt187.1, bt187.2.1, bt187.2.2.1, bt187.2.2.2)) else ((jBk.f k bt187.2.1 bt187.2.2.1 bt187.2.2.2 (-1)).bind fun bt192 => (some (0, 0, (⟨#[]⟩ : ByteArray), bt192.2.1, bt192.2.2.1, bt192.2.2.2)))))))) = some (r1, r2, r3, r4, r5, r6) := h
 clear h
 replace H := Option.bind_eq_some_iff.mp H
 obtain ⟨⟨t179, t180, t181, t182⟩, A20, H⟩ := H
 replace H : ((jAm.f k t180 t181 t182).bind fun bt183 => ((jBr.f k bt183.2.1 bt183.2.2.1 bt183.2.2.2).bind fun bt187 => ((jDd.f t179 bt183.1 bt187.1).bind fun t191 => (if t191 = true then (some (t179, bt183.1, bt187.1, bt187.2.1, bt187.2.2.1, bt187.2.2.2)) else ((jBk.f k bt187.2.1 bt187.2.2.1 bt187.2.2.2 (-1)).bind fun bt192 => (some (0, 0, (⟨#[]⟩ : ByteArray), bt192.2.1, bt192.2.2.1, bt192.2.2.2))))))) = some (r1, r2, r3, r4, r5, r6) := H
 have A2 := jAa.mk A20
 clear A20
 replace H := Option.bind_eq_some_iff.mp H
 obtain ⟨⟨t183, t184, t185, t186⟩, A30, H⟩ := H
 replace H : ((jBr.f k t184 t185 t186).bind fun bt187 => ((jDd.f t179 t183 bt187.1).bind fun t191 => (if t191 = true then (some (t179, t183, bt187.1, bt187.2.1, bt187.2.2.1, bt187.2.2.2)) else ((jBk.f k bt187.2.1 bt187.2.2.1 bt187.2.2.2 (-1)).bind fun bt192 => (some (0, 0, (⟨#[]⟩ : ByteArray), bt192.2.1, bt192.2.2.1, bt192.2.2.2)))))) = some (r1, r2, r3, r4, r5, r6) := H
 have A3 := jAa.mk A30
 clear A30
 replace H := Option.bind_eq_some_iff.mp H
 obtain ⟨⟨t187, t188, t189, t190⟩, A40, H⟩ := H
 replace H : ((jDd.f t179 t183 t187).bind fun t191 => (if t191 = true then (some (t179, t183, t187, t188, t189, t190)) else ((jBk.f k t188 t189 t190 (-1)).bind fun bt192 => (some (0, 0, (⟨#[]⟩ : ByteArray), bt192.2.1, bt192.2.2.1, bt192.2.2.2))))) = some (r1, r2, r3, r4, r5, r6) := H
 have A4 := jAa.mk A40
 clear A40
 replace H := Option.bind_eq_some_iff.mp H
 obtain ⟨t191, A50, H⟩ := H
 replace H : (if t191 = true then (some (t179, t183, t187, t188, t189, t190)) else ((jBk.f k t188 t189 t190 (-1)).bind fun bt192 => (some (0, 0, (⟨#[]⟩ : ByteArray), bt192.2.1, bt192.2.2.1, bt192.2.2.2)))) = some (r1, r2, r3, r4, r5, r6) := H
 have A5 := jAa.mk A50
 clear A50
 by_cases c6 : t191 = true
 ·subst c6
  have H1 : (some (t179, t183, t187, t188, t189, t190)) = some (r1, r2, r3, r4, r5, r6) := by rw [if_pos rfl] at H; exact H
  clear H
  have H := H1
  clear H1
  simp only [Option.some.injEq, Prod.mk.injEq] at H
  obtain ⟨rfl, rfl, rfl, rfl, rfl, rfl⟩ := H
  go_enter Tryd.func117, Tryd.ntmps117
  go_wp2_with (first | ((with_reducible refine jCa (N := 2) rfl ?_); refine jBv ?hg (N := 2) ?hd (cs := #[.int .i64 0, .int .i64 0, .string (⟨#[]⟩ : ByteArray)]) (t := 70) ?hr ?_; (case hd => rfl); (case hg => rfl); (case hr => first | (go_simp; done) | (go_simp; rfl)); intro gb177 hg w7 hbox hb; have n0_ := jAa.mk (jAc.below (by repeat (first | (with_reducible first | exact HI0.out | apply jAc.alloc | apply jAc.drewN | apply jAc.drew | apply jAc.set_0 | apply jAc.set_1 | apply jAc.set_2) | exact HI0.out)) hb); have n1_ := jAa.mk (jAn.trans (by repeat (first | (with_reducible first | exact HK.out | apply jAn.set_ | apply jAs | apply jAw | apply jAt) | exact HK.out)) (jAn.of_below hb g none) (.inl rfl)); have n2_ := jAa.mk (jAu (by repeat (first | (with_reducible first | exact HB.out | apply jAj | apply jAd | apply jAk | refine jAh ?_ (jAc.ge HI0.out)) | exact HB.out)) hb); have n3_ := jAa.mk (hbox); have n4_ := jAa.mk ((by rw [hg]; exact (jCh (w := w) (g := g) (row := none) (by repeat (first | (with_reducible first | exact HK.out | apply jAn.set_ | apply jAs | apply jAw | apply jAt) | exact HK.out))) : w.heap.size ≤ gb177)); have n5_ := jAa.mk ((Nat.le_trans HW0.out (by rw [hg]; exact (jCh (w := w) (g := g) (row := none) (by repeat (first | (with_reducible first | exact HK.out | apply jAn.set_ | apply jAs | apply jAw | apply jAt) | exact HK.out))) : w.heap.size ≤ gb177) : w0.heap.size ≤ gb177)); have n6_ := jAa.mk ((by rw [hg]; exact Nat.ne_of_lt (jAc.lt (show jAc w0 _ g s0_0 s0_1 s0_2 from by repeat (first | (with_reducible first | exact HI0.out | apply jAc.alloc | apply jAc.drewN | apply jAc.drew | apply jAc.set_0 | apply jAc.set_1 | apply jAc.set_2) | exact HI0.out))) : g ≠ gb177)); have n7_ := jAa.mk ((by rw [hg]; exact Nat.ne_of_gt (jAc.lt (show jAc w0 _ g s0_0 s0_1 s0_2 from by repeat (first | (with_reducible first | exact HI0.out | apply jAc.alloc | apply jAc.drewN | apply jAc.drew | apply jAc.set_0 | apply jAc.set_1 | apply jAc.set_2) | exact HI0.out))) : gb177 ≠ g)); clear HI0; clear HK; clear HB; have HI0 := n0_; have HK := n1_; have HB := n2_; have BK177 := n3_; have GW177 := n4_; have GE177 := n5_; have NB0_177 := n6_; have NB177_0 := n7_; clear n0_ n1_ n2_ n3_ n4_ n5_ n6_ n7_; clear hb hbox hg) | ((with_reducible refine jCa (N := 3) rfl ?_); refine jBv ?hg (N := 3) ?hd (cs := #[.int .i64 0, .int .i64 0, .string (⟨#[]⟩ : ByteArray)]) (t := 70) ?hr ?_; (case hd => rfl); (case hg => rfl); (case hr => first | (go_simp; done) | (go_simp; rfl)); intro gb178 hg w8 hbox hb; have n0_ := jAa.mk (jAc.below (by repeat (first | (with_reducible first | exact HI0.out | apply jAc.alloc | apply jAc.drewN | apply jAc.drew | apply jAc.set_0 | apply jAc.set_1 | apply jAc.set_2 | refine jAc.far ?_ NB0_177.out _) | exact HI0.out)) hb); have n1_ := jAa.mk (jAp (g := gb177) (o := .cells #[.int .i64 0, .int .i64 0, .string (⟨#[]⟩ : ByteArray)] 70 (0, 0)) (by (with_reducible repeat (first | refine jAf ?_ _ | refine jAi ?_ | refine jAe ?_ _)); exact BK177.out) hb); have n2_ := jAa.mk (jAn.trans (by repeat (first | (with_reducible first | exact HK.out | apply jAn.set_ | apply jAs | apply jAw | apply jAt | refine jBh ?_ GW177.out _) | exact HK.out)) (jAn.of_below hb g none) (.inl rfl)); have n3_ := jAa.mk (jAu (by repeat (first | (with_reducible first | exact HB.out | apply jAj | apply jAd | apply jAk | refine jAh ?_ (jAc.ge HI0.out) | refine jAh ?_ GE177.out) | exact HB.out)) hb); have n4_ := jAa.mk (hbox); have n5_ := jAa.mk ((by rw [hg]; exact (jCh (w := w) (g := g) (row := none) (by repeat (first | (with_reducible first | exact HK.out | apply jAn.set_ | apply jAs | apply jAw | apply jAt | refine jBh ?_ GW177.out _) | exact HK.out))) : w.heap.size ≤ gb178)); have n6_ := jAa.mk ((Nat.le_trans HW0.out (by rw [hg]; exact (jCh (w := w) (g := g) (row := none) (by repeat (first | (with_reducible first | exact HK.out | apply jAn.set_ | apply jAs | apply jAw | apply jAt | refine jBh ?_ GW177.out _) | exact HK.out))) : w.heap.size ≤ gb178) : w0.heap.size ≤ gb178)); have n7_ := jAa.mk ((by rw [hg]; exact Nat.ne_of_lt (jBu (g := gb177) (o := .cells #[.int .i64 0, .int .i64 0, .string (⟨#[]⟩ : ByteArray)] 70 (0, 0)) (by (with_reducible repeat (first | refine jAf ?_ _ | refine jAi ?_ | refine jAe ?_ _)); exact BK177.out)) : gb177 ≠ gb178)); have n8_ := jAa.mk ((by rw [hg]; exact Nat.ne_of_gt (jBu (g := gb177) (o := .cells #[.int .i64 0, .int .i64 0, .string (⟨#[]⟩ : ByteArray)] 70 (0, 0)) (by (with_reducible repeat (first | refine jAf ?_ _ | refine jAi ?_ | refine jAe ?_ _)); exact BK177.out)) : gb178 ≠ gb177)); have n9_ := jAa.mk ((by rw [hg]; exact Nat.ne_of_lt (jAc.lt (show jAc w0 _ g s0_0 s0_1 s0_2 from by repeat (first | (with_reducible first | exact HI0.out | apply jAc.alloc | apply jAc.drewN | apply jAc.drew | apply jAc.set_0 | apply jAc.set_1 | apply jAc.set_2 | refine jAc.far ?_ NB0_177.out _) | exact HI0.out))) : g ≠ gb178)); have n10_ := jAa.mk ((by rw [hg]; exact Nat.ne_of_gt (jAc.lt (show jAc w0 _ g s0_0 s0_1 s0_2 from by repeat (first | (with_reducible first | exact HI0.out | apply jAc.alloc | apply jAc.drewN | apply jAc.drew | apply jAc.set_0 | apply jAc.set_1 | apply jAc.set_2 | refine jAc.far ?_ NB0_177.out _) | exact HI0.out))) : gb178 ≠ g)); clear HI0; clear BK177; clear HK; clear HB; have HI0 := n0_; have BK177 := n1_; have HK := n2_; have HB := n3_; have BK178 := n4_; have GW178 := n5_; have GE178 := n6_; have NB177_178 := n7_; have NB178_177 := n8_; have NB0_178 := n9_; have NB178_0 := n10_; clear n0_ n1_ n2_ n3_ n4_ n5_ n6_ n7_ n8_ n9_ n10_; clear hb hbox hg) | ((with_reducible refine jBl (f := 65) rfl ?_); refine jCe (some 5) rfl rfl Tryd.func65 (by kernel_rfl) rfl #[.pointer (some ⟨g, 0, none⟩)] rfl (by (try simp only [List.map_toArray, List.map_cons, List.map_nil]); first | done | rfl | (simp only [List.length_drop, List.length_take]; rfl)) ?_; (with_reducible refine (jAm.calls k g s0_0 s0_1 s0_2 t179 t180 t181 t182 w0 _ ?side1 ?side2 A2.out).mono ?_); (case side1 => repeat (first | (with_reducible first | exact HI0.out | apply jAc.alloc | apply jAc.drewN | apply jAc.drew | apply jAc.set_0 | apply jAc.set_1 | apply jAc.set_2 | refine jAc.far ?_ NB0_177.out _ | refine jAc.far ?_ NB0_178.out _) | exact HI0.out)); (case side2 => repeat (first | (with_reducible first | exact HB.out | apply jAj | apply jAd | apply jAk | refine jAh ?_ (jAc.ge HI0.out) | refine jAh ?_ GE177.out | refine jAh ?_ GE178.out) | exact HB.out)); rintro e w9 ⟨rfl, hi, hb, hk⟩; refine ⟨_, rfl, ?_⟩; have n0_ := jAa.mk (jAn.blk hk (g' := gb177) (o := .cells #[.int .i64 0, .int .i64 0, .string (⟨#[]⟩ : ByteArray)] 70 (0, 0)) (by (with_reducible repeat (first | refine jAf ?_ _ | refine jAi ?_ | refine jAe ?_ _)); exact BK177.out) NB177_0.out (by simp)); have n1_ := jAa.mk (jAn.blk hk (g' := gb178) (o := .cells #[.int .i64 0, .int .i64 0, .string (⟨#[]⟩ : ByteArray)] 70 (0, 0)) (by (with_reducible repeat (first | refine jAf ?_ _ | refine jAi ?_ | refine jAe ?_ _)); exact BK178.out) NB178_0.out (by simp)); have n2_ := jAa.mk (jAn.trans (by repeat (first | (with_reducible first | exact HK.out | apply jAn.set_ | apply jAs | apply jAw | apply jAt | refine jBh ?_ GW177.out _ | refine jBh ?_ GW178.out _) | exact HK.out)) hk (.inl rfl)); have n3_ := jAa.mk (hb); have n4_ := jAa.mk (hi); clear BK177; clear BK178; clear HK; clear HB; clear HI0; have BK177 := n0_; have BK178 := n1_; have HK := n2_; have HB := n3_; have HI0 := n4_; clear n0_ n1_ n2_ n3_ n4_; (try clear hb); (try clear hb2); (try clear hk); (try clear hi); have hnb10 := NB178_177.out; have hnc10 := NB177_178.out; have hnb11 := NB178_0.out; have hnc11 := NB0_178.out; have hcz12_0 : w9.cell? ⟨gb178, 0, none⟩ = some (.int .i64 0) := (jAb BK178.out 0).trans rfl; have hcz12_1 : w9.cell? ⟨gb178, 1, none⟩ = some (.int .i64 0) := (jAb BK178.out 1).trans rfl; have hcz12_2 : w9.cell? ⟨gb178, 2, none⟩ = some (.string (⟨#[]⟩ : ByteArray)) := (jAb BK178.out 2).trans rfl; have hfz12_0 := jAg BK178.out 0; have hfz12_1 := jAg BK178.out 1; have hfz12_2 := jAg BK178.out 2) | ((with_reducible refine jBl (f := 65) rfl ?_); refine jCe (some 8) rfl rfl Tryd.func65 (by kernel_rfl) rfl #[.pointer (some ⟨g, 0, none⟩)] rfl (by (try simp only [List.map_toArray, List.map_cons, List.map_nil]); first | done | rfl | (simp only [List.length_drop, List.length_take]; rfl)) ?_; (with_reducible refine (jAm.calls k g t180 t181 t182 t183 t184 t185 t186 w0 _ ?side1 ?side2 A3.out).mono ?_); (case side1 => repeat (first | (with_reducible first | exact HI0.out | apply jAc.alloc | apply jAc.drewN | apply jAc.drew | apply jAc.set_0 | apply jAc.set_1 | apply jAc.set_2 | refine jAc.far ?_ NB0_177.out _ | refine jAc.far ?_ NB0_178.out _) | exact HI0.out)); (case side2 => repeat (first | (with_reducible first | exact HB.out | apply jAj | apply jAd | apply jAk | refine jAh ?_ (jAc.ge HI0.out) | refine jAh ?_ GE177.out | refine jAh ?_ GE178.out) | exact HB.out)); rintro e w13 ⟨rfl, hi, hb, hk⟩; refine ⟨_, rfl, ?_⟩; have n0_ := jAa.mk (jAn.blk hk (g' := gb177) (o := .cells #[.int .i64 0, .int .i64 0, .string (⟨#[]⟩ : ByteArray)] 70 (0, 0)) (by (with_reducible repeat (first | refine jAf ?_ _ | refine jAi ?_ | refine jAe ?_ _)); refine jBa ?_ NB177_178.out _; (with_reducible repeat (first | refine jAf ?_ _ | refine jAi ?_ | refine jAe ?_ _)); exact BK177.out) NB177_0.out (by simp)); have n1_ := jAa.mk (jAn.blk hk (g' := gb178) (o := .cells #[.int .i64 t179, .int .i64 0, .string (⟨#[]⟩ : ByteArray)] 70 (0, 0)) (by (with_reducible repeat (first | refine jAf ?_ _ | refine jAi ?_ | refine jAe ?_ _)); refine jBf (cs := #[.int .i64 0, .int .i64 0, .string (⟨#[]⟩ : ByteArray)]) ?_ 0 _ rfl; (with_reducible repeat (first | refine jAf ?_ _ | refine jAi ?_ | refine jAe ?_ _)); exact BK178.out) NB178_0.out (by simp)); have n2_ := jAa.mk (jAn.trans (by repeat (first | (with_reducible first | exact HK.out | apply jAn.set_ | apply jAs | apply jAw | apply jAt | refine jBh ?_ GW177.out _ | refine jBh ?_ GW178.out _) | exact HK.out)) hk (.inl rfl)); have n3_ := jAa.mk (hb); have n4_ := jAa.mk (hi); clear BK177; clear BK178; clear HK; clear HB; clear HI0; have BK177 := n0_; have BK178 := n1_; have HK := n2_; have HB := n3_; have HI0 := n4_; clear n0_ n1_ n2_ n3_ n4_; (try clear hb); (try clear hb2); (try clear hk); (try clear hi); have hcz14_0 : w13.cell? ⟨gb178, 0, none⟩ = some (.int .i64 t179) := (jAb BK178.out 0).trans rfl; have hcz14_1 : w13.cell? ⟨gb178, 1, none⟩ = some (.int .i64 0) := (jAb BK178.out 1).trans rfl; have hcz14_2 : w13.cell? ⟨gb178, 2, none⟩ = some (.string (⟨#[]⟩ : ByteArray)) := (jAb BK178.out 2).trans rfl; have hfz14_0 := jAg BK178.out 0; have hfz14_1 := jAg BK178.out 1; have hfz14_2 := jAg BK178.out 2) | ((with_reducible refine jBl (f := 68) rfl ?_); refine jCe (some 11) rfl rfl Tryd.func68 (by kernel_rfl) rfl #[.pointer (some ⟨g, 0, none⟩)] rfl (by (try simp only [List.map_toArray, List.map_cons, List.map_nil]); first | done | rfl | (simp only [List.length_drop, List.length_take]; rfl)) ?_; (with_reducible refine (jBr.calls k g t184 t185 t186 t187 t188 t189 t190 w0 _ ?side1 ?side2 A4.out).mono ?_); (case side1 => repeat (first | (with_reducible first | exact HI0.out | apply jAc.alloc | apply jAc.drewN | apply jAc.drew | apply jAc.set_0 | apply jAc.set_1 | apply jAc.set_2 | refine jAc.far ?_ NB0_177.out _ | refine jAc.far ?_ NB0_178.out _) | exact HI0.out)); (case side2 => repeat (first | (with_reducible first | exact HB.out | apply jAj | apply jAd | apply jAk | refine jAh ?_ (jAc.ge HI0.out) | refine jAh ?_ GE177.out | refine jAh ?_ GE178.out) | exact HB.out)); rintro e w15 ⟨rfl, hi, hb, hk⟩; refine ⟨_, rfl, ?_⟩; have n0_ := jAa.mk (jAn.blk hk (g' := gb177) (o := .cells #[.int .i64 0, .int .i64 0, .string (⟨#[]⟩ : ByteArray)] 70 (0, 0)) (by (with_reducible repeat (first | refine jAf ?_ _ | refine jAi ?_ | refine jAe ?_ _)); refine jBa ?_ NB177_178.out _; (with_reducible repeat (first | refine jAf ?_ _ | refine jAi ?_ | refine jAe ?_ _)); exact BK177.out) NB177_0.out (by simp)); have n1_ := jAa.mk (jAn.blk hk (g' := gb178) (o := .cells #[.int .i64 t179, .int .i64 t183, .string (⟨#[]⟩ : ByteArray)] 70 (0, 0)) (by (with_reducible repeat (first | refine jAf ?_ _ | refine jAi ?_ | refine jAe ?_ _)); refine jBf (cs := #[.int .i64 t179, .int .i64 0, .string (⟨#[]⟩ : ByteArray)]) ?_ 1 _ rfl; (with_reducible repeat (first | refine jAf ?_ _ | refine jAi ?_ | refine jAe ?_ _)); exact BK178.out) NB178_0.out (by simp)); have n2_ := jAa.mk (jAn.trans (by repeat (first | (with_reducible first | exact HK.out | apply jAn.set_ | apply jAs | apply jAw | apply jAt | refine jBh ?_ GW177.out _ | refine jBh ?_ GW178.out _) | exact HK.out)) hk (.inl rfl)); have n3_ := jAa.mk (hb); have n4_ := jAa.mk (hi); clear BK177; clear BK178; clear HK; clear HB; clear HI0; have BK177 := n0_; have BK178 := n1_; have HK := n2_; have HB := n3_; have HI0 := n4_; clear n0_ n1_ n2_ n3_ n4_; (try clear hb); (try clear hb2); (try clear hk); (try clear hi); have hcz16_0 : w15.cell? ⟨gb178, 0, none⟩ = some (.int .i64 t179) := (jAb BK178.out 0).trans rfl; have hcz16_1 : w15.cell? ⟨gb178, 1, none⟩ = some (.int .i64 t183) := (jAb BK178.out 1).trans rfl; have hcz16_2 : w15.cell? ⟨gb178, 2, none⟩ = some (.string (⟨#[]⟩ : ByteArray)) := (jAb BK178.out 2).trans rfl; have hfz16_0 := jAg BK178.out 0; have hfz16_1 := jAg BK178.out 1; have hfz16_2 := jAg BK178.out 2) | ((with_reducible refine jBl (f := 113) rfl ?_); refine jCe (some 14) rfl rfl Tryd.func113 (by kernel_rfl) rfl #[.agg #[.int .i64 t179, .int .i64 t183, .string t187]] rfl (by (try simp only [List.map_toArray, List.map_cons, List.map_nil]); first | done | rfl | (simp only [List.length_drop, List.length_take]; rfl)) ?_; (with_reducible refine (jDd.calls t179 t183 t187 true _ A5.out).mono ?_); rintro e w17 ⟨rfl, hb⟩; refine ⟨_, rfl, ?_⟩; have n0_ := jAa.mk (jAc.below (show jAc w0 (w15.setCell ⟨gb178, 2, none⟩ (.string t187)) g t188 t189 t190 from by repeat (first | (with_reducible first | exact HI0.out | apply jAc.alloc | apply jAc.drewN | apply jAc.drew | apply jAc.set_0 | apply jAc.set_1 | apply jAc.set_2 | refine jAc.far ?_ NB0_177.out _ | refine jAc.far ?_ NB0_178.out _) | exact HI0.out)) hb); have n1_ := jAa.mk (jAp (g := gb177) (o := .cells #[.int .i64 0, .int .i64 0, .string (⟨#[]⟩ : ByteArray)] 70 (0, 0)) (by (with_reducible repeat (first | refine jAf ?_ _ | refine jAi ?_ | refine jAe ?_ _)); refine jBa ?_ NB177_178.out _; (with_reducible repeat (first | refine jAf ?_ _ | refine jAi ?_ | refine jAe ?_ _)); exact BK177.out) hb); have n2_ := jAa.mk (jAp (g := gb178) (o := .cells #[.int .i64 t179, .int .i64 t183, .string t187] 70 (0, 0)) (by (with_reducible repeat (first | refine jAf ?_ _ | refine jAi ?_ | refine jAe ?_ _)); refine jBf (cs := #[.int .i64 t179, .int .i64 t183, .string (⟨#[]⟩ : ByteArray)]) ?_ 2 _ rfl; (with_reducible repeat (first | refine jAf ?_ _ | refine jAi ?_ | refine jAe ?_ _)); exact BK178.out) hb); have n3_ := jAa.mk (jAn.trans (by repeat (first | (with_reducible first | exact HK.out | apply jAn.set_ | apply jAs | apply jAw | apply jAt | refine jBh ?_ GW177.out _ | refine jBh ?_ GW178.out _) | exact HK.out)) (jAn.of_below hb g none) (.inl rfl)); have n4_ := jAa.mk (jAu (by repeat (first | (with_reducible first | exact HB.out | apply jAj | apply jAd | apply jAk | refine jAh ?_ (jAc.ge HI0.out) | refine jAh ?_ GE177.out | refine jAh ?_ GE178.out) | exact HB.out)) hb); clear HI0; clear BK177; clear BK178; clear HK; clear HB; have HI0 := n0_; have BK177 := n1_; have BK178 := n2_; have HK := n3_; have HB := n4_; clear n0_ n1_ n2_ n3_ n4_; (try clear hb); (try clear hb2); (try clear hk); (try clear hi); have hcz18_0 : w17.cell? ⟨gb178, 0, none⟩ = some (.int .i64 t179) := (jAb BK178.out 0).trans rfl; have hcz18_1 : w17.cell? ⟨gb178, 1, none⟩ = some (.int .i64 t183) := (jAb BK178.out 1).trans rfl; have hcz18_2 : w17.cell? ⟨gb178, 2, none⟩ = some (.string t187) := (jAb BK178.out 2).trans rfl; have hfz18_0 := jAg BK178.out 0; have hfz18_1 := jAg BK178.out 1; have hfz18_2 := jAg BK178.out 2; have hnb19 := NB177_0.out; have hnc19 := NB0_177.out; have hcz20_0 : w17.cell? ⟨gb177, 0, none⟩ = some (.int .i64 0) := (jAb BK177.out 0).trans rfl; have hcz20_1 : w17.cell? ⟨gb177, 1, none⟩ = some (.int .i64 0) := (jAb BK177.out 1).trans rfl; have hcz20_2 : w17.cell? ⟨gb177, 2, none⟩ = some (.string (⟨#[]⟩ : ByteArray)) := (jAb BK177.out 2).trans rfl; have hfz20_0 := jAg BK177.out 0; have hfz20_1 := jAg BK177.out 1; have hfz20_2 := jAg BK177.out 2))
  refine bodyPost_ret (results_cell_row rfl _ _ gb177 70 #[.int .i64 t179, .int .i64 t183, .string t187] (0, 0) _ rfl (by (with_reducible repeat (first | refine jAf ?_ _ | refine jAi ?_ | refine jAe ?_ _)); refine jBf (cs := #[.int .i64 t179, .int .i64 t183, .string (⟨#[]⟩ : ByteArray)]) ?_ 2 _ rfl; (with_reducible repeat (first | refine jAf ?_ _ | refine jAi ?_ | refine jAe ?_ _)); refine jBf (cs := #[.int .i64 t179, .int .i64 0, .string (⟨#[]⟩ : ByteArray)]) ?_ 1 _ rfl; (with_reducible repeat (first | refine jAf ?_ _ | refine jAi ?_ | refine jAe ?_ _)); refine jBf (cs := #[.int .i64 0, .int .i64 0, .string (⟨#[]⟩ : ByteArray)]) ?_ 0 _ rfl; (with_reducible repeat (first | refine jAf ?_ _ | refine jAi ?_ | refine jAe ?_ _)); exact BK177.out) Tryd.underlying70 rfl (by kernel_rfl)) rfl ?_
  exact ⟨by first | rfl | (simp [jBd, jBe] <;> rfl) | (simp [*, jBd, jBe] <;> rfl), by repeat (first | (with_reducible first | exact HI0.out | apply jAc.alloc | apply jAc.drewN | apply jAc.drew | apply jAc.set_0 | apply jAc.set_1 | apply jAc.set_2 | refine jAc.far ?_ NB0_177.out _ | refine jAc.far ?_ NB0_178.out _) | exact HI0.out), by repeat (first | (with_reducible first | exact HB.out | apply jAj | apply jAd | apply jAk | refine jAh ?_ (jAc.ge HI0.out) | refine jAh ?_ GE177.out | refine jAh ?_ GE178.out) | exact HB.out), by repeat (first | (with_reducible first | exact HK.out | apply jAn.set_ | apply jAs | apply jAw | apply jAt | refine jBh ?_ GW177.out _ | refine jBh ?_ GW178.out _) | exact HK.out)⟩
 ·replace c6 := Bool.eq_false_iff.mpr c6
  subst c6
  have H1 : ((jBk.f k t188 t189 t190 (-1)).bind fun bt192 => (some (0, 0, (⟨#[]⟩ : ByteArray), bt192.2.1, bt192.2.2.1, bt192.2.2.2))) = some (r1, r2, r3, r4, r5, r6) := by rw [if_neg (show ¬ (false = true) by decide)] at H; exact H
  clear H
  have H := H1
  clear H1
  replace H := Option.bind_eq_some_iff.mp H
  obtain ⟨⟨t192, t193, t194, t195⟩, A210, H⟩ := H
  replace H : (some (0, 0, (⟨#[]⟩ : ByteArray), t193, t194, t195)) = some (r1, r2, r3, r4, r5, r6) := H
  have A21 := jAa.mk A210
  clear A210
  simp only [Option.some.injEq, Prod.mk.injEq] at H
  obtain ⟨rfl, rfl, rfl, rfl, rfl, rfl⟩ := H
  go_enter Tryd.func117, Tryd.ntmps117
  go_wp2_with (first | ((with_reducible refine jCa (N := 2) rfl ?_); refine jBv ?hg (N := 2) ?hd (cs := #[.int .i64 0, .int .i64 0, .string (⟨#[]⟩ : ByteArray)]) (t := 70) ?hr ?_; (case hd => rfl); (case hg => rfl); (case hr => first | (go_simp; done) | (go_simp; rfl)); intro gb177 hg w22 hbox hb; have n0_ := jAa.mk (jAc.below (by repeat (first | (with_reducible first | exact HI0.out | apply jAc.alloc | apply jAc.drewN | apply jAc.drew | apply jAc.set_0 | apply jAc.set_1 | apply jAc.set_2) | exact HI0.out)) hb); have n1_ := jAa.mk (jAn.trans (by repeat (first | (with_reducible first | exact HK.out | apply jAn.set_ | apply jAs | apply jAw | apply jAt) | exact HK.out)) (jAn.of_below hb g none) (.inl rfl)); have n2_ := jAa.mk (jAu (by repeat (first | (with_reducible first | exact HB.out | apply jAj | apply jAd | apply jAk | refine jAh ?_ (jAc.ge HI0.out)) | exact HB.out)) hb); have n3_ := jAa.mk (hbox); have n4_ := jAa.mk ((by rw [hg]; exact (jCh (w := w) (g := g) (row := none) (by repeat (first | (with_reducible first | exact HK.out | apply jAn.set_ | apply jAs | apply jAw | apply jAt) | exact HK.out))) : w.heap.size ≤ gb177)); have n5_ := jAa.mk ((Nat.le_trans HW0.out (by rw [hg]; exact (jCh (w := w) (g := g) (row := none) (by repeat (first | (with_reducible first | exact HK.out | apply jAn.set_ | apply jAs | apply jAw | apply jAt) | exact HK.out))) : w.heap.size ≤ gb177) : w0.heap.size ≤ gb177)); have n6_ := jAa.mk ((by rw [hg]; exact Nat.ne_of_lt (jAc.lt (show jAc w0 _ g s0_0 s0_1 s0_2 from by repeat (first | (with_reducible first | exact HI0.out | apply jAc.alloc | apply jAc.drewN | apply jAc.drew | apply jAc.set_0 | apply jAc.set_1 | apply jAc.set_2) | exact HI0.out))) : g ≠ gb177)); have n7_ := jAa.mk ((by rw [hg]; exact Nat.ne_of_gt (jAc.lt (show jAc w0 _ g s0_0 s0_1 s0_2 from by repeat (first | (with_reducible first | exact HI0.out | apply jAc.alloc | apply jAc.drewN | apply jAc.drew | apply jAc.set_0 | apply jAc.set_1 | apply jAc.set_2) | exact HI0.out))) : gb177 ≠ g)); clear HI0; clear HK; clear HB; have HI0 := n0_; have HK := n1_; have HB := n2_; have BK177 := n3_; have GW177 := n4_; have GE177 := n5_; have NB0_177 := n6_; have NB177_0 := n7_; clear n0_ n1_ n2_ n3_ n4_ n5_ n6_ n7_; clear hb hbox hg) | ((with_reducible refine jCa (N := 3) rfl ?_); refine jBv ?hg (N := 3) ?hd (cs := #[.int .i64 0, .int .i64 0, .string (⟨#[]⟩ : ByteArray)]) (t := 70) ?hr ?_; (case hd => rfl); (case hg => rfl); (case hr => first | (go_simp; done) | (go_simp; rfl)); intro gb178 hg w23 hbox hb; have n0_ := jAa.mk (jAc.below (by repeat (first | (with_reducible first | exact HI0.out | apply jAc.alloc | apply jAc.drewN | apply jAc.drew | apply jAc.set_0 | apply jAc.set_1 | apply jAc.set_2 | refine jAc.far ?_ NB0_177.out _) | exact HI0.out)) hb); have n1_ := jAa.mk (jAp (g := gb177) (o := .cells #[.int .i64 0, .int .i64 0, .string (⟨#[]⟩ : ByteArray)] 70 (0, 0)) (by (with_reducible repeat (first | refine jAf ?_ _ | refine jAi ?_ | refine jAe ?_ _)); exact BK177.out) hb); have n2_ := jAa.mk (jAn.trans (by repeat (first | (with_reducible first | exact HK.out | apply jAn.set_ | apply jAs | apply jAw | apply jAt | refine jBh ?_ GW177.out _) | exact HK.out)) (jAn.of_below hb g none) (.inl rfl)); have n3_ := jAa.mk (jAu (by repeat (first | (with_reducible first | exact HB.out | apply jAj | apply jAd | apply jAk | refine jAh ?_ (jAc.ge HI0.out) | refine jAh ?_ GE177.out) | exact HB.out)) hb); have n4_ := jAa.mk (hbox); have n5_ := jAa.mk ((by rw [hg]; exact (jCh (w := w) (g := g) (row := none) (by repeat (first | (with_reducible first | exact HK.out | apply jAn.set_ | apply jAs | apply jAw | apply jAt | refine jBh ?_ GW177.out _) | exact HK.out))) : w.heap.size ≤ gb178)); have n6_ := jAa.mk ((Nat.le_trans HW0.out (by rw [hg]; exact (jCh (w := w) (g := g) (row := none) (by repeat (first | (with_reducible first | exact HK.out | apply jAn.set_ | apply jAs | apply jAw | apply jAt | refine jBh ?_ GW177.out _) | exact HK.out))) : w.heap.size ≤ gb178) : w0.heap.size ≤ gb178)); have n7_ := jAa.mk ((by rw [hg]; exact Nat.ne_of_lt (jBu (g := gb177) (o := .cells #[.int .i64 0, .int .i64 0, .string (⟨#[]⟩ : ByteArray)] 70 (0, 0)) (by (with_reducible repeat (first | refine jAf ?_ _ | refine jAi ?_ | refine jAe ?_ _)); exact BK177.out)) : gb177 ≠ gb178)); have n8_ := jAa.mk ((by rw [hg]; exact Nat.ne_of_gt (jBu (g := gb177) (o := .cells #[.int .i64 0, .int .i64 0, .string (⟨#[]⟩ : ByteArray)] 70 (0, 0)) (by (with_reducible repeat (first | refine jAf ?_ _ | refine jAi ?_ | refine jAe ?_ _)); exact BK177.out)) : gb178 ≠ gb177)); have n9_ := jAa.mk ((by rw [hg]; exact Nat.ne_of_lt (jAc.lt (show jAc w0 _ g s0_0 s0_1 s0_2 from by repeat (first | (with_reducible first | exact HI0.out | apply jAc.alloc | apply jAc.drewN | apply jAc.drew | apply jAc.set_0 | apply jAc.set_1 | apply jAc.set_2 | refine jAc.far ?_ NB0_177.out _) | exact HI0.out))) : g ≠ gb178)); have n10_ := jAa.mk ((by rw [hg]; exact Nat.ne_of_gt (jAc.lt (show jAc w0 _ g s0_0 s0_1 s0_2 from by repeat (first | (with_reducible first | exact HI0.out | apply jAc.alloc | apply jAc.drewN | apply jAc.drew | apply jAc.set_0 | apply jAc.set_1 | apply jAc.set_2 | refine jAc.far ?_ NB0_177.out _) | exact HI0.out))) : gb178 ≠ g)); clear HI0; clear BK177; clear HK; clear HB; have HI0 := n0_; have BK177 := n1_; have HK := n2_; have HB := n3_; have BK178 := n4_; have GW178 := n5_; have GE178 := n6_; have NB177_178 := n7_; have NB178_177 := n8_; have NB0_178 := n9_; have NB178_0 := n10_; clear n0_ n1_ n2_ n3_ n4_ n5_ n6_ n7_ n8_ n9_ n10_; clear hb hbox hg) | ((with_reducible refine jBl (f := 65) rfl ?_); refine jCe (some 5) rfl rfl Tryd.func65 (by kernel_rfl) rfl #[.pointer (some ⟨g, 0, none⟩)] rfl (by (try simp only [List.map_toArray, List.map_cons, List.map_nil]); first | done | rfl | (simp only [List.length_drop, List.length_take]; rfl)) ?_; (with_reducible refine (jAm.calls k g s0_0 s0_1 s0_2 t179 t180 t181 t182 w0 _ ?side1 ?side2 A2.out).mono ?_); (case side1 => repeat (first | (with_reducible first | exact HI0.out | apply jAc.alloc | apply jAc.drewN | apply jAc.drew | apply jAc.set_0 | apply jAc.set_1 | apply jAc.set_2 | refine jAc.far ?_ NB0_177.out _ | refine jAc.far ?_ NB0_178.out _) | exact HI0.out)); (case side2 => repeat (first | (with_reducible first | exact HB.out | apply jAj | apply jAd | apply jAk | refine jAh ?_ (jAc.ge HI0.out) | refine jAh ?_ GE177.out | refine jAh ?_ GE178.out) | exact HB.out)); rintro e w24 ⟨rfl, hi, hb, hk⟩; refine ⟨_, rfl, ?_⟩; have n0_ := jAa.mk (jAn.blk hk (g' := gb177) (o := .cells #[.int .i64 0, .int .i64 0, .string (⟨#[]⟩ : ByteArray)] 70 (0, 0)) (by (with_reducible repeat (first | refine jAf ?_ _ | refine jAi ?_ | refine jAe ?_ _)); exact BK177.out) NB177_0.out (by simp)); have n1_ := jAa.mk (jAn.blk hk (g' := gb178) (o := .cells #[.int .i64 0, .int .i64 0, .string (⟨#[]⟩ : ByteArray)] 70 (0, 0)) (by (with_reducible repeat (first | refine jAf ?_ _ | refine jAi ?_ | refine jAe ?_ _)); exact BK178.out) NB178_0.out (by simp)); have n2_ := jAa.mk (jAn.trans (by repeat (first | (with_reducible first | exact HK.out | apply jAn.set_ | apply jAs | apply jAw | apply jAt | refine jBh ?_ GW177.out _ | refine jBh ?_ GW178.out _) | exact HK.out)) hk (.inl rfl)); have n3_ := jAa.mk (hb); have n4_ := jAa.mk (hi); clear BK177; clear BK178; clear HK; clear HB; clear HI0; have BK177 := n0_; have BK178 := n1_; have HK := n2_; have HB := n3_; have HI0 := n4_; clear n0_ n1_ n2_ n3_ n4_; (try clear hb); (try clear hb2); (try clear hk); (try clear hi); have hnb25 := NB178_177.out; have hnc25 := NB177_178.out; have hnb26 := NB178_0.out; have hnc26 := NB0_178.out; have hcz27_0 : w24.cell? ⟨gb178, 0, none⟩ = some (.int .i64 0) := (jAb BK178.out 0).trans rfl; have hcz27_1 : w24.cell? ⟨gb178, 1, none⟩ = some (.int .i64 0) := (jAb BK178.out 1).trans rfl; have hcz27_2 : w24.cell? ⟨gb178, 2, none⟩ = some (.string (⟨#[]⟩ : ByteArray)) := (jAb BK178.out 2).trans rfl; have hfz27_0 := jAg BK178.out 0; have hfz27_1 := jAg BK178.out 1; have hfz27_2 := jAg BK178.out 2) | ((with_reducible refine jBl (f := 65) rfl ?_); refine jCe (some 8) rfl rfl Tryd.func65 (by kernel_rfl) rfl #[.pointer (some ⟨g, 0, none⟩)] rfl (by (try simp only [List.map_toArray, List.map_cons, List.map_nil]); first | done | rfl | (simp only [List.length_drop, List.length_take]; rfl)) ?_; (with_reducible refine (jAm.calls k g t180 t181 t182 t183 t184 t185 t186 w0 _ ?side1 ?side2 A3.out).mono ?_); (case side1 => repeat (first | (with_reducible first | exact HI0.out | apply jAc.alloc | apply jAc.drewN | apply jAc.drew | apply jAc.set_0 | apply jAc.set_1 | apply jAc.set_2 | refine jAc.far ?_ NB0_177.out _ | refine jAc.far ?_ NB0_178.out _) | exact HI0.out)); (case side2 => repeat (first | (with_reducible first | exact HB.out | apply jAj | apply jAd | apply jAk | refine jAh ?_ (jAc.ge HI0.out) | refine jAh ?_ GE177.out | refine jAh ?_ GE178.out) | exact HB.out)); rintro e w28 ⟨rfl, hi, hb, hk⟩; refine ⟨_, rfl, ?_⟩; have n0_ := jAa.mk (jAn.blk hk (g' := gb177) (o := .cells #[.int .i64 0, .int .i64 0, .string (⟨#[]⟩ : ByteArray)] 70 (0, 0)) (by (with_reducible repeat (first | refine jAf ?_ _ | refine jAi ?_ | refine jAe ?_ _)); refine jBa ?_ NB177_178.out _; (with_reducible repeat (first | refine jAf ?_ _ | refine jAi ?_ | refine jAe ?_ _)); exact BK177.out) NB177_0.out (by simp)); have n1_ := jAa.mk (jAn.blk hk (g' := gb178) (o := .cells #[.int .i64 t179, .int .i64 0, .string (⟨#[]⟩ : ByteArray)] 70 (0, 0)) (by (with_reducible repeat (first | refine jAf ?_ _ | refine jAi ?_ | refine jAe ?_ _)); refine jBf (cs := #[.int .i64 0, .int .i64 0, .string (⟨#[]⟩ : ByteArray)]) ?_ 0 _ rfl; (with_reducible repeat (first | refine jAf ?_ _ | refine jAi ?_ | refine jAe ?_ _)); exact BK178.out) NB178_0.out (by simp)); have n2_ := jAa.mk (jAn.trans (by repeat (first | (with_reducible first | exact HK.out | apply jAn.set_ | apply jAs | apply jAw | apply jAt | refine jBh ?_ GW177.out _ | refine jBh ?_ GW178.out _) | exact HK.out)) hk (.inl rfl)); have n3_ := jAa.mk (hb); have n4_ := jAa.mk (hi); clear BK177; clear BK178; clear HK; clear HB; clear HI0; have BK177 := n0_; have BK178 := n1_; have HK := n2_; have HB := n3_; have HI0 := n4_; clear n0_ n1_ n2_ n3_ n4_; (try clear hb); (try clear hb2); (try clear hk); (try clear hi); have hcz29_0 : w28.cell? ⟨gb178, 0, none⟩ = some (.int .i64 t179) := (jAb BK178.out 0).trans rfl; have hcz29_1 : w28.cell? ⟨gb178, 1, none⟩ = some (.int .i64 0) := (jAb BK178.out 1).trans rfl; have hcz29_2 : w28.cell? ⟨gb178, 2, none⟩ = some (.string (⟨#[]⟩ : ByteArray)) := (jAb BK178.out 2).trans rfl; have hfz29_0 := jAg BK178.out 0; have hfz29_1 := jAg BK178.out 1; have hfz29_2 := jAg BK178.out 2) | ((with_reducible refine jBl (f := 68) rfl ?_); refine jCe (some 11) rfl rfl Tryd.func68 (by kernel_rfl) rfl #[.pointer (some ⟨g, 0, none⟩)] rfl (by (try simp only [List.map_toArray, List.map_cons, List.map_nil]); first | done | rfl | (simp only [List.length_drop, List.length_take]; rfl)) ?_; (with_reducible refine (jBr.calls k g t184 t185 t186 t187 t188 t189 t190 w0 _ ?side1 ?side2 A4.out).mono ?_); (case side1 => repeat (first | (with_reducible first | exact HI0.out | apply jAc.alloc | apply jAc.drewN | apply jAc.drew | apply jAc.set_0 | apply jAc.set_1 | apply jAc.set_2 | refine jAc.far ?_ NB0_177.out _ | refine jAc.far ?_ NB0_178.out _) | exact HI0.out)); (case side2 => repeat (first | (with_reducible first | exact HB.out | apply jAj | apply jAd | apply jAk | refine jAh ?_ (jAc.ge HI0.out) | refine jAh ?_ GE177.out | refine jAh ?_ GE178.out) | exact HB.out)); rintro e w30 ⟨rfl, hi, hb, hk⟩; refine ⟨_, rfl, ?_⟩; have n0_ := jAa.mk (jAn.blk hk (g' := gb177) (o := .cells #[.int .i64 0, .int .i64 0, .string (⟨#[]⟩ : ByteArray)] 70 (0, 0)) (by (with_reducible repeat (first | refine jAf ?_ _ | refine jAi ?_ | refine jAe ?_ _)); refine jBa ?_ NB177_178.out _; (with_reducible repeat (first | refine jAf ?_ _ | refine jAi ?_ | refine jAe ?_ _)); exact BK177.out) NB177_0.out (by simp)); have n1_ := jAa.mk (jAn.blk hk (g' := gb178) (o := .cells #[.int .i64 t179, .int .i64 t183, .string (⟨#[]⟩ : ByteArray)] 70 (0, 0)) (by (with_reducible repeat (first | refine jAf ?_ _ | refine jAi ?_ | refine jAe ?_ _)); refine jBf (cs := #[.int .i64 t179, .int .i64 0, .string (⟨#[]⟩ : ByteArray)]) ?_ 1 _ rfl; (with_reducible repeat (first | refine jAf ?_ _ | refine jAi ?_ | refine jAe ?_ _)); exact BK178.out) NB178_0.out (by simp)); have n2_ := jAa.mk (jAn.trans (by repeat (first | (with_reducible first | exact HK.out | apply jAn.set_ | apply jAs | apply jAw | apply jAt | refine jBh ?_ GW177.out _ | refine jBh ?_ GW178.out _) | exact HK.out)) hk (.inl rfl)); have n3_ := jAa.mk (hb); have n4_ := jAa.mk (hi); clear BK177; clear BK178; clear HK; clear HB; clear HI0; have BK177 := n0_; have BK178 := n1_; have HK := n2_; have HB := n3_; have HI0 := n4_; clear n0_ n1_ n2_ n3_ n4_; (try clear hb); (try clear hb2); (try clear hk); (try clear hi); have hcz31_0 : w30.cell? ⟨gb178, 0, none⟩ = some (.int .i64 t179) := (jAb BK178.out 0).trans rfl; have hcz31_1 : w30.cell? ⟨gb178, 1, none⟩ = some (.int .i64 t183) := (jAb BK178.out 1).trans rfl; have hcz31_2 : w30.cell? ⟨gb178, 2, none⟩ = some (.string (⟨#[]⟩ : ByteArray)) := (jAb BK178.out 2).trans rfl; have hfz31_0 := jAg BK178.out 0; have hfz31_1 := jAg BK178.out 1; have hfz31_2 := jAg BK178.out 2) | ((with_reducible refine jBl (f := 113) rfl ?_); refine jCe (some 14) rfl rfl Tryd.func113 (by kernel_rfl) rfl #[.agg #[.int .i64 t179, .int .i64 t183, .string t187]] rfl (by (try simp only [List.map_toArray, List.map_cons, List.map_nil]); first | done | rfl | (simp only [List.length_drop, List.length_take]; rfl)) ?_; (with_reducible refine (jDd.calls t179 t183 t187 false _ A5.out).mono ?_); rintro e w32 ⟨rfl, hb⟩; refine ⟨_, rfl, ?_⟩; have n0_ := jAa.mk (jAc.below (show jAc w0 (w30.setCell ⟨gb178, 2, none⟩ (.string t187)) g t188 t189 t190 from by repeat (first | (with_reducible first | exact HI0.out | apply jAc.alloc | apply jAc.drewN | apply jAc.drew | apply jAc.set_0 | apply jAc.set_1 | apply jAc.set_2 | refine jAc.far ?_ NB0_177.out _ | refine jAc.far ?_ NB0_178.out _) | exact HI0.out)) hb); have n1_ := jAa.mk (jAp (g := gb177) (o := .cells #[.int .i64 0, .int .i64 0, .string (⟨#[]⟩ : ByteArray)] 70 (0, 0)) (by (with_reducible repeat (first | refine jAf ?_ _ | refine jAi ?_ | refine jAe ?_ _)); refine jBa ?_ NB177_178.out _; (with_reducible repeat (first | refine jAf ?_ _ | refine jAi ?_ | refine jAe ?_ _)); exact BK177.out) hb); have n2_ := jAa.mk (jAp (g := gb178) (o := .cells #[.int .i64 t179, .int .i64 t183, .string t187] 70 (0, 0)) (by (with_reducible repeat (first | refine jAf ?_ _ | refine jAi ?_ | refine jAe ?_ _)); refine jBf (cs := #[.int .i64 t179, .int .i64 t183, .string (⟨#[]⟩ : ByteArray)]) ?_ 2 _ rfl; (with_reducible repeat (first | refine jAf ?_ _ | refine jAi ?_ | refine jAe ?_ _)); exact BK178.out) hb); have n3_ := jAa.mk (jAn.trans (by repeat (first | (with_reducible first | exact HK.out | apply jAn.set_ | apply jAs | apply jAw | apply jAt | refine jBh ?_ GW177.out _ | refine jBh ?_ GW178.out _) | exact HK.out)) (jAn.of_below hb g none) (.inl rfl)); have n4_ := jAa.mk (jAu (by repeat (first | (with_reducible first | exact HB.out | apply jAj | apply jAd | apply jAk | refine jAh ?_ (jAc.ge HI0.out) | refine jAh ?_ GE177.out | refine jAh ?_ GE178.out) | exact HB.out)) hb); clear HI0; clear BK177; clear BK178; clear HK; clear HB; have HI0 := n0_; have BK177 := n1_; have BK178 := n2_; have HK := n3_; have HB := n4_; clear n0_ n1_ n2_ n3_ n4_; (try clear hb); (try clear hb2); (try clear hk); (try clear hi)) | ((with_reducible refine jBl (f := 66) rfl ?_); refine jCe (some 17) rfl rfl Tryd.func66 (by kernel_rfl) rfl #[.pointer (some ⟨g, 0, none⟩), .int .i64 (-1)] rfl (by (try simp only [List.map_toArray, List.map_cons, List.map_nil]); first | done | rfl | (simp only [List.length_drop, List.length_take]; rfl)) ?_; (with_reducible refine (jBk.calls k g t188 t189 t190 (-1) t192 t193 t194 t195 w0 _ ?side1 ?side2 A21.out).mono ?_); (case side1 => repeat (first | (with_reducible first | exact HI0.out | apply jAc.alloc | apply jAc.drewN | apply jAc.drew | apply jAc.set_0 | apply jAc.set_1 | apply jAc.set_2 | refine jAc.far ?_ NB0_177.out _ | refine jAc.far ?_ NB0_178.out _) | exact HI0.out)); (case side2 => repeat (first | (with_reducible first | exact HB.out | apply jAj | apply jAd | apply jAk | refine jAh ?_ (jAc.ge HI0.out) | refine jAh ?_ GE177.out | refine jAh ?_ GE178.out) | exact HB.out)); rintro e w33 ⟨rfl, hi, hb, hk⟩; refine ⟨_, rfl, ?_⟩; have n0_ := jAa.mk (jAn.blk hk (g' := gb177) (o := .cells #[.int .i64 0, .int .i64 0, .string (⟨#[]⟩ : ByteArray)] 70 (0, 0)) (by (with_reducible repeat (first | refine jAf ?_ _ | refine jAi ?_ | refine jAe ?_ _)); exact BK177.out) NB177_0.out (by simp)); have n1_ := jAa.mk (jAn.blk hk (g' := gb178) (o := .cells #[.int .i64 t179, .int .i64 t183, .string t187] 70 (0, 0)) (by (with_reducible repeat (first | refine jAf ?_ _ | refine jAi ?_ | refine jAe ?_ _)); exact BK178.out) NB178_0.out (by simp)); have n2_ := jAa.mk (jAn.trans (by repeat (first | (with_reducible first | exact HK.out | apply jAn.set_ | apply jAs | apply jAw | apply jAt | refine jBh ?_ GW177.out _ | refine jBh ?_ GW178.out _) | exact HK.out)) hk (.inl rfl)); have n3_ := jAa.mk (hb); have n4_ := jAa.mk (hi); clear BK177; clear BK178; clear HK; clear HB; clear HI0; have BK177 := n0_; have BK178 := n1_; have HK := n2_; have HB := n3_; have HI0 := n4_; clear n0_ n1_ n2_ n3_ n4_; (try clear hb); (try clear hb2); (try clear hk); (try clear hi); have hnb34 := NB177_0.out; have hnc34 := NB0_177.out; have hcz35_0 : w33.cell? ⟨gb177, 0, none⟩ = some (.int .i64 0) := (jAb BK177.out 0).trans rfl; have hcz35_1 : w33.cell? ⟨gb177, 1, none⟩ = some (.int .i64 0) := (jAb BK177.out 1).trans rfl; have hcz35_2 : w33.cell? ⟨gb177, 2, none⟩ = some (.string (⟨#[]⟩ : ByteArray)) := (jAb BK177.out 2).trans rfl; have hfz35_0 := jAg BK177.out 0; have hfz35_1 := jAg BK177.out 1; have hfz35_2 := jAg BK177.out 2))
  refine bodyPost_ret (results_cell_row rfl _ _ gb177 70 #[.int .i64 0, .int .i64 0, .string (⟨#[]⟩ : ByteArray)] (0, 0) _ rfl (by (with_reducible repeat (first | refine jAf ?_ _ | refine jAi ?_ | refine jAe ?_ _)); refine jBf (cs := #[.int .i64 0, .int .i64 0, .string (⟨#[]⟩ : ByteArray)]) ?_ 2 _ rfl; (with_reducible repeat (first | refine jAf ?_ _ | refine jAi ?_ | refine jAe ?_ _)); refine jBf (cs := #[.int .i64 0, .int .i64 0, .string (⟨#[]⟩ : ByteArray)]) ?_ 1 _ rfl; (with_reducible repeat (first | refine jAf ?_ _ | refine jAi ?_ | refine jAe ?_ _)); refine jBf (cs := #[.int .i64 0, .int .i64 0, .string (⟨#[]⟩ : ByteArray)]) ?_ 0 _ rfl; (with_reducible repeat (first | refine jAf ?_ _ | refine jAi ?_ | refine jAe ?_ _)); exact BK177.out) Tryd.underlying70 rfl (by kernel_rfl)) rfl ?_
  exact ⟨by first | rfl | (simp [jBd, jBe] <;> rfl) | (simp [*, jBd, jBe] <;> rfl), by repeat (first | (with_reducible first | exact HI0.out | apply jAc.alloc | apply jAc.drewN | apply jAc.drew | apply jAc.set_0 | apply jAc.set_1 | apply jAc.set_2 | refine jAc.far ?_ NB0_177.out _ | refine jAc.far ?_ NB0_178.out _) | exact HI0.out), by repeat (first | (with_reducible first | exact HB.out | apply jAj | apply jAd | apply jAk | refine jAh ?_ (jAc.ge HI0.out) | refine jAh ?_ GE177.out | refine jAh ?_ GE178.out) | exact HB.out), by repeat (first | (with_reducible first | exact HK.out | apply jAn.set_ | apply jAs | apply jAw | apply jAt | refine jBh ?_ GW177.out _ | refine jBh ?_ GW178.out _) | exact HK.out)⟩
end Go.Proofs.YtefdfgmlmjnmlaaDoor.Rf
end

section
set_option linter.unusedVariables false
set_option linter.unusedSimpArgs false
namespace Go.Proofs.YtefdfgmlmjnmlaaDoor.Rf
open Go.RowKit Go.Proofs.YtefdfgmlmjnmlaaDoorW.PrintWords Go.Proofs.YtefdfgmlmjnmlaaDoorW.PrintLast Go.Proofs.YtefdfgmlmjnmlaaDoorW.PrintMore
attribute [local go_sem] jCg jCo
mutual
def jBi.j0 : Nat → Int → Int → Bool → ByteArray → Int → Bool → Int → Int → Int → Int → ByteArray → Option (Int × Int × Int × Int × ByteArray × (List (S72)) × ByteArray × Int × Bool)
 | 0, _, _, _, _, _, _, _, _, _, _, _ => none
 | k + 1, x1, x6, x23, x1000, x1001, x1002, x198000, x198001, x198002, x198003, x198004 => if x23 = true then ((jBk.f k x1000 x1001 x1002 (-1)).bind fun bt216 => (some (x198000, x198001, x198002, x198003, x198004, ([] : List (S72)), bt216.2.1, bt216.2.2.1, bt216.2.2.2))) else (jBi.l0 k x1 x6 0 x1000 x1001 x1002 x198000 x198001 x198002 x198003 x198004 ([] : List (S72)))
def jBi.l0 : Nat → Int → Int → Int → ByteArray → Int → Bool → Int → Int → Int → Int → ByteArray → List (S72) → Option (Int × Int × Int × Int × ByteArray × (List (S72)) × ByteArray × Int × Bool)
 | 0, _, _, _, _, _, _, _, _, _, _, _, _ => none
 | k + 1, x1, x27, x28, x1000, x1001, x1002, x198000, x198001, x198002, x198003, x198004, x198005 => if x28 < x27 then ((jBi.f k x1000 x1001 x1002 (wrap64 (x1 - 1))).bind fun bt220 => (if x198005.length < 1954687338268 then (jBi.l0 k x1 x27 (wrap64 (x28 + 1)) bt220.2.2.2.2.2.2.1 bt220.2.2.2.2.2.2.2.1 bt220.2.2.2.2.2.2.2.2 x198000 x198001 x198002 x198003 x198004 (x198005 ++ [(⟨bt220.1, bt220.2.1, (⟨bt220.2.2.1, bt220.2.2.2.1, bt220.2.2.2.2.1⟩ : S70), bt220.2.2.2.2.2.1⟩ : S72)])) else (none))) else (some (x198000, x198001, x198002, x198003, x198004, x198005, x1000, x1001, x1002))
def jBi.f : Nat → ByteArray → Int → Bool → Int → Option (Int × Int × Int × Int × ByteArray × (List (S72)) × ByteArray × Int × Bool)
 | 0, _, _, _, _ => none
 | k + 1, s0_0, s0_1, s0_2, a1 => (jAm.f k s0_0 s0_1 s0_2).bind fun bt198 => ((jAm.f k bt198.2.1 bt198.2.2.1 bt198.2.2.2).bind fun bt202 => ((jDg.f k bt202.2.1 bt202.2.2.1 bt202.2.2.2).bind fun bt206 => ((jBk.f k bt206.2.2.2.1 bt206.2.2.2.2.1 bt206.2.2.2.2.2 2).bind fun bt212 => (if bt212.1 > 0 then (jBi.j0 k a1 bt212.1 (a1 == 0) bt212.2.1 bt212.2.2.1 bt212.2.2.2 bt198.1 bt202.1 bt206.1 bt206.2.1 bt206.2.2.1) else (jBi.j0 k a1 bt212.1 false bt212.2.1 bt212.2.2.1 bt212.2.2.2 bt198.1 bt202.1 bt206.1 bt206.2.1 bt206.2.2.1)))))
end
def jBi.T11 : Bool × List (List Nat × List Nat) := (true, [([], []), ([0], [0]), ([], []), ([], []), ([3], [3]), ([2, 4], [2, 4]), ([5], [5]), ([1, 6, 5], [1, 6]), ([0, 1, 2, 3, 4, 5, 6, 7], []), ([8, 7, 7, 0, 1, 2, 3, 4, 5, 6, 7], [7, 8])])
def jBi.B11 : List Nat := [0, 1, 0, 0, 8, 28, 60, 127, 255, 511]
theorem jBi.tab11 : rtab .any (opsOf Tryd.f97 11) = jBi.T11 := by kernel_rfl
theorem jBi.bits11 : jDq jBi.T11.2 jBi.B11 = true := by kernel_rfl
set_option maxHeartbeats 8000000 in
set_option maxRecDepth 100000 in
theorem jBi.calls (k : Nat) : ∀ (g : Nat) (s0_0 : ByteArray) (s0_1 : Int) (s0_2 : Bool) (a1 : Int) (r1 : Int) (r2 : Int) (r3 : Int) (r4 : Int) (r5 : ByteArray) (r6 : List (S72)) (r7 : ByteArray) (r8 : Int) (r9 : Bool) (w0 w : World) (hI : jAc w0 w g s0_0 s0_1 s0_2) (hB : Below w0.heap.size w0 w) (h : jBi.f k s0_0 s0_1 s0_2 a1 = some (r1, r2, r3, r4, r5, r6, r7, r8, r9)),
  Calls Tryd.prog 97 #[.pointer (some ⟨g, 0, none⟩), .int .i64 a1] w fun e w' => ∃ v5_ : Value, e = .returned (.agg #[.int .i64 r1, .int .i64 r2, .int .i64 r3, .int .i64 r4, .string r5, v5_]) ∧ Kd.R k72 72 w' w.heap.size (fun _ => True) v5_ r6 ∧ jAc w0 w' g r7 r8 r9 ∧ Below w0.heap.size w0 w' ∧ jAn w w' g none := by
 induction k using Nat.strongRecOn with
 | _ k ih =>
 intro g s0_0 s0_1 s0_2 a1 r1 r2 r3 r4 r5 r6 r7 r8 r9 w0 w hI hB h
 cases k with
 | zero => exact absurd h (by simp [jBi.f])
 | succ k =>
 simp only [jBi.f] at h
 have hu72 := Tryd.underlying72
 have hu70 := Tryd.underlying70
 have HI0 := jAa.mk hI
 have HK := jAa.mk (jAn.refl w g none)
 have HL := jAa.mk hB.size
 clear hI
 have HW0 := jAa.mk hB.size
 have HB := jAa.mk hB
 clear hB
 have H : ((jAm.f k s0_0 s0_1 s0_2).bind fun bt198 => ((jAm.f k bt198.2.1 bt198.2.2.1 bt198.2.2.2).bind fun bt202 => ((jDg.f k bt202.2.1 bt202.2.2.1 bt202.2.2.2).bind fun bt206 => ((jBk.f k bt206.2.2.2.1 bt206.2.2.2.2.1 bt206.2.2.2.2.2 2).bind fun bt212 => (if bt212.1 > 0 then (jBi.j0 k a1 bt212.1 (a1 == 0) bt212.2.1 bt212.2.2.1 bt212.2.2.2 bt198.1 bt202.1 bt206.1 bt206.2.1 bt206.2.2.1) else (jBi.j0 k a1 bt212.1 false bt212.2.1 bt212.2.2.1 bt212.2.2.2 bt198.1 bt202.1 bt206.1 bt206.2.1 bt206.2.2.1)))))) = some (r1, r2, r3, r4, r5, r6, r7, r8, r9) := h
 clear h
 replace H := Option.bind_eq_some_iff.mp H
 obtain ⟨⟨t198, t199, t200, t201⟩, A30, H⟩ := H
 replace H : ((jAm.f k t199 t200 t201).bind fun bt202 => ((jDg.f k bt202.2.1 bt202.2.2.1 bt202.2.2.2).bind fun bt206 => ((jBk.f k bt206.2.2.2.1 bt206.2.2.2.2.1 bt206.2.2.2.2.2 2).bind fun bt212 => (if bt212.1 > 0 then (jBi.j0 k a1 bt212.1 (a1 == 0) bt212.2.1 bt212.2.2.1 bt212.2.2.2 t198 bt202.1 bt206.1 bt206.2.1 bt206.2.2.1) else (jBi.j0 k a1 bt212.1 false bt212.2.1 bt212.2.2.1 bt212.2.2.2 t198 bt202.1 bt206.1 bt206.2.1 bt206.2.2.1))))) = some (r1, r2, r3, r4, r5, r6, r7, r8, r9) := H
 have A3 := jAa.mk A30
 clear A30
 replace H := Option.bind_eq_some_iff.mp H
 obtain ⟨⟨t202, t203, t204, t205⟩, A40, H⟩ := H
 replace H : ((jDg.f k t203 t204 t205).bind fun bt206 => ((jBk.f k bt206.2.2.2.1 bt206.2.2.2.2.1 bt206.2.2.2.2.2 2).bind fun bt212 => (if bt212.1 > 0 then (jBi.j0 k a1 bt212.1 (a1 == 0) bt212.2.1 bt212.2.2.1 bt212.2.2.2 t198 t202 bt206.1 bt206.2.1 bt206.2.2.1) else (jBi.j0 k a1 bt212.1 false bt212.2.1 bt212.2.2.1 bt212.2.2.2 t198 t202 bt206.1 bt206.2.1 bt206.2.2.1)))) = some (r1, r2, r3, r4, r5, r6, r7, r8, r9) := H
 have A4 := jAa.mk A40
 clear A40
 replace H := Option.bind_eq_some_iff.mp H
 obtain ⟨⟨t206, t207, t208, t209, t210, t211⟩, A50, H⟩ := H
 replace H : ((jBk.f k t209 t210 t211 2).bind fun bt212 => (if bt212.1 > 0 then (jBi.j0 k a1 bt212.1 (a1 == 0) bt212.2.1 bt212.2.2.1 bt212.2.2.2 t198 t202 t206 t207 t208) else (jBi.j0 k a1 bt212.1 false bt212.2.1 bt212.2.2.1 bt212.2.2.2 t198 t202 t206 t207 t208))) = some (r1, r2, r3, r4, r5, r6, r7, r8, r9) := H
 have A5 := jAa.mk A50
 clear A50
 replace H := Option.bind_eq_some_iff.mp H
 obtain ⟨⟨t212, t213, t214, t215⟩, A60, H⟩ := H
 replace H : (if t212 > 0 then (jBi.j0 k a1 t212 (a1 == 0) t213 t214 t215 t198 t202 t206 t207 t208) else (jBi.j0 k a1 t212 false t213 t214 t215 t198 t202 t206 t207 t208)) = some (r1, r2, r3, r4, r5, r6, r7, r8, r9) := H
 have A6 := jAa.mk A60
 clear A60
 have HC7 := jAa.mk H
 clear H
 go_enter Tryd.func97, Tryd.ntmps97
 go_upto_region 6 with (first | ((with_reducible refine jCa (N := 4) rfl ?_); refine jBv ?hg (N := 4) ?hd (cs := #[.int .i64 0, .int .i64 0, .int .i64 0, .int .i64 0, .string (⟨#[]⟩ : ByteArray), .slice none 0 0]) (t := 72) ?hr ?_; (case hd => rfl); (case hg => rfl); (case hr => first | (go_simp; done) | (go_simp; rfl)); intro gb196 hg w8 hbox hb; have n0_ := jAa.mk (jAc.below (by repeat (first | (with_reducible first | exact HI0.out | apply jAc.alloc | apply jAc.drewN | apply jAc.drew | apply jAc.set_0 | apply jAc.set_1 | apply jAc.set_2) | exact HI0.out)) hb); have n1_ := jAa.mk (jAn.trans (by repeat (first | (with_reducible first | exact HK.out | apply jAn.set_ | apply jAs | apply jAw | apply jAt) | exact HK.out)) (jAn.of_below hb g none) (.inl rfl)); have n2_ := jAa.mk (jAu (by repeat (first | (with_reducible first | exact HB.out | apply jAj | apply jAd | apply jAk | refine jAh ?_ (jAc.ge HI0.out)) | exact HB.out)) hb); have n3_ := jAa.mk (hbox); have n4_ := jAa.mk ((by rw [hg]; exact (jCh (w := w) (g := g) (row := none) (by repeat (first | (with_reducible first | exact HK.out | apply jAn.set_ | apply jAs | apply jAw | apply jAt) | exact HK.out))) : w.heap.size ≤ gb196)); have n5_ := jAa.mk ((Nat.le_trans HW0.out (by rw [hg]; exact (jCh (w := w) (g := g) (row := none) (by repeat (first | (with_reducible first | exact HK.out | apply jAn.set_ | apply jAs | apply jAw | apply jAt) | exact HK.out))) : w.heap.size ≤ gb196) : w0.heap.size ≤ gb196)); have n6_ := jAa.mk ((by rw [hg]; exact Nat.ne_of_lt (jAc.lt (show jAc w0 _ g s0_0 s0_1 s0_2 from by repeat (first | (with_reducible first | exact HI0.out | apply jAc.alloc | apply jAc.drewN | apply jAc.drew | apply jAc.set_0 | apply jAc.set_1 | apply jAc.set_2) | exact HI0.out))) : g ≠ gb196)); have n7_ := jAa.mk ((by rw [hg]; exact Nat.ne_of_gt (jAc.lt (show jAc w0 _ g s0_0 s0_1 s0_2 from by repeat (first | (with_reducible first | exact HI0.out | apply jAc.alloc | apply jAc.drewN | apply jAc.drew | apply jAc.set_0 | apply jAc.set_1 | apply jAc.set_2) | exact HI0.out))) : gb196 ≠ g)); clear HI0; clear HK; clear HB; have HI0 := n0_; have HK := n1_; have HB := n2_; have BK196 := n3_; have GW196 := n4_; have GE196 := n5_; have NB0_196 := n6_; have NB196_0 := n7_; clear n0_ n1_ n2_ n3_ n4_ n5_ n6_ n7_; clear hb hbox hg) | ((with_reducible refine jCa (N := 5) rfl ?_); refine jBv ?hg (N := 5) ?hd (cs := #[.int .i64 0, .int .i64 0, .int .i64 0, .int .i64 0, .string (⟨#[]⟩ : ByteArray), .slice none 0 0]) (t := 72) ?hr ?_; (case hd => rfl); (case hg => rfl); (case hr => first | (go_simp; done) | (go_simp; rfl)); intro gb197 hg w9 hbox hb; have n0_ := jAa.mk (jAc.below (by repeat (first | (with_reducible first | exact HI0.out | apply jAc.alloc | apply jAc.drewN | apply jAc.drew | apply jAc.set_0 | apply jAc.set_1 | apply jAc.set_2 | refine jAc.far ?_ NB0_196.out _) | exact HI0.out)) hb); have n1_ := jAa.mk (jAp (g := gb196) (o := .cells #[.int .i64 0, .int .i64 0, .int .i64 0, .int .i64 0, .string (⟨#[]⟩ : ByteArray), .slice none 0 0] 72 (0, 0)) (by (with_reducible repeat (first | refine jAf ?_ _ | refine jAi ?_ | refine jAe ?_ _)); exact BK196.out) hb); have n2_ := jAa.mk (jAn.trans (by repeat (first | (with_reducible first | exact HK.out | apply jAn.set_ | apply jAs | apply jAw | apply jAt | refine jBh ?_ GW196.out _) | exact HK.out)) (jAn.of_below hb g none) (.inl rfl)); have n3_ := jAa.mk (jAu (by repeat (first | (with_reducible first | exact HB.out | apply jAj | apply jAd | apply jAk | refine jAh ?_ (jAc.ge HI0.out) | refine jAh ?_ GE196.out) | exact HB.out)) hb); have n4_ := jAa.mk (hbox); have n5_ := jAa.mk ((by rw [hg]; exact (jCh (w := w) (g := g) (row := none) (by repeat (first | (with_reducible first | exact HK.out | apply jAn.set_ | apply jAs | apply jAw | apply jAt | refine jBh ?_ GW196.out _) | exact HK.out))) : w.heap.size ≤ gb197)); have n6_ := jAa.mk ((Nat.le_trans HW0.out (by rw [hg]; exact (jCh (w := w) (g := g) (row := none) (by repeat (first | (with_reducible first | exact HK.out | apply jAn.set_ | apply jAs | apply jAw | apply jAt | refine jBh ?_ GW196.out _) | exact HK.out))) : w.heap.size ≤ gb197) : w0.heap.size ≤ gb197)); have n7_ := jAa.mk ((by rw [hg]; exact Nat.ne_of_lt (jBu (g := gb196) (o := .cells #[.int .i64 0, .int .i64 0, .int .i64 0, .int .i64 0, .string (⟨#[]⟩ : ByteArray), .slice none 0 0] 72 (0, 0)) (by (with_reducible repeat (first | refine jAf ?_ _ | refine jAi ?_ | refine jAe ?_ _)); exact BK196.out)) : gb196 ≠ gb197)); have n8_ := jAa.mk ((by rw [hg]; exact Nat.ne_of_gt (jBu (g := gb196) (o := .cells #[.int .i64 0, .int .i64 0, .int .i64 0, .int .i64 0, .string (⟨#[]⟩ : ByteArray), .slice none 0 0] 72 (0, 0)) (by (with_reducible repeat (first | refine jAf ?_ _ | refine jAi ?_ | refine jAe ?_ _)); exact BK196.out)) : gb197 ≠ gb196)); have n9_ := jAa.mk ((by rw [hg]; exact Nat.ne_of_lt (jAc.lt (show jAc w0 _ g s0_0 s0_1 s0_2 from by repeat (first | (with_reducible first | exact HI0.out | apply jAc.alloc | apply jAc.drewN | apply jAc.drew | apply jAc.set_0 | apply jAc.set_1 | apply jAc.set_2 | refine jAc.far ?_ NB0_196.out _) | exact HI0.out))) : g ≠ gb197)); have n10_ := jAa.mk ((by rw [hg]; exact Nat.ne_of_gt (jAc.lt (show jAc w0 _ g s0_0 s0_1 s0_2 from by repeat (first | (with_reducible first | exact HI0.out | apply jAc.alloc | apply jAc.drewN | apply jAc.drew | apply jAc.set_0 | apply jAc.set_1 | apply jAc.set_2 | refine jAc.far ?_ NB0_196.out _) | exact HI0.out))) : gb197 ≠ g)); clear HI0; clear BK196; clear HK; clear HB; have HI0 := n0_; have BK196 := n1_; have HK := n2_; have HB := n3_; have BK197 := n4_; have GW197 := n5_; have GE197 := n6_; have NB196_197 := n7_; have NB197_196 := n8_; have NB0_197 := n9_; have NB197_0 := n10_; clear n0_ n1_ n2_ n3_ n4_ n5_ n6_ n7_ n8_ n9_ n10_; clear hb hbox hg) | ((with_reducible refine jBl (f := 65) rfl ?_); refine jCe (some 8) rfl rfl Tryd.func65 (by kernel_rfl) rfl #[.pointer (some ⟨g, 0, none⟩)] rfl (by (try simp only [List.map_toArray, List.map_cons, List.map_nil]); first | done | rfl | (simp only [List.length_drop, List.length_take]; rfl)) ?_; (with_reducible refine (jAm.calls k g s0_0 s0_1 s0_2 t198 t199 t200 t201 w0 _ ?side1 ?side2 A3.out).mono ?_); (case side1 => repeat (first | (with_reducible first | exact HI0.out | apply jAc.alloc | apply jAc.drewN | apply jAc.drew | apply jAc.set_0 | apply jAc.set_1 | apply jAc.set_2 | refine jAc.far ?_ NB0_196.out _ | refine jAc.far ?_ NB0_197.out _) | exact HI0.out)); (case side2 => repeat (first | (with_reducible first | exact HB.out | apply jAj | apply jAd | apply jAk | refine jAh ?_ (jAc.ge HI0.out) | refine jAh ?_ GE196.out | refine jAh ?_ GE197.out) | exact HB.out)); rintro e w10 ⟨rfl, hi, hb, hk⟩; refine ⟨_, rfl, ?_⟩; have n0_ := jAa.mk (jAn.blk hk (g' := gb196) (o := .cells #[.int .i64 0, .int .i64 0, .int .i64 0, .int .i64 0, .string (⟨#[]⟩ : ByteArray), .slice none 0 0] 72 (0, 0)) (by (with_reducible repeat (first | refine jAf ?_ _ | refine jAi ?_ | refine jAe ?_ _)); exact BK196.out) NB196_0.out (by simp)); have n1_ := jAa.mk (jAn.blk hk (g' := gb197) (o := .cells #[.int .i64 0, .int .i64 0, .int .i64 0, .int .i64 0, .string (⟨#[]⟩ : ByteArray), .slice none 0 0] 72 (0, 0)) (by (with_reducible repeat (first | refine jAf ?_ _ | refine jAi ?_ | refine jAe ?_ _)); exact BK197.out) NB197_0.out (by simp)); have n2_ := jAa.mk (jAn.trans (by repeat (first | (with_reducible first | exact HK.out | apply jAn.set_ | apply jAs | apply jAw | apply jAt | refine jBh ?_ GW196.out _ | refine jBh ?_ GW197.out _) | exact HK.out)) hk (.inl rfl)); have n3_ := jAa.mk (hb); have n4_ := jAa.mk (hi); clear BK196; clear BK197; clear HK; clear HB; clear HI0; have BK196 := n0_; have BK197 := n1_; have HK := n2_; have HB := n3_; have HI0 := n4_; clear n0_ n1_ n2_ n3_ n4_; (try clear hb); (try clear hb2); (try clear hk); (try clear hi); have hnb11 := NB197_196.out; have hnc11 := NB196_197.out; have hnb12 := NB197_0.out; have hnc12 := NB0_197.out; have hcz13_0 : w10.cell? ⟨gb197, 0, none⟩ = some (.int .i64 0) := (jAb BK197.out 0).trans rfl; have hcz13_1 : w10.cell? ⟨gb197, 1, none⟩ = some (.int .i64 0) := (jAb BK197.out 1).trans rfl; have hcz13_2 : w10.cell? ⟨gb197, 2, none⟩ = some (.int .i64 0) := (jAb BK197.out 2).trans rfl; have hcz13_3 : w10.cell? ⟨gb197, 3, none⟩ = some (.int .i64 0) := (jAb BK197.out 3).trans rfl; have hcz13_4 : w10.cell? ⟨gb197, 4, none⟩ = some (.string (⟨#[]⟩ : ByteArray)) := (jAb BK197.out 4).trans rfl; have hcz13_5 : w10.cell? ⟨gb197, 5, none⟩ = some (.slice none 0 0) := (jAb BK197.out 5).trans rfl; have hfz13_0 := jAg BK197.out 0; have hfz13_1 := jAg BK197.out 1; have hfz13_2 := jAg BK197.out 2; have hfz13_3 := jAg BK197.out 3; have hfz13_4 := jAg BK197.out 4; have hfz13_5 := jAg BK197.out 5) | ((with_reducible refine jBl (f := 65) rfl ?_); refine jCe (some 11) rfl rfl Tryd.func65 (by kernel_rfl) rfl #[.pointer (some ⟨g, 0, none⟩)] rfl (by (try simp only [List.map_toArray, List.map_cons, List.map_nil]); first | done | rfl | (simp only [List.length_drop, List.length_take]; rfl)) ?_; (with_reducible refine (jAm.calls k g t199 t200 t201 t202 t203 t204 t205 w0 _ ?side1 ?side2 A4.out).mono ?_); (case side1 => repeat (first | (with_reducible first | exact HI0.out | apply jAc.alloc | apply jAc.drewN | apply jAc.drew | apply jAc.set_0 | apply jAc.set_1 | apply jAc.set_2 | refine jAc.far ?_ NB0_196.out _ | refine jAc.far ?_ NB0_197.out _) | exact HI0.out)); (case side2 => repeat (first | (with_reducible first | exact HB.out | apply jAj | apply jAd | apply jAk | refine jAh ?_ (jAc.ge HI0.out) | refine jAh ?_ GE196.out | refine jAh ?_ GE197.out) | exact HB.out)); rintro e w14 ⟨rfl, hi, hb, hk⟩; refine ⟨_, rfl, ?_⟩; have n0_ := jAa.mk (jAn.blk hk (g' := gb196) (o := .cells #[.int .i64 0, .int .i64 0, .int .i64 0, .int .i64 0, .string (⟨#[]⟩ : ByteArray), .slice none 0 0] 72 (0, 0)) (by (with_reducible repeat (first | refine jAf ?_ _ | refine jAi ?_ | refine jAe ?_ _)); refine jBa ?_ NB196_197.out _; (with_reducible repeat (first | refine jAf ?_ _ | refine jAi ?_ | refine jAe ?_ _)); exact BK196.out) NB196_0.out (by simp)); have n1_ := jAa.mk (jAn.blk hk (g' := gb197) (o := .cells #[.int .i64 t198, .int .i64 0, .int .i64 0, .int .i64 0, .string (⟨#[]⟩ : ByteArray), .slice none 0 0] 72 (0, 0)) (by (with_reducible repeat (first | refine jAf ?_ _ | refine jAi ?_ | refine jAe ?_ _)); refine jBf (cs := #[.int .i64 0, .int .i64 0, .int .i64 0, .int .i64 0, .string (⟨#[]⟩ : ByteArray), .slice none 0 0]) ?_ 0 _ rfl; (with_reducible repeat (first | refine jAf ?_ _ | refine jAi ?_ | refine jAe ?_ _)); exact BK197.out) NB197_0.out (by simp)); have n2_ := jAa.mk (jAn.trans (by repeat (first | (with_reducible first | exact HK.out | apply jAn.set_ | apply jAs | apply jAw | apply jAt | refine jBh ?_ GW196.out _ | refine jBh ?_ GW197.out _) | exact HK.out)) hk (.inl rfl)); have n3_ := jAa.mk (hb); have n4_ := jAa.mk (hi); clear BK196; clear BK197; clear HK; clear HB; clear HI0; have BK196 := n0_; have BK197 := n1_; have HK := n2_; have HB := n3_; have HI0 := n4_; clear n0_ n1_ n2_ n3_ n4_; (try clear hb); (try clear hb2); (try clear hk); (try clear hi); have hcz15_0 : w14.cell? ⟨gb197, 0, none⟩ = some (.int .i64 t198) := (jAb BK197.out 0).trans rfl; have hcz15_1 : w14.cell? ⟨gb197, 1, none⟩ = some (.int .i64 0) := (jAb BK197.out 1).trans rfl; have hcz15_2 : w14.cell? ⟨gb197, 2, none⟩ = some (.int .i64 0) := (jAb BK197.out 2).trans rfl; have hcz15_3 : w14.cell? ⟨gb197, 3, none⟩ = some (.int .i64 0) := (jAb BK197.out 3).trans rfl; have hcz15_4 : w14.cell? ⟨gb197, 4, none⟩ = some (.string (⟨#[]⟩ : ByteArray)) := (jAb BK197.out 4).trans rfl; have hcz15_5 : w14.cell? ⟨gb197, 5, none⟩ = some (.slice none 0 0) := (jAb BK197.out 5).trans rfl; have hfz15_0 := jAg BK197.out 0; have hfz15_1 := jAg BK197.out 1; have hfz15_2 := jAg BK197.out 2; have hfz15_3 := jAg BK197.out 3; have hfz15_4 := jAg BK197.out 4; have hfz15_5 := jAg BK197.out 5) | ((with_reducible refine jBl (f := 117) rfl ?_); refine jCe (some 14) rfl rfl Tryd.func117 (by kernel_rfl) rfl #[.pointer (some ⟨g, 0, none⟩)] rfl (by (try simp only [List.map_toArray, List.map_cons, List.map_nil]); first | done | rfl | (simp only [List.length_drop, List.length_take]; rfl)) ?_; (with_reducible refine (jDg.calls k g t203 t204 t205 t206 t207 t208 t209 t210 t211 w0 _ ?side1 ?side2 A5.out).mono ?_); (case side1 => repeat (first | (with_reducible first | exact HI0.out | apply jAc.alloc | apply jAc.drewN | apply jAc.drew | apply jAc.set_0 | apply jAc.set_1 | apply jAc.set_2 | refine jAc.far ?_ NB0_196.out _ | refine jAc.far ?_ NB0_197.out _) | exact HI0.out)); (case side2 => repeat (first | (with_reducible first | exact HB.out | apply jAj | apply jAd | apply jAk | refine jAh ?_ (jAc.ge HI0.out) | refine jAh ?_ GE196.out | refine jAh ?_ GE197.out) | exact HB.out)); rintro e w16 ⟨rfl, hi, hb, hk⟩; refine ⟨_, rfl, ?_⟩; have n0_ := jAa.mk (jAn.blk hk (g' := gb196) (o := .cells #[.int .i64 0, .int .i64 0, .int .i64 0, .int .i64 0, .string (⟨#[]⟩ : ByteArray), .slice none 0 0] 72 (0, 0)) (by (with_reducible repeat (first | refine jAf ?_ _ | refine jAi ?_ | refine jAe ?_ _)); refine jBa ?_ NB196_197.out _; (with_reducible repeat (first | refine jAf ?_ _ | refine jAi ?_ | refine jAe ?_ _)); exact BK196.out) NB196_0.out (by simp)); have n1_ := jAa.mk (jAn.blk hk (g' := gb197) (o := .cells #[.int .i64 t198, .int .i64 t202, .int .i64 0, .int .i64 0, .string (⟨#[]⟩ : ByteArray), .slice none 0 0] 72 (0, 0)) (by (with_reducible repeat (first | refine jAf ?_ _ | refine jAi ?_ | refine jAe ?_ _)); refine jBf (cs := #[.int .i64 t198, .int .i64 0, .int .i64 0, .int .i64 0, .string (⟨#[]⟩ : ByteArray), .slice none 0 0]) ?_ 1 _ rfl; (with_reducible repeat (first | refine jAf ?_ _ | refine jAi ?_ | refine jAe ?_ _)); exact BK197.out) NB197_0.out (by simp)); have n2_ := jAa.mk (jAn.trans (by repeat (first | (with_reducible first | exact HK.out | apply jAn.set_ | apply jAs | apply jAw | apply jAt | refine jBh ?_ GW196.out _ | refine jBh ?_ GW197.out _) | exact HK.out)) hk (.inl rfl)); have n3_ := jAa.mk (hb); have n4_ := jAa.mk (hi); clear BK196; clear BK197; clear HK; clear HB; clear HI0; have BK196 := n0_; have BK197 := n1_; have HK := n2_; have HB := n3_; have HI0 := n4_; clear n0_ n1_ n2_ n3_ n4_; (try clear hb); (try clear hb2); (try clear hk); (try clear hi); have hcz17_0 : w16.cell? ⟨gb197, 0, none⟩ = some (.int .i64 t198) := (jAb BK197.out 0).trans rfl; have hcz17_1 : w16.cell? ⟨gb197, 1, none⟩ = some (.int .i64 t202) := (jAb BK197.out 1).trans rfl; have hcz17_2 : w16.cell? ⟨gb197, 2, none⟩ = some (.int .i64 0) := (jAb BK197.out 2).trans rfl; have hcz17_3 : w16.cell? ⟨gb197, 3, none⟩ = some (.int .i64 0) := (jAb BK197.out 3).trans rfl; have hcz17_4 : w16.cell? ⟨gb197, 4, none⟩ = some (.string (⟨#[]⟩ : ByteArray)) := (jAb BK197.out 4).trans rfl; have hcz17_5 : w16.cell? ⟨gb197, 5, none⟩ = some (.slice none 0 0) := (jAb BK197.out 5).trans rfl; have hfz17_0 := jAg BK197.out 0; have hfz17_1 := jAg BK197.out 1; have hfz17_2 := jAg BK197.out 2; have hfz17_3 := jAg BK197.out 3; have hfz17_4 := jAg BK197.out 4; have hfz17_5 := jAg BK197.out 5) | ((with_reducible refine jBl (f := 66) rfl ?_); refine jCe (some 17) rfl rfl Tryd.func66 (by kernel_rfl) rfl #[.pointer (some ⟨g, 0, none⟩), .int .i64 2] rfl (by (try simp only [List.map_toArray, List.map_cons, List.map_nil]); first | done | rfl | (simp only [List.length_drop, List.length_take]; rfl)) ?_; (with_reducible refine (jBk.calls k g t209 t210 t211 2 t212 t213 t214 t215 w0 _ ?side1 ?side2 A6.out).mono ?_); (case side1 => repeat (first | (with_reducible first | exact HI0.out | apply jAc.alloc | apply jAc.drewN | apply jAc.drew | apply jAc.set_0 | apply jAc.set_1 | apply jAc.set_2 | refine jAc.far ?_ NB0_196.out _ | refine jAc.far ?_ NB0_197.out _) | exact HI0.out)); (case side2 => repeat (first | (with_reducible first | exact HB.out | apply jAj | apply jAd | apply jAk | refine jAh ?_ (jAc.ge HI0.out) | refine jAh ?_ GE196.out | refine jAh ?_ GE197.out) | exact HB.out)); rintro e w18 ⟨rfl, hi, hb, hk⟩; refine ⟨_, rfl, ?_⟩; have n0_ := jAa.mk (jAn.blk hk (g' := gb196) (o := .cells #[.int .i64 0, .int .i64 0, .int .i64 0, .int .i64 0, .string (⟨#[]⟩ : ByteArray), .slice none 0 0] 72 (0, 0)) (by (with_reducible repeat (first | refine jAf ?_ _ | refine jAi ?_ | refine jAe ?_ _)); refine jBa ?_ NB196_197.out _; (with_reducible repeat (first | refine jAf ?_ _ | refine jAi ?_ | refine jAe ?_ _)); refine jBa ?_ NB196_197.out _; (with_reducible repeat (first | refine jAf ?_ _ | refine jAi ?_ | refine jAe ?_ _)); refine jBa ?_ NB196_197.out _; (with_reducible repeat (first | refine jAf ?_ _ | refine jAi ?_ | refine jAe ?_ _)); exact BK196.out) NB196_0.out (by simp)); have n1_ := jAa.mk (jAn.blk hk (g' := gb197) (o := .cells #[.int .i64 t198, .int .i64 t202, .int .i64 t206, .int .i64 t207, .string t208, .slice none 0 0] 72 (0, 0)) (by (with_reducible repeat (first | refine jAf ?_ _ | refine jAi ?_ | refine jAe ?_ _)); refine jBf (cs := #[.int .i64 t198, .int .i64 t202, .int .i64 t206, .int .i64 t207, .string (⟨#[]⟩ : ByteArray), .slice none 0 0]) ?_ 4 _ rfl; (with_reducible repeat (first | refine jAf ?_ _ | refine jAi ?_ | refine jAe ?_ _)); refine jBf (cs := #[.int .i64 t198, .int .i64 t202, .int .i64 t206, .int .i64 0, .string (⟨#[]⟩ : ByteArray), .slice none 0 0]) ?_ 3 _ rfl; (with_reducible repeat (first | refine jAf ?_ _ | refine jAi ?_ | refine jAe ?_ _)); refine jBf (cs := #[.int .i64 t198, .int .i64 t202, .int .i64 0, .int .i64 0, .string (⟨#[]⟩ : ByteArray), .slice none 0 0]) ?_ 2 _ rfl; (with_reducible repeat (first | refine jAf ?_ _ | refine jAi ?_ | refine jAe ?_ _)); exact BK197.out) NB197_0.out (by simp)); have n2_ := jAa.mk (jAn.trans (by repeat (first | (with_reducible first | exact HK.out | apply jAn.set_ | apply jAs | apply jAw | apply jAt | refine jBh ?_ GW196.out _ | refine jBh ?_ GW197.out _) | exact HK.out)) hk (.inl rfl)); have n3_ := jAa.mk (hb); have n4_ := jAa.mk (hi); clear BK196; clear BK197; clear HK; clear HB; clear HI0; have BK196 := n0_; have BK197 := n1_; have HK := n2_; have HB := n3_; have HI0 := n4_; clear n0_ n1_ n2_ n3_ n4_; (try clear hb); (try clear hb2); (try clear hk); (try clear hi)))
 (try simp only [Act.put, List.setIfInBounds_toArray, List.set_cons_zero, List.set_cons_succ])
 go_cut [23] (fun v23 wc => ∃ (kq : Nat) (x23_6 : Bool), v23 = .bool x23_6 ∧ jAa (jBi.j0 kq a1 t212 x23_6 t213 t214 t215 t198 t202 t206 t207 t208 = some (r1, r2, r3, r4, r5, r6, r7, r8, r9)) ∧ jAa (kq ≤ k) ∧ jAa (wc.heap[gb196]? = some (.cells #[.int .i64 0, .int .i64 0, .int .i64 0, .int .i64 0, .string (⟨#[]⟩ : ByteArray), (.slice none 0 0)] 72 (0, 0))) ∧ jAa (wc.heap[gb197]? = some (.cells #[.int .i64 t198, .int .i64 t202, .int .i64 t206, .int .i64 t207, .string t208, (.slice none 0 0)] 72 (0, 0))) ∧ jAa (jAc w0 wc g t213 t214 t215) ∧ jAa (jAn w wc g none) ∧ jAa (Below w0.heap.size w0 wc))
 case first =>
  have H := HC7.out
  clear HC7
  by_cases c19 : t212 > 0
  ·rw [if_pos c19] at H
   have c19b0 : decide (0 < t212) = true := decide_eq_true c19
   clear c19
   (first | rw [c19b0] | (simp only [i64_w, i32_w]; rw [c19b0]) | skip)
   have H' := jAa.mk H
   clear H
   go_wp2
   go_meet
   case rel => exact ⟨_, ((a1 == 0)), (by first | rfl | (simp; done) | (simp [*]; done)), H', ⟨by first | omega | exact Nat.le_refl _⟩, ⟨by (with_reducible repeat (first | refine jAf ?_ _ | refine jAi ?_ | refine jAe ?_ _)); exact BK196.out⟩, ⟨by (with_reducible repeat (first | refine jAf ?_ _ | refine jAi ?_ | refine jAe ?_ _)); exact BK197.out⟩, ⟨by repeat (first | (with_reducible first | exact HI0.out | apply jAc.alloc | apply jAc.drewN | apply jAc.drew | apply jAc.set_0 | apply jAc.set_1 | apply jAc.set_2 | refine jAc.far ?_ NB0_196.out _ | refine jAc.far ?_ NB0_197.out _) | exact HI0.out)⟩, ⟨by repeat (first | (with_reducible first | exact HK.out | apply jAn.set_ | apply jAs | apply jAw | apply jAt | refine jBh ?_ GW196.out _ | refine jBh ?_ GW197.out _) | exact HK.out)⟩, ⟨by repeat (first | (with_reducible first | exact HB.out | apply jAj | apply jAd | apply jAk | refine jAh ?_ (jAc.ge HI0.out) | refine jAh ?_ GE196.out | refine jAh ?_ GE197.out) | exact HB.out)⟩⟩
  ·rw [if_neg c19] at H
   have c19b0 : decide (0 < t212) = false := decide_eq_false c19
   clear c19
   (first | rw [c19b0] | (simp only [i64_w, i32_w]; rw [c19b0]) | skip)
   have H' := jAa.mk H
   clear H
   go_wp2
   go_meet
   case rel => exact ⟨_, (false), (by first | rfl | (simp; done) | (simp [*]; done)), H', ⟨by first | omega | exact Nat.le_refl _⟩, ⟨by (with_reducible repeat (first | refine jAf ?_ _ | refine jAi ?_ | refine jAe ?_ _)); exact BK196.out⟩, ⟨by (with_reducible repeat (first | refine jAf ?_ _ | refine jAi ?_ | refine jAe ?_ _)); exact BK197.out⟩, ⟨by repeat (first | (with_reducible first | exact HI0.out | apply jAc.alloc | apply jAc.drewN | apply jAc.drew | apply jAc.set_0 | apply jAc.set_1 | apply jAc.set_2 | refine jAc.far ?_ NB0_196.out _ | refine jAc.far ?_ NB0_197.out _) | exact HI0.out)⟩, ⟨by repeat (first | (with_reducible first | exact HK.out | apply jAn.set_ | apply jAs | apply jAw | apply jAt | refine jBh ?_ GW196.out _ | refine jBh ?_ GW197.out _) | exact HK.out)⟩, ⟨by repeat (first | (with_reducible first | exact HB.out | apply jAj | apply jAd | apply jAk | refine jAh ?_ (jAc.ge HI0.out) | refine jAh ?_ GE196.out | refine jAh ?_ GE197.out) | exact HB.out)⟩⟩
 case rest =>
  clear HC7
  try clear c1
  try clear p2
  try clear c6
  try clear c9
  try clear c11
  try clear c12
  try clear c19
  try clear c19b0
  try clear hcz13_0
  try clear hcz13_1
  try clear hcz13_2
  try clear hcz13_3
  try clear hcz13_4
  try clear hcz13_5
  try clear hcz15_0
  try clear hcz15_1
  try clear hcz15_2
  try clear hcz15_3
  try clear hcz15_4
  try clear hcz15_5
  try clear hcz17_0
  try clear hcz17_1
  try clear hcz17_2
  try clear hcz17_3
  try clear hcz17_4
  try clear hcz17_5
  try clear hfz13_0
  try clear hfz13_1
  try clear hfz13_2
  try clear hfz13_3
  try clear hfz13_4
  try clear hfz13_5
  try clear hfz15_0
  try clear hfz15_1
  try clear hfz15_2
  try clear hfz15_3
  try clear hfz15_4
  try clear hfz15_5
  try clear hfz17_0
  try clear hfz17_1
  try clear hfz17_2
  try clear hfz17_3
  try clear hfz17_4
  try clear hfz17_5
  obtain ⟨kq, x23_6, rfl, HA, HJ6, BK196, BK197, HI0, HK, HB⟩ := hcut
  cases kq with
  | zero => exact absurd HA.out (by simp [jBi.j0])
  | succ kj6 =>
   have H := HA.out
   clear HA
   simp only [jBi.j0] at H
   by_cases c20 : x23_6 = true
   ·subst c20
    have H1 : ((jBk.f kj6 t213 t214 t215 (-1)).bind fun bt216 => (some (t198, t202, t206, t207, t208, ([] : List (S72)), bt216.2.1, bt216.2.2.1, bt216.2.2.2))) = some (r1, r2, r3, r4, r5, r6, r7, r8, r9) := by rw [if_pos rfl] at H; exact H
    clear H
    have H := H1
    clear H1
    replace H := Option.bind_eq_some_iff.mp H
    obtain ⟨⟨t216, t217, t218, t219⟩, A210, H⟩ := H
    replace H : (some (t198, t202, t206, t207, t208, ([] : List (S72)), t217, t218, t219)) = some (r1, r2, r3, r4, r5, r6, r7, r8, r9) := H
    have A21 := jAa.mk A210
    clear A210
    simp only [Option.some.injEq, Prod.mk.injEq] at H
    obtain ⟨rfl, rfl, rfl, rfl, rfl, rfl, rfl, rfl, rfl⟩ := H
    go_wp2_with (first | ((with_reducible refine jBl (f := 66) rfl ?_); refine jCe (some 25) rfl rfl Tryd.func66 (by kernel_rfl) rfl #[.pointer (some ⟨g, 0, none⟩), .int .i64 (-1)] rfl (by (try simp only [List.map_toArray, List.map_cons, List.map_nil]); first | done | rfl | (simp only [List.length_drop, List.length_take]; rfl)) ?_; (with_reducible refine (jBk.calls kj6 g t213 t214 t215 (-1) t216 t217 t218 t219 w0 _ ?side1 ?side2 A21.out).mono ?_); (case side1 => repeat (first | (with_reducible first | exact HI0.out | apply jAc.alloc | apply jAc.drewN | apply jAc.drew | apply jAc.set_0 | apply jAc.set_1 | apply jAc.set_2 | refine jAc.far ?_ NB0_196.out _ | refine jAc.far ?_ NB0_197.out _) | exact HI0.out)); (case side2 => repeat (first | (with_reducible first | exact HB.out | apply jAj | apply jAd | apply jAk | refine jAh ?_ (jAc.ge HI0.out) | refine jAh ?_ GE196.out | refine jAh ?_ GE197.out) | exact HB.out)); rintro e w22 ⟨rfl, hi, hb, hk⟩; refine ⟨_, rfl, ?_⟩; have n0_ := jAa.mk (jAn.blk hk (g' := gb196) (o := .cells #[.int .i64 0, .int .i64 0, .int .i64 0, .int .i64 0, .string (⟨#[]⟩ : ByteArray), .slice none 0 0] 72 (0, 0)) (by (with_reducible repeat (first | refine jAf ?_ _ | refine jAi ?_ | refine jAe ?_ _)); exact BK196.out) NB196_0.out (by simp)); have n1_ := jAa.mk (jAn.blk hk (g' := gb197) (o := .cells #[.int .i64 t198, .int .i64 t202, .int .i64 t206, .int .i64 t207, .string t208, .slice none 0 0] 72 (0, 0)) (by (with_reducible repeat (first | refine jAf ?_ _ | refine jAi ?_ | refine jAe ?_ _)); exact BK197.out) NB197_0.out (by simp)); have n2_ := jAa.mk (jAn.trans (by repeat (first | (with_reducible first | exact HK.out | apply jAn.set_ | apply jAs | apply jAw | apply jAt | refine jBh ?_ GW196.out _ | refine jBh ?_ GW197.out _) | exact HK.out)) hk (.inl rfl)); have n3_ := jAa.mk (hb); have n4_ := jAa.mk (hi); clear BK196; clear BK197; clear HK; clear HB; clear HI0; have BK196 := n0_; have BK197 := n1_; have HK := n2_; have HB := n3_; have HI0 := n4_; clear n0_ n1_ n2_ n3_ n4_; (try clear hb); (try clear hb2); (try clear hk); (try clear hi); have hnb23 := NB197_196.out; have hnc23 := NB196_197.out; have hnb24 := NB197_0.out; have hnc24 := NB0_197.out; have hcz25_0 : w22.cell? ⟨gb197, 0, none⟩ = some (.int .i64 t198) := (jAb BK197.out 0).trans rfl; have hcz25_1 : w22.cell? ⟨gb197, 1, none⟩ = some (.int .i64 t202) := (jAb BK197.out 1).trans rfl; have hcz25_2 : w22.cell? ⟨gb197, 2, none⟩ = some (.int .i64 t206) := (jAb BK197.out 2).trans rfl; have hcz25_3 : w22.cell? ⟨gb197, 3, none⟩ = some (.int .i64 t207) := (jAb BK197.out 3).trans rfl; have hcz25_4 : w22.cell? ⟨gb197, 4, none⟩ = some (.string t208) := (jAb BK197.out 4).trans rfl; have hcz25_5 : w22.cell? ⟨gb197, 5, none⟩ = some (.slice none 0 0) := (jAb BK197.out 5).trans rfl; have hfz25_0 := jAg BK197.out 0; have hfz25_1 := jAg BK197.out 1; have hfz25_2 := jAg BK197.out 2; have hfz25_3 := jAg BK197.out 3; have hfz25_4 := jAg BK197.out 4; have hfz25_5 := jAg BK197.out 5; have hnb26 := NB196_0.out; have hnc26 := NB0_196.out; have hcz27_0 : w22.cell? ⟨gb196, 0, none⟩ = some (.int .i64 0) := (jAb BK196.out 0).trans rfl; have hcz27_1 : w22.cell? ⟨gb196, 1, none⟩ = some (.int .i64 0) := (jAb BK196.out 1).trans rfl; have hcz27_2 : w22.cell? ⟨gb196, 2, none⟩ = some (.int .i64 0) := (jAb BK196.out 2).trans rfl; have hcz27_3 : w22.cell? ⟨gb196, 3, none⟩ = some (.int .i64 0) := (jAb BK196.out 3).trans rfl; have hcz27_4 : w22.cell? ⟨gb196, 4, none⟩ = some (.string (⟨#[]⟩ : ByteArray)) := (jAb BK196.out 4).trans rfl; have hcz27_5 : w22.cell? ⟨gb196, 5, none⟩ = some (.slice none 0 0) := (jAb BK196.out 5).trans rfl; have hfz27_0 := jAg BK196.out 0; have hfz27_1 := jAg BK196.out 1; have hfz27_2 := jAg BK196.out 2; have hfz27_3 := jAg BK196.out 3; have hfz27_4 := jAg BK196.out 4; have hfz27_5 := jAg BK196.out 5))
    refine bodyPost_ret (results_cell_row rfl _ _ gb196 72 #[.int .i64 t198, .int .i64 t202, .int .i64 t206, .int .i64 t207, .string t208, .slice none 0 0] (0, 0) _ rfl (by (with_reducible repeat (first | refine jAf ?_ _ | refine jAi ?_ | refine jAe ?_ _)); refine jBf (cs := #[.int .i64 t198, .int .i64 t202, .int .i64 t206, .int .i64 t207, .string t208, .slice none 0 0]) ?_ 5 _ rfl; (with_reducible repeat (first | refine jAf ?_ _ | refine jAi ?_ | refine jAe ?_ _)); refine jBf (cs := #[.int .i64 t198, .int .i64 t202, .int .i64 t206, .int .i64 t207, .string (⟨#[]⟩ : ByteArray), .slice none 0 0]) ?_ 4 _ rfl; (with_reducible repeat (first | refine jAf ?_ _ | refine jAi ?_ | refine jAe ?_ _)); refine jBf (cs := #[.int .i64 t198, .int .i64 t202, .int .i64 t206, .int .i64 0, .string (⟨#[]⟩ : ByteArray), .slice none 0 0]) ?_ 3 _ rfl; (with_reducible repeat (first | refine jAf ?_ _ | refine jAi ?_ | refine jAe ?_ _)); refine jBf (cs := #[.int .i64 t198, .int .i64 t202, .int .i64 0, .int .i64 0, .string (⟨#[]⟩ : ByteArray), .slice none 0 0]) ?_ 2 _ rfl; (with_reducible repeat (first | refine jAf ?_ _ | refine jAi ?_ | refine jAe ?_ _)); refine jBf (cs := #[.int .i64 t198, .int .i64 0, .int .i64 0, .int .i64 0, .string (⟨#[]⟩ : ByteArray), .slice none 0 0]) ?_ 1 _ rfl; (with_reducible repeat (first | refine jAf ?_ _ | refine jAi ?_ | refine jAe ?_ _)); refine jBf (cs := #[.int .i64 0, .int .i64 0, .int .i64 0, .int .i64 0, .string (⟨#[]⟩ : ByteArray), .slice none 0 0]) ?_ 0 _ rfl; (with_reducible repeat (first | refine jAf ?_ _ | refine jAi ?_ | refine jAe ?_ _)); exact BK196.out) Tryd.underlying72 rfl (by kernel_rfl)) rfl ?_
    exact ⟨_, by first | rfl | (simp [jBd, jBe] <;> rfl) | (simp [*, jBd, jBe] <;> rfl), by first | exact Kd.R_nil _ _ _ _ _ | exact Kd.N_nil _ _ _ _ _ | exact Kd.V_nil _ _ _ _ _ | exact Kd.Q_nil _ _ _ _ _ | exact Kd.S_nil _ _ _ _ _, by repeat (first | (with_reducible first | exact HI0.out | apply jAc.alloc | apply jAc.drewN | apply jAc.drew | apply jAc.set_0 | apply jAc.set_1 | apply jAc.set_2 | refine jAc.far ?_ NB0_196.out _ | refine jAc.far ?_ NB0_197.out _) | exact HI0.out), by repeat (first | (with_reducible first | exact HB.out | apply jAj | apply jAd | apply jAk | refine jAh ?_ (jAc.ge HI0.out) | refine jAh ?_ GE196.out | refine jAh ?_ GE197.out) | exact HB.out), by repeat (first | (with_reducible first | exact HK.out | apply jAn.set_ | apply jAs | apply jAw | apply jAt | refine jBh ?_ GW196.out _ | refine jBh ?_ GW197.out _) | exact HK.out)⟩
   ·replace c20 := Bool.eq_false_iff.mpr c20
    subst c20
    have H1 : (jBi.l0 kj6 a1 t212 0 t213 t214 t215 t198 t202 t206 t207 t208 ([] : List (S72))) = some (r1, r2, r3, r4, r5, r6, r7, r8, r9) := by rw [if_neg (show ¬ (false = true) by decide)] at H; exact H
    clear H
    have H := H1
    clear H1
    have H' := jAa.mk H
    clear H
    go_wp2
    go_loopg [28] kj6 (fun kq v28 w' => ∃ (x28_2 : Int) (x1000_2 : ByteArray) (x1001_2 : Int) (x1002_2 : Bool) (x198005_2 : List (S72)) (u198005 : Value), v28 = .int .i64 x28_2 ∧ jAa (jBi.l0 kq a1 t212 x28_2 x1000_2 x1001_2 x1002_2 t198 t202 t206 t207 t208 x198005_2 = some (r1, r2, r3, r4, r5, r6, r7, r8, r9)) ∧ jAa (kq ≤ kj6) ∧ jAa (Kd.R k72 72 w' w.heap.size (fun k_ => k_ ≠ gb196 ∧ k_ ≠ gb197) u198005 x198005_2) ∧ jAa (w'.heap[gb196]? = some (.cells #[.int .i64 0, .int .i64 0, .int .i64 0, .int .i64 0, .string (⟨#[]⟩ : ByteArray), (.slice none 0 0)] 72 (0, 0))) ∧ jAa (w'.heap[gb197]? = some (.cells #[.int .i64 t198, .int .i64 t202, .int .i64 t206, .int .i64 t207, .string t208, u198005] 72 (0, 0))) ∧ jAa (jAc w0 w' g x1000_2 x1001_2 x1002_2) ∧ jAa (jAn w w' g none) ∧ jAa (Below w0.heap.size w0 w'))
    case atStart => exact ⟨(0), (t213), (t214), (t215), (([] : List (S72))), (.slice none 0 0), (by first | rfl | (simp; done) | (simp [*]; done)), H', ⟨Nat.le_refl _⟩, ⟨by first | exact Kd.R_nil _ _ _ _ _ | exact Kd.N_nil _ _ _ _ _ | exact Kd.V_nil _ _ _ _ _ | exact Kd.Q_nil _ _ _ _ _ | exact Kd.S_nil _ _ _ _ _⟩, ⟨by (with_reducible repeat (first | refine jAf ?_ _ | refine jAi ?_ | refine jAe ?_ _)); exact BK196.out⟩, ⟨by (with_reducible repeat (first | refine jAf ?_ _ | refine jAi ?_ | refine jAe ?_ _)); exact BK197.out⟩, ⟨by repeat (first | (with_reducible first | exact HI0.out | apply jAc.alloc | apply jAc.drewN | apply jAc.drew | apply jAc.set_0 | apply jAc.set_1 | apply jAc.set_2 | refine jAc.far ?_ NB0_196.out _ | refine jAc.far ?_ NB0_197.out _) | exact HI0.out)⟩, ⟨by repeat (first | (with_reducible first | exact HK.out | apply jAn.set_ | apply jAs | apply jAw | apply jAt | refine jBh ?_ GW196.out _ | refine jBh ?_ GW197.out _) | exact HK.out)⟩, ⟨by repeat (first | (with_reducible first | exact HB.out | apply jAj | apply jAd | apply jAk | refine jAh ?_ (jAc.ge HI0.out) | refine jAh ?_ GE196.out | refine jAh ?_ GE197.out) | exact HB.out)⟩⟩
    case round =>
     clear H'
     try clear c1
     try clear c2
     try clear p2
     try clear c6
     try clear c9
     try clear c11
     try clear c12
     try clear c19
     try clear c19b0
     try clear c20
     try clear c23
     try clear c24
     try clear c26
     try clear hcz13_0
     try clear hcz13_1
     try clear hcz13_2
     try clear hcz13_3
     try clear hcz13_4
     try clear hcz13_5
     try clear hcz15_0
     try clear hcz15_1
     try clear hcz15_2
     try clear hcz15_3
     try clear hcz15_4
     try clear hcz15_5
     try clear hcz17_0
     try clear hcz17_1
     try clear hcz17_2
     try clear hcz17_3
     try clear hcz17_4
     try clear hcz17_5
     try clear hcz25_0
     try clear hcz25_1
     try clear hcz25_2
     try clear hcz25_3
     try clear hcz25_4
     try clear hcz25_5
     try clear hcz27_0
     try clear hcz27_1
     try clear hcz27_2
     try clear hcz27_3
     try clear hcz27_4
     try clear hcz27_5
     try clear hfz13_0
     try clear hfz13_1
     try clear hfz13_2
     try clear hfz13_3
     try clear hfz13_4
     try clear hfz13_5
     try clear hfz15_0
     try clear hfz15_1
     try clear hfz15_2
     try clear hfz15_3
     try clear hfz15_4
     try clear hfz15_5
     try clear hfz17_0
     try clear hfz17_1
     try clear hfz17_2
     try clear hfz17_3
     try clear hfz17_4
     try clear hfz17_5
     try clear hfz25_0
     try clear hfz25_1
     try clear hfz25_2
     try clear hfz25_3
     try clear hfz25_4
     try clear hfz25_5
     try clear hfz27_0
     try clear hfz27_1
     try clear hfz27_2
     try clear hfz27_3
     try clear hfz27_4
     try clear hfz27_5
     try clear p2
     obtain ⟨x28_2, x1000_2, x1001_2, x1002_2, x198005_2, u198005, rfl, HA, HK2, HO_198005, BK196, BK197, HI0, HK, HB⟩ := hrel
     cases gk with
     | zero => exact absurd HA.out (by simp [jBi.l0])
     | succ k2 =>
      have H := HA.out
      clear HA
      simp only [jBi.l0] at H
      by_cases c28 : x28_2 < t212
      ·rw [if_pos c28] at H
       have c28b0 : decide (x28_2 < t212) = true := decide_eq_true c28
       clear c28
       replace H := Option.bind_eq_some_iff.mp H
       obtain ⟨⟨t220, t221, t222, t223, t224, t225, t228, t229, t230⟩, A290, H⟩ := H
       replace H : (if x198005_2.length < 1954687338268 then (jBi.l0 k2 a1 t212 (wrap64 (x28_2 + 1)) t228 t229 t230 t198 t202 t206 t207 t208 (x198005_2 ++ [(⟨t220, t221, (⟨t222, t223, t224⟩ : S70), t225⟩ : S72)])) else (none)) = some (r1, r2, r3, r4, r5, r6, r7, r8, r9) := H
       have A29 := jAa.mk A290
       clear A290
       by_cases c30 : x198005_2.length < 1954687338268
       ·rw [if_pos c30] at H
        have LMc30 := jAa.mk c30
        clear c30
        obtain ⟨y231, hy231⟩ : ∃ y_ : List (S72), y_ = (x198005_2 ++ [(⟨t220, t221, (⟨t222, t223, t224⟩ : S70), t225⟩ : S72)]) := ⟨_, rfl⟩
        replace H : (jBi.l0 k2 a1 t212 (wrap64 (x28_2 + 1)) t228 t229 t230 t198 t202 t206 t207 t208 y231) = some (r1, r2, r3, r4, r5, r6, r7, r8, r9) := by first | (rw [hy231]; with_reducible exact H) | (have H2_ := (Option.bind_some _ _).symm.trans H; rw [hy231]; with_reducible exact H2_) | (have H2_ := (Option.bind_some _ _).symm.trans H; with_reducible exact H2_) | with_reducible exact H | (rw [hy231]; exact H) | exact H
        have Ny231 := jAa.mk hy231
        clear hy231
        have H' := jAa.mk H
        clear H
        try go_wp2
        have n0_ := jAa.mk (Kd.R_drew HO_198005.out)
        have n1_ := jAa.mk (jAi BK196.out)
        have n2_ := jAa.mk (jAi BK197.out)
        have n3_ := jAa.mk (jAc.drew HI0.out)
        have n4_ := jAa.mk (jAw HK.out)
        have n5_ := jAa.mk (jAk HB.out)
        clear HO_198005
        clear BK196
        clear BK197
        clear HI0
        clear HK
        clear HB
        have HO_198005 := n0_
        have BK196 := n1_
        have BK197 := n2_
        have HI0 := n3_
        have HK := n4_
        have HB := n5_
        clear n0_ n1_ n2_ n3_ n4_ n5_
        refine jDz (n := 10) (S := fun w' => w'.cell? ⟨gb197, 0, none⟩ = some (.int .i64 t198) ∧ w'.cell? ⟨gb197, 1, none⟩ = some (.int .i64 t202) ∧ w'.cell? ⟨gb197, 2, none⟩ = some (.int .i64 t206) ∧ w'.cell? ⟨gb197, 3, none⟩ = some (.int .i64 t207) ∧ w'.cell? ⟨gb197, 4, none⟩ = some (.string t208) ∧ w'.cell? ⟨gb197, 5, none⟩ = some (u198005)) (ds := [9]) #[false, false, false, false, false, false, false, false, false, false] (by kernel_rfl) rfl rfl ⟨(jAb BK197.out 0).trans rfl, (jAb BK197.out 1).trans rfl, (jAb BK197.out 2).trans rfl, (jAb BK197.out 3).trans rfl, (jAb BK197.out 4).trans rfl, (jAb BK197.out 5).trans rfl⟩ (fun hHeld => ?_); refine jDl jBi.tab11 jBi.bits11 (fun HT_ HW_ => ?_)
        generalize wr.drew = w31 at HO_198005 BK196 BK197 HI0 HK HB hHeld ⊢
        refine pure_ (i := 0) (N := some 30) (v := ?_) (a' := ?_) #[true, false, false, false, false, false, false, false, false, false] rfl rfl (jCc HT_.out (by kernel_rfl)) (fun _ _ _ h => h) (Or.inl ⟨by rfl, ?_⟩) ?_ ?_
        rotate_left
        ·intro w'
         go_simp
         with_reducible rfl
        rotate_left
        ·simp only [Act.put, List.setIfInBounds_toArray, List.set_cons_zero, List.set_cons_succ, i64_w, i32_w]
         rfl
        refine pure_ (i := 2) (N := some 32) (v := ?_) (a' := ?_) #[true, false, true, false, false, false, false, false, false, false] rfl rfl (jCc HT_.out (by kernel_rfl)) (fun _ _ _ h => h) (Or.inl ⟨by rfl, ?_⟩) ?_ ?_
        rotate_left
        ·intro w'
         go_simp
         with_reducible rfl
        rotate_left
        ·simp only [Act.put, List.setIfInBounds_toArray, List.set_cons_zero, List.set_cons_succ, i64_w, i32_w]
         rfl
        refine pure_ (i := 3) (N := some 33) (v := ?_) (a' := ?_) #[true, false, true, true, false, false, false, false, false, false] rfl rfl (jCc HT_.out (by kernel_rfl)) (fun _ _ _ h => h) (Or.inl ⟨by rfl, ?_⟩) ?_ ?_
        rotate_left
        ·intro w'
         go_simp
         with_reducible rfl
        rotate_left
        ·simp only [Act.put, List.setIfInBounds_toArray, List.set_cons_zero, List.set_cons_succ, i64_w, i32_w]
         rfl
        refine pure_ (i := 4) (N := some 34) (v := ?_) (a' := ?_) #[true, false, true, true, true, false, false, false, false, false] rfl rfl (jCc HT_.out (by kernel_rfl)) (fun _ _ _ h => h) (Or.inl ⟨by rfl, ?_⟩) ?_ ?_
        rotate_left
        ·intro w'
         go_simp
         with_reducible rfl
        rotate_left
        ·simp only [Act.put, List.setIfInBounds_toArray, List.set_cons_zero, List.set_cons_succ, i64_w, i32_w]
         rfl
        refine take_ (i := 1) (N := some 31) (v := ?_) (a' := ?_) #[true, true, true, true, true, false, false, false, false, false] rfl rfl (jCm HT_.out HW_.out (by kernel_rfl)) (fun _ _ _ h => h) (Or.inl ⟨by rfl, ?_⟩) hHeld ?_ ?_
        rotate_left
        ·rintro w' ⟨s0, s1, s2, s3, s4, s5⟩
         go_simp
         with_reducible rfl
        rotate_left
        ·simp only [Act.put, List.setIfInBounds_toArray, List.set_cons_zero, List.set_cons_succ, i64_w, i32_w]
         rfl
        refine one_ (i := 5) (N := some 35) #[true, true, true, true, true, true, false, false, false, false] rfl rfl (jCu HT_.out (by kernel_rfl)) (by decide) (fun K hK => ?_)
        refine goes_ Tryd.func97 (by kernel_rfl) rfl #[.pointer (some ⟨g, 0, none⟩), .int .i64 (wrap64 (a1 - 1))] (by rfl) rfl rfl (by (try simp only [List.map_toArray, List.map_cons, List.map_nil]); first | done | rfl | (simp only [List.length_drop, List.length_take]; rfl)) ?_
        with_reducible refine (ih k2 (by have := HJ6.out; have := HK2.out; omega) g x1000_2 x1001_2 x1002_2 (wrap64 (a1 - 1)) t220 t221 t222 t223 t224 t225 t228 t229 t230 w0 _ ?side1 ?side2 A29.out).mono ?_
        (case side1 => repeat (first | (with_reducible first | exact HI0.out | apply jAc.alloc | apply jAc.drewN | apply jAc.drew | apply jAc.set_0 | apply jAc.set_1 | apply jAc.set_2 | refine jAc.far ?_ NB0_196.out _ | refine jAc.far ?_ NB0_197.out _) | exact HI0.out))
        (case side2 => repeat (first | (with_reducible first | exact HB.out | apply jAj | apply jAd | apply jAk | refine jAh ?_ (jAc.ge HI0.out) | refine jAh ?_ GE196.out | refine jAh ?_ GE197.out) | exact HB.out))
        rintro e w32 ⟨v226, rfl, ho0, hi, hb, hk⟩
        refine ⟨_, rfl, ?_⟩
        have n0_ := jAa.mk (Kd.R_mono (Kd.R_told (Kd.R_oldK (jAc.apart (show jAc w0 _ g x1000_2 x1001_2 x1002_2 from by repeat (first | (with_reducible first | exact HI0.out | apply jAc.alloc | apply jAc.drewN | apply jAc.drew | apply jAc.set_0 | apply jAc.set_1 | apply jAc.set_2 | refine jAc.far ?_ NB0_196.out _ | refine jAc.far ?_ NB0_197.out _) | exact HI0.out)) (by (with_reducible repeat (first | apply Kd.R_alloc | apply Kd.R_drewN | apply Kd.R_drew)); exact HO_198005.out) (by decide)) hk) (Kd.R_base ho0)) (fun _ h_ => h_.1))
        have n1_ := jAa.mk (jAn.blk hk (g' := gb196) (o := .cells #[.int .i64 0, .int .i64 0, .int .i64 0, .int .i64 0, .string (⟨#[]⟩ : ByteArray), .slice none 0 0] 72 (0, 0)) (by (with_reducible repeat (first | refine jAf ?_ _ | refine jAi ?_ | refine jAe ?_ _)); exact BK196.out) NB196_0.out (by simp))
        have n2_ := jAa.mk (jAn.blk hk (g' := gb197) (o := .cells #[.int .i64 t198, .int .i64 t202, .int .i64 t206, .int .i64 t207, .string t208, u198005] 72 (0, 0)) (by (with_reducible repeat (first | refine jAf ?_ _ | refine jAi ?_ | refine jAe ?_ _)); exact BK197.out) NB197_0.out (by simp))
        have n3_ := jAa.mk (Kd.R_lower (Kd.R_newB (Kd.R_newB (Kd.R_new' ho0 (Kd.R_lt (by (with_reducible repeat (first | apply Kd.R_alloc | apply Kd.R_drewN | apply Kd.R_drew)); exact HO_198005.out))) (g := gb196) (o := .cells #[.int .i64 0, .int .i64 0, .int .i64 0, .int .i64 0, .string (⟨#[]⟩ : ByteArray), .slice none 0 0] 72 (0, 0)) (by (with_reducible repeat (first | refine jAf ?_ _ | refine jAi ?_ | refine jAe ?_ _)); exact BK196.out)) (g := gb197) (o := .cells #[.int .i64 t198, .int .i64 t202, .int .i64 t206, .int .i64 t207, .string t208, u198005] 72 (0, 0)) (by (with_reducible repeat (first | refine jAf ?_ _ | refine jAi ?_ | refine jAe ?_ _)); exact BK197.out)) (jCh (w := w) (g := g) (row := none) (by repeat (first | (with_reducible first | exact HK.out | apply jAn.set_ | apply jAs | apply jAw | apply jAt | refine jBh ?_ GW196.out _ | refine jBh ?_ GW197.out _) | exact HK.out))))
        have n4_ := jAa.mk (jAn.trans (by repeat (first | (with_reducible first | exact HK.out | apply jAn.set_ | apply jAs | apply jAw | apply jAt | refine jBh ?_ GW196.out _ | refine jBh ?_ GW197.out _) | exact HK.out)) hk (.inl rfl))
        have n5_ := jAa.mk (hb)
        have n6_ := jAa.mk (hi)
        clear HO_198005
        clear BK196
        clear BK197
        clear HK
        clear HB
        clear HI0
        have HO_198005 := n0_
        have BK196 := n1_
        have BK197 := n2_
        have HO227 := n3_
        have HK := n4_
        have HB := n5_
        have HI0 := n6_
        clear n0_ n1_ n2_ n3_ n4_ n5_ n6_
        (try clear hb)
        (try clear hb2)
        (try clear hk)
        (try clear hi)
        (try clear ho0)
        obtain ⟨Ao34, co34, eo34⟩ := Kd.R_slice HO227.out
        (first | subst eo34 | (injection eo34 with f1_ f2_ f3_; have f4_ := f1_.symm; have f5_ := f3_.symm; clear f1_ f2_ f3_; subst f4_; subst f5_))
        refine hK.out _ _ ⟨(jAb BK197.out 0).trans rfl, (jAb BK197.out 1).trans rfl, (jAb BK197.out 2).trans rfl, (jAb BK197.out 3).trans rfl, (jAb BK197.out 4).trans rfl, (jAb BK197.out 5).trans rfl⟩ (fun hHeld => ?_)
        clear hK K
        refine norm_ (a' := ?_) ?_ ?_
        rotate_left
        ·show Act.put _ (some 35) _ = _
         simp only [Act.put, List.setIfInBounds_toArray, List.set_cons_zero, List.set_cons_succ, i64_w, i32_w]
         rfl
        refine one_ (i := 6) (N := some 36) #[true, true, true, true, true, true, true, false, false, false] rfl rfl (jCu HT_.out (by kernel_rfl)) (by decide) (fun K hK => ?_)
        refine value_ (w1 := ?_) (v := ?_) (by rfl) rfl ?_ ?_
        rotate_left 2
        ·go_simp
         constructor
         ·rfl
         ·rfl
        refine hK.out _ _ ⟨(jAb (jAe BK197.out _) 0).trans rfl, (jAb (jAe BK197.out _) 1).trans rfl, (jAb (jAe BK197.out _) 2).trans rfl, (jAb (jAe BK197.out _) 3).trans rfl, (jAb (jAe BK197.out _) 4).trans rfl, (jAb (jAe BK197.out _) 5).trans rfl⟩ (fun hHeld => ?_)
        clear hK K
        refine norm_ (a' := ?_) ?_ ?_
        rotate_left
        ·show Act.put _ (some 36) _ = _
         simp only [Act.put, List.setIfInBounds_toArray, List.set_cons_zero, List.set_cons_succ, i64_w, i32_w]
         rfl
        refine one_ (i := 7) (N := some 37) #[true, true, true, true, true, true, true, true, false, false] rfl rfl (jCu HT_.out (by kernel_rfl)) (by decide) (fun K hK => ?_)
        refine Kd.R_append_step k72 w.heap.size (by rfl) (.tmp 31) (.tmp 36) 43 72 (.agg #[(.int .i64 0), (.int .i64 0), (.int .i64 0), (.int .i64 0), (.string ⟨#[]⟩), (.slice none 0 0)]) 72 rfl Tryd.underlying43 info72 rfl (by decide) (by omega) u198005 x198005_2 (⟨t220, t221, (⟨t222, t223, t224⟩ : S70), t225⟩ : S72) [.int .i64 t220, .int .i64 t221, .int .i64 t222, .int .i64 t223, .string t224, .slice Ao34 t225.length co34] (fun k_ => k_ ≠ gb196 ∧ k_ ≠ gb197) (fun k_ => ((fun k_ => k_ ≠ gb196 ∧ k_ ≠ gb197)) k_ ∧ some k_ ≠ (u198005 : Value).ownBlock) rfl rfl ?aP (fun _ hk => hk) ?aF ?aO (Below.refl _ _) ?aS ?aL ?_
        (case aP => exact k72_mkM _ _ _ (⟨t220, t221, (⟨t222, t223, t224⟩ : S70), t225⟩ : S72) (Kd.R_mono (HO227.out) (fun k_ hk => ⟨⟨hk.1.2, hk.2⟩, hk.1.1.2⟩)))
        (case aF => exact (fun k_ hk => ⟨Kd.freshB (g := gb196) (o := .cells #[.int .i64 0, .int .i64 0, .int .i64 0, .int .i64 0, .string (⟨#[]⟩ : ByteArray), .slice none 0 0] 72 (0, 0)) (by (with_reducible repeat (first | refine jAf ?_ _ | refine jAi ?_ | refine jAe ?_ _)); exact BK196.out) k_ hk, Kd.freshB (g := gb197) (o := .cells #[.int .i64 t198, .int .i64 t202, .int .i64 t206, .int .i64 t207, .string t208, u198005] 72 (0, 0)) (by (with_reducible repeat (first | refine jAf ?_ _ | refine jAi ?_ | refine jAe ?_ _)); exact BK197.out) k_ hk⟩))
        (case aO => exact (by (with_reducible repeat (first | apply Kd.R_alloc | apply Kd.R_drewN | apply Kd.R_drew)); exact Kd.R_mono HO_198005.out (fun _ hk => ⟨hk.1.1, hk.1.2⟩)))
        (case aS => exact (jCh (w := w) (g := g) (row := none) (by repeat (first | (with_reducible first | exact HK.out | apply jAn.set_ | apply jAs | apply jAw | apply jAt | refine jBh ?_ GW196.out _ | refine jBh ?_ GW197.out _) | exact HK.out))))
        (case aL => have := LMc30.out; omega)
        intro v232 w33 ho hb hg hat
        rw [← Ny231.out] at ho
        have n0_ := jAa.mk (jCz (g := gb196) (o := .cells #[.int .i64 0, .int .i64 0, .int .i64 0, .int .i64 0, .string (⟨#[]⟩ : ByteArray), .slice none 0 0] 72 (0, 0)) (by (with_reducible repeat (first | refine jAf ?_ _ | refine jAi ?_ | refine jAe ?_ _)); exact BK196.out) hg (Kd.R_away HO_198005.out (fun _ hk => hk.1.1)))
        have n1_ := jAa.mk (jCz (g := gb197) (o := .cells #[.int .i64 t198, .int .i64 t202, .int .i64 t206, .int .i64 t207, .string t208, u198005] 72 (0, 0)) (by (with_reducible repeat (first | refine jAf ?_ _ | refine jAi ?_ | refine jAe ?_ _)); exact BK197.out) hg (Kd.R_away HO_198005.out (fun _ hk => hk.1.2)))
        have n2_ := jAa.mk (jAc.grown (by repeat (first | (with_reducible first | exact HI0.out | apply jAc.alloc | apply jAc.drewN | apply jAc.drew | apply jAc.set_0 | apply jAc.set_1 | apply jAc.set_2 | refine jAc.far ?_ NB0_196.out _ | refine jAc.far ?_ NB0_197.out _) | exact HI0.out)) hg (jAc.own_ne HI0.out HO_198005.out (by decide)))
        have n3_ := jAa.mk (jEp (by repeat (first | (with_reducible first | exact HB.out | apply jAj | apply jAd | apply jAk | refine jAh ?_ (jAc.ge HI0.out) | refine jAh ?_ GE196.out | refine jAh ?_ GE197.out) | exact HB.out)) HL.out hb)
        have n4_ := jAa.mk (jAn.trans (by repeat (first | (with_reducible first | exact HK.out | apply jAn.set_ | apply jAs | apply jAw | apply jAt | refine jBh ?_ GW196.out _ | refine jBh ?_ GW197.out _) | exact HK.out)) (jAn.of_grown hg g) (Kd.R_base2 HO_198005.out))
        have n5_ := jAa.mk (ho)
        clear BK196
        clear BK197
        clear HI0
        clear HB
        clear HK
        clear HO_198005
        clear HO227
        have BK196 := n0_
        have BK197 := n1_
        have HI0 := n2_
        have HB := n3_
        have HK := n4_
        have HO233 := n5_
        clear n0_ n1_ n2_ n3_ n4_ n5_
        clear ho hb hg hat
        obtain ⟨Ao35, co35, eo35⟩ := Kd.R_slice HO233.out
        (first | subst eo35 | (injection eo35 with f1_ f2_ f3_; have f4_ := f1_.symm; have f5_ := f3_.symm; clear f1_ f2_ f3_; subst f4_; subst f5_))
        refine hK.out _ _ ⟨(jAb BK197.out 0).trans rfl, (jAb BK197.out 1).trans rfl, (jAb BK197.out 2).trans rfl, (jAb BK197.out 3).trans rfl, (jAb BK197.out 4).trans rfl, (jAb BK197.out 5).trans rfl⟩ (fun hHeld => ?_)
        clear hK K
        refine norm_ (a' := ?_) ?_ ?_
        rotate_left
        ·show Act.put _ (some 37) _ = _
         simp only [Act.put, List.setIfInBounds_toArray, List.set_cons_zero, List.set_cons_succ, i64_w, i32_w]
         rfl
        refine pure_ (i := 8) (N := some 38) (v := ?_) (a' := ?_) #[true, true, true, true, true, true, true, true, true, false] rfl rfl (jCc HT_.out (by kernel_rfl)) (fun _ _ _ h => h) (Or.inl ⟨by rfl, ?_⟩) ?_ ?_
        rotate_left
        ·intro w'
         go_simp
         with_reducible rfl
        rotate_left
        ·simp only [Act.put, List.setIfInBounds_toArray, List.set_cons_zero, List.set_cons_succ, i64_w, i32_w]
         rfl
        refine last_ (i := 9) (N := none) #[true, true, true, true, true, true, true, true, true, true] rfl rfl (jCu HT_.out (by kernel_rfl)) (by decide) (fun K hK => ?_)
        have hs36 : w33.cell? ⟨gb197, 5, none⟩ = some (u198005) := (jAb BK197.out 5).trans rfl
        have hfs36 := jAg BK197.out 5
        have hns36_0 := NB196_197.out
        have hms36_0 := NB197_196.out
        refine skip_ (w1 := ?_) (by rfl) rfl ?_ ?_
        rotate_left
        ·go_simp
         rfl
        refine hK.out _ _ ?_
        clear hK K
        refine done_ (jEm HT_.out (by kernel_rfl)) ?_
        try go_wp2
        go_roundg k2
        case measure => have := HJ6.out; have := HK2.out; omega
        case rel => exact ⟨(wrap64 (x28_2 + 1)), (t228), (t229), (t230), (y231), (.slice Ao35 y231.length co35), (by first | rfl | (simp; done) | (simp [*]; done)), H', ⟨by have := HJ6.out; have := HK2.out; omega⟩, ⟨by (with_reducible repeat (first | apply Kd.R_alloc | apply Kd.R_drewN | apply Kd.R_drew)); exact Kd.R_mono (Kd.R_far (p := ⟨gb197, 5, none⟩) (Kd.R_mono HO233.out (fun k_ hk => (⟨hk, hk.2⟩ : _ ∧ k_ ≠ gb197))) (fun _ hk => hk.2) (.slice Ao35 y231.length co35)) (fun _ hk => ⟨hk.1.1, hk.1.2⟩)⟩, ⟨by (with_reducible repeat (first | refine jAf ?_ _ | refine jAi ?_ | refine jAe ?_ _)); refine jBa ?_ NB196_197.out _; (with_reducible repeat (first | refine jAf ?_ _ | refine jAi ?_ | refine jAe ?_ _)); exact BK196.out⟩, ⟨by (with_reducible repeat (first | refine jAf ?_ _ | refine jAi ?_ | refine jAe ?_ _)); refine jBf (cs := #[.int .i64 t198, .int .i64 t202, .int .i64 t206, .int .i64 t207, .string t208, u198005]) ?_ 5 _ rfl; (with_reducible repeat (first | refine jAf ?_ _ | refine jAi ?_ | refine jAe ?_ _)); exact BK197.out⟩, ⟨by repeat (first | (with_reducible first | exact HI0.out | apply jAc.alloc | apply jAc.drewN | apply jAc.drew | apply jAc.set_0 | apply jAc.set_1 | apply jAc.set_2 | refine jAc.far ?_ NB0_196.out _ | refine jAc.far ?_ NB0_197.out _) | exact HI0.out)⟩, ⟨by repeat (first | (with_reducible first | exact HK.out | apply jAn.set_ | apply jAs | apply jAw | apply jAt | refine jBh ?_ GW196.out _ | refine jBh ?_ GW197.out _) | exact HK.out)⟩, ⟨by repeat (first | (with_reducible first | exact HB.out | apply jAj | apply jAd | apply jAk | refine jAh ?_ (jAc.ge HI0.out) | refine jAh ?_ GE196.out | refine jAh ?_ GE197.out) | exact HB.out)⟩⟩
       ·rw [if_neg c30] at H
        exact absurd H (by simp)
      ·rw [if_neg c28] at H
       have c28b0 : decide (x28_2 < t212) = false := decide_eq_false c28
       clear c28
       simp only [Option.some.injEq, Prod.mk.injEq] at H
       obtain ⟨rfl, rfl, rfl, rfl, rfl, rfl, rfl, rfl, rfl⟩ := H
       have hnb37 := NB197_196.out
       have hnc37 := NB196_197.out
       have hnb38 := NB197_0.out
       have hnc38 := NB0_197.out
       have hcz39_0 : wr.cell? ⟨gb197, 0, none⟩ = some (.int .i64 t198) := (jAb BK197.out 0).trans rfl
       have hcz39_1 : wr.cell? ⟨gb197, 1, none⟩ = some (.int .i64 t202) := (jAb BK197.out 1).trans rfl
       have hcz39_2 : wr.cell? ⟨gb197, 2, none⟩ = some (.int .i64 t206) := (jAb BK197.out 2).trans rfl
       have hcz39_3 : wr.cell? ⟨gb197, 3, none⟩ = some (.int .i64 t207) := (jAb BK197.out 3).trans rfl
       have hcz39_4 : wr.cell? ⟨gb197, 4, none⟩ = some (.string t208) := (jAb BK197.out 4).trans rfl
       have hcz39_5 : wr.cell? ⟨gb197, 5, none⟩ = some (u198005) := (jAb BK197.out 5).trans rfl
       have hfz39_0 := jAg BK197.out 0
       have hfz39_1 := jAg BK197.out 1
       have hfz39_2 := jAg BK197.out 2
       have hfz39_3 := jAg BK197.out 3
       have hfz39_4 := jAg BK197.out 4
       have hfz39_5 := jAg BK197.out 5
       have hnb40 := NB196_0.out
       have hnc40 := NB0_196.out
       have hcz41_0 : wr.cell? ⟨gb196, 0, none⟩ = some (.int .i64 0) := (jAb BK196.out 0).trans rfl
       have hcz41_1 : wr.cell? ⟨gb196, 1, none⟩ = some (.int .i64 0) := (jAb BK196.out 1).trans rfl
       have hcz41_2 : wr.cell? ⟨gb196, 2, none⟩ = some (.int .i64 0) := (jAb BK196.out 2).trans rfl
       have hcz41_3 : wr.cell? ⟨gb196, 3, none⟩ = some (.int .i64 0) := (jAb BK196.out 3).trans rfl
       have hcz41_4 : wr.cell? ⟨gb196, 4, none⟩ = some (.string (⟨#[]⟩ : ByteArray)) := (jAb BK196.out 4).trans rfl
       have hcz41_5 : wr.cell? ⟨gb196, 5, none⟩ = some (.slice none 0 0) := (jAb BK196.out 5).trans rfl
       have hfz41_0 := jAg BK196.out 0
       have hfz41_1 := jAg BK196.out 1
       have hfz41_2 := jAg BK196.out 2
       have hfz41_3 := jAg BK196.out 3
       have hfz41_4 := jAg BK196.out 4
       have hfz41_5 := jAg BK196.out 5
       obtain ⟨Ao42, co42, eo42⟩ := Kd.R_slice HO_198005.out
       subst eo42
       go_wp2
       refine bodyPost_ret (results_cell_row rfl _ _ gb196 72 #[.int .i64 t198, .int .i64 t202, .int .i64 t206, .int .i64 t207, .string t208, .slice Ao42 x198005_2.length co42] (0, 0) _ rfl (by (with_reducible repeat (first | refine jAf ?_ _ | refine jAi ?_ | refine jAe ?_ _)); refine jBf (cs := #[.int .i64 t198, .int .i64 t202, .int .i64 t206, .int .i64 t207, .string t208, .slice none 0 0]) ?_ 5 _ rfl; (with_reducible repeat (first | refine jAf ?_ _ | refine jAi ?_ | refine jAe ?_ _)); refine jBf (cs := #[.int .i64 t198, .int .i64 t202, .int .i64 t206, .int .i64 t207, .string (⟨#[]⟩ : ByteArray), .slice none 0 0]) ?_ 4 _ rfl; (with_reducible repeat (first | refine jAf ?_ _ | refine jAi ?_ | refine jAe ?_ _)); refine jBf (cs := #[.int .i64 t198, .int .i64 t202, .int .i64 t206, .int .i64 0, .string (⟨#[]⟩ : ByteArray), .slice none 0 0]) ?_ 3 _ rfl; (with_reducible repeat (first | refine jAf ?_ _ | refine jAi ?_ | refine jAe ?_ _)); refine jBf (cs := #[.int .i64 t198, .int .i64 t202, .int .i64 0, .int .i64 0, .string (⟨#[]⟩ : ByteArray), .slice none 0 0]) ?_ 2 _ rfl; (with_reducible repeat (first | refine jAf ?_ _ | refine jAi ?_ | refine jAe ?_ _)); refine jBf (cs := #[.int .i64 t198, .int .i64 0, .int .i64 0, .int .i64 0, .string (⟨#[]⟩ : ByteArray), .slice none 0 0]) ?_ 1 _ rfl; (with_reducible repeat (first | refine jAf ?_ _ | refine jAi ?_ | refine jAe ?_ _)); refine jBf (cs := #[.int .i64 0, .int .i64 0, .int .i64 0, .int .i64 0, .string (⟨#[]⟩ : ByteArray), .slice none 0 0]) ?_ 0 _ rfl; (with_reducible repeat (first | refine jAf ?_ _ | refine jAi ?_ | refine jAe ?_ _)); exact BK196.out) Tryd.underlying72 rfl (by kernel_rfl)) rfl ?_
       exact ⟨_, by first | rfl | (simp [jBd, jBe] <;> rfl) | (simp [*, jBd, jBe] <;> rfl), by (with_reducible repeat (first | apply Kd.R_alloc | apply Kd.R_drewN | apply Kd.R_drew)); exact Kd.R_mono (Kd.R_far (p := ⟨gb196, 5, none⟩) (Kd.R_far (p := ⟨gb196, 4, none⟩) (Kd.R_far (p := ⟨gb196, 3, none⟩) (Kd.R_far (p := ⟨gb196, 2, none⟩) (Kd.R_far (p := ⟨gb196, 1, none⟩) (Kd.R_far (p := ⟨gb196, 0, none⟩) (Kd.R_mono HO_198005.out (fun k_ hk => (⟨hk, hk.1⟩ : _ ∧ k_ ≠ gb196))) (fun _ hk => hk.2) (.int .i64 t198)) (fun _ hk => hk.2) (.int .i64 t202)) (fun _ hk => hk.2) (.int .i64 t206)) (fun _ hk => hk.2) (.int .i64 t207)) (fun _ hk => hk.2) (.string t208)) (fun _ hk => hk.2) (.slice Ao42 x198005_2.length co42)) (fun _ hk => trivial), by repeat (first | (with_reducible first | exact HI0.out | apply jAc.alloc | apply jAc.drewN | apply jAc.drew | apply jAc.set_0 | apply jAc.set_1 | apply jAc.set_2 | refine jAc.far ?_ NB0_196.out _ | refine jAc.far ?_ NB0_197.out _) | exact HI0.out), by repeat (first | (with_reducible first | exact HB.out | apply jAj | apply jAd | apply jAk | refine jAh ?_ (jAc.ge HI0.out) | refine jAh ?_ GE196.out | refine jAh ?_ GE197.out) | exact HB.out), by repeat (first | (with_reducible first | exact HK.out | apply jAn.set_ | apply jAs | apply jAw | apply jAt | refine jBh ?_ GW196.out _ | refine jBh ?_ GW197.out _) | exact HK.out)⟩
end Go.Proofs.YtefdfgmlmjnmlaaDoor.Rf
end
