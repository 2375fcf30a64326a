/- PROVED: the tied card of the law SchemaBytes: whatever the input, the law returns true and leaves its arguments as they read. Its conditions: the arguments are together of bulk at most 1048576, and those of the given row (the two tables of unicode/utf8 read as the program's text lays them). Joined out of this session's smaller texts (part 7 of 7). -/
import Derived.Test.YtefdfgmlmjnmlaaDoorZSchemaBytes2
import Derived.Test.YtefdfgmlmjnmlaaDoorZSchemaBytes6
import Derived.Deep.DeepHandedRow
import Derived.Lib.LaidTab
import Derived.Test.YtefdfgmlmjnmlaaDoorZSchemaBytes3
section
set_option linter.unusedSimpArgs false
set_option linter.unusedVariables false
namespace Go.Proofs.YtefdfgmlmjnmlaaDoor.My
open Go.RowKit Go.Proofs.YtefdfgmlmjnmlaaDoorW.PrintWords Go.Proofs.YtefdfgmlmjnmlaaDoor.Rf
open Go.Proofs.YtefdfgmlmjnmlaaDoorW.PrintLast Go.Proofs.YtefdfgmlmjnmlaaDoorW.PrintMore
set_option maxHeartbeats 4000000 in
set_option maxRecDepth 100000 in
theorem wsameE_calls {e : S72} (ho : OkE e) : ∀ (A : Option Addr) (c : Nat) (A2 : Option Addr) (c2 : Nat) (w : World), Kd.C k72 w A e.f3.length e.f3 → Kd.C k72 w A2 e.f3.length e.f3 →
    Calls Tryd.prog 54 #[.agg #[.int .i64 e.f0, .int .i64 e.f1, .int .i64 e.f2.f0, .int .i64 e.f2.f1, .string e.f2.f2, .slice A e.f3.length c], .agg #[.int .i64 e.f0, .int .i64 e.f1, .int .i64 e.f2.f0, .int .i64 e.f2.f1, .string e.f2.f2, .slice A2 e.f3.length c2]] w (jFd true w) := by
  induction ho with
  | mk e hm _ ih =>
    intro A c A2 c2 w hC hC2
    have IH := jAa.mk ih
    have HK := jAa.mk (jAe (jCt w (.cells #[.int .i64 e.f0, .int .i64 e.f1, .int .i64 e.f2.f0, .int .i64 e.f2.f1, .string e.f2.f2, .slice A e.f3.length c] 72)) (.cells #[.int .i64 e.f0, .int .i64 e.f1, .int .i64 e.f2.f0, .int .i64 e.f2.f1, .string e.f2.f2, .slice A2 e.f3.length c2] 72))
    have HL := jAa.mk (jDu w (.cells #[.int .i64 e.f0, .int .i64 e.f1, .int .i64 e.f2.f0, .int .i64 e.f2.f1, .string e.f2.f2, .slice A e.f3.length c] 72) (.cells #[.int .i64 e.f0, .int .i64 e.f1, .int .i64 e.f2.f0, .int .i64 e.f2.f1, .string e.f2.f2, .slice A2 e.f3.length c2] 72))
    have HB := jAa.mk (jFh w (.cells #[.int .i64 e.f0, .int .i64 e.f1, .int .i64 e.f2.f0, .int .i64 e.f2.f1, .string e.f2.f2, .slice A e.f3.length c] 72) (.cells #[.int .i64 e.f0, .int .i64 e.f1, .int .i64 e.f2.f0, .int .i64 e.f2.f1, .string e.f2.f2, .slice A2 e.f3.length c2] 72))
    have HC := jAa.mk (Kd.C_below hC HB.out)
    have HC2 := jAa.mk (Kd.C_below hC2 HB.out)
    clear hC hC2 ih
    go_enter Tryd.func54, Tryd.ntmps54
    go_wp2
    generalize hw0 : (w.alloc (.cells #[.int .i64 e.f0, .int .i64 e.f1, .int .i64 e.f2.f0, .int .i64 e.f2.f1, .string e.f2.f2, .slice A e.f3.length c] 72)).alloc (.cells #[.int .i64 e.f0, .int .i64 e.f1, .int .i64 e.f2.f0, .int .i64 e.f2.f1, .string e.f2.f2, .slice A2 e.f3.length c2] 72) = w0 at HK HL HB HC HC2 ⊢
    clear hw0
    go_loopw [5, 37] (fun t5 t37 wr => ∃ j : Nat, t37 = .int .i64 j ∧ j ≤ e.f3.length ∧ jAa (Below w0.heap.size w0 wr)) (fun _ t37 _ => e.f3.length - (intOf t37).toNat)
    case atStart => exact ⟨0, rfl, Nat.zero_le _, ⟨Below.refl _ _⟩⟩
    case round =>
      obtain ⟨j, rfl, hj, HBr⟩ := hrel
      by_cases hlt : j < e.f3.length
      · obtain ⟨ad, A5, c5, eA, hc0, hc1, hc2, hc3, hc4, hc5, hl5, hC5⟩ := jDx HC.out (j : Int) (by omega) (by omega)
        obtain ⟨ad2, A6, c6, eA2, hd0, hd1, hd2, hd3, hd4, hd5, hl6, hC6⟩ := jDx HC2.out (j : Int) (by omega) (by omega)
        subst eA; subst eA2
        simp only [Int.toNat_natCast, jAq] at hc0 hc1 hc2 hc3 hc4 hc5 hl5 hC5 hd0 hd1 hd2 hd3 hd4 hd5 hl6 hC6
        have IHx := IH.out _ (jCn (z := z72) hlt)
        generalize e.f3.getD j z72 = y at hc0 hc1 hc2 hc3 hc4 hc5 hl5 hC5 hd0 hd1 hd2 hd3 hd4 hd5 hl6 hC6 IHx
        have HKr := jAa.mk (jAp HK.out HBr.out)
        have HLr := jAa.mk (jAp HL.out HBr.out)
        have HC5 := jAa.mk (Kd.C_below hC5 HBr.out)
        have HC6 := jAa.mk (Kd.C_below hC6 HBr.out)
        have d0 := jBg HBr.out hc0
        have x0 := jBg HBr.out hd0
        have d1 := jBg HBr.out hc1
        have x1 := jBg HBr.out hd1
        have d2 := jBg HBr.out hc2
        have x2 := jBg HBr.out hd2
        have d3 := jBg HBr.out hc3
        have x3 := jBg HBr.out hd3
        have d4 := jBg HBr.out hc4
        have x4 := jBg HBr.out hd4
        have d5 := jBg HBr.out hc5
        have x5 := jBg HBr.out hd5
        clear hc0 hc1 hc2 hc3 hc4 hc5 hd0 hd1 hd2 hd3 hd4 hd5 hC5 hC6
        have hi0 : (0 : Int) ≤ (j : Int) := by omega
        have hi1 : (j : Int) < (e.f3.length : Int) := by omega
        go_wp2
        refine jDz (n := 12) (S := (fun w' => w'.cell? ⟨w.heap.size, 5, none⟩ = some (.slice (some ad) e.f3.length c) ∧ w'.cell? ⟨w.heap.size + 1, 5, none⟩ = some (.slice (some ad2) e.f3.length c2) ∧ w'.cell? (ad.add (j * 6)) = some (.int .i64 y.f0) ∧ w'.cell? ⟨(ad.add (j * 6)).block, (ad.add (j * 6)).off + 1, none⟩ = some (.int .i64 y.f1) ∧ w'.cell? ⟨(ad.add (j * 6)).block, (ad.add (j * 6)).off + 2, none⟩ = some (.int .i64 y.f2.f0) ∧ w'.cell? ⟨(ad.add (j * 6)).block, (ad.add (j * 6)).off + 3, none⟩ = some (.int .i64 y.f2.f1) ∧ w'.cell? ⟨(ad.add (j * 6)).block, (ad.add (j * 6)).off + 4, none⟩ = some (.string y.f2.f2) ∧ w'.cell? ⟨(ad.add (j * 6)).block, (ad.add (j * 6)).off + 5, none⟩ = some (.slice A5 y.f3.length c5) ∧ w'.cell? (ad2.add (j * 6)) = some (.int .i64 y.f0) ∧ w'.cell? ⟨(ad2.add (j * 6)).block, (ad2.add (j * 6)).off + 1, none⟩ = some (.int .i64 y.f1) ∧ w'.cell? ⟨(ad2.add (j * 6)).block, (ad2.add (j * 6)).off + 2, none⟩ = some (.int .i64 y.f2.f0) ∧ w'.cell? ⟨(ad2.add (j * 6)).block, (ad2.add (j * 6)).off + 3, none⟩ = some (.int .i64 y.f2.f1) ∧ w'.cell? ⟨(ad2.add (j * 6)).block, (ad2.add (j * 6)).off + 4, none⟩ = some (.string y.f2.f2) ∧ w'.cell? ⟨(ad2.add (j * 6)).block, (ad2.add (j * 6)).off + 5, none⟩ = some (.slice A6 y.f3.length c6))) (ds := []) #[false, false, false, false, false, false, false, false, false, false, false, false] (by kernel_rfl) rfl rfl ⟨jAb HKr.out 5, jAb HLr.out 5, d0, d1, d2, d3, d4, d5, x0, x1, x2, x3, x4, x5⟩ (fun hHeld => ?_)
        refine pure_ (i := 0) (N := some 40) (v := ?_) (a' := ?_) #[true, false, false, false, false, false, false, false, false, false, false, false] rfl rfl (by kernel_rfl) (fun _ _ _ h => h) (Or.inl ⟨by rfl, ?_⟩) ?_ ?_
        rotate_left
        · intro w'
          go_simp
          with_reducible rfl
        rotate_left
        · simp only [Act.put, List.setIfInBounds_toArray, List.set_cons_zero, List.set_cons_succ, i64_w, i32_w]
          rfl
        refine pure_ (i := 2) (N := some 42) (v := ?_) (a' := ?_) #[true, false, true, false, false, false, false, false, false, false, false, false] rfl rfl (by kernel_rfl) (fun _ _ _ h => h) (Or.inl ⟨by rfl, ?_⟩) ?_ ?_
        rotate_left
        · intro w'
          go_simp
          with_reducible rfl
        rotate_left
        · simp only [Act.put, List.setIfInBounds_toArray, List.set_cons_zero, List.set_cons_succ, i64_w, i32_w]
          rfl
        refine pure_ (i := 5) (N := some 45) (v := ?_) (a' := ?_) #[true, false, true, false, false, true, false, false, false, false, false, false] rfl rfl (by kernel_rfl) (fun _ _ _ h => h) (Or.inl ⟨by rfl, ?_⟩) ?_ ?_
        rotate_left
        · intro w'
          go_simp
          with_reducible rfl
        rotate_left
        · simp only [Act.put, List.setIfInBounds_toArray, List.set_cons_zero, List.set_cons_succ, i64_w, i32_w]
          rfl
        refine pure_ (i := 7) (N := some 47) (v := ?_) (a' := ?_) #[true, false, true, false, false, true, false, true, false, false, false, false] rfl rfl (by kernel_rfl) (fun _ _ _ h => h) (Or.inl ⟨by rfl, ?_⟩) ?_ ?_
        rotate_left
        · intro w'
          go_simp
          with_reducible rfl
        rotate_left
        · simp only [Act.put, List.setIfInBounds_toArray, List.set_cons_zero, List.set_cons_succ, i64_w, i32_w]
          rfl
        refine take_ (i := 1) (N := some 41) (v := ?_) (a' := ?_) #[true, true, true, false, false, true, false, true, false, false, false, false] rfl rfl (by kernel_rfl) (fun _ _ _ h => h) (Or.inl ⟨by rfl, ?_⟩) hHeld ?_ ?_
        rotate_left
        · rintro w' ⟨s0, s1, s2, s3, s4, s5, s6, s7, s8, s9, s10, s11, s12, s13⟩
          go_simp
          with_reducible rfl
        rotate_left
        · simp only [Act.put, List.setIfInBounds_toArray, List.set_cons_zero, List.set_cons_succ, i64_w, i32_w]
          rfl
        refine pure_ (i := 3) (N := some 43) (v := ?_) (a' := ?_) #[true, true, true, true, false, true, false, true, false, false, false, false] rfl rfl (by kernel_rfl) (fun _ _ _ h => h) (Or.inl ⟨by rfl, ?_⟩) ?_ ?_
        rotate_left
        · intro w'
          go_simp
          with_reducible rfl
        rotate_left
        · simp only [Act.put, List.setIfInBounds_toArray, List.set_cons_zero, List.set_cons_succ, i64_w, i32_w]
          rfl
        refine take_ (i := 4) (N := some 44) (v := ?_) (a' := ?_) #[true, true, true, true, true, true, false, true, false, false, false, false] rfl rfl (by kernel_rfl) (fun _ _ _ h => h) (Or.inl ⟨by rfl, ?_⟩) hHeld ?_ ?_
        rotate_left
        · rintro w' ⟨s0, s1, s2, s3, s4, s5, s6, s7, s8, s9, s10, s11, s12, s13⟩
          go_simp
          with_reducible rfl
        rotate_left
        · simp only [Act.put, List.setIfInBounds_toArray, List.set_cons_zero, List.set_cons_succ, i64_w, i32_w]
          rfl
        refine take_ (i := 6) (N := some 46) (v := ?_) (a' := ?_) #[true, true, true, true, true, true, true, true, false, false, false, false] rfl rfl (by kernel_rfl) (fun _ _ _ h => h) (Or.inl ⟨by rfl, ?_⟩) hHeld ?_ ?_
        rotate_left
        · rintro w' ⟨s0, s1, s2, s3, s4, s5, s6, s7, s8, s9, s10, s11, s12, s13⟩
          go_simp
          with_reducible rfl
        rotate_left
        · simp only [Act.put, List.setIfInBounds_toArray, List.set_cons_zero, List.set_cons_succ, i64_w, i32_w]
          rfl
        refine pure_ (i := 8) (N := some 48) (v := ?_) (a' := ?_) #[true, true, true, true, true, true, true, true, true, false, false, false] rfl rfl (by kernel_rfl) (fun _ _ _ h => h) (Or.inl ⟨by rfl, ?_⟩) ?_ ?_
        rotate_left
        · intro w'
          go_simp
          with_reducible rfl
        rotate_left
        · simp only [Act.put, List.setIfInBounds_toArray, List.set_cons_zero, List.set_cons_succ, i64_w, i32_w]
          rfl
        refine take_ (i := 9) (N := some 49) (v := ?_) (a' := ?_) #[true, true, true, true, true, true, true, true, true, true, false, false] rfl rfl (by kernel_rfl) (fun _ _ _ h => h) (Or.inl ⟨by rfl, ?_⟩) hHeld ?_ ?_
        rotate_left
        · rintro w' ⟨s0, s1, s2, s3, s4, s5, s6, s7, s8, s9, s10, s11, s12, s13⟩
          go_simp
          with_reducible rfl
        rotate_left
        · simp only [Act.put, List.setIfInBounds_toArray, List.set_cons_zero, List.set_cons_succ, i64_w, i32_w]
          rfl
        refine one_ (i := 10) (N := some 50) #[true, true, true, true, true, true, true, true, true, true, true, false] rfl rfl (by kernel_rfl) (by decide) (fun K hK => ?_)
        refine goes_ Tryd.func54 (by kernel_rfl) rfl #[.agg #[.int .i64 y.f0, .int .i64 y.f1, .int .i64 y.f2.f0, .int .i64 y.f2.f1, .string y.f2.f2, .slice A5 y.f3.length c5], .agg #[.int .i64 y.f0, .int .i64 y.f1, .int .i64 y.f2.f0, .int .i64 y.f2.f1, .string y.f2.f2, .slice A6 y.f3.length c6]] (by rfl) rfl rfl (by first | rfl | (simp only [List.map_toArray, List.map_cons, List.map_nil]; rfl)) ?_
        refine (IHx A5 c5 A6 c6 _ (Kd.C_drew HC5.out) (Kd.C_drew HC6.out)).mono ?_
        rintro x ws ⟨rfl, hbs⟩
        have hbs := undrew hbs
        have HKs := jAa.mk (jAp HKr.out hbs)
        have HLs := jAa.mk (jAp HLr.out hbs)
        refine ⟨_, rfl, ?_⟩
        refine hK.out _ _ ⟨jAb HKs.out 5, jAb HLs.out 5, jBg hbs d0, jBg hbs d1, jBg hbs d2, jBg hbs d3, jBg hbs d4, jBg hbs d5, jBg hbs x0, jBg hbs x1, jBg hbs x2, jBg hbs x3, jBg hbs x4, jBg hbs x5⟩ (fun hHeld => ?_)
        clear hK K
        refine norm_ (a' := ?_) ?_ ?_
        rotate_left
        · show Act.put _ (some 50) _ = _
          simp only [Act.put, List.setIfInBounds_toArray, List.set_cons_zero, List.set_cons_succ, i64_w, i32_w]
          rfl
        refine pure_ (i := 11) (N := some 51) (v := ?_) (a' := ?_) #[true, true, true, true, true, true, true, true, true, true, true, true] rfl rfl (by kernel_rfl) (fun _ _ _ h => h) (Or.inl ⟨by rfl, ?_⟩) ?_ ?_
        rotate_left
        · intro w'
          go_simp
          with_reducible rfl
        rotate_left
        · simp only [Act.put, List.setIfInBounds_toArray, List.set_cons_zero, List.set_cons_succ, i64_w, i32_w]
          rfl
        refine done_ (by kernel_rfl) ?_
        go_wp2
        go_roundw
        case rel => exact ⟨j + 1, by go_num, by omega, ⟨HBr.out.trans (hbs.mono HBr.out.size)⟩⟩
        case measure => simp [intOf]; omega
      · have hj2 : j = e.f3.length := by omega
        subst hj2
        have hn : ¬ ((e.f3.length : Int) < (e.f3.length : Int)) := by omega
        go_wp2
        go_ret
        exact ⟨rfl, jAu HB.out HBr.out⟩
attribute [local go_sem high] eqA59 in
set_option maxHeartbeats 4000000 in
set_option maxRecDepth 100000 in
theorem wsameT_calls {t : S45} (ho : OkT t) (A : Option Addr) (c : Nat) (B : Option Addr) (d : Nat) (A2 : Option Addr) (c2 : Nat) (B2 : Option Addr) (d2 : Nat) (w : World) (hC : Kd.C k59 w A t.f2.length t.f2) (hE : Kd.C k72 w B t.f3.length t.f3) (hC2 : Kd.C k59 w A2 t.f2.length t.f2) (hE2 : Kd.C k72 w B2 t.f3.length t.f3) :
    Calls Tryd.prog 31 #[.agg #[.string t.f0, .int .i64 t.f1, .slice A t.f2.length c, .slice B t.f3.length d], .agg #[.string t.f0, .int .i64 t.f1, .slice A2 t.f2.length c2, .slice B2 t.f3.length d2]] w (jFd true w) := by
  have hm2 := ho.cols
  have hm3 := ho.checks
  have OE := jAa.mk ho.each
  have HK := jAa.mk (jAe (jCt w (.cells #[.string t.f0, .int .i64 t.f1, .slice A t.f2.length c, .slice B t.f3.length d] 45)) (.cells #[.string t.f0, .int .i64 t.f1, .slice A2 t.f2.length c2, .slice B2 t.f3.length d2] 45))
  have HL := jAa.mk (jDu w (.cells #[.string t.f0, .int .i64 t.f1, .slice A t.f2.length c, .slice B t.f3.length d] 45) (.cells #[.string t.f0, .int .i64 t.f1, .slice A2 t.f2.length c2, .slice B2 t.f3.length d2] 45))
  have HB := jAa.mk (jFh w (.cells #[.string t.f0, .int .i64 t.f1, .slice A t.f2.length c, .slice B t.f3.length d] 45) (.cells #[.string t.f0, .int .i64 t.f1, .slice A2 t.f2.length c2, .slice B2 t.f3.length d2] 45))
  have HC := jAa.mk (Kd.C_below hC HB.out)
  have HC2 := jAa.mk (Kd.C_below hC2 HB.out)
  have HE := jAa.mk (Kd.C_below hE HB.out)
  have HE2 := jAa.mk (Kd.C_below hE2 HB.out)
  clear hC hC2 hE hE2 ho
  go_enter Tryd.func31, Tryd.ntmps31
  go_wp2
  generalize hw0 : (w.alloc (.cells #[.string t.f0, .int .i64 t.f1, .slice A t.f2.length c, .slice B t.f3.length d] 45)).alloc (.cells #[.string t.f0, .int .i64 t.f1, .slice A2 t.f2.length c2, .slice B2 t.f3.length d2] 45) = w0 at HK HL HB HC HC2 HE HE2 ⊢
  clear hw0
  go_loopw [5, 40] (fun t5 t40 wr => ∃ j : Nat, t40 = .int .i64 j ∧ j ≤ t.f2.length ∧ jAa (Below w0.heap.size w0 wr)) (fun _ t40 _ => t.f2.length - (intOf t40).toNat)
  case atStart => exact ⟨0, rfl, Nat.zero_le _, ⟨Below.refl _ _⟩⟩
  case round =>
    obtain ⟨j, rfl, hj, HBr⟩ := hrel
    by_cases hlt : j < t.f2.length
    · obtain ⟨ad, eA, hc0, hc1, hc2, hc3, hc4, hc5⟩ := jFp HC.out (j : Int) (by omega) (by omega)
      obtain ⟨ad2, eA2, hd0, hd1, hd2, hd3, hd4, hd5⟩ := jFp HC2.out (j : Int) (by omega) (by omega)
      subst eA; subst eA2
      simp only [Int.toNat_natCast, jBn] at hc0 hc1 hc2 hc3 hc4 hc5 hd0 hd1 hd2 hd3 hd4 hd5 
      generalize t.f2.getD j z59 = y at hc0 hc1 hc2 hc3 hc4 hc5 hd0 hd1 hd2 hd3 hd4 hd5 
      have HKr := jAa.mk (jAp HK.out HBr.out)
      have HLr := jAa.mk (jAp HL.out HBr.out)
      have p0 := jBg HBr.out hc0
      have x0 := jBg HBr.out hd0
      have p1 := jBg HBr.out hc1
      have x1 := jBg HBr.out hd1
      have p2 := jBg HBr.out hc2
      have x2 := jBg HBr.out hd2
      have p3 := jBg HBr.out hc3
      have x3 := jBg HBr.out hd3
      have p4 := jBg HBr.out hc4
      have x4 := jBg HBr.out hd4
      have p5 := jBg HBr.out hc5
      have x5 := jBg HBr.out hd5
      clear hc0 hc1 hc2 hc3 hc4 hc5 hd0 hd1 hd2 hd3 hd4 hd5
      have hi0 : (0 : Int) ≤ (j : Int) := by omega
      have hi1 : (j : Int) < (t.f2.length : Int) := by omega
      go_wp2
      refine jDz (n := 11) (S := (fun w' => w'.cell? ⟨w.heap.size, 2, none⟩ = some (.slice (some ad) t.f2.length c) ∧ w'.cell? ⟨w.heap.size + 1, 2, none⟩ = some (.slice (some ad2) t.f2.length c2) ∧ w'.cell? (ad.add (j * 6)) = some (.string y.f0) ∧ w'.cell? ⟨(ad.add (j * 6)).block, (ad.add (j * 6)).off + 1, none⟩ = some (.int .i64 y.f1) ∧ w'.cell? ⟨(ad.add (j * 6)).block, (ad.add (j * 6)).off + 2, none⟩ = some (.bool y.f2) ∧ w'.cell? ⟨(ad.add (j * 6)).block, (ad.add (j * 6)).off + 3, none⟩ = some (.bool y.f3) ∧ w'.cell? ⟨(ad.add (j * 6)).block, (ad.add (j * 6)).off + 4, none⟩ = some (.string y.f4) ∧ w'.cell? ⟨(ad.add (j * 6)).block, (ad.add (j * 6)).off + 5, none⟩ = some (.int .i64 y.f5) ∧ w'.cell? (ad2.add (j * 6)) = some (.string y.f0) ∧ w'.cell? ⟨(ad2.add (j * 6)).block, (ad2.add (j * 6)).off + 1, none⟩ = some (.int .i64 y.f1) ∧ w'.cell? ⟨(ad2.add (j * 6)).block, (ad2.add (j * 6)).off + 2, none⟩ = some (.bool y.f2) ∧ w'.cell? ⟨(ad2.add (j * 6)).block, (ad2.add (j * 6)).off + 3, none⟩ = some (.bool y.f3) ∧ w'.cell? ⟨(ad2.add (j * 6)).block, (ad2.add (j * 6)).off + 4, none⟩ = some (.string y.f4) ∧ w'.cell? ⟨(ad2.add (j * 6)).block, (ad2.add (j * 6)).off + 5, none⟩ = some (.int .i64 y.f5))) (ds := []) #[false, false, false, false, false, false, false, false, false, false, false] (by kernel_rfl) rfl rfl ⟨jAb HKr.out 2, jAb HLr.out 2, p0, p1, p2, p3, p4, p5, x0, x1, x2, x3, x4, x5⟩ (fun hHeld => ?_)
      refine pure_ (i := 0) (N := some 43) (v := ?_) (a' := ?_) #[true, false, false, false, false, false, false, false, false, false, false] rfl rfl (by kernel_rfl) (fun _ _ _ h => h) (Or.inl ⟨by rfl, ?_⟩) ?_ ?_
      rotate_left
      · intro w'
        go_simp
        with_reducible rfl
      rotate_left
      · simp only [Act.put, List.setIfInBounds_toArray, List.set_cons_zero, List.set_cons_succ, i64_w, i32_w]
        rfl
      refine pure_ (i := 2) (N := some 45) (v := ?_) (a' := ?_) #[true, false, true, false, false, false, false, false, false, false, false] rfl rfl (by kernel_rfl) (fun _ _ _ h => h) (Or.inl ⟨by rfl, ?_⟩) ?_ ?_
      rotate_left
      · intro w'
        go_simp
        with_reducible rfl
      rotate_left
      · simp only [Act.put, List.setIfInBounds_toArray, List.set_cons_zero, List.set_cons_succ, i64_w, i32_w]
        rfl
      refine pure_ (i := 5) (N := some 48) (v := ?_) (a' := ?_) #[true, false, true, false, false, true, false, false, false, false, false] rfl rfl (by kernel_rfl) (fun _ _ _ h => h) (Or.inl ⟨by rfl, ?_⟩) ?_ ?_
      rotate_left
      · intro w'
        go_simp
        with_reducible rfl
      rotate_left
      · simp only [Act.put, List.setIfInBounds_toArray, List.set_cons_zero, List.set_cons_succ, i64_w, i32_w]
        rfl
      refine pure_ (i := 7) (N := some 50) (v := ?_) (a' := ?_) #[true, false, true, false, false, true, false, true, false, false, false] rfl rfl (by kernel_rfl) (fun _ _ _ h => h) (Or.inl ⟨by rfl, ?_⟩) ?_ ?_
      rotate_left
      · intro w'
        go_simp
        with_reducible rfl
      rotate_left
      · simp only [Act.put, List.setIfInBounds_toArray, List.set_cons_zero, List.set_cons_succ, i64_w, i32_w]
        rfl
      refine take_ (i := 1) (N := some 44) (v := ?_) (a' := ?_) #[true, true, true, false, false, true, false, true, false, false, false] rfl rfl (by kernel_rfl) (fun _ _ _ h => h) (Or.inl ⟨by rfl, ?_⟩) hHeld ?_ ?_
      rotate_left
      · rintro w' ⟨s0, s1, s2, s3, s4, s5, s6, s7, s8, s9, s10, s11, s12, s13⟩
        go_simp
        with_reducible rfl
      rotate_left
      · simp only [Act.put, List.setIfInBounds_toArray, List.set_cons_zero, List.set_cons_succ, i64_w, i32_w]
        rfl
      refine pure_ (i := 3) (N := some 46) (v := ?_) (a' := ?_) #[true, true, true, true, false, true, false, true, false, false, false] rfl rfl (by kernel_rfl) (fun _ _ _ h => h) (Or.inl ⟨by rfl, ?_⟩) ?_ ?_
      rotate_left
      · intro w'
        go_simp
        with_reducible rfl
      rotate_left
      · simp only [Act.put, List.setIfInBounds_toArray, List.set_cons_zero, List.set_cons_succ, i64_w, i32_w]
        rfl
      refine take_ (i := 4) (N := some 47) (v := ?_) (a' := ?_) #[true, true, true, true, true, true, false, true, false, false, false] rfl rfl (by kernel_rfl) (fun _ _ _ h => h) (Or.inl ⟨by rfl, ?_⟩) hHeld ?_ ?_
      rotate_left
      · rintro w' ⟨s0, s1, s2, s3, s4, s5, s6, s7, s8, s9, s10, s11, s12, s13⟩
        go_simp
        with_reducible rfl
      rotate_left
      · simp only [Act.put, List.setIfInBounds_toArray, List.set_cons_zero, List.set_cons_succ, i64_w, i32_w]
        rfl
      refine take_ (i := 6) (N := some 49) (v := ?_) (a' := ?_) #[true, true, true, true, true, true, true, true, false, false, false] rfl rfl (by kernel_rfl) (fun _ _ _ h => h) (Or.inl ⟨by rfl, ?_⟩) hHeld ?_ ?_
      rotate_left
      · rintro w' ⟨s0, s1, s2, s3, s4, s5, s6, s7, s8, s9, s10, s11, s12, s13⟩
        go_simp
        with_reducible rfl
      rotate_left
      · simp only [Act.put, List.setIfInBounds_toArray, List.set_cons_zero, List.set_cons_succ, i64_w, i32_w]
        rfl
      refine pure_ (i := 8) (N := some 51) (v := ?_) (a' := ?_) #[true, true, true, true, true, true, true, true, true, false, false] rfl rfl (by kernel_rfl) (fun _ _ _ h => h) (Or.inl ⟨by rfl, ?_⟩) ?_ ?_
      rotate_left
      · intro w'
        go_simp
        with_reducible rfl
      rotate_left
      · simp only [Act.put, List.setIfInBounds_toArray, List.set_cons_zero, List.set_cons_succ, i64_w, i32_w]
        rfl
      refine take_ (i := 9) (N := some 52) (v := ?_) (a' := ?_) #[true, true, true, true, true, true, true, true, true, true, false] rfl rfl (by kernel_rfl) (fun _ _ _ h => h) (Or.inl ⟨by rfl, ?_⟩) hHeld ?_ ?_
      rotate_left
      · rintro w' ⟨s0, s1, s2, s3, s4, s5, s6, s7, s8, s9, s10, s11, s12, s13⟩
        go_simp
        with_reducible rfl
      rotate_left
      · simp only [Act.put, List.setIfInBounds_toArray, List.set_cons_zero, List.set_cons_succ, i64_w, i32_w]
        rfl
      refine pure_ (i := 10) (N := some 53) (v := ?_) (a' := ?_) #[true, true, true, true, true, true, true, true, true, true, true] rfl rfl (by kernel_rfl) (fun _ _ _ h => h) (Or.inl ⟨by rfl, ?_⟩) ?_ ?_
      rotate_left
      · intro w'
        go_simp
        with_reducible rfl
      rotate_left
      · simp only [Act.put, List.setIfInBounds_toArray, List.set_cons_zero, List.set_cons_succ, i64_w, i32_w]
        rfl
      refine done_ (by kernel_rfl) ?_
      go_wp2
      go_roundw
      case rel => exact ⟨j + 1, by go_num, by omega, ⟨jAd HBr.out _⟩⟩
      case measure => simp [intOf]; omega
    · have hj2 : j = t.f2.length := by omega
      subst hj2
      have hn : ¬ ((t.f2.length : Int) < (t.f2.length : Int)) := by omega
      have HKr := jAa.mk (jAp HK.out HBr.out)
      have HLr := jAa.mk (jAp HL.out HBr.out)
      have k0 := jAb HKr.out 0
      have l0 := jAb HLr.out 0
      have k1 := jAb HKr.out 1
      have l1 := jAb HLr.out 1
      have k2 := jAb HKr.out 2
      have l2 := jAb HLr.out 2
      have k3 := jAb HKr.out 3
      have l3 := jAb HLr.out 3
      go_wp2
      clear k0 k1 k2 k3 l0 l1 l2 l3 HKr HLr
      go_loopw [6, 58] (fun t6 t58 wr => ∃ j : Nat, t58 = .int .i64 j ∧ j ≤ t.f3.length ∧ jAa (Below w0.heap.size w0 wr)) (fun _ t58 _ => t.f3.length - (intOf t58).toNat)
      case atStart => exact ⟨0, rfl, Nat.zero_le _, HBr⟩
      case round =>
        obtain ⟨j, rfl, hj, HBr⟩ := hrel
        by_cases hlt : j < t.f3.length
        · obtain ⟨ad, A5, c5, eA, hc0, hc1, hc2, hc3, hc4, hc5, hl5, hC5⟩ := jDx HE.out (j : Int) (by omega) (by omega)
          obtain ⟨ad2, A6, c6, eA2, hd0, hd1, hd2, hd3, hd4, hd5, hl6, hC6⟩ := jDx HE2.out (j : Int) (by omega) (by omega)
          subst eA; subst eA2
          simp only [Int.toNat_natCast, jAq] at hc0 hc1 hc2 hc3 hc4 hc5 hd0 hd1 hd2 hd3 hd4 hd5 hl5 hC5 hl6 hC6
          have IHx := OE.out _ (jCn (z := z72) hlt)
          generalize t.f3.getD j z72 = y at hc0 hc1 hc2 hc3 hc4 hc5 hd0 hd1 hd2 hd3 hd4 hd5 hl5 hC5 hl6 hC6 IHx
          have HKr := jAa.mk (jAp HK.out HBr.out)
          have HLr := jAa.mk (jAp HL.out HBr.out)
          have HC5 := jAa.mk (Kd.C_below hC5 HBr.out)
          have HC6 := jAa.mk (Kd.C_below hC6 HBr.out)
          have p0 := jBg HBr.out hc0
          have x0 := jBg HBr.out hd0
          have p1 := jBg HBr.out hc1
          have x1 := jBg HBr.out hd1
          have p2 := jBg HBr.out hc2
          have x2 := jBg HBr.out hd2
          have p3 := jBg HBr.out hc3
          have x3 := jBg HBr.out hd3
          have p4 := jBg HBr.out hc4
          have x4 := jBg HBr.out hd4
          have p5 := jBg HBr.out hc5
          have x5 := jBg HBr.out hd5
          clear hc0 hc1 hc2 hc3 hc4 hc5 hd0 hd1 hd2 hd3 hd4 hd5 hC5 hC6
          have hi0 : (0 : Int) ≤ (j : Int) := by omega
          have hi1 : (j : Int) < (t.f3.length : Int) := by omega
          go_wp2
          refine jDz (n := 12) (S := (fun w' => w'.cell? ⟨w.heap.size, 3, none⟩ = some (.slice (some ad) t.f3.length d) ∧ w'.cell? ⟨w.heap.size + 1, 3, none⟩ = some (.slice (some ad2) t.f3.length d2) ∧ w'.cell? (ad.add (j * 6)) = some (.int .i64 y.f0) ∧ w'.cell? ⟨(ad.add (j * 6)).block, (ad.add (j * 6)).off + 1, none⟩ = some (.int .i64 y.f1) ∧ w'.cell? ⟨(ad.add (j * 6)).block, (ad.add (j * 6)).off + 2, none⟩ = some (.int .i64 y.f2.f0) ∧ w'.cell? ⟨(ad.add (j * 6)).block, (ad.add (j * 6)).off + 3, none⟩ = some (.int .i64 y.f2.f1) ∧ w'.cell? ⟨(ad.add (j * 6)).block, (ad.add (j * 6)).off + 4, none⟩ = some (.string y.f2.f2) ∧ w'.cell? ⟨(ad.add (j * 6)).block, (ad.add (j * 6)).off + 5, none⟩ = some (.slice A5 y.f3.length c5) ∧ w'.cell? (ad2.add (j * 6)) = some (.int .i64 y.f0) ∧ w'.cell? ⟨(ad2.add (j * 6)).block, (ad2.add (j * 6)).off + 1, none⟩ = some (.int .i64 y.f1) ∧ w'.cell? ⟨(ad2.add (j * 6)).block, (ad2.add (j * 6)).off + 2, none⟩ = some (.int .i64 y.f2.f0) ∧ w'.cell? ⟨(ad2.add (j * 6)).block, (ad2.add (j * 6)).off + 3, none⟩ = some (.int .i64 y.f2.f1) ∧ w'.cell? ⟨(ad2.add (j * 6)).block, (ad2.add (j * 6)).off + 4, none⟩ = some (.string y.f2.f2) ∧ w'.cell? ⟨(ad2.add (j * 6)).block, (ad2.add (j * 6)).off + 5, none⟩ = some (.slice A6 y.f3.length c6))) (ds := []) #[false, false, false, false, false, false, false, false, false, false, false, false] (by kernel_rfl) rfl rfl ⟨jAb HKr.out 3, jAb HLr.out 3, p0, p1, p2, p3, p4, p5, x0, x1, x2, x3, x4, x5⟩ (fun hHeld => ?_)
          refine pure_ (i := 0) (N := some 61) (v := ?_) (a' := ?_) #[true, false, false, false, false, false, false, false, false, false, false, false] rfl rfl (by kernel_rfl) (fun _ _ _ h => h) (Or.inl ⟨by rfl, ?_⟩) ?_ ?_
          rotate_left
          · intro w'
            go_simp
            with_reducible rfl
          rotate_left
          · simp only [Act.put, List.setIfInBounds_toArray, List.set_cons_zero, List.set_cons_succ, i64_w, i32_w]
            rfl
          refine pure_ (i := 2) (N := some 63) (v := ?_) (a' := ?_) #[true, false, true, false, false, false, false, false, false, false, false, false] rfl rfl (by kernel_rfl) (fun _ _ _ h => h) (Or.inl ⟨by rfl, ?_⟩) ?_ ?_
          rotate_left
          · intro w'
            go_simp
            with_reducible rfl
          rotate_left
          · simp only [Act.put, List.setIfInBounds_toArray, List.set_cons_zero, List.set_cons_succ, i64_w, i32_w]
            rfl
          refine pure_ (i := 5) (N := some 66) (v := ?_) (a' := ?_) #[true, false, true, false, false, true, false, false, false, false, false, false] rfl rfl (by kernel_rfl) (fun _ _ _ h => h) (Or.inl ⟨by rfl, ?_⟩) ?_ ?_
          rotate_left
          · intro w'
            go_simp
            with_reducible rfl
          rotate_left
          · simp only [Act.put, List.setIfInBounds_toArray, List.set_cons_zero, List.set_cons_succ, i64_w, i32_w]
            rfl
          refine pure_ (i := 7) (N := some 68) (v := ?_) (a' := ?_) #[true, false, true, false, false, true, false, true, false, false, false, false] rfl rfl (by kernel_rfl) (fun _ _ _ h => h) (Or.inl ⟨by rfl, ?_⟩) ?_ ?_
          rotate_left
          · intro w'
            go_simp
            with_reducible rfl
          rotate_left
          · simp only [Act.put, List.setIfInBounds_toArray, List.set_cons_zero, List.set_cons_succ, i64_w, i32_w]
            rfl
          refine take_ (i := 1) (N := some 62) (v := ?_) (a' := ?_) #[true, true, true, false, false, true, false, true, false, false, false, false] rfl rfl (by kernel_rfl) (fun _ _ _ h => h) (Or.inl ⟨by rfl, ?_⟩) hHeld ?_ ?_
          rotate_left
          · rintro w' ⟨s0, s1, s2, s3, s4, s5, s6, s7, s8, s9, s10, s11, s12, s13⟩
            go_simp
            with_reducible rfl
          rotate_left
          · simp only [Act.put, List.setIfInBounds_toArray, List.set_cons_zero, List.set_cons_succ, i64_w, i32_w]
            rfl
          refine pure_ (i := 3) (N := some 64) (v := ?_) (a' := ?_) #[true, true, true, true, false, true, false, true, false, false, false, false] rfl rfl (by kernel_rfl) (fun _ _ _ h => h) (Or.inl ⟨by rfl, ?_⟩) ?_ ?_
          rotate_left
          · intro w'
            go_simp
            with_reducible rfl
          rotate_left
          · simp only [Act.put, List.setIfInBounds_toArray, List.set_cons_zero, List.set_cons_succ, i64_w, i32_w]
            rfl
          refine take_ (i := 4) (N := some 65) (v := ?_) (a' := ?_) #[true, true, true, true, true, true, false, true, false, false, false, false] rfl rfl (by kernel_rfl) (fun _ _ _ h => h) (Or.inl ⟨by rfl, ?_⟩) hHeld ?_ ?_
          rotate_left
          · rintro w' ⟨s0, s1, s2, s3, s4, s5, s6, s7, s8, s9, s10, s11, s12, s13⟩
            go_simp
            with_reducible rfl
          rotate_left
          · simp only [Act.put, List.setIfInBounds_toArray, List.set_cons_zero, List.set_cons_succ, i64_w, i32_w]
            rfl
          refine take_ (i := 6) (N := some 67) (v := ?_) (a' := ?_) #[true, true, true, true, true, true, true, true, false, false, false, false] rfl rfl (by kernel_rfl) (fun _ _ _ h => h) (Or.inl ⟨by rfl, ?_⟩) hHeld ?_ ?_
          rotate_left
          · rintro w' ⟨s0, s1, s2, s3, s4, s5, s6, s7, s8, s9, s10, s11, s12, s13⟩
            go_simp
            with_reducible rfl
          rotate_left
          · simp only [Act.put, List.setIfInBounds_toArray, List.set_cons_zero, List.set_cons_succ, i64_w, i32_w]
            rfl
          refine pure_ (i := 8) (N := some 69) (v := ?_) (a' := ?_) #[true, true, true, true, true, true, true, true, true, false, false, false] rfl rfl (by kernel_rfl) (fun _ _ _ h => h) (Or.inl ⟨by rfl, ?_⟩) ?_ ?_
          rotate_left
          · intro w'
            go_simp
            with_reducible rfl
          rotate_left
          · simp only [Act.put, List.setIfInBounds_toArray, List.set_cons_zero, List.set_cons_succ, i64_w, i32_w]
            rfl
          refine take_ (i := 9) (N := some 70) (v := ?_) (a' := ?_) #[true, true, true, true, true, true, true, true, true, true, false, false] rfl rfl (by kernel_rfl) (fun _ _ _ h => h) (Or.inl ⟨by rfl, ?_⟩) hHeld ?_ ?_
          rotate_left
          · rintro w' ⟨s0, s1, s2, s3, s4, s5, s6, s7, s8, s9, s10, s11, s12, s13⟩
            go_simp
            with_reducible rfl
          rotate_left
          · simp only [Act.put, List.setIfInBounds_toArray, List.set_cons_zero, List.set_cons_succ, i64_w, i32_w]
            rfl
          refine one_ (i := 10) (N := some 71) #[true, true, true, true, true, true, true, true, true, true, true, false] rfl rfl (by kernel_rfl) (by decide) (fun K hK => ?_)
          refine goes_ Tryd.func54 (by kernel_rfl) rfl #[.agg #[.int .i64 y.f0, .int .i64 y.f1, .int .i64 y.f2.f0, .int .i64 y.f2.f1, .string y.f2.f2, .slice A5 y.f3.length c5], .agg #[.int .i64 y.f0, .int .i64 y.f1, .int .i64 y.f2.f0, .int .i64 y.f2.f1, .string y.f2.f2, .slice A6 y.f3.length c6]] (by rfl) rfl rfl (by first | rfl | (simp only [List.map_toArray, List.map_cons, List.map_nil]; rfl)) ?_
          refine (wsameE_calls IHx A5 c5 A6 c6 _ (Kd.C_drew HC5.out) (Kd.C_drew HC6.out)).mono ?_
          rintro x ws ⟨rfl, hbs⟩
          have hbs := undrew hbs
          have HKs := jAa.mk (jAp HKr.out hbs)
          have HLs := jAa.mk (jAp HLr.out hbs)
          refine ⟨_, rfl, ?_⟩
          refine hK.out _ _ ⟨jAb HKs.out 3, jAb HLs.out 3, jBg hbs p0, jBg hbs p1, jBg hbs p2, jBg hbs p3, jBg hbs p4, jBg hbs p5, jBg hbs x0, jBg hbs x1, jBg hbs x2, jBg hbs x3, jBg hbs x4, jBg hbs x5⟩ (fun hHeld => ?_)
          clear hK K
          refine norm_ (a' := ?_) ?_ ?_
          rotate_left
          · show Act.put _ (some 71) _ = _
            simp only [Act.put, List.setIfInBounds_toArray, List.set_cons_zero, List.set_cons_succ, i64_w, i32_w]
            rfl
          refine pure_ (i := 11) (N := some 72) (v := ?_) (a' := ?_) #[true, true, true, true, true, true, true, true, true, true, true, true] rfl rfl (by kernel_rfl) (fun _ _ _ h => h) (Or.inl ⟨by rfl, ?_⟩) ?_ ?_
          rotate_left
          · intro w'
            go_simp
            with_reducible rfl
          rotate_left
          · simp only [Act.put, List.setIfInBounds_toArray, List.set_cons_zero, List.set_cons_succ, i64_w, i32_w]
            rfl
          refine done_ (by kernel_rfl) ?_
          go_wp2
          go_roundw
          case rel => exact ⟨j + 1, by go_num, by omega, ⟨HBr.out.trans (hbs.mono HBr.out.size)⟩⟩
          case measure => simp [intOf]; omega
        · have hj2 : j = t.f3.length := by omega
          subst hj2
          have hn : ¬ ((t.f3.length : Int) < (t.f3.length : Int)) := by omega
          go_wp2
          go_ret
          exact ⟨rfl, jAu HB.out HBr.out⟩
attribute [local go_sem high] eqA27 in
set_option maxHeartbeats 4000000 in
set_option maxRecDepth 100000 in
theorem jHb (v : Int) (ts : List S45) (gs : List S27) (ho : ∀ t, t ∈ ts → OkT t) (A : Option Addr) (c : Nat) (B : Option Addr) (d : Nat) (A2 : Option Addr) (c2 : Nat) (B2 : Option Addr) (d2 : Nat) (w : World) (hC : Kd.C k45 w A ts.length ts) (hE : Kd.C k27 w B gs.length gs) (hC2 : Kd.C k45 w A2 ts.length ts) (hE2 : Kd.C k27 w B2 gs.length gs) :
    Calls Tryd.prog 41 #[.agg #[.int .i64 v, .slice A ts.length c, .slice B gs.length d], .agg #[.int .i64 v, .slice A2 ts.length c2, .slice B2 gs.length d2]] w (jFd true w) := by
  have hm2 : ts.length ≤ 9223372036854775807 := Kd.C_max hC
  have hm3 : gs.length ≤ 9223372036854775807 := Kd.C_max hE
  have OE := jAa.mk ho
  have HK := jAa.mk (jAe (jCt w (.cells #[.int .i64 v, .slice A ts.length c, .slice B gs.length d] 25)) (.cells #[.int .i64 v, .slice A2 ts.length c2, .slice B2 gs.length d2] 25))
  have HL := jAa.mk (jDu w (.cells #[.int .i64 v, .slice A ts.length c, .slice B gs.length d] 25) (.cells #[.int .i64 v, .slice A2 ts.length c2, .slice B2 gs.length d2] 25))
  have HB := jAa.mk (jFh w (.cells #[.int .i64 v, .slice A ts.length c, .slice B gs.length d] 25) (.cells #[.int .i64 v, .slice A2 ts.length c2, .slice B2 gs.length d2] 25))
  have HC := jAa.mk (Kd.C_below hC HB.out)
  have HC2 := jAa.mk (Kd.C_below hC2 HB.out)
  have HE := jAa.mk (Kd.C_below hE HB.out)
  have HE2 := jAa.mk (Kd.C_below hE2 HB.out)
  clear hC hC2 hE hE2 ho
  go_enter Tryd.func41, Tryd.ntmps41
  go_wp2
  generalize hw0 : (w.alloc (.cells #[.int .i64 v, .slice A ts.length c, .slice B gs.length d] 25)).alloc (.cells #[.int .i64 v, .slice A2 ts.length c2, .slice B2 gs.length d2] 25) = w0 at HK HL HB HC HC2 HE HE2 ⊢
  clear hw0
  go_loopw [5, 33] (fun t5 t33 wr => ∃ j : Nat, t33 = .int .i64 j ∧ j ≤ ts.length ∧ jAa (Below w0.heap.size w0 wr)) (fun _ t33 _ => ts.length - (intOf t33).toNat)
  case atStart => exact ⟨0, rfl, Nat.zero_le _, ⟨Below.refl _ _⟩⟩
  case round =>
    obtain ⟨j, rfl, hj, HBr⟩ := hrel
    by_cases hlt : j < ts.length
    · obtain ⟨ad, A5, c5, A7, c7, eA, hc0, hc1, hc2, hc3, hl5, hC5, hl7, hC7⟩ := jGf HC.out (j : Int) (by omega) (by omega)
      obtain ⟨ad2, A6, c6, A8, c8, eA2, hd0, hd1, hd2, hd3, hl6, hC6, hl8, hC8⟩ := jGf HC2.out (j : Int) (by omega) (by omega)
      subst eA; subst eA2
      simp only [Int.toNat_natCast, jAl] at hc0 hc1 hc2 hc3 hd0 hd1 hd2 hd3 hl5 hC5 hl6 hC6 hl7 hC7 hl8 hC8
      have IHx := OE.out _ (jCn (z := z45) hlt)
      generalize ts.getD j z45 = y at hc0 hc1 hc2 hc3 hd0 hd1 hd2 hd3 hl5 hC5 hl6 hC6 hl7 hC7 hl8 hC8 IHx
      have HKr := jAa.mk (jAp HK.out HBr.out)
      have HLr := jAa.mk (jAp HL.out HBr.out)
      have HC5 := jAa.mk (Kd.C_below hC5 HBr.out)
      have HC6 := jAa.mk (Kd.C_below hC6 HBr.out)
      have HC7 := jAa.mk (Kd.C_below hC7 HBr.out)
      have HC8 := jAa.mk (Kd.C_below hC8 HBr.out)
      have p0 := jBg HBr.out hc0
      have x0 := jBg HBr.out hd0
      have p1 := jBg HBr.out hc1
      have x1 := jBg HBr.out hd1
      have p2 := jBg HBr.out hc2
      have x2 := jBg HBr.out hd2
      have p3 := jBg HBr.out hc3
      have x3 := jBg HBr.out hd3
      clear hc0 hc1 hc2 hc3 hd0 hd1 hd2 hd3 hC5 hC6 hC7 hC8
      have hi0 : (0 : Int) ≤ (j : Int) := by omega
      have hi1 : (j : Int) < (ts.length : Int) := by omega
      go_wp2
      refine jDz (n := 12) (S := (fun w' => w'.cell? ⟨w.heap.size, 1, none⟩ = some (.slice (some ad) ts.length c) ∧ w'.cell? ⟨w.heap.size + 1, 1, none⟩ = some (.slice (some ad2) ts.length c2) ∧ w'.cell? (ad.add (j * 4)) = some (.string y.f0) ∧ w'.cell? ⟨(ad.add (j * 4)).block, (ad.add (j * 4)).off + 1, none⟩ = some (.int .i64 y.f1) ∧ w'.cell? ⟨(ad.add (j * 4)).block, (ad.add (j * 4)).off + 2, none⟩ = some (.slice A5 y.f2.length c5) ∧ w'.cell? ⟨(ad.add (j * 4)).block, (ad.add (j * 4)).off + 3, none⟩ = some (.slice A7 y.f3.length c7) ∧ w'.cell? (ad2.add (j * 4)) = some (.string y.f0) ∧ w'.cell? ⟨(ad2.add (j * 4)).block, (ad2.add (j * 4)).off + 1, none⟩ = some (.int .i64 y.f1) ∧ w'.cell? ⟨(ad2.add (j * 4)).block, (ad2.add (j * 4)).off + 2, none⟩ = some (.slice A6 y.f2.length c6) ∧ w'.cell? ⟨(ad2.add (j * 4)).block, (ad2.add (j * 4)).off + 3, none⟩ = some (.slice A8 y.f3.length c8))) (ds := []) #[false, false, false, false, false, false, false, false, false, false, false, false] (by kernel_rfl) rfl rfl ⟨jAb HKr.out 1, jAb HLr.out 1, p0, p1, p2, p3, x0, x1, x2, x3⟩ (fun hHeld => ?_)
      refine pure_ (i := 0) (N := some 36) (v := ?_) (a' := ?_) #[true, false, false, false, false, false, false, false, false, false, false, false] rfl rfl (by kernel_rfl) (fun _ _ _ h => h) (Or.inl ⟨by rfl, ?_⟩) ?_ ?_
      rotate_left
      · intro w'
        go_simp
        with_reducible rfl
      rotate_left
      · simp only [Act.put, List.setIfInBounds_toArray, List.set_cons_zero, List.set_cons_succ, i64_w, i32_w]
        rfl
      refine pure_ (i := 2) (N := some 38) (v := ?_) (a' := ?_) #[true, false, true, false, false, false, false, false, false, false, false, false] rfl rfl (by kernel_rfl) (fun _ _ _ h => h) (Or.inl ⟨by rfl, ?_⟩) ?_ ?_
      rotate_left
      · intro w'
        go_simp
        with_reducible rfl
      rotate_left
      · simp only [Act.put, List.setIfInBounds_toArray, List.set_cons_zero, List.set_cons_succ, i64_w, i32_w]
        rfl
      refine pure_ (i := 5) (N := some 41) (v := ?_) (a' := ?_) #[true, false, true, false, false, true, false, false, false, false, false, false] rfl rfl (by kernel_rfl) (fun _ _ _ h => h) (Or.inl ⟨by rfl, ?_⟩) ?_ ?_
      rotate_left
      · intro w'
        go_simp
        with_reducible rfl
      rotate_left
      · simp only [Act.put, List.setIfInBounds_toArray, List.set_cons_zero, List.set_cons_succ, i64_w, i32_w]
        rfl
      refine pure_ (i := 7) (N := some 43) (v := ?_) (a' := ?_) #[true, false, true, false, false, true, false, true, false, false, false, false] rfl rfl (by kernel_rfl) (fun _ _ _ h => h) (Or.inl ⟨by rfl, ?_⟩) ?_ ?_
      rotate_left
      · intro w'
        go_simp
        with_reducible rfl
      rotate_left
      · simp only [Act.put, List.setIfInBounds_toArray, List.set_cons_zero, List.set_cons_succ, i64_w, i32_w]
        rfl
      refine take_ (i := 1) (N := some 37) (v := ?_) (a' := ?_) #[true, true, true, false, false, true, false, true, false, false, false, false] rfl rfl (by kernel_rfl) (fun _ _ _ h => h) (Or.inl ⟨by rfl, ?_⟩) hHeld ?_ ?_
      rotate_left
      · rintro w' ⟨s0, s1, s2, s3, s4, s5, s6, s7, s8, s9⟩
        go_simp
        with_reducible rfl
      rotate_left
      · simp only [Act.put, List.setIfInBounds_toArray, List.set_cons_zero, List.set_cons_succ, i64_w, i32_w]
        rfl
      refine pure_ (i := 3) (N := some 39) (v := ?_) (a' := ?_) #[true, true, true, true, false, true, false, true, false, false, false, false] rfl rfl (by kernel_rfl) (fun _ _ _ h => h) (Or.inl ⟨by rfl, ?_⟩) ?_ ?_
      rotate_left
      · intro w'
        go_simp
        with_reducible rfl
      rotate_left
      · simp only [Act.put, List.setIfInBounds_toArray, List.set_cons_zero, List.set_cons_succ, i64_w, i32_w]
        rfl
      refine take_ (i := 4) (N := some 40) (v := ?_) (a' := ?_) #[true, true, true, true, true, true, false, true, false, false, false, false] rfl rfl (by kernel_rfl) (fun _ _ _ h => h) (Or.inl ⟨by rfl, ?_⟩) hHeld ?_ ?_
      rotate_left
      · rintro w' ⟨s0, s1, s2, s3, s4, s5, s6, s7, s8, s9⟩
        go_simp
        with_reducible rfl
      rotate_left
      · simp only [Act.put, List.setIfInBounds_toArray, List.set_cons_zero, List.set_cons_succ, i64_w, i32_w]
        rfl
      refine take_ (i := 6) (N := some 42) (v := ?_) (a' := ?_) #[true, true, true, true, true, true, true, true, false, false, false, false] rfl rfl (by kernel_rfl) (fun _ _ _ h => h) (Or.inl ⟨by rfl, ?_⟩) hHeld ?_ ?_
      rotate_left
      · rintro w' ⟨s0, s1, s2, s3, s4, s5, s6, s7, s8, s9⟩
        go_simp
        with_reducible rfl
      rotate_left
      · simp only [Act.put, List.setIfInBounds_toArray, List.set_cons_zero, List.set_cons_succ, i64_w, i32_w]
        rfl
      refine pure_ (i := 8) (N := some 44) (v := ?_) (a' := ?_) #[true, true, true, true, true, true, true, true, true, false, false, false] rfl rfl (by kernel_rfl) (fun _ _ _ h => h) (Or.inl ⟨by rfl, ?_⟩) ?_ ?_
      rotate_left
      · intro w'
        go_simp
        with_reducible rfl
      rotate_left
      · simp only [Act.put, List.setIfInBounds_toArray, List.set_cons_zero, List.set_cons_succ, i64_w, i32_w]
        rfl
      refine take_ (i := 9) (N := some 45) (v := ?_) (a' := ?_) #[true, true, true, true, true, true, true, true, true, true, false, false] rfl rfl (by kernel_rfl) (fun _ _ _ h => h) (Or.inl ⟨by rfl, ?_⟩) hHeld ?_ ?_
      rotate_left
      · rintro w' ⟨s0, s1, s2, s3, s4, s5, s6, s7, s8, s9⟩
        go_simp
        with_reducible rfl
      rotate_left
      · simp only [Act.put, List.setIfInBounds_toArray, List.set_cons_zero, List.set_cons_succ, i64_w, i32_w]
        rfl
      refine one_ (i := 10) (N := some 46) #[true, true, true, true, true, true, true, true, true, true, true, false] rfl rfl (by kernel_rfl) (by decide) (fun K hK => ?_)
      refine goes_ Tryd.func31 (by kernel_rfl) rfl #[.agg #[.string y.f0, .int .i64 y.f1, .slice A5 y.f2.length c5, .slice A7 y.f3.length c7], .agg #[.string y.f0, .int .i64 y.f1, .slice A6 y.f2.length c6, .slice A8 y.f3.length c8]] (by rfl) rfl rfl (by first | rfl | (simp only [List.map_toArray, List.map_cons, List.map_nil]; rfl)) ?_
      refine (wsameT_calls IHx A5 c5 A7 c7 A6 c6 A8 c8 _ (Kd.C_drew HC5.out) (Kd.C_drew HC7.out) (Kd.C_drew HC6.out) (Kd.C_drew HC8.out)).mono ?_
      rintro x ws ⟨rfl, hbs⟩
      have hbs := undrew hbs
      have HKs := jAa.mk (jAp HKr.out hbs)
      have HLs := jAa.mk (jAp HLr.out hbs)
      refine ⟨_, rfl, ?_⟩
      refine hK.out _ _ ⟨jAb HKs.out 1, jAb HLs.out 1, jBg hbs p0, jBg hbs p1, jBg hbs p2, jBg hbs p3, jBg hbs x0, jBg hbs x1, jBg hbs x2, jBg hbs x3⟩ (fun hHeld => ?_)
      clear hK K
      refine norm_ (a' := ?_) ?_ ?_
      rotate_left
      · show Act.put _ (some 46) _ = _
        simp only [Act.put, List.setIfInBounds_toArray, List.set_cons_zero, List.set_cons_succ, i64_w, i32_w]
        rfl
      refine pure_ (i := 11) (N := some 47) (v := ?_) (a' := ?_) #[true, true, true, true, true, true, true, true, true, true, true, true] rfl rfl (by kernel_rfl) (fun _ _ _ h => h) (Or.inl ⟨by rfl, ?_⟩) ?_ ?_
      rotate_left
      · intro w'
        go_simp
        with_reducible rfl
      rotate_left
      · simp only [Act.put, List.setIfInBounds_toArray, List.set_cons_zero, List.set_cons_succ, i64_w, i32_w]
        rfl
      refine done_ (by kernel_rfl) ?_
      go_wp2
      go_roundw
      case rel => exact ⟨j + 1, by go_num, by omega, ⟨HBr.out.trans (hbs.mono HBr.out.size)⟩⟩
      case measure => simp [intOf]; omega
    · have hj2 : j = ts.length := by omega
      subst hj2
      have hn : ¬ ((ts.length : Int) < (ts.length : Int)) := by omega
      have HKr := jAa.mk (jAp HK.out HBr.out)
      have HLr := jAa.mk (jAp HL.out HBr.out)
      have k0 := jAb HKr.out 0
      have l0 := jAb HLr.out 0
      have k1 := jAb HKr.out 1
      have l1 := jAb HLr.out 1
      have k2 := jAb HKr.out 2
      have l2 := jAb HLr.out 2
      go_wp2
      clear k0 k1 k2 l0 l1 l2 HKr HLr
      go_loopw [6, 52] (fun t6 t52 wr => ∃ j : Nat, t52 = .int .i64 j ∧ j ≤ gs.length ∧ jAa (Below w0.heap.size w0 wr)) (fun _ t52 _ => gs.length - (intOf t52).toNat)
      case atStart => exact ⟨0, rfl, Nat.zero_le _, HBr⟩
      case round =>
        obtain ⟨j, rfl, hj, HBr⟩ := hrel
        by_cases hlt : j < gs.length
        · obtain ⟨ad, eA, hc0, hc1, hc2⟩ := at_T27 HE.out (j : Int) (by omega) (by omega)
          obtain ⟨ad2, eA2, hd0, hd1, hd2⟩ := at_T27 HE2.out (j : Int) (by omega) (by omega)
          subst eA; subst eA2
          simp only [Int.toNat_natCast, jCf] at hc0 hc1 hc2 hd0 hd1 hd2 
          generalize gs.getD j z27 = y at hc0 hc1 hc2 hd0 hd1 hd2 
          have HKr := jAa.mk (jAp HK.out HBr.out)
          have HLr := jAa.mk (jAp HL.out HBr.out)
          have p0 := jBg HBr.out hc0
          have x0 := jBg HBr.out hd0
          have p1 := jBg HBr.out hc1
          have x1 := jBg HBr.out hd1
          have p2 := jBg HBr.out hc2
          have x2 := jBg HBr.out hd2
          clear hc0 hc1 hc2 hd0 hd1 hd2
          have hi0 : (0 : Int) ≤ (j : Int) := by omega
          have hi1 : (j : Int) < (gs.length : Int) := by omega
          go_wp2
          refine jDz (n := 11) (S := (fun w' => w'.cell? ⟨w.heap.size, 2, none⟩ = some (.slice (some ad) gs.length d) ∧ w'.cell? ⟨w.heap.size + 1, 2, none⟩ = some (.slice (some ad2) gs.length d2) ∧ w'.cell? (ad.add (j * 3)) = some (.int .i64 y.f0) ∧ w'.cell? ⟨(ad.add (j * 3)).block, (ad.add (j * 3)).off + 1, none⟩ = some (.string y.f1) ∧ w'.cell? ⟨(ad.add (j * 3)).block, (ad.add (j * 3)).off + 2, none⟩ = some (.int .i64 y.f2) ∧ w'.cell? (ad2.add (j * 3)) = some (.int .i64 y.f0) ∧ w'.cell? ⟨(ad2.add (j * 3)).block, (ad2.add (j * 3)).off + 1, none⟩ = some (.string y.f1) ∧ w'.cell? ⟨(ad2.add (j * 3)).block, (ad2.add (j * 3)).off + 2, none⟩ = some (.int .i64 y.f2))) (ds := []) #[false, false, false, false, false, false, false, false, false, false, false] (by kernel_rfl) rfl rfl ⟨jAb HKr.out 2, jAb HLr.out 2, p0, p1, p2, x0, x1, x2⟩ (fun hHeld => ?_)
          refine pure_ (i := 0) (N := some 55) (v := ?_) (a' := ?_) #[true, false, false, false, false, false, false, false, false, false, false] rfl rfl (by kernel_rfl) (fun _ _ _ h => h) (Or.inl ⟨by rfl, ?_⟩) ?_ ?_
          rotate_left
          · intro w'
            go_simp
            with_reducible rfl
          rotate_left
          · simp only [Act.put, List.setIfInBounds_toArray, List.set_cons_zero, List.set_cons_succ, i64_w, i32_w]
            rfl
          refine pure_ (i := 2) (N := some 57) (v := ?_) (a' := ?_) #[true, false, true, false, false, false, false, false, false, false, false] rfl rfl (by kernel_rfl) (fun _ _ _ h => h) (Or.inl ⟨by rfl, ?_⟩) ?_ ?_
          rotate_left
          · intro w'
            go_simp
            with_reducible rfl
          rotate_left
          · simp only [Act.put, List.setIfInBounds_toArray, List.set_cons_zero, List.set_cons_succ, i64_w, i32_w]
            rfl
          refine pure_ (i := 5) (N := some 60) (v := ?_) (a' := ?_) #[true, false, true, false, false, true, false, false, false, false, false] rfl rfl (by kernel_rfl) (fun _ _ _ h => h) (Or.inl ⟨by rfl, ?_⟩) ?_ ?_
          rotate_left
          · intro w'
            go_simp
            with_reducible rfl
          rotate_left
          · simp only [Act.put, List.setIfInBounds_toArray, List.set_cons_zero, List.set_cons_succ, i64_w, i32_w]
            rfl
          refine pure_ (i := 7) (N := some 62) (v := ?_) (a' := ?_) #[true, false, true, false, false, true, false, true, false, false, false] rfl rfl (by kernel_rfl) (fun _ _ _ h => h) (Or.inl ⟨by rfl, ?_⟩) ?_ ?_
          rotate_left
          · intro w'
            go_simp
            with_reducible rfl
          rotate_left
          · simp only [Act.put, List.setIfInBounds_toArray, List.set_cons_zero, List.set_cons_succ, i64_w, i32_w]
            rfl
          refine take_ (i := 1) (N := some 56) (v := ?_) (a' := ?_) #[true, true, true, false, false, true, false, true, false, false, false] rfl rfl (by kernel_rfl) (fun _ _ _ h => h) (Or.inl ⟨by rfl, ?_⟩) hHeld ?_ ?_
          rotate_left
          · rintro w' ⟨s0, s1, s2, s3, s4, s5, s6, s7⟩
            go_simp
            with_reducible rfl
          rotate_left
          · simp only [Act.put, List.setIfInBounds_toArray, List.set_cons_zero, List.set_cons_succ, i64_w, i32_w]
            rfl
          refine pure_ (i := 3) (N := some 58) (v := ?_) (a' := ?_) #[true, true, true, true, false, true, false, true, false, false, false] rfl rfl (by kernel_rfl) (fun _ _ _ h => h) (Or.inl ⟨by rfl, ?_⟩) ?_ ?_
          rotate_left
          · intro w'
            go_simp
            with_reducible rfl
          rotate_left
          · simp only [Act.put, List.setIfInBounds_toArray, List.set_cons_zero, List.set_cons_succ, i64_w, i32_w]
            rfl
          refine take_ (i := 4) (N := some 59) (v := ?_) (a' := ?_) #[true, true, true, true, true, true, false, true, false, false, false] rfl rfl (by kernel_rfl) (fun _ _ _ h => h) (Or.inl ⟨by rfl, ?_⟩) hHeld ?_ ?_
          rotate_left
          · rintro w' ⟨s0, s1, s2, s3, s4, s5, s6, s7⟩
            go_simp
            with_reducible rfl
          rotate_left
          · simp only [Act.put, List.setIfInBounds_toArray, List.set_cons_zero, List.set_cons_succ, i64_w, i32_w]
            rfl
          refine take_ (i := 6) (N := some 61) (v := ?_) (a' := ?_) #[true, true, true, true, true, true, true, true, false, false, false] rfl rfl (by kernel_rfl) (fun _ _ _ h => h) (Or.inl ⟨by rfl, ?_⟩) hHeld ?_ ?_
          rotate_left
          · rintro w' ⟨s0, s1, s2, s3, s4, s5, s6, s7⟩
            go_simp
            with_reducible rfl
          rotate_left
          · simp only [Act.put, List.setIfInBounds_toArray, List.set_cons_zero, List.set_cons_succ, i64_w, i32_w]
            rfl
          refine pure_ (i := 8) (N := some 63) (v := ?_) (a' := ?_) #[true, true, true, true, true, true, true, true, true, false, false] rfl rfl (by kernel_rfl) (fun _ _ _ h => h) (Or.inl ⟨by rfl, ?_⟩) ?_ ?_
          rotate_left
          · intro w'
            go_simp
            with_reducible rfl
          rotate_left
          · simp only [Act.put, List.setIfInBounds_toArray, List.set_cons_zero, List.set_cons_succ, i64_w, i32_w]
            rfl
          refine take_ (i := 9) (N := some 64) (v := ?_) (a' := ?_) #[true, true, true, true, true, true, true, true, true, true, false] rfl rfl (by kernel_rfl) (fun _ _ _ h => h) (Or.inl ⟨by rfl, ?_⟩) hHeld ?_ ?_
          rotate_left
          · rintro w' ⟨s0, s1, s2, s3, s4, s5, s6, s7⟩
            go_simp
            with_reducible rfl
          rotate_left
          · simp only [Act.put, List.setIfInBounds_toArray, List.set_cons_zero, List.set_cons_succ, i64_w, i32_w]
            rfl
          refine pure_ (i := 10) (N := some 65) (v := ?_) (a' := ?_) #[true, true, true, true, true, true, true, true, true, true, true] rfl rfl (by kernel_rfl) (fun _ _ _ h => h) (Or.inl ⟨by rfl, ?_⟩) ?_ ?_
          rotate_left
          · intro w'
            go_simp
            with_reducible rfl
          rotate_left
          · simp only [Act.put, List.setIfInBounds_toArray, List.set_cons_zero, List.set_cons_succ, i64_w, i32_w]
            rfl
          refine done_ (by kernel_rfl) ?_
          go_wp2
          go_roundw
          case rel => exact ⟨j + 1, by go_num, by omega, ⟨jAd HBr.out _⟩⟩
          case measure => simp [intOf]; omega
        · have hj2 : j = gs.length := by omega
          subst hj2
          have hn : ¬ ((gs.length : Int) < (gs.length : Int)) := by omega
          go_wp2
          go_ret
          exact ⟨rfl, jAu HB.out HBr.out⟩
end Go.Proofs.YtefdfgmlmjnmlaaDoor.My
end

section
set_option linter.unusedSimpArgs false
set_option linter.unusedVariables false
namespace Go.Proofs.YtefdfgmlmjnmlaaDoor.My
open Go.RowKit Go.Proofs.YtefdfgmlmjnmlaaDoorW.PrintWords Go.Proofs.YtefdfgmlmjnmlaaDoor.Rf
open Go.Proofs.YtefdfgmlmjnmlaaDoorW.PrintLast Go.Proofs.YtefdfgmlmjnmlaaDoorW.PrintMore
set_option maxHeartbeats 4000000 in
set_option maxRecDepth 100000 in
theorem bytes_law (v : Int) (ts : List S45) (A : Option Addr) (c : Nat) (gs : List S27) (B : Option Addr) (d : Nat) (w : World) (hr : Kd.C k45 w A ts.length ts) (hc : ts.length ≤ c) (hg : Kd.C k27 w B gs.length gs) (hd : gs.length ≤ d) (hT : Tabs w) (iv : I64 v) (qt : ∀ t, t ∈ ts → Q45 t) (qg : ∀ g, g ∈ gs → Q27 g) (hok : ∀ t, t ∈ ts → OkT t) (hlen : (encH v ts gs).length ≤ 140737488355328) :
    Calls Tryd.prog 11 #[.agg #[.int .i64 v, .slice A ts.length c, .slice B gs.length d]] w (jFd true w) := by
  have hnt : ts.length ≤ 9223372036854775807 := hr.2.1
  have hng : gs.length ≤ 9223372036854775807 := hg.2.1
  obtain ⟨rG, kG, hG⟩ := great_ev v ts gs hnt hng hok
  have hG := jAa.mk (hG kG (Nat.le_refl _))
  have HC := jAa.mk hc
  have HD := jAa.mk hd
  have IV := jAa.mk iv
  have QT := jAa.mk qt
  have QG := jAa.mk qg
  have HL := jAa.mk hlen
  have hb0 := jHp w (.cells #[.int .i64 v, .slice A ts.length c, .slice B gs.length d] 25)
  have HB0 := jAa.mk hb0
  have HT := jAa.mk (hT.below hb0)
  have HR0 := jAa.mk (Kd.C_below hr hb0)
  have HG0 := jAa.mk (Kd.C_below hg hb0)
  have HK0 := jAa.mk (jCt w (.cells #[.int .i64 v, .slice A ts.length c, .slice B gs.length d] 25))
  clear hr hc hg hd hT hb0
  cases rG with
  | true =>
    clear hlen hok qt qg iv
    go_enter Tryd.func11, Tryd.ntmps11
    go_wp2_with (first
      | (go_at_call 27; refine (jEx _ HT.out).mono ?_; rintro e w1 ⟨rfl, hb1⟩; have HK1 := jAa.mk (jAp HK0.out hb1); have HR1 := jAa.mk (Kd.C_below HR0.out hb1); have HG1 := jAa.mk (Kd.C_below HG0.out hb1); have HB1 := jAa.mk (jAu HB0.out hb1); have k0_1 := jAb HK1.out 0; have k1_1 := jAb HK1.out 1; have k2_1 := jAb HK1.out 2)
      | (go_at_call 13; refine (jAz.calls kG v A c ts B d gs true _ HR1.out HC.out HG1.out HD.out hG.out).mono ?_; rintro e w2 ⟨rfl, hb2⟩; have HK2 := jAa.mk (jAp HK1.out hb2); have HR2 := jAa.mk (Kd.C_below HR1.out hb2); have HG2 := jAa.mk (Kd.C_below HG1.out hb2); have HB2 := jAa.mk (jAu HB1.out hb2); clear k0_1 k1_1 k2_1; have k0_2 := jAb HK2.out 0; have k1_2 := jAb HK2.out 1; have k2_2 := jAb HK2.out 2))
    go_ret
    exact ⟨rfl, HB2.out⟩
  | false =>
    have hQ : ∀ t, t ∈ ts → Q45 t ∧ OkT t := fun t ht => ⟨qt t ht, hok t ht⟩
    obtain ⟨kB, hY⟩ := refBytes_ev v ts gs iv hnt hng hQ qg (by omega)
    have HY := jAa.mk (hY kB (Nat.le_refl _))
    have hsz : (SB (encH v ts gs)).size ≤ 4611686018427387904 := by rw [jCs]; omega
    have hdata : (SB (encH v ts gs)).data.toList = encH v ts gs := SB_data _
    obtain ⟨rF, hF, hfit⟩ := Fitsd_ev v ts gs hnt hQ
    obtain ⟨v', ts', gs', q, hE, hR⟩ := read_rd (SB (encH v ts gs)) hsz
    obtain ⟨kF, hF1⟩ := hF
    cases rF with
    | true =>
      obtain ⟨f1, f2, f3⟩ := hfit rfl
      obtain ⟨kR, hE1⟩ := read_fw (SB (encH v ts gs)) hsz iv f1 f2 f3 qg hdata
      have HOK := jAa.mk hok
      have HF := jAa.mk (hF1 kF (Nat.le_refl _))
      have HE := jAa.mk (hE1 kR (Nat.le_refl _))
      clear hY hE hR hF1 hfit hE1 f1 f2 f3 hQ hdata hsz qt qg iv hlen hok
      generalize hbb : SB (encH v ts gs) = bb at HY HE
      have HBB := jAa.mk hbb
      clear hbb
      have hbn : (bb.toList != bb.toList) = false := by simp
      go_enter Tryd.func11, Tryd.ntmps11
      go_wp2_with (first
        | (go_at_call 27; refine (jEx _ HT.out).mono ?_; rintro e w1 ⟨rfl, hb1⟩; have HK1 := jAa.mk (jAp HK0.out hb1); have HR1 := jAa.mk (Kd.C_below HR0.out hb1); have HG1 := jAa.mk (Kd.C_below HG0.out hb1); have HB1 := jAa.mk (jAu HB0.out hb1); have k0_1 := jAb HK1.out 0; have k1_1 := jAb HK1.out 1; have k2_1 := jAb HK1.out 2)
        | (go_at_call 13; refine (jAz.calls kG v A c ts B d gs false _ HR1.out HC.out HG1.out HD.out hG.out).mono ?_; rintro e w2 ⟨rfl, hb2⟩; have HK2 := jAa.mk (jAp HK1.out hb2); have HR2 := jAa.mk (Kd.C_below HR1.out hb2); have HG2 := jAa.mk (Kd.C_below HG1.out hb2); have HB2 := jAa.mk (jAu HB1.out hb2); clear k0_1 k1_1 k2_1; have k0_2 := jAb HK2.out 0; have k1_2 := jAb HK2.out 1; have k2_2 := jAb HK2.out 2)
        | (go_at_call 44; refine (jFv v ts A c gs B d w2 IV.out HR2.out HG2.out QT.out QG.out HL.out).mono ?_; rintro e w3 ⟨rfl, hb3⟩; rw [HBB.out]; have HK3 := jAa.mk (jAp HK2.out hb3); have HR3 := jAa.mk (Kd.C_below HR2.out hb3); have HG3 := jAa.mk (Kd.C_below HG2.out hb3); have HB3 := jAa.mk (jAu HB2.out hb3); clear k0_2 k1_2 k2_2; have k0_3 := jAb HK3.out 0; have k1_3 := jAb HK3.out 1; have k2_3 := jAb HK3.out 2)
        | (go_at_call 43; refine (jAo.calls kB v A c ts B d gs bb _ HR3.out HC.out HG3.out HD.out HY.out).mono ?_; rintro e w4 ⟨rfl, hb4⟩; have HK4 := jAa.mk (jAp HK3.out hb4); have HR4 := jAa.mk (Kd.C_below HR3.out hb4); have HG4 := jAa.mk (Kd.C_below HG3.out hb4); have HB4 := jAa.mk (jAu HB3.out hb4); clear k0_3 k1_3 k2_3; have k0_4 := jAb HK4.out 0; have k1_4 := jAb HK4.out 1; have k2_4 := jAb HK4.out 2)
        | (go_at_call 40; refine (jBm.calls kR bb v ts gs 0 _ HE.out).mono ?_; rintro e w5 ⟨v1, v2, rfl, hq1, hq2, hb5⟩; obtain ⟨A1, c1, hv1, hl1, hC1⟩ := Kd.R_reads hq1; obtain ⟨A2, c2, hv2, hl2, hC2⟩ := Kd.R_reads hq2; subst hv1; subst hv2; have HK5 := jAa.mk (jAp HK4.out hb5); have HR5 := jAa.mk (Kd.C_below HR4.out hb5); have HG5 := jAa.mk (Kd.C_below HG4.out hb5); have HB5 := jAa.mk (jAu HB4.out hb5); clear k0_4 k1_4 k2_4; have hbo := jHp w5 (.cells #[.int .i64 v, .slice A1 ts.length c1, .slice A2 gs.length c2] 25); have HK6 := jAa.mk (jAp HK5.out hbo); have HR6 := jAa.mk (Kd.C_below HR5.out hbo); have HG6 := jAa.mk (Kd.C_below HG5.out hbo); have HB6 := jAa.mk (jAu HB5.out hbo); have HO6 := jAa.mk (jCt w5 (.cells #[.int .i64 v, .slice A1 ts.length c1, .slice A2 gs.length c2] 25)); have HX6 := jAa.mk (Kd.C_below hC1 hbo); have HZ6 := jAa.mk (Kd.C_below hC2 hbo); clear hC1 hC2 hq1 hq2; have gk := jBu HK5.out; have k0_5 := jAb HK5.out 0; have k1_5 := jAb HK5.out 1; have k2_5 := jAb HK5.out 2)
        | (go_at_call 42; refine (jAv.calls kF v A c ts B d gs true _ HR6.out HC.out HG6.out HD.out HF.out).mono ?_; rintro e w7 ⟨rfl, hb7⟩; have HK7 := jAa.mk (jAp HK6.out hb7); have HR7 := jAa.mk (Kd.C_below HR6.out hb7); have HG7 := jAa.mk (Kd.C_below HG6.out hb7); have HB7 := jAa.mk (jAu HB6.out hb7); have HO7 := jAa.mk (jAp HO6.out hb7); have HX7 := jAa.mk (Kd.C_below HX6.out hb7); have HZ7 := jAa.mk (Kd.C_below HZ6.out hb7); clear k0_5 k1_5 k2_5; have k0_7 := jAb HK7.out 0; have k1_7 := jAb HK7.out 1; have k2_7 := jAb HK7.out 2; have o0 := jAb HO7.out 0; have o1 := jAb HO7.out 1; have o2 := jAb HO7.out 2)
        | (go_at_call 41; refine (jHb v ts gs HOK.out A c B d A1 c1 A2 c2 _ HR7.out HG7.out HX7.out HZ7.out).mono ?_; rintro e w8 ⟨rfl, hb8⟩))
      go_ret
      exact ⟨by simp, jAu HB7.out hb8⟩
    | false =>
      rcases hR.out with ⟨rfl, rfl, rfl, rfl⟩ | ⟨rfl, iv', hts, hft, hgs, hqg', henc⟩
      · obtain ⟨kR, hE1⟩ := hE
        have HF := jAa.mk (hF1 kF (Nat.le_refl _))
        have HE := jAa.mk (hE1 kR (Nat.le_refl _))
        clear hY hR hF1 hfit hE1 hQ hdata hsz qt qg iv hlen hok
        generalize hbb : SB (encH v ts gs) = bb at HY HE
        have HBB := jAa.mk hbb
        clear hbb
        have hbn : (bb.toList != bb.toList) = false := by simp
        go_enter Tryd.func11, Tryd.ntmps11
        go_wp2_with (first
          | (go_at_call 27; refine (jEx _ HT.out).mono ?_; rintro e w1 ⟨rfl, hb1⟩; have HK1 := jAa.mk (jAp HK0.out hb1); have HR1 := jAa.mk (Kd.C_below HR0.out hb1); have HG1 := jAa.mk (Kd.C_below HG0.out hb1); have HB1 := jAa.mk (jAu HB0.out hb1); have k0_1 := jAb HK1.out 0; have k1_1 := jAb HK1.out 1; have k2_1 := jAb HK1.out 2)
          | (go_at_call 13; refine (jAz.calls kG v A c ts B d gs false _ HR1.out HC.out HG1.out HD.out hG.out).mono ?_; rintro e w2 ⟨rfl, hb2⟩; have HK2 := jAa.mk (jAp HK1.out hb2); have HR2 := jAa.mk (Kd.C_below HR1.out hb2); have HG2 := jAa.mk (Kd.C_below HG1.out hb2); have HB2 := jAa.mk (jAu HB1.out hb2); clear k0_1 k1_1 k2_1; have k0_2 := jAb HK2.out 0; have k1_2 := jAb HK2.out 1; have k2_2 := jAb HK2.out 2)
          | (go_at_call 44; refine (jFv v ts A c gs B d w2 IV.out HR2.out HG2.out QT.out QG.out HL.out).mono ?_; rintro e w3 ⟨rfl, hb3⟩; rw [HBB.out]; have HK3 := jAa.mk (jAp HK2.out hb3); have HR3 := jAa.mk (Kd.C_below HR2.out hb3); have HG3 := jAa.mk (Kd.C_below HG2.out hb3); have HB3 := jAa.mk (jAu HB2.out hb3); clear k0_2 k1_2 k2_2; have k0_3 := jAb HK3.out 0; have k1_3 := jAb HK3.out 1; have k2_3 := jAb HK3.out 2)
          | (go_at_call 43; refine (jAo.calls kB v A c ts B d gs bb _ HR3.out HC.out HG3.out HD.out HY.out).mono ?_; rintro e w4 ⟨rfl, hb4⟩; have HK4 := jAa.mk (jAp HK3.out hb4); have HR4 := jAa.mk (Kd.C_below HR3.out hb4); have HG4 := jAa.mk (Kd.C_below HG3.out hb4); have HB4 := jAa.mk (jAu HB3.out hb4); clear k0_3 k1_3 k2_3; have k0_4 := jAb HK4.out 0; have k1_4 := jAb HK4.out 1; have k2_4 := jAb HK4.out 2)
          | (go_at_call 40; refine (jBm.calls kR bb 0 [] [] 4 _ HE.out).mono ?_; rintro e w5 ⟨v1, v2, rfl, hq1, hq2, hb5⟩; obtain ⟨A1, c1, hv1, hl1, hC1⟩ := Kd.R_reads hq1; obtain ⟨A2, c2, hv2, hl2, hC2⟩ := Kd.R_reads hq2; subst hv1; subst hv2; have HK5 := jAa.mk (jAp HK4.out hb5); have HR5 := jAa.mk (Kd.C_below HR4.out hb5); have HG5 := jAa.mk (Kd.C_below HG4.out hb5); have HB5 := jAa.mk (jAu HB4.out hb5); clear k0_4 k1_4 k2_4; have hbo := jHp w5 (.cells #[.int .i64 0, .slice A1 0 c1, .slice A2 0 c2] 25); have HK6 := jAa.mk (jAp HK5.out hbo); have HR6 := jAa.mk (Kd.C_below HR5.out hbo); have HG6 := jAa.mk (Kd.C_below HG5.out hbo); have HB6 := jAa.mk (jAu HB5.out hbo); have HO6 := jAa.mk (jCt w5 (.cells #[.int .i64 0, .slice A1 0 c1, .slice A2 0 c2] 25)); have HX6 := jAa.mk (Kd.C_below hC1 hbo); have HZ6 := jAa.mk (Kd.C_below hC2 hbo); clear hC1 hC2 hq1 hq2; have gk := jBu HK5.out; have k0_5 := jAb HK5.out 0; have k1_5 := jAb HK5.out 1; have k2_5 := jAb HK5.out 2)
          | (go_at_call 42; refine (jAv.calls kF v A c ts B d gs false _ HR6.out HC.out HG6.out HD.out HF.out).mono ?_; rintro e w7 ⟨rfl, hb7⟩; have HK7 := jAa.mk (jAp HK6.out hb7); have HR7 := jAa.mk (Kd.C_below HR6.out hb7); have HG7 := jAa.mk (Kd.C_below HG6.out hb7); have HB7 := jAa.mk (jAu HB6.out hb7); have HO7 := jAa.mk (jAp HO6.out hb7); have HX7 := jAa.mk (Kd.C_below HX6.out hb7); have HZ7 := jAa.mk (Kd.C_below HZ6.out hb7); clear k0_5 k1_5 k2_5; have k0_7 := jAb HK7.out 0; have k1_7 := jAb HK7.out 1; have k2_7 := jAb HK7.out 2; have o0 := jAb HO7.out 0; have o1 := jAb HO7.out 1; have o2 := jAb HO7.out 2)
          | (go_at_call 41; refine (jHb 0 [] [] (fun t ht => by cases ht) A1 c1 A2 c2 none 0 none 0 _ HX7.out HZ7.out (Kd.C_nil _ _) (Kd.C_nil _ _)).mono ?_; rintro e w8 ⟨rfl, hb8⟩))
        go_ret
        exact ⟨by simp, jAu HB7.out hb8⟩
      · exfalso
        rw [hdata] at henc
        obtain ⟨_, e2, e3⟩ := encH_inj (fun t ht => (hft t ht).ok) henc
        subst e2; subst e3
        have := ev_same ⟨kF, hF1⟩ (Fits_ev v ts' gs' hts hft hgs)
        cases this
end Go.Proofs.YtefdfgmlmjnmlaaDoor.My
end

section
set_option linter.unusedVariables false
namespace Go.Proofs.YtefdfgmlmjnmlaaDoor.My
open Go.ChangeShapes Go.WideShapes Go.ChangeAt Go.RowKit
open Go.ChangeMaps (open_string shut_string)
open Go.Proofs.YtefdfgmlmjnmlaaDoorW.PrintWords Go.Proofs.YtefdfgmlmjnmlaaDoor.Rf
open Go.Proofs.YtefdfgmlmjnmlaaDoor
set_option maxRecDepth 100000 in
theorem jFf (H : Type) (enc : TypeId × Value → H) (W : World) (base : Nat) (args : Array Value) (ds gs : List (DataW H)) (before : List MemPlace)
    (hval0 : ∀ (j : Nat) t v, Tryd.f11.params[j]? = some t → args[j]? = some v → Value.okWide Tryd.prog W .any base t v)
    (hW : DataW.Whole enc Tryd.prog Tryd.f11.params.toList Rows.schemaBytesSpec.vars false W args.toList ds gs before) (hk : Rows.uptoSmall H (ds ++ gs) = true) (hL : laidMetH Tryd.prog tabs W) :
    Calls Tryd.prog 11 args W fun e W' => ∃ v, e = .returned v ∧ Rows.schemaBytesSpec.post enc Tryd.prog Tryd.f11 false true false false W args v W' := by
  have hval : ∀ (j : Nat) t v, Tryd.f11.params[j]? = some t → args[j]? = some v → Value.okWide Tryd.prog W .any base t v := hval0
  have hW' := hW
  obtain ⟨p, q, hA0, hV, rfl, _, _⟩ := hW
  have hA : DataW.TrodAll enc Tryd.prog W 0 (fun _ => true) true Tryd.f11.params.toList args.toList ds p := hA0
  rw [Tryd.params11] at hA hval
  obtain ⟨v0, vs0, d0, ds0, p0, q0, hargs, rfl, rfl, h0, r0⟩ := trodAll_cons hA
  obtain ⟨rfl, rfl, rfl⟩ := trodAll_nil r0
  obtain rfl : args = #[v0] := by cases args; simp_all
  obtain ⟨rfl, rfl⟩ := trodVars_none hV
  have k0 := h0
  have lt0 : ∀ x ∈ p0, x.block < W.heap.size := by obtain ⟨m, hm⟩ := k0; exact DataW.trod_lt m _ _ _ hm
  obtain ⟨cs0, rfl, _⟩ := okWide_struct Tryd.underlying25 (hval 0 25 v0 rfl rfl)
  obtain ⟨fu0, hf0⟩ := h0
  obtain ⟨s0, A0, c0, l0, B0, d0, m0, e0, sw0, lc0, hC0, qT0, ld0, hD0, qG0, nH0⟩ := open25B hf0
  have e0 : cs0 = #[.int .i64 s0, .slice A0 l0.length c0, .slice B0 m0.length d0] := Array.toList_inj.1 e0
  subst e0
  have hT := tabs_of hL
  have hk := of_decide_eq_true hk
  clear hA0 hval0
  have hOk : ∀ t, t ∈ l0 → OkT t := fun t ht => by
    obtain ⟨c, hc⟩ := C_each hC0 ht
    exact okT_of hc
  refine (bytes_law s0 l0 A0 c0 m0 B0 d0 W hC0 lc0 hD0 ld0 hT sw0 qT0 qG0 hOk (by have h := nH0; dsimp only at h; simp only [Rows.uptoBulkAll, List.cons_append, List.nil_append] at hk; omega)).mono fun e W' ⟨he, bel⟩ => ?_
  subst he
  exact ⟨_, rfl, _, _, _, [], _, [], hW', trodAll_mk1 (shut_bool Tryd.underlying4 _), (trodAll_cons_mk (Below.trod laidOut (by kernel_rfl) (of_decide_eq_true (by kernel_rfl)) k0 bel lt0) trodAll_mk0), rfl, bel.frame _, fun h => by cases h⟩
theorem jGd (os : Os) {H : Type} (enc : TypeId × Value → H) : ∃ places, DataW.whole enc Tryd.prog ((World.laidAll Tryd.prog os tabs).forCall (fun _ _ => 0) ⟨#[], #[.agg #[.int .i64 0, .slice none 0 0, .slice none 0 0]], []⟩).memory Tryd.f11.params.toList Rows.schemaBytesSpec.vars false (#[.agg #[.int .i64 0, .slice none 0 0, .slice none 0 0]] : Array Value).toList 8 = some ([.agg [.lit (.int .i64 0), .nil, .nil]], [], places) :=
  ⟨[], by kernel_rfl⟩
theorem jHc (os : Os) : laidMetH Tryd.prog tabs ((World.laidAll Tryd.prog os tabs).forCall (fun _ _ => 0) ⟨#[], #[.agg #[.int .i64 0, .slice none 0 0, .slice none 0 0]], []⟩).memory := by
  rw [MakeChecks.laidMetH_plain _ _ _ (by kernel_rfl)]
  exact laidMet_laidAll _ (by kernel_rfl) (by kernel_rfl)
set_option maxRecDepth 100000 in
theorem jFw (os : Os) (started : os.Started) (H : Type) (enc : TypeId × Value → H) (F : Stop.Interp) :
    ReturnsInHanded {} Tryd.checked os 11 .any ((Rows.OpenSpec.upto Rows.schemaBytesSpec).preRow enc Tryd.prog Tryd.f11 Rows.schemaBytesUptoRow.domain false Rows.schemaBytesUptoRow.laid) (((Rows.OpenSpec.upto Rows.schemaBytesSpec).at F).post enc Tryd.prog Tryd.f11 false true false false) := by
  obtain ⟨places, hx⟩ := jGd os enc
  refine returnsInHanded_of_row (C := Tryd.checked) (s := Rows.OpenSpec.upto Rows.schemaBytesSpec) own started (by kernel_rfl) Tryd.func11
    (witness_row_at (enc := enc) (C := Tryd.checked) false (World.laidAll Tryd.prog os tabs) #[.agg #[.int .i64 0, .slice none 0 0, .slice none 0 0]] (World.laidAll_os _ _ _) (by kernel_rfl) (by kernel_rfl) (by kernel_rfl)
      (OpenSpec.preRow_of_cond 8 hx (by kernel_rfl) (fun k hk => by cases hk; kernel_rfl) (by kernel_rfl) (jHc os))) ?_
  intro W base args ds gs before hval hW _ hcond _ hL _ _
  exact jFf H enc W base args ds gs before hval hW (hcond _ rfl) hL
theorem schemaBytes_holds : Rows.SchemaBytesUptoSaid :=
  OpenClaim.holds_of_cond 11 Tryd.f11 rfl rfl rfl rfl rfl rfl rfl ⟨rfl, rfl, rfl, rfl, rfl⟩ rfl rfl rfl rfl rfl (by kernel_rfl) Tryd.func11 (by kernel_rfl)
    (of_decide_eq_true (by kernel_rfl)) (by unfold Func.isWrapper; first | (rw [if_pos (by decide +kernel)]; kernel_rfl) | (rw [if_neg (by decide +kernel)]; exact ⟨rfl, rfl⟩))
    (fun os started H enc _ F => by rw [OpenClaim.pre_eq_preRow]; exact jFw os started H enc F)
theorem schemaBytes_card : Rows.SchemaBytesUptoCardSaid :=
  Claim7.holds_tied_plain_at .later [] [.data, .pinned] true (true, "ad361f8c9010d8bc8c83665426ff667c1a83a32d80b366ff0bd14d2eb2135fde") true schemaBytes_holds (fun _ h => by cases h) (by kernel_rfl) (fun _ h => by cases h) schemaBytesUpto_row_tie rfl ⟨rfl, rfl⟩ (by kernel_rfl) rfl
    (fun f fn hf hfn => by
      obtain rfl : f = 11 := Option.some.inj ((show Tryd.prog.funcNamed "mortmain/mortmainlaw09.SchemaBytes" = some 11 by kernel_rfl).symm.trans hf) |>.symm
      obtain rfl : fn = Tryd.f11 := (Option.some.inj (Tryd.func11.symm.trans hfn)).symm
      exact ⟨by kernel_rfl, fun j t ht => by
        rw [Tryd.params11] at ht
        have hm : t ∈ [25] := by simpa using Array.mem_of_getElem? ht
        have hall : ([25].all fun u => !Tryd.prog.wantsStandIn u) = true := by kernel_rfl
        exact (show Tryd.prog.wantsStandIn t = false by simpa using List.all_eq_true.1 hall t hm)⟩)
    (by kernel_rfl)
#print axioms schemaBytes_card
end Go.Proofs.YtefdfgmlmjnmlaaDoor.My
end
