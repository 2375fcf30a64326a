/- Lemmas for the law SchemaBytes: what the functions that it reaches compute, with those words of the kit's print that they use. No condition. Joined out of this session's smaller texts (part 3 of 7). -/
import Derived.Test.YtefdfgmlmjnmlaaDoorZSchemaBytes2
import Derived.Laws.BitsLemmas
section
set_option linter.unusedVariables false
set_option linter.unusedSimpArgs false
namespace Go.Proofs.YtefdfgmlmjnmlaaDoor.Rf
open Go.RowKit Go.Proofs.YtefdfgmlmjnmlaaDoorW.PrintWords Go.Proofs.YtefdfgmlmjnmlaaDoorW.PrintLast Go.Proofs.YtefdfgmlmjnmlaaDoorW.PrintMore
attribute [local go_sem] jCg jCo
mutual
def jBc.l0 : Nat → ByteArray → List (S72) → Int → Int → Option (ByteArray)
 | 0, _, _, _, _ => none
 | k + 1, x3, x23, x24, x25 => if x25 < x24 then (if 0 ≤ x25 then (if x25 < (x23.length : Int) then ((jBc.f k ((jAq x23 x25).f0) ((jAq x23 x25).f1) ((jAq x23 x25).f2.f0) ((jAq x23 x25).f2.f1) ((jAq x23 x25).f2.f2) ((jAq x23 x25).f3)).bind fun t398 => (if x3.size + t398.size ≤ 9223372036854775807 then (jBc.l0 k (x3 ++ t398) x23 x24 (wrap64 (x25 + 1))) else (none))) else (none)) else (none)) else (some x3)
def jBc.f : Nat → Int → Int → Int → Int → ByteArray → List (S72) → Option (ByteArray)
 | 0, _, _, _, _, _, _ => none
 | k + 1, a0_0, a0_1, a0_2, a0_3, a0_4, l0_5 => (jAr.f k a0_0).bind fun t392 => ((jAr.f k a0_1).bind fun t393 => (if t392.size + t393.size ≤ 9223372036854775807 then ((jBq.f k a0_2 a0_3 a0_4).bind fun t394 => (if (t392 ++ t393).size + t394.size ≤ 9223372036854775807 then ((jAr.f k (l0_5.length : Int)).bind fun t395 => (if ((t392 ++ t393) ++ t394).size + t395.size ≤ 9223372036854775807 then (jBc.l0 k (((t392 ++ t393) ++ t394) ++ t395) l0_5 (l0_5.length : Int) 0) else (none))) else (none))) else (none)))
end
def jBc.T1 : Bool × List (List Nat × List Nat) := (true, [([], []), ([0], [0]), ([1], [1]), ([], []), ([3], [3]), ([4, 2], [4]), ([2, 5], [2, 5]), ([], []), ([7], [7]), ([8, 5], [8]), ([6, 9], [6, 9]), ([], []), ([11], [11]), ([12], [12]), ([13, 9], [13]), ([10, 14], [10, 14]), ([15, 14, 0, 1, 2, 3, 4, 5, 6, 7, 8, 9, 10, 11, 12, 13, 14, 15], [15])])
def jBc.B1 : List Nat := [0, 1, 3, 0, 8, 31, 63, 0, 128, 447, 1023, 0, 2048, 6144, 15295, 32767, 65535]
theorem jBc.tab1 : rtab .any (opsOf Tryd.f74 1) = jBc.T1 := by kernel_rfl
theorem jBc.bits1 : jDq jBc.T1.2 jBc.B1 = true := by kernel_rfl
set_option maxHeartbeats 8000000 in
set_option maxRecDepth 100000 in
theorem jBc.calls (k : Nat) : ∀ (a0_0 : Int) (a0_1 : Int) (a0_2 : Int) (a0_3 : Int) (a0_4 : ByteArray) (A0_5 : Option Addr) (c0_5 : Nat) (l0_5 : List (S72)) (r : ByteArray) (w : World) (hr0_5 : Kd.C k72 w A0_5 l0_5.length l0_5) (hc0_5 : l0_5.length ≤ c0_5) (h : jBc.f k a0_0 a0_1 a0_2 a0_3 a0_4 l0_5 = some r),
  Calls Tryd.prog 74 #[.agg #[.int .i64 a0_0, .int .i64 a0_1, .int .i64 a0_2, .int .i64 a0_3, .string a0_4, .slice A0_5 l0_5.length c0_5]] w fun e w' => e = .returned (.string r) ∧ Below w.heap.size w w' := by
 induction k using Nat.strongRecOn with
 | _ k ih =>
 intro a0_0 a0_1 a0_2 a0_3 a0_4 A0_5 c0_5 l0_5 r w hr0_5 hc0_5 h
 cases k with
 | zero => exact absurd h (by simp [jBc.f])
 | succ k =>
 simp only [jBc.f] at h
 have hu72 := Tryd.underlying72
 have hu70 := Tryd.underlying70
 have HR0_5 := jAa.mk hr0_5
 have HC0_5 := jAa.mk hc0_5
 clear hr0_5 hc0_5
 have HB := jAa.mk (Below.refl w.heap.size w)
 have H : ((jAr.f k a0_0).bind fun t392 => ((jAr.f k a0_1).bind fun t393 => (if t392.size + t393.size ≤ 9223372036854775807 then ((jBq.f k a0_2 a0_3 a0_4).bind fun t394 => (if (t392 ++ t393).size + t394.size ≤ 9223372036854775807 then ((jAr.f k (l0_5.length : Int)).bind fun t395 => (if ((t392 ++ t393) ++ t394).size + t395.size ≤ 9223372036854775807 then (jBc.l0 k (((t392 ++ t393) ++ t394) ++ t395) l0_5 (l0_5.length : Int) 0) else (none))) else (none))) else (none)))) = some r := h
 clear h
 replace H := Option.bind_eq_some_iff.mp H
 obtain ⟨t392, A20, H⟩ := H
 replace H : ((jAr.f k a0_1).bind fun t393 => (if t392.size + t393.size ≤ 9223372036854775807 then ((jBq.f k a0_2 a0_3 a0_4).bind fun t394 => (if (t392 ++ t393).size + t394.size ≤ 9223372036854775807 then ((jAr.f k (l0_5.length : Int)).bind fun t395 => (if ((t392 ++ t393) ++ t394).size + t395.size ≤ 9223372036854775807 then (jBc.l0 k (((t392 ++ t393) ++ t394) ++ t395) l0_5 (l0_5.length : Int) 0) else (none))) else (none))) else (none))) = some r := H
 have A2 := jAa.mk A20
 clear A20
 replace H := Option.bind_eq_some_iff.mp H
 obtain ⟨t393, A30, H⟩ := H
 replace H : (if t392.size + t393.size ≤ 9223372036854775807 then ((jBq.f k a0_2 a0_3 a0_4).bind fun t394 => (if (t392 ++ t393).size + t394.size ≤ 9223372036854775807 then ((jAr.f k (l0_5.length : Int)).bind fun t395 => (if ((t392 ++ t393) ++ t394).size + t395.size ≤ 9223372036854775807 then (jBc.l0 k (((t392 ++ t393) ++ t394) ++ t395) l0_5 (l0_5.length : Int) 0) else (none))) else (none))) else (none)) = some r := H
 have A3 := jAa.mk A30
 clear A30
 by_cases c4 : t392.size + t393.size ≤ 9223372036854775807
 ·rw [if_pos c4] at H
  have c4b0 := eq_true c4
  have c4b1 : decide (t392.size + t393.size ≤ 9223372036854775807) = true := decide_eq_true c4
  try have c4b2 : (9223372036854775807 < t392.size + t393.size) = False := eq_false (Nat.not_lt.2 c4)
  replace H := Option.bind_eq_some_iff.mp H
  obtain ⟨t394, A50, H⟩ := H
  replace H : (if (t392 ++ t393).size + t394.size ≤ 9223372036854775807 then ((jAr.f k (l0_5.length : Int)).bind fun t395 => (if ((t392 ++ t393) ++ t394).size + t395.size ≤ 9223372036854775807 then (jBc.l0 k (((t392 ++ t393) ++ t394) ++ t395) l0_5 (l0_5.length : Int) 0) else (none))) else (none)) = some r := H
  have A5 := jAa.mk A50
  clear A50
  by_cases c6 : (t392 ++ t393).size + t394.size ≤ 9223372036854775807
  ·rw [if_pos c6] at H
   have c6b0 := eq_true c6
   have c6b1 : decide ((t392 ++ t393).size + t394.size ≤ 9223372036854775807) = true := decide_eq_true c6
   try have c6b2 : (9223372036854775807 < (t392 ++ t393).size + t394.size) = False := eq_false (Nat.not_lt.2 c6)
   try (have c6b2x := c6b2; simp only [ByteArray.size_append] at c6b2x)
   replace H := Option.bind_eq_some_iff.mp H
   obtain ⟨t395, A70, H⟩ := H
   replace H : (if ((t392 ++ t393) ++ t394).size + t395.size ≤ 9223372036854775807 then (jBc.l0 k (((t392 ++ t393) ++ t394) ++ t395) l0_5 (l0_5.length : Int) 0) else (none)) = some r := H
   have A7 := jAa.mk A70
   clear A70
   by_cases c8 : ((t392 ++ t393) ++ t394).size + t395.size ≤ 9223372036854775807
   ·rw [if_pos c8] at H
    have c8b0 := eq_true c8
    have c8b1 : decide (((t392 ++ t393) ++ t394).size + t395.size ≤ 9223372036854775807) = true := decide_eq_true c8
    try have c8b2 : (9223372036854775807 < ((t392 ++ t393) ++ t394).size + t395.size) = False := eq_false (Nat.not_lt.2 c8)
    try (have c8b2x := c8b2; simp only [ByteArray.size_append] at c8b2x)
    have H' := jAa.mk H
    clear H
    go_enter Tryd.func74, Tryd.ntmps74
    try go_wp2_with (first | ((with_reducible refine jCa (N := 1) rfl ?_); refine jBv ?hg (N := 1) ?hd (cs := #[.int .i64 a0_0, .int .i64 a0_1, .int .i64 a0_2, .int .i64 a0_3, .string a0_4, .slice A0_5 l0_5.length c0_5]) (t := 72) ?hr ?_; (case hd => rfl); (case hg => rfl); (case hr => first | (go_simp; done) | (go_simp; rfl)); intro gb391 hg w9 hbox hb; have n0_ := jAa.mk (jAu (by repeat (first | (with_reducible first | exact HB.out | apply jAj | apply jAd | apply jAk) | exact HB.out)) hb); have n1_ := jAa.mk (hbox); have n2_ := jAa.mk ((by rw [hg]; exact (jBj (by repeat (first | (with_reducible first | exact HB.out | apply jAj | apply jAd | apply jAk) | exact HB.out))) : w.heap.size ≤ gb391)); have n3_ := jAa.mk ((by rw [hg]; exact (jBj (by repeat (first | (with_reducible first | exact HB.out | apply jAj | apply jAd | apply jAk) | exact HB.out))) : w.heap.size ≤ gb391)); clear HB; have HB := n0_; have BK391 := n1_; have GW391 := n2_; have GE391 := n3_; clear n0_ n1_ n2_ n3_; clear hb hbox hg))
    have n0_ := jAa.mk (jAi BK391.out)
    have n1_ := jAa.mk (jAk HB.out)
    clear BK391
    clear HB
    have BK391 := n0_
    have HB := n1_
    clear n0_ n1_
    refine jDz (n := 17) (S := fun w' => w'.cell? ⟨gb391, 0, none⟩ = some (.int .i64 a0_0) ∧ w'.cell? ⟨gb391, 1, none⟩ = some (.int .i64 a0_1) ∧ w'.cell? ⟨gb391, 2, none⟩ = some (.int .i64 a0_2) ∧ w'.cell? ⟨gb391, 3, none⟩ = some (.int .i64 a0_3) ∧ w'.cell? ⟨gb391, 4, none⟩ = some (.string a0_4) ∧ w'.cell? ⟨gb391, 5, none⟩ = some (.slice A0_5 l0_5.length c0_5)) (ds := []) #[false, false, false, false, false, false, false, false, false, false, false, false, false, false, false, false, false] (by kernel_rfl) rfl rfl ⟨(jAb BK391.out 0).trans rfl, (jAb BK391.out 1).trans rfl, (jAb BK391.out 2).trans rfl, (jAb BK391.out 3).trans rfl, (jAb BK391.out 4).trans rfl, (jAb BK391.out 5).trans rfl⟩ (fun hHeld => ?_); refine jDl jBc.tab1 jBc.bits1 (fun HT_ HW_ => ?_)
    generalize w9.drew = w10 at BK391 HB hHeld ⊢
    refine pure_ (i := 0) (N := some 6) (v := ?_) (a' := ?_) #[true, false, false, false, false, false, false, false, false, false, false, false, false, false, false, false, false] rfl rfl (jCc HT_.out (by kernel_rfl)) (fun _ _ _ h => h) (Or.inl ⟨by rfl, ?_⟩) ?_ ?_
    rotate_left
    ·intro w'
     go_simp
     with_reducible rfl
    rotate_left
    ·simp only [Act.put, List.setIfInBounds_toArray, List.set_cons_zero, List.set_cons_succ, i64_w, i32_w]
     rfl
    refine pure_ (i := 3) (N := some 9) (v := ?_) (a' := ?_) #[true, false, false, true, false, false, false, false, false, false, false, false, false, false, false, false, false] rfl rfl (jCc HT_.out (by kernel_rfl)) (fun _ _ _ h => h) (Or.inl ⟨by rfl, ?_⟩) ?_ ?_
    rotate_left
    ·intro w'
     go_simp
     with_reducible rfl
    rotate_left
    ·simp only [Act.put, List.setIfInBounds_toArray, List.set_cons_zero, List.set_cons_succ, i64_w, i32_w]
     rfl
    refine pure_ (i := 7) (N := some 13) (v := ?_) (a' := ?_) #[true, false, false, true, false, false, false, true, false, false, false, false, false, false, false, false, false] rfl rfl (jCc HT_.out (by kernel_rfl)) (fun _ _ _ h => h) (Or.inl ⟨by rfl, ?_⟩) ?_ ?_
    rotate_left
    ·intro w'
     go_simp
     with_reducible rfl
    rotate_left
    ·simp only [Act.put, List.setIfInBounds_toArray, List.set_cons_zero, List.set_cons_succ, i64_w, i32_w]
     rfl
    refine pure_ (i := 11) (N := some 17) (v := ?_) (a' := ?_) #[true, false, false, true, false, false, false, true, false, false, false, true, false, false, false, false, false] rfl rfl (jCc HT_.out (by kernel_rfl)) (fun _ _ _ h => h) (Or.inl ⟨by rfl, ?_⟩) ?_ ?_
    rotate_left
    ·intro w'
     go_simp
     with_reducible rfl
    rotate_left
    ·simp only [Act.put, List.setIfInBounds_toArray, List.set_cons_zero, List.set_cons_succ, i64_w, i32_w]
     rfl
    refine take_ (i := 1) (N := some 7) (v := ?_) (a' := ?_) #[true, true, false, true, false, false, false, true, false, false, false, true, false, false, false, false, false] rfl rfl (jCm HT_.out HW_.out (by kernel_rfl)) (fun _ _ _ h => h) (Or.inl ⟨by rfl, ?_⟩) hHeld ?_ ?_
    rotate_left
    ·rintro w' ⟨s0, s1, s2, s3, s4, s5⟩
     go_simp
     with_reducible rfl
    rotate_left
    ·simp only [Act.put, List.setIfInBounds_toArray, List.set_cons_zero, List.set_cons_succ, i64_w, i32_w]
     rfl
    refine take_ (i := 4) (N := some 10) (v := ?_) (a' := ?_) #[true, true, false, true, true, false, false, true, false, false, false, true, false, false, false, false, false] rfl rfl (jCm HT_.out HW_.out (by kernel_rfl)) (fun _ _ _ h => h) (Or.inl ⟨by rfl, ?_⟩) hHeld ?_ ?_
    rotate_left
    ·rintro w' ⟨s0, s1, s2, s3, s4, s5⟩
     go_simp
     with_reducible rfl
    rotate_left
    ·simp only [Act.put, List.setIfInBounds_toArray, List.set_cons_zero, List.set_cons_succ, i64_w, i32_w]
     rfl
    refine take_ (i := 8) (N := some 14) (v := ?_) (a' := ?_) #[true, true, false, true, true, false, false, true, true, false, false, true, false, false, false, false, false] rfl rfl (jCm HT_.out HW_.out (by kernel_rfl)) (fun _ _ _ h => h) (Or.inl ⟨by rfl, ?_⟩) hHeld ?_ ?_
    rotate_left
    ·rintro w' ⟨s0, s1, s2, s3, s4, s5⟩
     go_simp
     with_reducible rfl
    rotate_left
    ·simp only [Act.put, List.setIfInBounds_toArray, List.set_cons_zero, List.set_cons_succ, i64_w, i32_w]
     rfl
    refine take_ (i := 12) (N := some 18) (v := ?_) (a' := ?_) #[true, true, false, true, true, false, false, true, true, false, false, true, true, false, false, false, false] rfl rfl (jCm HT_.out HW_.out (by kernel_rfl)) (fun _ _ _ h => h) (Or.inl ⟨by rfl, ?_⟩) hHeld ?_ ?_
    rotate_left
    ·rintro w' ⟨s0, s1, s2, s3, s4, s5⟩
     go_simp
     with_reducible rfl
    rotate_left
    ·simp only [Act.put, List.setIfInBounds_toArray, List.set_cons_zero, List.set_cons_succ, i64_w, i32_w]
     rfl
    refine pure_ (i := 13) (N := some 19) (v := ?_) (a' := ?_) #[true, true, false, true, true, false, false, true, true, false, false, true, true, true, false, false, false] rfl rfl (jCc HT_.out (by kernel_rfl)) (fun _ _ _ h => h) (Or.inl ⟨by rfl, ?_⟩) ?_ ?_
    rotate_left
    ·intro w'
     go_simp
     with_reducible rfl
    rotate_left
    ·simp only [Act.put, List.setIfInBounds_toArray, List.set_cons_zero, List.set_cons_succ, i64_w, i32_w]
     rfl
    refine one_ (i := 2) (N := some 8) #[true, true, true, true, true, false, false, true, true, false, false, true, true, true, false, false, false] rfl rfl (jCu HT_.out (by kernel_rfl)) (by decide) (fun K hK => ?_)
    refine goes_ Tryd.func71 (by kernel_rfl) rfl #[.int .i64 a0_0] (by rfl) rfl rfl (by (try simp only [List.map_toArray, List.map_cons, List.map_nil]); first | done | rfl | (simp only [List.length_drop, List.length_take]; rfl)) ?_
    with_reducible refine (jAr.calls k a0_0 t392 _ A2.out).mono ?_
    rintro e w11 ⟨rfl, hb⟩
    refine ⟨_, rfl, ?_⟩
    have n0_ := jAa.mk (jAp (g := gb391) (o := .cells #[.int .i64 a0_0, .int .i64 a0_1, .int .i64 a0_2, .int .i64 a0_3, .string a0_4, .slice A0_5 l0_5.length c0_5] 72 (0, 0)) (by (with_reducible repeat (first | refine jAf ?_ _ | refine jAi ?_ | refine jAe ?_ _)); exact BK391.out) hb)
    have n1_ := jAa.mk (jAu (by repeat (first | (with_reducible first | exact HB.out | apply jAj | apply jAd | apply jAk | refine jAh ?_ GE391.out) | exact HB.out)) hb)
    clear BK391
    clear HB
    have BK391 := n0_
    have HB := n1_
    clear n0_ n1_
    (try clear hb)
    (try clear hb2)
    (try clear hk)
    (try clear hi)
    refine hK.out _ _ ⟨(jAb BK391.out 0).trans rfl, (jAb BK391.out 1).trans rfl, (jAb BK391.out 2).trans rfl, (jAb BK391.out 3).trans rfl, (jAb BK391.out 4).trans rfl, (jAb BK391.out 5).trans rfl⟩ (fun hHeld => ?_)
    clear hK K
    refine norm_ (a' := ?_) ?_ ?_
    rotate_left
    ·show Act.put _ (some 8) _ = _
     simp only [Act.put, List.setIfInBounds_toArray, List.set_cons_zero, List.set_cons_succ, i64_w, i32_w]
     rfl
    refine one_ (i := 5) (N := some 11) #[true, true, true, true, true, true, false, true, true, false, false, true, true, true, false, false, false] rfl rfl (jCu HT_.out (by kernel_rfl)) (by decide) (fun K hK => ?_)
    refine goes_ Tryd.func71 (by kernel_rfl) rfl #[.int .i64 a0_1] (by rfl) rfl rfl (by (try simp only [List.map_toArray, List.map_cons, List.map_nil]); first | done | rfl | (simp only [List.length_drop, List.length_take]; rfl)) ?_
    with_reducible refine (jAr.calls k a0_1 t393 _ A3.out).mono ?_
    rintro e w12 ⟨rfl, hb⟩
    refine ⟨_, rfl, ?_⟩
    have n0_ := jAa.mk (jAp (g := gb391) (o := .cells #[.int .i64 a0_0, .int .i64 a0_1, .int .i64 a0_2, .int .i64 a0_3, .string a0_4, .slice A0_5 l0_5.length c0_5] 72 (0, 0)) (by (with_reducible repeat (first | refine jAf ?_ _ | refine jAi ?_ | refine jAe ?_ _)); exact BK391.out) hb)
    have n1_ := jAa.mk (jAu (by repeat (first | (with_reducible first | exact HB.out | apply jAj | apply jAd | apply jAk | refine jAh ?_ GE391.out) | exact HB.out)) hb)
    clear BK391
    clear HB
    have BK391 := n0_
    have HB := n1_
    clear n0_ n1_
    (try clear hb)
    (try clear hb2)
    (try clear hk)
    (try clear hi)
    refine hK.out _ _ ⟨(jAb BK391.out 0).trans rfl, (jAb BK391.out 1).trans rfl, (jAb BK391.out 2).trans rfl, (jAb BK391.out 3).trans rfl, (jAb BK391.out 4).trans rfl, (jAb BK391.out 5).trans rfl⟩ (fun hHeld => ?_)
    clear hK K
    refine norm_ (a' := ?_) ?_ ?_
    rotate_left
    ·show Act.put _ (some 11) _ = _
     simp only [Act.put, List.setIfInBounds_toArray, List.set_cons_zero, List.set_cons_succ, i64_w, i32_w]
     rfl
    refine pure_ (i := 6) (N := some 12) (v := ?_) (a' := ?_) #[true, true, true, true, true, true, true, true, true, false, false, true, true, true, false, false, false] rfl rfl (jCc HT_.out (by kernel_rfl)) (fun _ _ _ h => h) (Or.inl ⟨by rfl, ?_⟩) ?_ ?_
    rotate_left
    ·intro w'
     go_simp
     with_reducible rfl
    rotate_left
    ·simp only [Act.put, List.setIfInBounds_toArray, List.set_cons_zero, List.set_cons_succ, i64_w, i32_w]
     rfl
    refine one_ (i := 9) (N := some 15) #[true, true, true, true, true, true, true, true, true, true, false, true, true, true, false, false, false] rfl rfl (jCu HT_.out (by kernel_rfl)) (by decide) (fun K hK => ?_)
    refine goes_ Tryd.func100 (by kernel_rfl) rfl #[.agg #[.int .i64 a0_2, .int .i64 a0_3, .string a0_4]] (by rfl) rfl rfl (by (try simp only [List.map_toArray, List.map_cons, List.map_nil]); first | done | rfl | (simp only [List.length_drop, List.length_take]; rfl)) ?_
    with_reducible refine (jBq.calls k a0_2 a0_3 a0_4 t394 _ A5.out).mono ?_
    rintro e w13 ⟨rfl, hb⟩
    refine ⟨_, rfl, ?_⟩
    have n0_ := jAa.mk (jAp (g := gb391) (o := .cells #[.int .i64 a0_0, .int .i64 a0_1, .int .i64 a0_2, .int .i64 a0_3, .string a0_4, .slice A0_5 l0_5.length c0_5] 72 (0, 0)) (by (with_reducible repeat (first | refine jAf ?_ _ | refine jAi ?_ | refine jAe ?_ _)); exact BK391.out) hb)
    have n1_ := jAa.mk (jAu (by repeat (first | (with_reducible first | exact HB.out | apply jAj | apply jAd | apply jAk | refine jAh ?_ GE391.out) | exact HB.out)) hb)
    clear BK391
    clear HB
    have BK391 := n0_
    have HB := n1_
    clear n0_ n1_
    (try clear hb)
    (try clear hb2)
    (try clear hk)
    (try clear hi)
    refine hK.out _ _ ⟨(jAb BK391.out 0).trans rfl, (jAb BK391.out 1).trans rfl, (jAb BK391.out 2).trans rfl, (jAb BK391.out 3).trans rfl, (jAb BK391.out 4).trans rfl, (jAb BK391.out 5).trans rfl⟩ (fun hHeld => ?_)
    clear hK K
    refine norm_ (a' := ?_) ?_ ?_
    rotate_left
    ·show Act.put _ (some 15) _ = _
     simp only [Act.put, List.setIfInBounds_toArray, List.set_cons_zero, List.set_cons_succ, i64_w, i32_w]
     rfl
    refine pure_ (i := 10) (N := some 16) (v := ?_) (a' := ?_) #[true, true, true, true, true, true, true, true, true, true, true, true, true, true, false, false, false] rfl rfl (jCc HT_.out (by kernel_rfl)) (fun _ _ _ h => h) (Or.inl ⟨by rfl, ?_⟩) ?_ ?_
    rotate_left
    ·intro w'
     go_simp
     with_reducible rfl
    rotate_left
    ·simp only [Act.put, List.setIfInBounds_toArray, List.set_cons_zero, List.set_cons_succ, i64_w, i32_w]
     rfl
    refine one_ (i := 14) (N := some 20) #[true, true, true, true, true, true, true, true, true, true, true, true, true, true, true, false, false] rfl rfl (jCu HT_.out (by kernel_rfl)) (by decide) (fun K hK => ?_)
    refine goes_ Tryd.func71 (by kernel_rfl) rfl #[.int .i64 (l0_5.length : Int)] (by rfl) rfl rfl (by (try simp only [List.map_toArray, List.map_cons, List.map_nil]); first | done | rfl | (simp only [List.length_drop, List.length_take]; rfl)) ?_
    with_reducible refine (jAr.calls k (l0_5.length : Int) t395 _ A7.out).mono ?_
    rintro e w14 ⟨rfl, hb⟩
    refine ⟨_, rfl, ?_⟩
    have n0_ := jAa.mk (jAp (g := gb391) (o := .cells #[.int .i64 a0_0, .int .i64 a0_1, .int .i64 a0_2, .int .i64 a0_3, .string a0_4, .slice A0_5 l0_5.length c0_5] 72 (0, 0)) (by (with_reducible repeat (first | refine jAf ?_ _ | refine jAi ?_ | refine jAe ?_ _)); exact BK391.out) hb)
    have n1_ := jAa.mk (jAu (by repeat (first | (with_reducible first | exact HB.out | apply jAj | apply jAd | apply jAk | refine jAh ?_ GE391.out) | exact HB.out)) hb)
    clear BK391
    clear HB
    have BK391 := n0_
    have HB := n1_
    clear n0_ n1_
    (try clear hb)
    (try clear hb2)
    (try clear hk)
    (try clear hi)
    refine hK.out _ _ ⟨(jAb BK391.out 0).trans rfl, (jAb BK391.out 1).trans rfl, (jAb BK391.out 2).trans rfl, (jAb BK391.out 3).trans rfl, (jAb BK391.out 4).trans rfl, (jAb BK391.out 5).trans rfl⟩ (fun hHeld => ?_)
    clear hK K
    refine norm_ (a' := ?_) ?_ ?_
    rotate_left
    ·show Act.put _ (some 20) _ = _
     simp only [Act.put, List.setIfInBounds_toArray, List.set_cons_zero, List.set_cons_succ, i64_w, i32_w]
     rfl
    refine pure_ (i := 15) (N := some 21) (v := ?_) (a' := ?_) #[true, true, true, true, true, true, true, true, true, true, true, true, true, true, true, true, false] rfl rfl (jCc HT_.out (by kernel_rfl)) (fun _ _ _ h => h) (Or.inl ⟨by rfl, ?_⟩) ?_ ?_
    rotate_left
    ·intro w'
     go_simp
     with_reducible rfl
    rotate_left
    ·simp only [Act.put, List.setIfInBounds_toArray, List.set_cons_zero, List.set_cons_succ, i64_w, i32_w]
     rfl
    refine pure_ (i := 16) (N := some 3) (v := ?_) (a' := ?_) #[true, true, true, true, true, true, true, true, true, true, true, true, true, true, true, true, true] rfl rfl (jCc HT_.out (by kernel_rfl)) (fun _ _ _ h => h) (Or.inl ⟨by rfl, ?_⟩) ?_ ?_
    rotate_left
    ·intro w'
     go_simp
     with_reducible rfl
    rotate_left
    ·simp only [Act.put, List.setIfInBounds_toArray, List.set_cons_zero, List.set_cons_succ, i64_w, i32_w]
     rfl
    refine done_ (jEm HT_.out (by kernel_rfl)) ?_
    have hcz15_0 : w14.cell? ⟨gb391, 0, none⟩ = some (.int .i64 a0_0) := (jAb BK391.out 0).trans rfl
    have hcz15_1 : w14.cell? ⟨gb391, 1, none⟩ = some (.int .i64 a0_1) := (jAb BK391.out 1).trans rfl
    have hcz15_2 : w14.cell? ⟨gb391, 2, none⟩ = some (.int .i64 a0_2) := (jAb BK391.out 2).trans rfl
    have hcz15_3 : w14.cell? ⟨gb391, 3, none⟩ = some (.int .i64 a0_3) := (jAb BK391.out 3).trans rfl
    have hcz15_4 : w14.cell? ⟨gb391, 4, none⟩ = some (.string a0_4) := (jAb BK391.out 4).trans rfl
    have hcz15_5 : w14.cell? ⟨gb391, 5, none⟩ = some (.slice A0_5 l0_5.length c0_5) := (jAb BK391.out 5).trans rfl
    have hfz15_0 := jAg BK391.out 0
    have hfz15_1 := jAg BK391.out 1
    have hfz15_2 := jAg BK391.out 2
    have hfz15_3 := jAg BK391.out 3
    have hfz15_4 := jAg BK391.out 4
    have hfz15_5 := jAg BK391.out 5
    try go_wp2
    go_loopg [3, 25] k (fun kq v3 v25 w' => ∃ (x3_1 : ByteArray) (x25_1 : Int), v3 = .string x3_1 ∧ v25 = .int .i64 x25_1 ∧ jAa (jBc.l0 kq x3_1 l0_5 (l0_5.length : Int) x25_1 = some r) ∧ jAa (kq ≤ k) ∧ jAa (w'.heap[gb391]? = some (.cells #[.int .i64 a0_0, .int .i64 a0_1, .int .i64 a0_2, .int .i64 a0_3, .string a0_4, (.slice A0_5 l0_5.length c0_5)] 72 (0, 0))) ∧ jAa (Below w.heap.size w w'))
    case atStart => exact ⟨(((t392 ++ t393) ++ t394) ++ t395), (0), (by first | rfl | (simp; done) | (simp [*]; done)), (by first | rfl | (simp; done) | (simp [*]; done)), H', ⟨Nat.le_refl _⟩, ⟨by (with_reducible repeat (first | refine jAf ?_ _ | refine jAi ?_ | refine jAe ?_ _)); exact BK391.out⟩, ⟨by repeat (first | (with_reducible first | exact HB.out | apply jAj | apply jAd | apply jAk | refine jAh ?_ GE391.out) | exact HB.out)⟩⟩
    case round =>
     clear H'
     try clear c1
     try clear p2
     try clear c4
     try clear c4b0
     try clear c4b1
     try clear c4b2
     try clear c6
     try clear c6b0
     try clear c6b1
     try clear c6b2
     try clear c7
     try clear c8
     try clear c8b0
     try clear c8b1
     try clear c8b2
     try clear c10
     try clear hcz15_0
     try clear hcz15_1
     try clear hcz15_2
     try clear hcz15_3
     try clear hcz15_4
     try clear hcz15_5
     try clear hfz15_0
     try clear hfz15_1
     try clear hfz15_2
     try clear hfz15_3
     try clear hfz15_4
     try clear hfz15_5
     obtain ⟨x3_1, x25_1, rfl, rfl, HA, HK1, BK391, HB⟩ := hrel
     cases gk with
     | zero => exact absurd HA.out (by simp [jBc.l0])
     | succ k1 =>
      have H := HA.out
      clear HA
      simp only [jBc.l0] at H
      by_cases c16 : x25_1 < (l0_5.length : Int)
      ·rw [if_pos c16] at H
       have c16b0 : decide (x25_1 < (l0_5.length : Int)) = true := decide_eq_true c16
       clear c16
       by_cases c17 : 0 ≤ x25_1
       ·rw [if_pos c17] at H
        have c17b0 : decide (0 ≤ x25_1) = true := decide_eq_true c17
        clear c17
        by_cases c18 : x25_1 < (l0_5.length : Int)
        ·rw [if_pos c18] at H
         have c18b0 : decide (x25_1 < (l0_5.length : Int)) = true := decide_eq_true c18
         clear c18
         replace H := Option.bind_eq_some_iff.mp H
         obtain ⟨t398, A190, H⟩ := H
         replace H : (if x3_1.size + t398.size ≤ 9223372036854775807 then (jBc.l0 k1 (x3_1 ++ t398) l0_5 (l0_5.length : Int) (wrap64 (x25_1 + 1))) else (none)) = some r := H
         have A19 := jAa.mk A190
         clear A190
         by_cases c20 : x3_1.size + t398.size ≤ 9223372036854775807
         ·rw [if_pos c20] at H
          have c20b0 := eq_true c20
          have c20b1 : decide (x3_1.size + t398.size ≤ 9223372036854775807) = true := decide_eq_true c20
          try have c20b2 : (9223372036854775807 < x3_1.size + t398.size) = False := eq_false (Nat.not_lt.2 c20)
          have H' := jAa.mk H
          clear H
          have p396 : 0 ≤ (x25_1 : Int) := of_decide_eq_true (by first | (with_reducible assumption) | assumption)
          have q396 : x25_1 < (l0_5.length : Int) := of_decide_eq_true (by first | (with_reducible assumption) | assumption)
          obtain ⟨ad396, A396_5, c396_5, e396, hx396_0, hx396_1, hx396_2, hx396_3, hx396_4, hx396_5, hl396_5, hi396_5⟩ := jDx HR0_5.out x25_1 p396 q396
          cases e396
          replace hx396_0 := (HB.out.cell (World.block_lt_of_cell? w _ hx396_0)).trans hx396_0
          replace hx396_1 := (HB.out.cell (World.block_lt_of_cell? w _ hx396_1)).trans hx396_1
          replace hx396_2 := (HB.out.cell (World.block_lt_of_cell? w _ hx396_2)).trans hx396_2
          replace hx396_3 := (HB.out.cell (World.block_lt_of_cell? w _ hx396_3)).trans hx396_3
          replace hx396_4 := (HB.out.cell (World.block_lt_of_cell? w _ hx396_4)).trans hx396_4
          replace hx396_5 := (HB.out.cell (World.block_lt_of_cell? w _ hx396_5)).trans hx396_5
          have HR396_5 := jAa.mk hi396_5
          have HC396_5 := jAa.mk hl396_5
          clear hi396_5 hl396_5
          replace p396 := eq_true p396
          replace q396 := eq_true q396
          go_wp2_with (first | ((with_reducible refine jCa (N := 5) rfl ?_); refine jBv ?hg (N := 5) ?hd (cs := #[.int .i64 0, .int .i64 0, .int .i64 0, .int .i64 0, .string (⟨#[]⟩ : ByteArray), .slice none 0 0]) (t := 72) ?hr ?_; (case hd => rfl); (case hg => rfl); (case hr => first | (go_simp; done) | (go_simp; rfl)); intro gb397 hg w21 hbox hb; have n0_ := jAa.mk (jAp (g := gb391) (o := .cells #[.int .i64 a0_0, .int .i64 a0_1, .int .i64 a0_2, .int .i64 a0_3, .string a0_4, .slice (some ad396) l0_5.length c0_5] 72 (0, 0)) (by (with_reducible repeat (first | refine jAf ?_ _ | refine jAi ?_ | refine jAe ?_ _)); exact BK391.out) hb); have n1_ := jAa.mk (jAu (by repeat (first | (with_reducible first | exact HB.out | apply jAj | apply jAd | apply jAk | refine jAh ?_ GE391.out) | exact HB.out)) hb); have n2_ := jAa.mk (hbox); have n3_ := jAa.mk ((by rw [hg]; exact (jBj (by repeat (first | (with_reducible first | exact HB.out | apply jAj | apply jAd | apply jAk | refine jAh ?_ GE391.out) | exact HB.out))) : w.heap.size ≤ gb397)); have n4_ := jAa.mk ((by rw [hg]; exact (jBj (by repeat (first | (with_reducible first | exact HB.out | apply jAj | apply jAd | apply jAk | refine jAh ?_ GE391.out) | exact HB.out))) : w.heap.size ≤ gb397)); have n5_ := jAa.mk ((by rw [hg]; exact Nat.ne_of_lt (jBu (g := gb391) (o := .cells #[.int .i64 a0_0, .int .i64 a0_1, .int .i64 a0_2, .int .i64 a0_3, .string a0_4, .slice (some ad396) l0_5.length c0_5] 72 (0, 0)) (by (with_reducible repeat (first | refine jAf ?_ _ | refine jAi ?_ | refine jAe ?_ _)); exact BK391.out)) : gb391 ≠ gb397)); have n6_ := jAa.mk ((by rw [hg]; exact Nat.ne_of_gt (jBu (g := gb391) (o := .cells #[.int .i64 a0_0, .int .i64 a0_1, .int .i64 a0_2, .int .i64 a0_3, .string a0_4, .slice (some ad396) l0_5.length c0_5] 72 (0, 0)) (by (with_reducible repeat (first | refine jAf ?_ _ | refine jAi ?_ | refine jAe ?_ _)); exact BK391.out)) : gb397 ≠ gb391)); clear BK391; clear HB; have BK391 := n0_; have HB := n1_; have BK397 := n2_; have GW397 := n3_; have GE397 := n4_; have NB391_397 := n5_; have NB397_391 := n6_; clear n0_ n1_ n2_ n3_ n4_ n5_ n6_; clear hb hbox hg; have hnb22 := NB397_391.out; have hnc22 := NB391_397.out; have hcz23_0 : w21.cell? ⟨gb397, 0, none⟩ = some (.int .i64 0) := (jAb BK397.out 0).trans rfl; have hcz23_1 : w21.cell? ⟨gb397, 1, none⟩ = some (.int .i64 0) := (jAb BK397.out 1).trans rfl; have hcz23_2 : w21.cell? ⟨gb397, 2, none⟩ = some (.int .i64 0) := (jAb BK397.out 2).trans rfl; have hcz23_3 : w21.cell? ⟨gb397, 3, none⟩ = some (.int .i64 0) := (jAb BK397.out 3).trans rfl; have hcz23_4 : w21.cell? ⟨gb397, 4, none⟩ = some (.string (⟨#[]⟩ : ByteArray)) := (jAb BK397.out 4).trans rfl; have hcz23_5 : w21.cell? ⟨gb397, 5, none⟩ = some (.slice none 0 0) := (jAb BK397.out 5).trans rfl; have hfz23_0 := jAg BK397.out 0; have hfz23_1 := jAg BK397.out 1; have hfz23_2 := jAg BK397.out 2; have hfz23_3 := jAg BK397.out 3; have hfz23_4 := jAg BK397.out 4; have hfz23_5 := jAg BK397.out 5) | ((with_reducible refine jBl (f := 74) rfl ?_); refine jCe (some 31) rfl rfl Tryd.func74 (by kernel_rfl) rfl #[.agg #[.int .i64 ((jAq l0_5 x25_1).f0), .int .i64 ((jAq l0_5 x25_1).f1), .int .i64 ((jAq l0_5 x25_1).f2.f0), .int .i64 ((jAq l0_5 x25_1).f2.f1), .string ((jAq l0_5 x25_1).f2.f2), .slice A396_5 ((jAq l0_5 x25_1).f3).length c396_5]] rfl (by (try simp only [List.map_toArray, List.map_cons, List.map_nil]); first | done | rfl | (simp only [List.length_drop, List.length_take]; rfl)) ?_; (with_reducible refine (ih k1 (by have := HK1.out; omega) ((jAq l0_5 x25_1).f0) ((jAq l0_5 x25_1).f1) ((jAq l0_5 x25_1).f2.f0) ((jAq l0_5 x25_1).f2.f1) ((jAq l0_5 x25_1).f2.f2) _ _ ((jAq l0_5 x25_1).f3) t398 _ ?side1 ?side2 A19.out).mono ?_); (case side1 => exact Kd.C_below HR396_5.out (by repeat (first | (with_reducible first | exact HB.out | apply jAj | apply jAd | apply jAk | refine jAh ?_ GE391.out | refine jAh ?_ GE397.out) | exact HB.out))); (case side2 => exact HC396_5.out); rintro e w24 ⟨rfl, hb⟩; refine ⟨_, rfl, ?_⟩; have n0_ := jAa.mk (jAp (g := gb391) (o := .cells #[.int .i64 a0_0, .int .i64 a0_1, .int .i64 a0_2, .int .i64 a0_3, .string a0_4, .slice (some ad396) l0_5.length c0_5] 72 (0, 0)) (by (with_reducible repeat (first | refine jAf ?_ _ | refine jAi ?_ | refine jAe ?_ _)); refine jBa ?_ NB391_397.out _; (with_reducible repeat (first | refine jAf ?_ _ | refine jAi ?_ | refine jAe ?_ _)); refine jBa ?_ NB391_397.out _; (with_reducible repeat (first | refine jAf ?_ _ | refine jAi ?_ | refine jAe ?_ _)); refine jBa ?_ NB391_397.out _; (with_reducible repeat (first | refine jAf ?_ _ | refine jAi ?_ | refine jAe ?_ _)); refine jBa ?_ NB391_397.out _; (with_reducible repeat (first | refine jAf ?_ _ | refine jAi ?_ | refine jAe ?_ _)); refine jBa ?_ NB391_397.out _; (with_reducible repeat (first | refine jAf ?_ _ | refine jAi ?_ | refine jAe ?_ _)); refine jBa ?_ NB391_397.out _; (with_reducible repeat (first | refine jAf ?_ _ | refine jAi ?_ | refine jAe ?_ _)); exact BK391.out) hb); have n1_ := jAa.mk (jAp (g := gb397) (o := .cells #[.int .i64 ((jAq l0_5 x25_1).f0), .int .i64 ((jAq l0_5 x25_1).f1), .int .i64 ((jAq l0_5 x25_1).f2.f0), .int .i64 ((jAq l0_5 x25_1).f2.f1), .string ((jAq l0_5 x25_1).f2.f2), .slice A396_5 ((jAq l0_5 x25_1).f3).length c396_5] 72 (0, 0)) (by (with_reducible repeat (first | refine jAf ?_ _ | refine jAi ?_ | refine jAe ?_ _)); refine jBf (cs := #[.int .i64 ((jAq l0_5 x25_1).f0), .int .i64 ((jAq l0_5 x25_1).f1), .int .i64 ((jAq l0_5 x25_1).f2.f0), .int .i64 ((jAq l0_5 x25_1).f2.f1), .string ((jAq l0_5 x25_1).f2.f2), .slice none 0 0]) ?_ 5 _ rfl; (with_reducible repeat (first | refine jAf ?_ _ | refine jAi ?_ | refine jAe ?_ _)); refine jBf (cs := #[.int .i64 ((jAq l0_5 x25_1).f0), .int .i64 ((jAq l0_5 x25_1).f1), .int .i64 ((jAq l0_5 x25_1).f2.f0), .int .i64 ((jAq l0_5 x25_1).f2.f1), .string (⟨#[]⟩ : ByteArray), .slice none 0 0]) ?_ 4 _ rfl; (with_reducible repeat (first | refine jAf ?_ _ | refine jAi ?_ | refine jAe ?_ _)); refine jBf (cs := #[.int .i64 ((jAq l0_5 x25_1).f0), .int .i64 ((jAq l0_5 x25_1).f1), .int .i64 ((jAq l0_5 x25_1).f2.f0), .int .i64 0, .string (⟨#[]⟩ : ByteArray), .slice none 0 0]) ?_ 3 _ rfl; (with_reducible repeat (first | refine jAf ?_ _ | refine jAi ?_ | refine jAe ?_ _)); refine jBf (cs := #[.int .i64 ((jAq l0_5 x25_1).f0), .int .i64 ((jAq l0_5 x25_1).f1), .int .i64 0, .int .i64 0, .string (⟨#[]⟩ : ByteArray), .slice none 0 0]) ?_ 2 _ rfl; (with_reducible repeat (first | refine jAf ?_ _ | refine jAi ?_ | refine jAe ?_ _)); refine jBf (cs := #[.int .i64 ((jAq l0_5 x25_1).f0), .int .i64 0, .int .i64 0, .int .i64 0, .string (⟨#[]⟩ : ByteArray), .slice none 0 0]) ?_ 1 _ rfl; (with_reducible repeat (first | refine jAf ?_ _ | refine jAi ?_ | refine jAe ?_ _)); refine jBf (cs := #[.int .i64 0, .int .i64 0, .int .i64 0, .int .i64 0, .string (⟨#[]⟩ : ByteArray), .slice none 0 0]) ?_ 0 _ rfl; (with_reducible repeat (first | refine jAf ?_ _ | refine jAi ?_ | refine jAe ?_ _)); exact BK397.out) hb); have n2_ := jAa.mk (jAu (by repeat (first | (with_reducible first | exact HB.out | apply jAj | apply jAd | apply jAk | refine jAh ?_ GE391.out | refine jAh ?_ GE397.out) | exact HB.out)) hb); clear BK391; clear BK397; clear HB; have BK391 := n0_; have BK397 := n1_; have HB := n2_; clear n0_ n1_ n2_; (try clear hb); (try clear hb2); (try clear hk); (try clear hi)))
          go_roundg k1
          case measure => have := HK1.out; omega
          case rel => exact ⟨(x3_1 ++ t398), (wrap64 (x25_1 + 1)), (by first | rfl | (simp; done) | (simp [*]; done)), (by first | rfl | (simp; done) | (simp [*]; done)), H', ⟨by have := HK1.out; omega⟩, ⟨by (with_reducible repeat (first | refine jAf ?_ _ | refine jAi ?_ | refine jAe ?_ _)); exact BK391.out⟩, ⟨by repeat (first | (with_reducible first | exact HB.out | apply jAj | apply jAd | apply jAk | refine jAh ?_ GE391.out | refine jAh ?_ GE397.out) | exact HB.out)⟩⟩
         ·rw [if_neg c20] at H
          exact absurd H (by simp)
        ·rw [if_neg c18] at H
         exact absurd H (by simp)
       ·rw [if_neg c17] at H
        exact absurd H (by simp)
      ·rw [if_neg c16] at H
       have c16b0 : decide (x25_1 < (l0_5.length : Int)) = false := decide_eq_false c16
       clear c16
       obtain rfl := Option.some.inj H
       go_wp2
       go_ret
       exact ⟨by first | rfl | (simp [jBd, jBe] <;> rfl) | (simp [*, jBd, jBe] <;> rfl), by repeat (first | (with_reducible first | exact HB.out | apply jAj | apply jAd | apply jAk | refine jAh ?_ GE391.out) | exact HB.out)⟩
   ·rw [if_neg c8] at H
    exact absurd H (by simp)
  ·rw [if_neg c6] at H
   exact absurd H (by simp)
 ·rw [if_neg c4] at H
  exact absurd H (by simp)
end Go.Proofs.YtefdfgmlmjnmlaaDoor.Rf
end

section
set_option linter.unusedVariables false
set_option linter.unusedSimpArgs false
namespace Go.Proofs.YtefdfgmlmjnmlaaDoor.Rf
open Go.RowKit Go.Proofs.YtefdfgmlmjnmlaaDoorW.PrintWords Go.Proofs.YtefdfgmlmjnmlaaDoorW.PrintLast Go.Proofs.YtefdfgmlmjnmlaaDoorW.PrintMore
attribute [local go_sem] jCg jCo
mutual
def jAo.l0 : Nat → ByteArray → List (S45) → Int → Int → Int → List (S45) → List (S27) → Option (ByteArray)
 | 0, _, _, _, _, _, _, _ => none
 | k + 1, x3, x21, x22, x23, x400000, x400001, x400002 => if x23 < x22 then (if 0 ≤ x23 then (if x23 < (x21.length : Int) then ((jBt.f k ((jAl x21 x23).f0)).bind fun t404 => (if x3.size + t404.size ≤ 9223372036854775807 then ((jAr.f k ((jAl x21 x23).f1)).bind fun t405 => (if (x3 ++ t404).size + t405.size ≤ 9223372036854775807 then ((jAr.f k (((jAl x21 x23).f2).length : Int)).bind fun t406 => (if ((x3 ++ t404) ++ t405).size + t406.size ≤ 9223372036854775807 then (jAo.l1 k (((x3 ++ t404) ++ t405) ++ t406) x21 x22 x23 ((jAl x21 x23).f2) (((jAl x21 x23).f2).length : Int) 0 x400000 x400001 x400002 ((jAl x21 x23).f0) ((jAl x21 x23).f1) ((jAl x21 x23).f2) ((jAl x21 x23).f3)) else (none))) else (none))) else (none))) else (none)) else (none)) else ((jAr.f k (x400002.length : Int)).bind fun t419 => (if x3.size + t419.size ≤ 9223372036854775807 then (jAo.l3 k (x3 ++ t419) x400002 (x400002.length : Int) 0) else (none)))
def jAo.l1 : Nat → ByteArray → List (S45) → Int → Int → List (S59) → Int → Int → Int → List (S45) → List (S27) → ByteArray → Int → List (S59) → List (S72) → Option (ByteArray)
 | 0, _, _, _, _, _, _, _, _, _, _, _, _, _, _ => none
 | k + 1, x3, x21, x22, x23, x42, x43, x44, x400000, x400001, x400002, x404000, x404001, x404002, x404003 => if x44 < x43 then (if 0 ≤ x44 then (if x44 < (x42.length : Int) then ((jBt.f k ((jBn x42 x44).f0)).bind fun t409 => (if x3.size + t409.size ≤ 9223372036854775807 then ((jBt.f k ((jBn x42 x44).f4)).bind fun t410 => (if (x3 ++ t409).size + t410.size ≤ 9223372036854775807 then ((jAr.f k ((jBn x42 x44).f1)).bind fun t411 => (if ((x3 ++ t409) ++ t410).size + t411.size ≤ 9223372036854775807 then ((jAr.f k ((jBn x42 x44).f5)).bind fun t412 => (if (((x3 ++ t409) ++ t410) ++ t411).size + t412.size ≤ 9223372036854775807 then ((jBs.f k ((jBn x42 x44).f2)).bind fun t413 => (if ((((x3 ++ t409) ++ t410) ++ t411) ++ t412).size + t413.size ≤ 9223372036854775807 then ((jBs.f k ((jBn x42 x44).f3)).bind fun t414 => (if (((((x3 ++ t409) ++ t410) ++ t411) ++ t412) ++ t413).size + t414.size ≤ 9223372036854775807 then (jAo.l1 k ((((((x3 ++ t409) ++ t410) ++ t411) ++ t412) ++ t413) ++ t414) x21 x22 x23 x42 x43 (wrap64 (x44 + 1)) x400000 x400001 x400002 x404000 x404001 x404002 x404003) else (none))) else (none))) else (none))) else (none))) else (none))) else (none))) else (none)) else (none)) else ((jAr.f k (x404003.length : Int)).bind fun t415 => (if x3.size + t415.size ≤ 9223372036854775807 then (jAo.l2 k (x3 ++ t415) x21 x22 x23 x404003 (x404003.length : Int) 0 x400000 x400001 x400002) else (none)))
def jAo.l2 : Nat → ByteArray → List (S45) → Int → Int → List (S72) → Int → Int → Int → List (S45) → List (S27) → Option (ByteArray)
 | 0, _, _, _, _, _, _, _, _, _, _ => none
 | k + 1, x3, x21, x22, x23, x81, x82, x83, x400000, x400001, x400002 => if x83 < x82 then (if 0 ≤ x83 then (if x83 < (x81.length : Int) then ((jBc.f k ((jAq x81 x83).f0) ((jAq x81 x83).f1) ((jAq x81 x83).f2.f0) ((jAq x81 x83).f2.f1) ((jAq x81 x83).f2.f2) ((jAq x81 x83).f3)).bind fun t418 => (if x3.size + t418.size ≤ 9223372036854775807 then (jAo.l2 k (x3 ++ t418) x21 x22 x23 x81 x82 (wrap64 (x83 + 1)) x400000 x400001 x400002) else (none))) else (none)) else (none)) else (jAo.l0 k x3 x21 x22 (wrap64 (x23 + 1)) x400000 x400001 x400002)
def jAo.l3 : Nat → ByteArray → List (S27) → Int → Int → Option (ByteArray)
 | 0, _, _, _, _ => none
 | k + 1, x3, x100, x101, x102 => if x102 < x101 then (if 0 ≤ x102 then (if x102 < (x100.length : Int) then ((jAr.f k ((jCf x100 x102).f0)).bind fun t422 => (if x3.size + t422.size ≤ 9223372036854775807 then ((jAr.f k ((jCf x100 x102).f2)).bind fun t423 => (if (x3 ++ t422).size + t423.size ≤ 9223372036854775807 then ((jBt.f k ((jCf x100 x102).f1)).bind fun t424 => (if ((x3 ++ t422) ++ t423).size + t424.size ≤ 9223372036854775807 then (jAo.l3 k (((x3 ++ t422) ++ t423) ++ t424) x100 x101 (wrap64 (x102 + 1))) else (none))) else (none))) else (none))) else (none)) else (none)) else (some x3)
end
def jAo.f (k : Nat) (a0_0 : Int) (l0_1 : List (S45)) (l0_2 : List (S27)) : Option (ByteArray) := (jAr.f k a0_0).bind fun t400 => ((jAr.f k (l0_1.length : Int)).bind fun t401 => (if t400.size + t401.size ≤ 9223372036854775807 then (jAo.l0 k (t400 ++ t401) l0_1 (l0_1.length : Int) 0 a0_0 l0_1 l0_2) else (none)))
def jAo.T1 : Bool × List (List Nat × List Nat) := (true, [([], []), ([0], [0]), ([1], [1]), ([], []), ([3], [3]), ([4], [4]), ([5, 2], [5]), ([2, 6], [2, 6]), ([7, 6, 0, 1, 2, 3, 4, 5, 6, 7], [7])])
def jAo.B1 : List Nat := [0, 1, 3, 0, 8, 24, 63, 127, 255]
theorem jAo.tab1 : rtab .any (opsOf Tryd.f43 1) = jAo.T1 := by kernel_rfl
theorem jAo.bits1 : jDq jAo.T1.2 jAo.B1 = true := by kernel_rfl
def jAo.T5 : Bool × List (List Nat × List Nat) := (true, [([], []), ([], []), ([1], [1]), ([2], [2]), ([0, 3], [0, 3]), ([], []), ([5], [5]), ([6, 3], [6]), ([4, 7], [4, 7]), ([], []), ([9], [9]), ([10], [10]), ([11, 7], [11]), ([8, 12], [8, 12]), ([13, 12, 0, 1, 2, 3, 4, 5, 6, 7, 8, 9, 10, 11, 12, 13], [0, 13])])
def jAo.B5 : List Nat := [0, 0, 2, 6, 15, 0, 32, 110, 255, 0, 512, 1536, 3822, 8191, 16383]
theorem jAo.tab5 : rtab .any (opsOf Tryd.f43 5) = jAo.T5 := by kernel_rfl
theorem jAo.bits5 : jDq jAo.T5.2 jAo.B5 = true := by kernel_rfl
def jAo.T9 : Bool × List (List Nat × List Nat) := (true, [([], []), ([], []), ([1], [1]), ([2], [2]), ([0, 3], [0, 3]), ([], []), ([5], [5]), ([6, 3], [6]), ([4, 7], [4, 7]), ([], []), ([9], [9]), ([10, 7], [10]), ([8, 11], [8, 11]), ([], []), ([13], [13]), ([14, 11], [14]), ([12, 15], [12, 15]), ([], []), ([17], [17]), ([18, 15], [18]), ([16, 19], [16, 19]), ([], []), ([21], [21]), ([22, 19], [22]), ([20, 23], [20, 23]), ([24, 23, 0, 1, 2, 3, 4, 5, 6, 7, 8, 9, 10, 11, 12, 13, 14, 15, 16, 17, 18, 19, 20, 21, 22, 23, 24], [0, 24])])
def jAo.B9 : List Nat := [0, 0, 2, 6, 15, 0, 32, 110, 255, 0, 512, 1774, 4095, 0, 8192, 28398, 65535, 0, 131072, 454382, 1048575, 0, 2097152, 7270126, 16777215, 33554431]
theorem jAo.tab9 : rtab .any (opsOf Tryd.f43 9) = jAo.T9 := by kernel_rfl
theorem jAo.bits9 : jDq jAo.T9.2 jAo.B9 = true := by kernel_rfl
def jAo.T22 : Bool × List (List Nat × List Nat) := (true, [([], []), ([], []), ([1], [1]), ([2], [2]), ([0, 3], [0, 3]), ([], []), ([5], [5]), ([6, 3], [6]), ([4, 7], [4, 7]), ([], []), ([9], [9]), ([10, 7], [10]), ([8, 11], [8, 11]), ([12, 11, 0, 1, 2, 3, 4, 5, 6, 7, 8, 9, 10, 11, 12], [0, 12])])
def jAo.B22 : List Nat := [0, 0, 2, 6, 15, 0, 32, 110, 255, 0, 512, 1774, 4095, 8191]
theorem jAo.tab22 : rtab .any (opsOf Tryd.f43 22) = jAo.T22 := by kernel_rfl
theorem jAo.bits22 : jDq jAo.T22.2 jAo.B22 = true := by kernel_rfl
set_option maxHeartbeats 8000000 in
set_option maxRecDepth 100000 in
theorem jAo.calls (k : Nat) (a0_0 : Int) (A0_1 : Option Addr) (c0_1 : Nat) (l0_1 : List (S45)) (A0_2 : Option Addr) (c0_2 : Nat) (l0_2 : List (S27)) (r : ByteArray) (w : World) (hr0_1 : Kd.C k45 w A0_1 l0_1.length l0_1) (hc0_1 : l0_1.length ≤ c0_1) (hr0_2 : Kd.C k27 w A0_2 l0_2.length l0_2) (hc0_2 : l0_2.length ≤ c0_2) (h : jAo.f k a0_0 l0_1 l0_2 = some r) :
  Calls Tryd.prog 43 #[.agg #[.int .i64 a0_0, .slice A0_1 l0_1.length c0_1, .slice A0_2 l0_2.length c0_2]] w fun e w' => e = .returned (.string r) ∧ Below w.heap.size w w' := by
 have hu25 := Tryd.underlying25
 have hu45 := Tryd.underlying45
 have hu59 := Tryd.underlying59
 have hu72 := Tryd.underlying72
 have hu27 := Tryd.underlying27
 have HR0_1 := jAa.mk hr0_1
 have HC0_1 := jAa.mk hc0_1
 clear hr0_1 hc0_1
 have HR0_2 := jAa.mk hr0_2
 have HC0_2 := jAa.mk hc0_2
 clear hr0_2 hc0_2
 have HB := jAa.mk (Below.refl w.heap.size w)
 have H : ((jAr.f k a0_0).bind fun t400 => ((jAr.f k (l0_1.length : Int)).bind fun t401 => (if t400.size + t401.size ≤ 9223372036854775807 then (jAo.l0 k (t400 ++ t401) l0_1 (l0_1.length : Int) 0 a0_0 l0_1 l0_2) else (none)))) = some r := h
 clear h
 replace H := Option.bind_eq_some_iff.mp H
 obtain ⟨t400, A20, H⟩ := H
 replace H : ((jAr.f k (l0_1.length : Int)).bind fun t401 => (if t400.size + t401.size ≤ 9223372036854775807 then (jAo.l0 k (t400 ++ t401) l0_1 (l0_1.length : Int) 0 a0_0 l0_1 l0_2) else (none))) = some r := H
 have A2 := jAa.mk A20
 clear A20
 replace H := Option.bind_eq_some_iff.mp H
 obtain ⟨t401, A30, H⟩ := H
 replace H : (if t400.size + t401.size ≤ 9223372036854775807 then (jAo.l0 k (t400 ++ t401) l0_1 (l0_1.length : Int) 0 a0_0 l0_1 l0_2) else (none)) = some r := H
 have A3 := jAa.mk A30
 clear A30
 by_cases c4 : t400.size + t401.size ≤ 9223372036854775807
 ·rw [if_pos c4] at H
  have c4b0 := eq_true c4
  have c4b1 : decide (t400.size + t401.size ≤ 9223372036854775807) = true := decide_eq_true c4
  try have c4b2 : (9223372036854775807 < t400.size + t401.size) = False := eq_false (Nat.not_lt.2 c4)
  have H' := jAa.mk H
  clear H
  go_enter Tryd.func43, Tryd.ntmps43
  try go_wp2_with (first | ((with_reducible refine jCa (N := 1) rfl ?_); refine jBv ?hg (N := 1) ?hd (cs := #[.int .i64 a0_0, .slice A0_1 l0_1.length c0_1, .slice A0_2 l0_2.length c0_2]) (t := 25) ?hr ?_; (case hd => rfl); (case hg => rfl); (case hr => first | (go_simp; done) | (go_simp; rfl)); intro gb399 hg w5 hbox hb; have n0_ := jAa.mk (jAu (by repeat (first | (with_reducible first | exact HB.out | apply jAj | apply jAd | apply jAk) | exact HB.out)) hb); have n1_ := jAa.mk (hbox); have n2_ := jAa.mk ((by rw [hg]; exact (jBj (by repeat (first | (with_reducible first | exact HB.out | apply jAj | apply jAd | apply jAk) | exact HB.out))) : w.heap.size ≤ gb399)); have n3_ := jAa.mk ((by rw [hg]; exact (jBj (by repeat (first | (with_reducible first | exact HB.out | apply jAj | apply jAd | apply jAk) | exact HB.out))) : w.heap.size ≤ gb399)); clear HB; have HB := n0_; have BK399 := n1_; have GW399 := n2_; have GE399 := n3_; clear n0_ n1_ n2_ n3_; clear hb hbox hg))
  have n0_ := jAa.mk (jAi BK399.out)
  have n1_ := jAa.mk (jAk HB.out)
  clear BK399
  clear HB
  have BK399 := n0_
  have HB := n1_
  clear n0_ n1_
  refine jDz (n := 9) (S := fun w' => w'.cell? ⟨gb399, 0, none⟩ = some (.int .i64 a0_0) ∧ w'.cell? ⟨gb399, 1, none⟩ = some (.slice A0_1 l0_1.length c0_1) ∧ w'.cell? ⟨gb399, 2, none⟩ = some (.slice A0_2 l0_2.length c0_2)) (ds := []) #[false, false, false, false, false, false, false, false, false] (by kernel_rfl) rfl rfl ⟨(jAb BK399.out 0).trans rfl, (jAb BK399.out 1).trans rfl, (jAb BK399.out 2).trans rfl⟩ (fun hHeld => ?_); refine jDl jAo.tab1 jAo.bits1 (fun HT_ HW_ => ?_)
  generalize w5.drew = w6 at BK399 HB hHeld ⊢
  refine pure_ (i := 0) (N := some 12) (v := ?_) (a' := ?_) #[true, false, false, false, false, false, false, false, false] rfl rfl (jCc HT_.out (by kernel_rfl)) (fun _ _ _ h => h) (Or.inl ⟨by rfl, ?_⟩) ?_ ?_
  rotate_left
  ·intro w'
   go_simp
   with_reducible rfl
  rotate_left
  ·simp only [Act.put, List.setIfInBounds_toArray, List.set_cons_zero, List.set_cons_succ, i64_w, i32_w]
   rfl
  refine pure_ (i := 3) (N := some 15) (v := ?_) (a' := ?_) #[true, false, false, true, false, false, false, false, false] rfl rfl (jCc HT_.out (by kernel_rfl)) (fun _ _ _ h => h) (Or.inl ⟨by rfl, ?_⟩) ?_ ?_
  rotate_left
  ·intro w'
   go_simp
   with_reducible rfl
  rotate_left
  ·simp only [Act.put, List.setIfInBounds_toArray, List.set_cons_zero, List.set_cons_succ, i64_w, i32_w]
   rfl
  refine take_ (i := 1) (N := some 13) (v := ?_) (a' := ?_) #[true, true, false, true, false, false, false, false, false] rfl rfl (jCm HT_.out HW_.out (by kernel_rfl)) (fun _ _ _ h => h) (Or.inl ⟨by rfl, ?_⟩) hHeld ?_ ?_
  rotate_left
  ·rintro w' ⟨s0, s1, s2⟩
   go_simp
   with_reducible rfl
  rotate_left
  ·simp only [Act.put, List.setIfInBounds_toArray, List.set_cons_zero, List.set_cons_succ, i64_w, i32_w]
   rfl
  refine take_ (i := 4) (N := some 16) (v := ?_) (a' := ?_) #[true, true, false, true, true, false, false, false, false] rfl rfl (jCm HT_.out HW_.out (by kernel_rfl)) (fun _ _ _ h => h) (Or.inl ⟨by rfl, ?_⟩) hHeld ?_ ?_
  rotate_left
  ·rintro w' ⟨s0, s1, s2⟩
   go_simp
   with_reducible rfl
  rotate_left
  ·simp only [Act.put, List.setIfInBounds_toArray, List.set_cons_zero, List.set_cons_succ, i64_w, i32_w]
   rfl
  refine pure_ (i := 5) (N := some 17) (v := ?_) (a' := ?_) #[true, true, false, true, true, true, false, false, false] rfl rfl (jCc HT_.out (by kernel_rfl)) (fun _ _ _ h => h) (Or.inl ⟨by rfl, ?_⟩) ?_ ?_
  rotate_left
  ·intro w'
   go_simp
   with_reducible rfl
  rotate_left
  ·simp only [Act.put, List.setIfInBounds_toArray, List.set_cons_zero, List.set_cons_succ, i64_w, i32_w]
   rfl
  refine one_ (i := 2) (N := some 14) #[true, true, true, true, true, true, false, false, false] rfl rfl (jCu HT_.out (by kernel_rfl)) (by decide) (fun K hK => ?_)
  refine goes_ Tryd.func71 (by kernel_rfl) rfl #[.int .i64 a0_0] (by rfl) rfl rfl (by (try simp only [List.map_toArray, List.map_cons, List.map_nil]); first | done | rfl | (simp only [List.length_drop, List.length_take]; rfl)) ?_
  with_reducible refine (jAr.calls k a0_0 t400 _ A2.out).mono ?_
  rintro e w7 ⟨rfl, hb⟩
  refine ⟨_, rfl, ?_⟩
  have n0_ := jAa.mk (jAp (g := gb399) (o := .cells #[.int .i64 a0_0, .slice A0_1 l0_1.length c0_1, .slice A0_2 l0_2.length c0_2] 25 (0, 0)) (by (with_reducible repeat (first | refine jAf ?_ _ | refine jAi ?_ | refine jAe ?_ _)); exact BK399.out) hb)
  have n1_ := jAa.mk (jAu (by repeat (first | (with_reducible first | exact HB.out | apply jAj | apply jAd | apply jAk | refine jAh ?_ GE399.out) | exact HB.out)) hb)
  clear BK399
  clear HB
  have BK399 := n0_
  have HB := n1_
  clear n0_ n1_
  (try clear hb)
  (try clear hb2)
  (try clear hk)
  (try clear hi)
  refine hK.out _ _ ⟨(jAb BK399.out 0).trans rfl, (jAb BK399.out 1).trans rfl, (jAb BK399.out 2).trans rfl⟩ (fun hHeld => ?_)
  clear hK K
  refine norm_ (a' := ?_) ?_ ?_
  rotate_left
  ·show Act.put _ (some 14) _ = _
   simp only [Act.put, List.setIfInBounds_toArray, List.set_cons_zero, List.set_cons_succ, i64_w, i32_w]
   rfl
  refine one_ (i := 6) (N := some 18) #[true, true, true, true, true, true, true, false, false] rfl rfl (jCu HT_.out (by kernel_rfl)) (by decide) (fun K hK => ?_)
  refine goes_ Tryd.func71 (by kernel_rfl) rfl #[.int .i64 (l0_1.length : Int)] (by rfl) rfl rfl (by (try simp only [List.map_toArray, List.map_cons, List.map_nil]); first | done | rfl | (simp only [List.length_drop, List.length_take]; rfl)) ?_
  with_reducible refine (jAr.calls k (l0_1.length : Int) t401 _ A3.out).mono ?_
  rintro e w8 ⟨rfl, hb⟩
  refine ⟨_, rfl, ?_⟩
  have n0_ := jAa.mk (jAp (g := gb399) (o := .cells #[.int .i64 a0_0, .slice A0_1 l0_1.length c0_1, .slice A0_2 l0_2.length c0_2] 25 (0, 0)) (by (with_reducible repeat (first | refine jAf ?_ _ | refine jAi ?_ | refine jAe ?_ _)); exact BK399.out) hb)
  have n1_ := jAa.mk (jAu (by repeat (first | (with_reducible first | exact HB.out | apply jAj | apply jAd | apply jAk | refine jAh ?_ GE399.out) | exact HB.out)) hb)
  clear BK399
  clear HB
  have BK399 := n0_
  have HB := n1_
  clear n0_ n1_
  (try clear hb)
  (try clear hb2)
  (try clear hk)
  (try clear hi)
  refine hK.out _ _ ⟨(jAb BK399.out 0).trans rfl, (jAb BK399.out 1).trans rfl, (jAb BK399.out 2).trans rfl⟩ (fun hHeld => ?_)
  clear hK K
  refine norm_ (a' := ?_) ?_ ?_
  rotate_left
  ·show Act.put _ (some 18) _ = _
   simp only [Act.put, List.setIfInBounds_toArray, List.set_cons_zero, List.set_cons_succ, i64_w, i32_w]
   rfl
  refine pure_ (i := 7) (N := some 19) (v := ?_) (a' := ?_) #[true, true, true, true, true, true, true, true, false] rfl rfl (jCc HT_.out (by kernel_rfl)) (fun _ _ _ h => h) (Or.inl ⟨by rfl, ?_⟩) ?_ ?_
  rotate_left
  ·intro w'
   go_simp
   with_reducible rfl
  rotate_left
  ·simp only [Act.put, List.setIfInBounds_toArray, List.set_cons_zero, List.set_cons_succ, i64_w, i32_w]
   rfl
  refine pure_ (i := 8) (N := some 3) (v := ?_) (a' := ?_) #[true, true, true, true, true, true, true, true, true] rfl rfl (jCc HT_.out (by kernel_rfl)) (fun _ _ _ h => h) (Or.inl ⟨by rfl, ?_⟩) ?_ ?_
  rotate_left
  ·intro w'
   go_simp
   with_reducible rfl
  rotate_left
  ·simp only [Act.put, List.setIfInBounds_toArray, List.set_cons_zero, List.set_cons_succ, i64_w, i32_w]
   rfl
  refine done_ (jEm HT_.out (by kernel_rfl)) ?_
  have hcz9_0 : w8.cell? ⟨gb399, 0, none⟩ = some (.int .i64 a0_0) := (jAb BK399.out 0).trans rfl
  have hcz9_1 : w8.cell? ⟨gb399, 1, none⟩ = some (.slice A0_1 l0_1.length c0_1) := (jAb BK399.out 1).trans rfl
  have hcz9_2 : w8.cell? ⟨gb399, 2, none⟩ = some (.slice A0_2 l0_2.length c0_2) := (jAb BK399.out 2).trans rfl
  have hfz9_0 := jAg BK399.out 0
  have hfz9_1 := jAg BK399.out 1
  have hfz9_2 := jAg BK399.out 2
  try go_wp2
  go_loopg [3, 23] k (fun kq v3 v23 w' => ∃ (x3_1 : ByteArray) (x23_1 : Int), v3 = .string x3_1 ∧ v23 = .int .i64 x23_1 ∧ jAa (jAo.l0 kq x3_1 l0_1 (l0_1.length : Int) x23_1 a0_0 l0_1 l0_2 = some r) ∧ jAa (kq ≤ k) ∧ jAa (w'.heap[gb399]? = some (.cells #[.int .i64 a0_0, (.slice A0_1 l0_1.length c0_1), (.slice A0_2 l0_2.length c0_2)] 25 (0, 0))) ∧ jAa (Below w.heap.size w w'))
  case atStart => exact ⟨(t400 ++ t401), (0), (by first | rfl | (simp; done) | (simp [*]; done)), (by first | rfl | (simp; done) | (simp [*]; done)), H', ⟨Nat.le_refl _⟩, ⟨by (with_reducible repeat (first | refine jAf ?_ _ | refine jAi ?_ | refine jAe ?_ _)); exact BK399.out⟩, ⟨by repeat (first | (with_reducible first | exact HB.out | apply jAj | apply jAd | apply jAk | refine jAh ?_ GE399.out) | exact HB.out)⟩⟩
  case round =>
   clear H'
   try clear p2
   try clear c4
   try clear c4b0
   try clear c4b1
   try clear c4b2
   try clear c7
   try clear hcz9_0
   try clear hcz9_1
   try clear hcz9_2
   try clear hfz9_0
   try clear hfz9_1
   try clear hfz9_2
   obtain ⟨x3_1, x23_1, rfl, rfl, HA, HK1, BK399, HB⟩ := hrel
   cases gk with
   | zero => exact absurd HA.out (by simp [jAo.l0])
   | succ k1 =>
    have H := HA.out
    clear HA
    simp only [jAo.l0] at H
    by_cases c10 : x23_1 < (l0_1.length : Int)
    ·rw [if_pos c10] at H
     have c10b0 : decide (x23_1 < (l0_1.length : Int)) = true := decide_eq_true c10
     clear c10
     by_cases c11 : 0 ≤ x23_1
     ·rw [if_pos c11] at H
      have c11b0 : decide (0 ≤ x23_1) = true := decide_eq_true c11
      clear c11
      by_cases c12 : x23_1 < (l0_1.length : Int)
      ·rw [if_pos c12] at H
       have c12b0 : decide (x23_1 < (l0_1.length : Int)) = true := decide_eq_true c12
       clear c12
       replace H := Option.bind_eq_some_iff.mp H
       obtain ⟨t404, A130, H⟩ := H
       replace H : (if x3_1.size + t404.size ≤ 9223372036854775807 then ((jAr.f k1 ((jAl l0_1 x23_1).f1)).bind fun t405 => (if (x3_1 ++ t404).size + t405.size ≤ 9223372036854775807 then ((jAr.f k1 (((jAl l0_1 x23_1).f2).length : Int)).bind fun t406 => (if ((x3_1 ++ t404) ++ t405).size + t406.size ≤ 9223372036854775807 then (jAo.l1 k1 (((x3_1 ++ t404) ++ t405) ++ t406) l0_1 (l0_1.length : Int) x23_1 ((jAl l0_1 x23_1).f2) (((jAl l0_1 x23_1).f2).length : Int) 0 a0_0 l0_1 l0_2 ((jAl l0_1 x23_1).f0) ((jAl l0_1 x23_1).f1) ((jAl l0_1 x23_1).f2) ((jAl l0_1 x23_1).f3)) else (none))) else (none))) else (none)) = some r := H
       have A13 := jAa.mk A130
       clear A130
       by_cases c14 : x3_1.size + t404.size ≤ 9223372036854775807
       ·rw [if_pos c14] at H
        have c14b0 := eq_true c14
        have c14b1 : decide (x3_1.size + t404.size ≤ 9223372036854775807) = true := decide_eq_true c14
        try have c14b2 : (9223372036854775807 < x3_1.size + t404.size) = False := eq_false (Nat.not_lt.2 c14)
        replace H := Option.bind_eq_some_iff.mp H
        obtain ⟨t405, A150, H⟩ := H
        replace H : (if (x3_1 ++ t404).size + t405.size ≤ 9223372036854775807 then ((jAr.f k1 (((jAl l0_1 x23_1).f2).length : Int)).bind fun t406 => (if ((x3_1 ++ t404) ++ t405).size + t406.size ≤ 9223372036854775807 then (jAo.l1 k1 (((x3_1 ++ t404) ++ t405) ++ t406) l0_1 (l0_1.length : Int) x23_1 ((jAl l0_1 x23_1).f2) (((jAl l0_1 x23_1).f2).length : Int) 0 a0_0 l0_1 l0_2 ((jAl l0_1 x23_1).f0) ((jAl l0_1 x23_1).f1) ((jAl l0_1 x23_1).f2) ((jAl l0_1 x23_1).f3)) else (none))) else (none)) = some r := H
        have A15 := jAa.mk A150
        clear A150
        by_cases c16 : (x3_1 ++ t404).size + t405.size ≤ 9223372036854775807
        ·rw [if_pos c16] at H
         have c16b0 := eq_true c16
         have c16b1 : decide ((x3_1 ++ t404).size + t405.size ≤ 9223372036854775807) = true := decide_eq_true c16
         try have c16b2 : (9223372036854775807 < (x3_1 ++ t404).size + t405.size) = False := eq_false (Nat.not_lt.2 c16)
         try (have c16b2x := c16b2; simp only [ByteArray.size_append] at c16b2x)
         replace H := Option.bind_eq_some_iff.mp H
         obtain ⟨t406, A170, H⟩ := H
         replace H : (if ((x3_1 ++ t404) ++ t405).size + t406.size ≤ 9223372036854775807 then (jAo.l1 k1 (((x3_1 ++ t404) ++ t405) ++ t406) l0_1 (l0_1.length : Int) x23_1 ((jAl l0_1 x23_1).f2) (((jAl l0_1 x23_1).f2).length : Int) 0 a0_0 l0_1 l0_2 ((jAl l0_1 x23_1).f0) ((jAl l0_1 x23_1).f1) ((jAl l0_1 x23_1).f2) ((jAl l0_1 x23_1).f3)) else (none)) = some r := H
         have A17 := jAa.mk A170
         clear A170
         by_cases c18 : ((x3_1 ++ t404) ++ t405).size + t406.size ≤ 9223372036854775807
         ·rw [if_pos c18] at H
          have c18b0 := eq_true c18
          have c18b1 : decide (((x3_1 ++ t404) ++ t405).size + t406.size ≤ 9223372036854775807) = true := decide_eq_true c18
          try have c18b2 : (9223372036854775807 < ((x3_1 ++ t404) ++ t405).size + t406.size) = False := eq_false (Nat.not_lt.2 c18)
          try (have c18b2x := c18b2; simp only [ByteArray.size_append] at c18b2x)
          have H' := jAa.mk H
          clear H
          have p402 : 0 ≤ (x23_1 : Int) := of_decide_eq_true (by first | (with_reducible assumption) | assumption)
          have q402 : x23_1 < (l0_1.length : Int) := of_decide_eq_true (by first | (with_reducible assumption) | assumption)
          obtain ⟨ad402, A402_2, c402_2, A402_3, c402_3, e402, hx402_0, hx402_1, hx402_2, hx402_3, hl402_2, hi402_2, hl402_3, hi402_3⟩ := jGf HR0_1.out x23_1 p402 q402
          cases e402
          replace hx402_0 := (HB.out.cell (World.block_lt_of_cell? w _ hx402_0)).trans hx402_0
          replace hx402_1 := (HB.out.cell (World.block_lt_of_cell? w _ hx402_1)).trans hx402_1
          replace hx402_2 := (HB.out.cell (World.block_lt_of_cell? w _ hx402_2)).trans hx402_2
          replace hx402_3 := (HB.out.cell (World.block_lt_of_cell? w _ hx402_3)).trans hx402_3
          have HR402_2 := jAa.mk hi402_2
          have HC402_2 := jAa.mk hl402_2
          clear hi402_2 hl402_2
          have HR402_3 := jAa.mk hi402_3
          have HC402_3 := jAa.mk hl402_3
          clear hi402_3 hl402_3
          replace p402 := eq_true p402
          replace q402 := eq_true q402
          try go_wp2_with (first | ((with_reducible refine jCa (N := 5) rfl ?_); refine jBv ?hg (N := 5) ?hd (cs := #[.string (⟨#[]⟩ : ByteArray), .int .i64 0, .slice none 0 0, .slice none 0 0]) (t := 45) ?hr ?_; (case hd => rfl); (case hg => rfl); (case hr => first | (go_simp; done) | (go_simp; rfl)); intro gb403 hg w19 hbox hb; have n0_ := jAa.mk (jAp (g := gb399) (o := .cells #[.int .i64 a0_0, .slice (some ad402) l0_1.length c0_1, .slice A0_2 l0_2.length c0_2] 25 (0, 0)) (by (with_reducible repeat (first | refine jAf ?_ _ | refine jAi ?_ | refine jAe ?_ _)); exact BK399.out) hb); have n1_ := jAa.mk (jAu (by repeat (first | (with_reducible first | exact HB.out | apply jAj | apply jAd | apply jAk | refine jAh ?_ GE399.out) | exact HB.out)) hb); have n2_ := jAa.mk (hbox); have n3_ := jAa.mk ((by rw [hg]; exact (jBj (by repeat (first | (with_reducible first | exact HB.out | apply jAj | apply jAd | apply jAk | refine jAh ?_ GE399.out) | exact HB.out))) : w.heap.size ≤ gb403)); have n4_ := jAa.mk ((by rw [hg]; exact (jBj (by repeat (first | (with_reducible first | exact HB.out | apply jAj | apply jAd | apply jAk | refine jAh ?_ GE399.out) | exact HB.out))) : w.heap.size ≤ gb403)); have n5_ := jAa.mk ((by rw [hg]; exact Nat.ne_of_lt (jBu (g := gb399) (o := .cells #[.int .i64 a0_0, .slice (some ad402) l0_1.length c0_1, .slice A0_2 l0_2.length c0_2] 25 (0, 0)) (by (with_reducible repeat (first | refine jAf ?_ _ | refine jAi ?_ | refine jAe ?_ _)); exact BK399.out)) : gb399 ≠ gb403)); have n6_ := jAa.mk ((by rw [hg]; exact Nat.ne_of_gt (jBu (g := gb399) (o := .cells #[.int .i64 a0_0, .slice (some ad402) l0_1.length c0_1, .slice A0_2 l0_2.length c0_2] 25 (0, 0)) (by (with_reducible repeat (first | refine jAf ?_ _ | refine jAi ?_ | refine jAe ?_ _)); exact BK399.out)) : gb403 ≠ gb399)); clear BK399; clear HB; have BK399 := n0_; have HB := n1_; have BK403 := n2_; have GW403 := n3_; have GE403 := n4_; have NB399_403 := n5_; have NB403_399 := n6_; clear n0_ n1_ n2_ n3_ n4_ n5_ n6_; clear hb hbox hg; have hnb20 := NB403_399.out; have hnc20 := NB399_403.out; have hcz21_0 : w19.cell? ⟨gb403, 0, none⟩ = some (.string (⟨#[]⟩ : ByteArray)) := (jAb BK403.out 0).trans rfl; have hcz21_1 : w19.cell? ⟨gb403, 1, none⟩ = some (.int .i64 0) := (jAb BK403.out 1).trans rfl; have hcz21_2 : w19.cell? ⟨gb403, 2, none⟩ = some (.slice none 0 0) := (jAb BK403.out 2).trans rfl; have hcz21_3 : w19.cell? ⟨gb403, 3, none⟩ = some (.slice none 0 0) := (jAb BK403.out 3).trans rfl; have hfz21_0 := jAg BK403.out 0; have hfz21_1 := jAg BK403.out 1; have hfz21_2 := jAg BK403.out 2; have hfz21_3 := jAg BK403.out 3))
          have n0_ : jAa (((((w19.setCell ⟨gb403, 0, none⟩ (.string ((jAl l0_1 x23_1).f0))).setCell ⟨gb403, 1, none⟩ (.int .i64 ((jAl l0_1 x23_1).f1))).setCell ⟨gb403, 2, none⟩ (.slice A402_2 ((jAl l0_1 x23_1).f2).length c402_2)).setCell ⟨gb403, 3, none⟩ (.slice A402_3 ((jAl l0_1 x23_1).f3).length c402_3)).heap[gb399]? = some (.cells #[.int .i64 a0_0, .slice (some ad402) l0_1.length c0_1, .slice A0_2 l0_2.length c0_2] 25 (0, 0))) := ⟨by (with_reducible repeat (first | refine jAf ?_ _ | refine jAi ?_ | refine jAe ?_ _)); refine jBa ?_ NB399_403.out _; (with_reducible repeat (first | refine jAf ?_ _ | refine jAi ?_ | refine jAe ?_ _)); refine jBa ?_ NB399_403.out _; (with_reducible repeat (first | refine jAf ?_ _ | refine jAi ?_ | refine jAe ?_ _)); refine jBa ?_ NB399_403.out _; (with_reducible repeat (first | refine jAf ?_ _ | refine jAi ?_ | refine jAe ?_ _)); refine jBa ?_ NB399_403.out _; (with_reducible repeat (first | refine jAf ?_ _ | refine jAi ?_ | refine jAe ?_ _)); exact BK399.out⟩
          have n1_ : jAa (((((w19.setCell ⟨gb403, 0, none⟩ (.string ((jAl l0_1 x23_1).f0))).setCell ⟨gb403, 1, none⟩ (.int .i64 ((jAl l0_1 x23_1).f1))).setCell ⟨gb403, 2, none⟩ (.slice A402_2 ((jAl l0_1 x23_1).f2).length c402_2)).setCell ⟨gb403, 3, none⟩ (.slice A402_3 ((jAl l0_1 x23_1).f3).length c402_3)).heap[gb403]? = some (.cells #[.string ((jAl l0_1 x23_1).f0), .int .i64 ((jAl l0_1 x23_1).f1), .slice A402_2 ((jAl l0_1 x23_1).f2).length c402_2, .slice A402_3 ((jAl l0_1 x23_1).f3).length c402_3] 45 (0, 0))) := ⟨by (with_reducible repeat (first | refine jAf ?_ _ | refine jAi ?_ | refine jAe ?_ _)); refine jBf (cs := #[.string ((jAl l0_1 x23_1).f0), .int .i64 ((jAl l0_1 x23_1).f1), .slice A402_2 ((jAl l0_1 x23_1).f2).length c402_2, .slice none 0 0]) ?_ 3 _ rfl; (with_reducible repeat (first | refine jAf ?_ _ | refine jAi ?_ | refine jAe ?_ _)); refine jBf (cs := #[.string ((jAl l0_1 x23_1).f0), .int .i64 ((jAl l0_1 x23_1).f1), .slice none 0 0, .slice none 0 0]) ?_ 2 _ rfl; (with_reducible repeat (first | refine jAf ?_ _ | refine jAi ?_ | refine jAe ?_ _)); refine jBf (cs := #[.string ((jAl l0_1 x23_1).f0), .int .i64 0, .slice none 0 0, .slice none 0 0]) ?_ 1 _ rfl; (with_reducible repeat (first | refine jAf ?_ _ | refine jAi ?_ | refine jAe ?_ _)); refine jBf (cs := #[.string (⟨#[]⟩ : ByteArray), .int .i64 0, .slice none 0 0, .slice none 0 0]) ?_ 0 _ rfl; (with_reducible repeat (first | refine jAf ?_ _ | refine jAi ?_ | refine jAe ?_ _)); exact BK403.out⟩
          have n2_ : jAa (Below w.heap.size w ((((w19.setCell ⟨gb403, 0, none⟩ (.string ((jAl l0_1 x23_1).f0))).setCell ⟨gb403, 1, none⟩ (.int .i64 ((jAl l0_1 x23_1).f1))).setCell ⟨gb403, 2, none⟩ (.slice A402_2 ((jAl l0_1 x23_1).f2).length c402_2)).setCell ⟨gb403, 3, none⟩ (.slice A402_3 ((jAl l0_1 x23_1).f3).length c402_3))) := ⟨by repeat (first | (with_reducible first | exact HB.out | apply jAj | apply jAd | apply jAk | refine jAh ?_ GE399.out | refine jAh ?_ GE403.out) | exact HB.out)⟩
          (try clear BK399)
          (try clear BK403)
          (try clear HB)
          generalize ((((w19.setCell ⟨gb403, 0, none⟩ (.string ((jAl l0_1 x23_1).f0))).setCell ⟨gb403, 1, none⟩ (.int .i64 ((jAl l0_1 x23_1).f1))).setCell ⟨gb403, 2, none⟩ (.slice A402_2 ((jAl l0_1 x23_1).f2).length c402_2)).setCell ⟨gb403, 3, none⟩ (.slice A402_3 ((jAl l0_1 x23_1).f3).length c402_3)) = w22 at n0_ n1_ n2_ ⊢
          have BK399 := n0_
          have BK403 := n1_
          have HB := n2_
          clear n0_ n1_ n2_
          have n0_ := jAa.mk (jAi BK399.out)
          have n1_ := jAa.mk (jAi BK403.out)
          have n2_ := jAa.mk (jAk HB.out)
          clear BK399
          clear BK403
          clear HB
          have BK399 := n0_
          have BK403 := n1_
          have HB := n2_
          clear n0_ n1_ n2_
          refine jDz (n := 15) (S := fun w' => w'.cell? ⟨gb403, 0, none⟩ = some (.string ((jAl l0_1 x23_1).f0)) ∧ w'.cell? ⟨gb403, 1, none⟩ = some (.int .i64 ((jAl l0_1 x23_1).f1)) ∧ w'.cell? ⟨gb403, 2, none⟩ = some (.slice A402_2 ((jAl l0_1 x23_1).f2).length c402_2) ∧ w'.cell? ⟨gb403, 3, none⟩ = some (.slice A402_3 ((jAl l0_1 x23_1).f3).length c402_3)) (ds := []) #[false, false, false, false, false, false, false, false, false, false, false, false, false, false, false] (by kernel_rfl) rfl rfl ⟨(jAb BK403.out 0).trans rfl, (jAb BK403.out 1).trans rfl, (jAb BK403.out 2).trans rfl, (jAb BK403.out 3).trans rfl⟩ (fun hHeld => ?_); refine jDl jAo.tab5 jAo.bits5 (fun HT_ HW_ => ?_)
          generalize w22.drew = w23 at BK399 BK403 HB hHeld ⊢
          refine pure_ (i := 0) (N := some 27) (v := ?_) (a' := ?_) #[true, false, false, false, false, false, false, false, false, false, false, false, false, false, false] rfl rfl (jCc HT_.out (by kernel_rfl)) (fun _ _ _ h => h) (Or.inl ⟨by rfl, ?_⟩) ?_ ?_
          rotate_left
          ·intro w'
           go_simp
           with_reducible rfl
          rotate_left
          ·simp only [Act.put, List.setIfInBounds_toArray, List.set_cons_zero, List.set_cons_succ, i64_w, i32_w]
           rfl
          refine pure_ (i := 1) (N := some 28) (v := ?_) (a' := ?_) #[true, true, false, false, false, false, false, false, false, false, false, false, false, false, false] rfl rfl (jCc HT_.out (by kernel_rfl)) (fun _ _ _ h => h) (Or.inl ⟨by rfl, ?_⟩) ?_ ?_
          rotate_left
          ·intro w'
           go_simp
           with_reducible rfl
          rotate_left
          ·simp only [Act.put, List.setIfInBounds_toArray, List.set_cons_zero, List.set_cons_succ, i64_w, i32_w]
           rfl
          refine pure_ (i := 5) (N := some 32) (v := ?_) (a' := ?_) #[true, true, false, false, false, true, false, false, false, false, false, false, false, false, false] rfl rfl (jCc HT_.out (by kernel_rfl)) (fun _ _ _ h => h) (Or.inl ⟨by rfl, ?_⟩) ?_ ?_
          rotate_left
          ·intro w'
           go_simp
           with_reducible rfl
          rotate_left
          ·simp only [Act.put, List.setIfInBounds_toArray, List.set_cons_zero, List.set_cons_succ, i64_w, i32_w]
           rfl
          refine pure_ (i := 9) (N := some 36) (v := ?_) (a' := ?_) #[true, true, false, false, false, true, false, false, false, true, false, false, false, false, false] rfl rfl (jCc HT_.out (by kernel_rfl)) (fun _ _ _ h => h) (Or.inl ⟨by rfl, ?_⟩) ?_ ?_
          rotate_left
          ·intro w'
           go_simp
           with_reducible rfl
          rotate_left
          ·simp only [Act.put, List.setIfInBounds_toArray, List.set_cons_zero, List.set_cons_succ, i64_w, i32_w]
           rfl
          refine take_ (i := 2) (N := some 29) (v := ?_) (a' := ?_) #[true, true, true, false, false, true, false, false, false, true, false, false, false, false, false] rfl rfl (jCm HT_.out HW_.out (by kernel_rfl)) (fun _ _ _ h => h) (Or.inl ⟨by rfl, ?_⟩) hHeld ?_ ?_
          rotate_left
          ·rintro w' ⟨s0, s1, s2, s3⟩
           go_simp
           with_reducible rfl
          rotate_left
          ·simp only [Act.put, List.setIfInBounds_toArray, List.set_cons_zero, List.set_cons_succ, i64_w, i32_w]
           rfl
          refine take_ (i := 6) (N := some 33) (v := ?_) (a' := ?_) #[true, true, true, false, false, true, true, false, false, true, false, false, false, false, false] rfl rfl (jCm HT_.out HW_.out (by kernel_rfl)) (fun _ _ _ h => h) (Or.inl ⟨by rfl, ?_⟩) hHeld ?_ ?_
          rotate_left
          ·rintro w' ⟨s0, s1, s2, s3⟩
           go_simp
           with_reducible rfl
          rotate_left
          ·simp only [Act.put, List.setIfInBounds_toArray, List.set_cons_zero, List.set_cons_succ, i64_w, i32_w]
           rfl
          refine take_ (i := 10) (N := some 37) (v := ?_) (a' := ?_) #[true, true, true, false, false, true, true, false, false, true, true, false, false, false, false] rfl rfl (jCm HT_.out HW_.out (by kernel_rfl)) (fun _ _ _ h => h) (Or.inl ⟨by rfl, ?_⟩) hHeld ?_ ?_
          rotate_left
          ·rintro w' ⟨s0, s1, s2, s3⟩
           go_simp
           with_reducible rfl
          rotate_left
          ·simp only [Act.put, List.setIfInBounds_toArray, List.set_cons_zero, List.set_cons_succ, i64_w, i32_w]
           rfl
          refine pure_ (i := 11) (N := some 38) (v := ?_) (a' := ?_) #[true, true, true, false, false, true, true, false, false, true, true, true, false, false, false] rfl rfl (jCc HT_.out (by kernel_rfl)) (fun _ _ _ h => h) (Or.inl ⟨by rfl, ?_⟩) ?_ ?_
          rotate_left
          ·intro w'
           go_simp
           with_reducible rfl
          rotate_left
          ·simp only [Act.put, List.setIfInBounds_toArray, List.set_cons_zero, List.set_cons_succ, i64_w, i32_w]
           rfl
          refine one_ (i := 3) (N := some 30) #[true, true, true, true, false, true, true, false, false, true, true, true, false, false, false] rfl rfl (jCu HT_.out (by kernel_rfl)) (by decide) (fun K hK => ?_)
          refine goes_ Tryd.func72 (by kernel_rfl) rfl #[.string ((jAl l0_1 x23_1).f0)] (by rfl) rfl rfl (by (try simp only [List.map_toArray, List.map_cons, List.map_nil]); first | done | rfl | (simp only [List.length_drop, List.length_take]; rfl)) ?_
          with_reducible refine (jBt.calls k1 ((jAl l0_1 x23_1).f0) t404 _ A13.out).mono ?_
          rintro e w24 ⟨rfl, hb⟩
          refine ⟨_, rfl, ?_⟩
          have n0_ := jAa.mk (jAp (g := gb399) (o := .cells #[.int .i64 a0_0, .slice (some ad402) l0_1.length c0_1, .slice A0_2 l0_2.length c0_2] 25 (0, 0)) (by (with_reducible repeat (first | refine jAf ?_ _ | refine jAi ?_ | refine jAe ?_ _)); exact BK399.out) hb)
          have n1_ := jAa.mk (jAp (g := gb403) (o := .cells #[.string ((jAl l0_1 x23_1).f0), .int .i64 ((jAl l0_1 x23_1).f1), .slice A402_2 ((jAl l0_1 x23_1).f2).length c402_2, .slice A402_3 ((jAl l0_1 x23_1).f3).length c402_3] 45 (0, 0)) (by (with_reducible repeat (first | refine jAf ?_ _ | refine jAi ?_ | refine jAe ?_ _)); exact BK403.out) hb)
          have n2_ := jAa.mk (jAu (by repeat (first | (with_reducible first | exact HB.out | apply jAj | apply jAd | apply jAk | refine jAh ?_ GE399.out | refine jAh ?_ GE403.out) | exact HB.out)) hb)
          clear BK399
          clear BK403
          clear HB
          have BK399 := n0_
          have BK403 := n1_
          have HB := n2_
          clear n0_ n1_ n2_
          (try clear hb)
          (try clear hb2)
          (try clear hk)
          (try clear hi)
          refine hK.out _ _ ⟨(jAb BK403.out 0).trans rfl, (jAb BK403.out 1).trans rfl, (jAb BK403.out 2).trans rfl, (jAb BK403.out 3).trans rfl⟩ (fun hHeld => ?_)
          clear hK K
          refine norm_ (a' := ?_) ?_ ?_
          rotate_left
          ·show Act.put _ (some 30) _ = _
           simp only [Act.put, List.setIfInBounds_toArray, List.set_cons_zero, List.set_cons_succ, i64_w, i32_w]
           rfl
          refine pure_ (i := 4) (N := some 31) (v := ?_) (a' := ?_) #[true, true, true, true, true, true, true, false, false, true, true, true, false, false, false] rfl rfl (jCc HT_.out (by kernel_rfl)) (fun _ _ _ h => h) (Or.inl ⟨by rfl, ?_⟩) ?_ ?_
          rotate_left
          ·intro w'
           go_simp
           with_reducible rfl
          rotate_left
          ·simp only [Act.put, List.setIfInBounds_toArray, List.set_cons_zero, List.set_cons_succ, i64_w, i32_w]
           rfl
          refine one_ (i := 7) (N := some 34) #[true, true, true, true, true, true, true, true, false, true, true, true, false, false, false] rfl rfl (jCu HT_.out (by kernel_rfl)) (by decide) (fun K hK => ?_)
          refine goes_ Tryd.func71 (by kernel_rfl) rfl #[.int .i64 ((jAl l0_1 x23_1).f1)] (by rfl) rfl rfl (by (try simp only [List.map_toArray, List.map_cons, List.map_nil]); first | done | rfl | (simp only [List.length_drop, List.length_take]; rfl)) ?_
          with_reducible refine (jAr.calls k1 ((jAl l0_1 x23_1).f1) t405 _ A15.out).mono ?_
          rintro e w25 ⟨rfl, hb⟩
          refine ⟨_, rfl, ?_⟩
          have n0_ := jAa.mk (jAp (g := gb399) (o := .cells #[.int .i64 a0_0, .slice (some ad402) l0_1.length c0_1, .slice A0_2 l0_2.length c0_2] 25 (0, 0)) (by (with_reducible repeat (first | refine jAf ?_ _ | refine jAi ?_ | refine jAe ?_ _)); exact BK399.out) hb)
          have n1_ := jAa.mk (jAp (g := gb403) (o := .cells #[.string ((jAl l0_1 x23_1).f0), .int .i64 ((jAl l0_1 x23_1).f1), .slice A402_2 ((jAl l0_1 x23_1).f2).length c402_2, .slice A402_3 ((jAl l0_1 x23_1).f3).length c402_3] 45 (0, 0)) (by (with_reducible repeat (first | refine jAf ?_ _ | refine jAi ?_ | refine jAe ?_ _)); exact BK403.out) hb)
          have n2_ := jAa.mk (jAu (by repeat (first | (with_reducible first | exact HB.out | apply jAj | apply jAd | apply jAk | refine jAh ?_ GE399.out | refine jAh ?_ GE403.out) | exact HB.out)) hb)
          clear BK399
          clear BK403
          clear HB
          have BK399 := n0_
          have BK403 := n1_
          have HB := n2_
          clear n0_ n1_ n2_
          (try clear hb)
          (try clear hb2)
          (try clear hk)
          (try clear hi)
          refine hK.out _ _ ⟨(jAb BK403.out 0).trans rfl, (jAb BK403.out 1).trans rfl, (jAb BK403.out 2).trans rfl, (jAb BK403.out 3).trans rfl⟩ (fun hHeld => ?_)
          clear hK K
          refine norm_ (a' := ?_) ?_ ?_
          rotate_left
          ·show Act.put _ (some 34) _ = _
           simp only [Act.put, List.setIfInBounds_toArray, List.set_cons_zero, List.set_cons_succ, i64_w, i32_w]
           rfl
          refine pure_ (i := 8) (N := some 35) (v := ?_) (a' := ?_) #[true, true, true, true, true, true, true, true, true, true, true, true, false, false, false] rfl rfl (jCc HT_.out (by kernel_rfl)) (fun _ _ _ h => h) (Or.inl ⟨by rfl, ?_⟩) ?_ ?_
          rotate_left
          ·intro w'
           go_simp
           with_reducible rfl
          rotate_left
          ·simp only [Act.put, List.setIfInBounds_toArray, List.set_cons_zero, List.set_cons_succ, i64_w, i32_w]
           rfl
          refine one_ (i := 12) (N := some 39) #[true, true, true, true, true, true, true, true, true, true, true, true, true, false, false] rfl rfl (jCu HT_.out (by kernel_rfl)) (by decide) (fun K hK => ?_)
          refine goes_ Tryd.func71 (by kernel_rfl) rfl #[.int .i64 (((jAl l0_1 x23_1).f2).length : Int)] (by rfl) rfl rfl (by (try simp only [List.map_toArray, List.map_cons, List.map_nil]); first | done | rfl | (simp only [List.length_drop, List.length_take]; rfl)) ?_
          with_reducible refine (jAr.calls k1 (((jAl l0_1 x23_1).f2).length : Int) t406 _ A17.out).mono ?_
          rintro e w26 ⟨rfl, hb⟩
          refine ⟨_, rfl, ?_⟩
          have n0_ := jAa.mk (jAp (g := gb399) (o := .cells #[.int .i64 a0_0, .slice (some ad402) l0_1.length c0_1, .slice A0_2 l0_2.length c0_2] 25 (0, 0)) (by (with_reducible repeat (first | refine jAf ?_ _ | refine jAi ?_ | refine jAe ?_ _)); exact BK399.out) hb)
          have n1_ := jAa.mk (jAp (g := gb403) (o := .cells #[.string ((jAl l0_1 x23_1).f0), .int .i64 ((jAl l0_1 x23_1).f1), .slice A402_2 ((jAl l0_1 x23_1).f2).length c402_2, .slice A402_3 ((jAl l0_1 x23_1).f3).length c402_3] 45 (0, 0)) (by (with_reducible repeat (first | refine jAf ?_ _ | refine jAi ?_ | refine jAe ?_ _)); exact BK403.out) hb)
          have n2_ := jAa.mk (jAu (by repeat (first | (with_reducible first | exact HB.out | apply jAj | apply jAd | apply jAk | refine jAh ?_ GE399.out | refine jAh ?_ GE403.out) | exact HB.out)) hb)
          clear BK399
          clear BK403
          clear HB
          have BK399 := n0_
          have BK403 := n1_
          have HB := n2_
          clear n0_ n1_ n2_
          (try clear hb)
          (try clear hb2)
          (try clear hk)
          (try clear hi)
          refine hK.out _ _ ⟨(jAb BK403.out 0).trans rfl, (jAb BK403.out 1).trans rfl, (jAb BK403.out 2).trans rfl, (jAb BK403.out 3).trans rfl⟩ (fun hHeld => ?_)
          clear hK K
          refine norm_ (a' := ?_) ?_ ?_
          rotate_left
          ·show Act.put _ (some 39) _ = _
           simp only [Act.put, List.setIfInBounds_toArray, List.set_cons_zero, List.set_cons_succ, i64_w, i32_w]
           rfl
          refine pure_ (i := 13) (N := some 40) (v := ?_) (a' := ?_) #[true, true, true, true, true, true, true, true, true, true, true, true, true, true, false] rfl rfl (jCc HT_.out (by kernel_rfl)) (fun _ _ _ h => h) (Or.inl ⟨by rfl, ?_⟩) ?_ ?_
          rotate_left
          ·intro w'
           go_simp
           with_reducible rfl
          rotate_left
          ·simp only [Act.put, List.setIfInBounds_toArray, List.set_cons_zero, List.set_cons_succ, i64_w, i32_w]
           rfl
          refine pure_ (i := 14) (N := some 3) (v := ?_) (a' := ?_) #[true, true, true, true, true, true, true, true, true, true, true, true, true, true, true] rfl rfl (jCc HT_.out (by kernel_rfl)) (fun _ _ _ h => h) (Or.inl ⟨by rfl, ?_⟩) ?_ ?_
          rotate_left
          ·intro w'
           go_simp
           with_reducible rfl
          rotate_left
          ·simp only [Act.put, List.setIfInBounds_toArray, List.set_cons_zero, List.set_cons_succ, i64_w, i32_w]
           rfl
          refine done_ (jEm HT_.out (by kernel_rfl)) ?_
          have hcz27_0 : w26.cell? ⟨gb403, 0, none⟩ = some (.string ((jAl l0_1 x23_1).f0)) := (jAb BK403.out 0).trans rfl
          have hcz27_1 : w26.cell? ⟨gb403, 1, none⟩ = some (.int .i64 ((jAl l0_1 x23_1).f1)) := (jAb BK403.out 1).trans rfl
          have hcz27_2 : w26.cell? ⟨gb403, 2, none⟩ = some (.slice A402_2 ((jAl l0_1 x23_1).f2).length c402_2) := (jAb BK403.out 2).trans rfl
          have hcz27_3 : w26.cell? ⟨gb403, 3, none⟩ = some (.slice A402_3 ((jAl l0_1 x23_1).f3).length c402_3) := (jAb BK403.out 3).trans rfl
          have hfz27_0 := jAg BK403.out 0
          have hfz27_1 := jAg BK403.out 1
          have hfz27_2 := jAg BK403.out 2
          have hfz27_3 := jAg BK403.out 3
          try go_wp2
          go_loopg [3, 44] k1 (fun kq v3 v44 w' => ∃ (x3_2 : ByteArray) (x44_2 : Int), v3 = .string x3_2 ∧ v44 = .int .i64 x44_2 ∧ jAa (jAo.l1 kq x3_2 l0_1 (l0_1.length : Int) x23_1 ((jAl l0_1 x23_1).f2) (((jAl l0_1 x23_1).f2).length : Int) x44_2 a0_0 l0_1 l0_2 ((jAl l0_1 x23_1).f0) ((jAl l0_1 x23_1).f1) ((jAl l0_1 x23_1).f2) ((jAl l0_1 x23_1).f3) = some r) ∧ jAa (kq ≤ k1) ∧ jAa (w'.heap[gb399]? = some (.cells #[.int .i64 a0_0, (.slice (some ad402) l0_1.length c0_1), (.slice A0_2 l0_2.length c0_2)] 25 (0, 0))) ∧ jAa (w'.heap[gb403]? = some (.cells #[.string ((jAl l0_1 x23_1).f0), .int .i64 ((jAl l0_1 x23_1).f1), (.slice A402_2 ((jAl l0_1 x23_1).f2).length c402_2), (.slice A402_3 ((jAl l0_1 x23_1).f3).length c402_3)] 45 (0, 0))) ∧ jAa (Below w.heap.size w w'))
          case atStart => exact ⟨(((x3_1 ++ t404) ++ t405) ++ t406), (0), (by first | rfl | (simp; done) | (simp [*]; done)), (by first | rfl | (simp; done) | (simp [*]; done)), H', ⟨Nat.le_refl _⟩, ⟨by (with_reducible repeat (first | refine jAf ?_ _ | refine jAi ?_ | refine jAe ?_ _)); exact BK399.out⟩, ⟨by (with_reducible repeat (first | refine jAf ?_ _ | refine jAi ?_ | refine jAe ?_ _)); exact BK403.out⟩, ⟨by repeat (first | (with_reducible first | exact HB.out | apply jAj | apply jAd | apply jAk | refine jAh ?_ GE399.out | refine jAh ?_ GE403.out) | exact HB.out)⟩⟩
          case round =>
           clear H'
           try clear c1
           try clear c2
           try clear p2
           try clear c4
           try clear c4b0
           try clear c4b1
           try clear c4b2
           try clear p4
           try clear q4
           try clear hx4
           try clear c7
           try clear c10
           try clear c10b0
           try clear c11
           try clear c11b0
           try clear c12
           try clear c12b0
           try clear c14
           try clear c14b0
           try clear c14b1
           try clear c14b2
           try clear c16
           try clear c16b0
           try clear c16b1
           try clear c16b2
           try clear c18
           try clear c18b0
           try clear c18b1
           try clear c18b2
           try clear c20
           try clear hcz21_0
           try clear hcz21_1
           try clear hcz21_2
           try clear hcz21_3
           try clear hcz27_0
           try clear hcz27_1
           try clear hcz27_2
           try clear hcz27_3
           try clear hcz9_0
           try clear hcz9_1
           try clear hcz9_2
           try clear hfz21_0
           try clear hfz21_1
           try clear hfz21_2
           try clear hfz21_3
           try clear hfz27_0
           try clear hfz27_1
           try clear hfz27_2
           try clear hfz27_3
           try clear hfz9_0
           try clear hfz9_1
           try clear hfz9_2
           try clear hx402_0
           try clear hx402_1
           try clear hx402_2
           try clear hx402_3
           try clear p2
           try clear p402
           try clear q402
           obtain ⟨x3_2, x44_2, rfl, rfl, HA, HK2, BK399, BK403, HB⟩ := hrel
           cases gk with
           | zero => exact absurd HA.out (by simp [jAo.l1])
           | succ k2 =>
            have H := HA.out
            clear HA
            simp only [jAo.l1] at H
            by_cases c28 : x44_2 < (((jAl l0_1 x23_1).f2).length : Int)
            ·rw [if_pos c28] at H
             have c28b0 : decide (x44_2 < (((jAl l0_1 x23_1).f2).length : Int)) = true := decide_eq_true c28
             clear c28
             by_cases c29 : 0 ≤ x44_2
             ·rw [if_pos c29] at H
              have c29b0 : decide (0 ≤ x44_2) = true := decide_eq_true c29
              clear c29
              by_cases c30 : x44_2 < (((jAl l0_1 x23_1).f2).length : Int)
              ·rw [if_pos c30] at H
               have c30b0 : decide (x44_2 < (((jAl l0_1 x23_1).f2).length : Int)) = true := decide_eq_true c30
               clear c30
               replace H := Option.bind_eq_some_iff.mp H
               obtain ⟨t409, A310, H⟩ := H
               replace H : (if x3_2.size + t409.size ≤ 9223372036854775807 then ((jBt.f k2 ((jBn ((jAl l0_1 x23_1).f2) x44_2).f4)).bind fun t410 => (if (x3_2 ++ t409).size + t410.size ≤ 9223372036854775807 then ((jAr.f k2 ((jBn ((jAl l0_1 x23_1).f2) x44_2).f1)).bind fun t411 => (if ((x3_2 ++ t409) ++ t410).size + t411.size ≤ 9223372036854775807 then ((jAr.f k2 ((jBn ((jAl l0_1 x23_1).f2) x44_2).f5)).bind fun t412 => (if (((x3_2 ++ t409) ++ t410) ++ t411).size + t412.size ≤ 9223372036854775807 then ((jBs.f k2 ((jBn ((jAl l0_1 x23_1).f2) x44_2).f2)).bind fun t413 => (if ((((x3_2 ++ t409) ++ t410) ++ t411) ++ t412).size + t413.size ≤ 9223372036854775807 then ((jBs.f k2 ((jBn ((jAl l0_1 x23_1).f2) x44_2).f3)).bind fun t414 => (if (((((x3_2 ++ t409) ++ t410) ++ t411) ++ t412) ++ t413).size + t414.size ≤ 9223372036854775807 then (jAo.l1 k2 ((((((x3_2 ++ t409) ++ t410) ++ t411) ++ t412) ++ t413) ++ t414) l0_1 (l0_1.length : Int) x23_1 ((jAl l0_1 x23_1).f2) (((jAl l0_1 x23_1).f2).length : Int) (wrap64 (x44_2 + 1)) a0_0 l0_1 l0_2 ((jAl l0_1 x23_1).f0) ((jAl l0_1 x23_1).f1) ((jAl l0_1 x23_1).f2) ((jAl l0_1 x23_1).f3)) else (none))) else (none))) else (none))) else (none))) else (none))) else (none)) = some r := H
               have A31 := jAa.mk A310
               clear A310
               by_cases c32 : x3_2.size + t409.size ≤ 9223372036854775807
               ·rw [if_pos c32] at H
                have c32b0 := eq_true c32
                have c32b1 : decide (x3_2.size + t409.size ≤ 9223372036854775807) = true := decide_eq_true c32
                try have c32b2 : (9223372036854775807 < x3_2.size + t409.size) = False := eq_false (Nat.not_lt.2 c32)
                replace H := Option.bind_eq_some_iff.mp H
                obtain ⟨t410, A330, H⟩ := H
                replace H : (if (x3_2 ++ t409).size + t410.size ≤ 9223372036854775807 then ((jAr.f k2 ((jBn ((jAl l0_1 x23_1).f2) x44_2).f1)).bind fun t411 => (if ((x3_2 ++ t409) ++ t410).size + t411.size ≤ 9223372036854775807 then ((jAr.f k2 ((jBn ((jAl l0_1 x23_1).f2) x44_2).f5)).bind fun t412 => (if (((x3_2 ++ t409) ++ t410) ++ t411).size + t412.size ≤ 9223372036854775807 then ((jBs.f k2 ((jBn ((jAl l0_1 x23_1).f2) x44_2).f2)).bind fun t413 => (if ((((x3_2 ++ t409) ++ t410) ++ t411) ++ t412).size + t413.size ≤ 9223372036854775807 then ((jBs.f k2 ((jBn ((jAl l0_1 x23_1).f2) x44_2).f3)).bind fun t414 => (if (((((x3_2 ++ t409) ++ t410) ++ t411) ++ t412) ++ t413).size + t414.size ≤ 9223372036854775807 then (jAo.l1 k2 ((((((x3_2 ++ t409) ++ t410) ++ t411) ++ t412) ++ t413) ++ t414) l0_1 (l0_1.length : Int) x23_1 ((jAl l0_1 x23_1).f2) (((jAl l0_1 x23_1).f2).length : Int) (wrap64 (x44_2 + 1)) a0_0 l0_1 l0_2 ((jAl l0_1 x23_1).f0) ((jAl l0_1 x23_1).f1) ((jAl l0_1 x23_1).f2) ((jAl l0_1 x23_1).f3)) else (none))) else (none))) else (none))) else (none))) else (none)) = some r := H
                have A33 := jAa.mk A330
                clear A330
                by_cases c34 : (x3_2 ++ t409).size + t410.size ≤ 9223372036854775807
                ·rw [if_pos c34] at H
                 have c34b0 := eq_true c34
                 have c34b1 : decide ((x3_2 ++ t409).size + t410.size ≤ 9223372036854775807) = true := decide_eq_true c34
                 try have c34b2 : (9223372036854775807 < (x3_2 ++ t409).size + t410.size) = False := eq_false (Nat.not_lt.2 c34)
                 try (have c34b2x := c34b2; simp only [ByteArray.size_append] at c34b2x)
                 replace H := Option.bind_eq_some_iff.mp H
                 obtain ⟨t411, A350, H⟩ := H
                 replace H : (if ((x3_2 ++ t409) ++ t410).size + t411.size ≤ 9223372036854775807 then ((jAr.f k2 ((jBn ((jAl l0_1 x23_1).f2) x44_2).f5)).bind fun t412 => (if (((x3_2 ++ t409) ++ t410) ++ t411).size + t412.size ≤ 9223372036854775807 then ((jBs.f k2 ((jBn ((jAl l0_1 x23_1).f2) x44_2).f2)).bind fun t413 => (if ((((x3_2 ++ t409) ++ t410) ++ t411) ++ t412).size + t413.size ≤ 9223372036854775807 then ((jBs.f k2 ((jBn ((jAl l0_1 x23_1).f2) x44_2).f3)).bind fun t414 => (if (((((x3_2 ++ t409) ++ t410) ++ t411) ++ t412) ++ t413).size + t414.size ≤ 9223372036854775807 then (jAo.l1 k2 ((((((x3_2 ++ t409) ++ t410) ++ t411) ++ t412) ++ t413) ++ t414) l0_1 (l0_1.length : Int) x23_1 ((jAl l0_1 x23_1).f2) (((jAl l0_1 x23_1).f2).length : Int) (wrap64 (x44_2 + 1)) a0_0 l0_1 l0_2 ((jAl l0_1 x23_1).f0) ((jAl l0_1 x23_1).f1) ((jAl l0_1 x23_1).f2) ((jAl l0_1 x23_1).f3)) else (none))) else (none))) else (none))) else (none)) = some r := H
                 have A35 := jAa.mk A350
                 clear A350
                 by_cases c36 : ((x3_2 ++ t409) ++ t410).size + t411.size ≤ 9223372036854775807
                 ·rw [if_pos c36] at H
                  have c36b0 := eq_true c36
                  have c36b1 : decide (((x3_2 ++ t409) ++ t410).size + t411.size ≤ 9223372036854775807) = true := decide_eq_true c36
                  try have c36b2 : (9223372036854775807 < ((x3_2 ++ t409) ++ t410).size + t411.size) = False := eq_false (Nat.not_lt.2 c36)
                  try (have c36b2x := c36b2; simp only [ByteArray.size_append] at c36b2x)
                  replace H := Option.bind_eq_some_iff.mp H
                  obtain ⟨t412, A370, H⟩ := H
                  replace H : (if (((x3_2 ++ t409) ++ t410) ++ t411).size + t412.size ≤ 9223372036854775807 then ((jBs.f k2 ((jBn ((jAl l0_1 x23_1).f2) x44_2).f2)).bind fun t413 => (if ((((x3_2 ++ t409) ++ t410) ++ t411) ++ t412).size + t413.size ≤ 9223372036854775807 then ((jBs.f k2 ((jBn ((jAl l0_1 x23_1).f2) x44_2).f3)).bind fun t414 => (if (((((x3_2 ++ t409) ++ t410) ++ t411) ++ t412) ++ t413).size + t414.size ≤ 9223372036854775807 then (jAo.l1 k2 ((((((x3_2 ++ t409) ++ t410) ++ t411) ++ t412) ++ t413) ++ t414) l0_1 (l0_1.length : Int) x23_1 ((jAl l0_1 x23_1).f2) (((jAl l0_1 x23_1).f2).length : Int) (wrap64 (x44_2 + 1)) a0_0 l0_1 l0_2 ((jAl l0_1 x23_1).f0) ((jAl l0_1 x23_1).f1) ((jAl l0_1 x23_1).f2) ((jAl l0_1 x23_1).f3)) else (none))) else (none))) else (none)) = some r := H
                  have A37 := jAa.mk A370
                  clear A370
                  by_cases c38 : (((x3_2 ++ t409) ++ t410) ++ t411).size + t412.size ≤ 9223372036854775807
                  ·rw [if_pos c38] at H
                   have c38b0 := eq_true c38
                   have c38b1 : decide ((((x3_2 ++ t409) ++ t410) ++ t411).size + t412.size ≤ 9223372036854775807) = true := decide_eq_true c38
                   try have c38b2 : (9223372036854775807 < (((x3_2 ++ t409) ++ t410) ++ t411).size + t412.size) = False := eq_false (Nat.not_lt.2 c38)
                   try (have c38b2x := c38b2; simp only [ByteArray.size_append] at c38b2x)
                   replace H := Option.bind_eq_some_iff.mp H
                   obtain ⟨t413, A390, H⟩ := H
                   replace H : (if ((((x3_2 ++ t409) ++ t410) ++ t411) ++ t412).size + t413.size ≤ 9223372036854775807 then ((jBs.f k2 ((jBn ((jAl l0_1 x23_1).f2) x44_2).f3)).bind fun t414 => (if (((((x3_2 ++ t409) ++ t410) ++ t411) ++ t412) ++ t413).size + t414.size ≤ 9223372036854775807 then (jAo.l1 k2 ((((((x3_2 ++ t409) ++ t410) ++ t411) ++ t412) ++ t413) ++ t414) l0_1 (l0_1.length : Int) x23_1 ((jAl l0_1 x23_1).f2) (((jAl l0_1 x23_1).f2).length : Int) (wrap64 (x44_2 + 1)) a0_0 l0_1 l0_2 ((jAl l0_1 x23_1).f0) ((jAl l0_1 x23_1).f1) ((jAl l0_1 x23_1).f2) ((jAl l0_1 x23_1).f3)) else (none))) else (none)) = some r := H
                   have A39 := jAa.mk A390
                   clear A390
                   by_cases c40 : ((((x3_2 ++ t409) ++ t410) ++ t411) ++ t412).size + t413.size ≤ 9223372036854775807
                   ·rw [if_pos c40] at H
                    have c40b0 := eq_true c40
                    have c40b1 : decide (((((x3_2 ++ t409) ++ t410) ++ t411) ++ t412).size + t413.size ≤ 9223372036854775807) = true := decide_eq_true c40
                    try have c40b2 : (9223372036854775807 < ((((x3_2 ++ t409) ++ t410) ++ t411) ++ t412).size + t413.size) = False := eq_false (Nat.not_lt.2 c40)
                    try (have c40b2x := c40b2; simp only [ByteArray.size_append] at c40b2x)
                    replace H := Option.bind_eq_some_iff.mp H
                    obtain ⟨t414, A410, H⟩ := H
                    replace H : (if (((((x3_2 ++ t409) ++ t410) ++ t411) ++ t412) ++ t413).size + t414.size ≤ 9223372036854775807 then (jAo.l1 k2 ((((((x3_2 ++ t409) ++ t410) ++ t411) ++ t412) ++ t413) ++ t414) l0_1 (l0_1.length : Int) x23_1 ((jAl l0_1 x23_1).f2) (((jAl l0_1 x23_1).f2).length : Int) (wrap64 (x44_2 + 1)) a0_0 l0_1 l0_2 ((jAl l0_1 x23_1).f0) ((jAl l0_1 x23_1).f1) ((jAl l0_1 x23_1).f2) ((jAl l0_1 x23_1).f3)) else (none)) = some r := H
                    have A41 := jAa.mk A410
                    clear A410
                    by_cases c42 : (((((x3_2 ++ t409) ++ t410) ++ t411) ++ t412) ++ t413).size + t414.size ≤ 9223372036854775807
                    ·rw [if_pos c42] at H
                     have c42b0 := eq_true c42
                     have c42b1 : decide ((((((x3_2 ++ t409) ++ t410) ++ t411) ++ t412) ++ t413).size + t414.size ≤ 9223372036854775807) = true := decide_eq_true c42
                     try have c42b2 : (9223372036854775807 < (((((x3_2 ++ t409) ++ t410) ++ t411) ++ t412) ++ t413).size + t414.size) = False := eq_false (Nat.not_lt.2 c42)
                     try (have c42b2x := c42b2; simp only [ByteArray.size_append] at c42b2x)
                     have H' := jAa.mk H
                     clear H
                     have p407 : 0 ≤ (x44_2 : Int) := of_decide_eq_true (by first | (with_reducible assumption) | assumption)
                     have q407 : x44_2 < (((jAl l0_1 x23_1).f2).length : Int) := of_decide_eq_true (by first | (with_reducible assumption) | assumption)
                     obtain ⟨ad407, e407, hx407_0, hx407_1, hx407_2, hx407_3, hx407_4, hx407_5⟩ := jFp HR402_2.out x44_2 p407 q407
                     cases e407
                     replace hx407_0 := (HB.out.cell (World.block_lt_of_cell? w _ hx407_0)).trans hx407_0
                     replace hx407_1 := (HB.out.cell (World.block_lt_of_cell? w _ hx407_1)).trans hx407_1
                     replace hx407_2 := (HB.out.cell (World.block_lt_of_cell? w _ hx407_2)).trans hx407_2
                     replace hx407_3 := (HB.out.cell (World.block_lt_of_cell? w _ hx407_3)).trans hx407_3
                     replace hx407_4 := (HB.out.cell (World.block_lt_of_cell? w _ hx407_4)).trans hx407_4
                     replace hx407_5 := (HB.out.cell (World.block_lt_of_cell? w _ hx407_5)).trans hx407_5
                     replace p407 := eq_true p407
                     replace q407 := eq_true q407
                     try go_wp2_with (first | ((with_reducible refine jCa (N := 7) rfl ?_); refine jBv ?hg (N := 7) ?hd (cs := #[.string (⟨#[]⟩ : ByteArray), .int .i64 0, .bool false, .bool false, .string (⟨#[]⟩ : ByteArray), .int .i64 0]) (t := 59) ?hr ?_; (case hd => rfl); (case hg => rfl); (case hr => first | (go_simp; done) | (go_simp; rfl)); intro gb408 hg w43 hbox hb; have n0_ := jAa.mk (jAp (g := gb399) (o := .cells #[.int .i64 a0_0, .slice (some ad402) l0_1.length c0_1, .slice A0_2 l0_2.length c0_2] 25 (0, 0)) (by (with_reducible repeat (first | refine jAf ?_ _ | refine jAi ?_ | refine jAe ?_ _)); exact BK399.out) hb); have n1_ := jAa.mk (jAp (g := gb403) (o := .cells #[.string ((jAl l0_1 x23_1).f0), .int .i64 ((jAl l0_1 x23_1).f1), .slice (some ad407) ((jAl l0_1 x23_1).f2).length c402_2, .slice A402_3 ((jAl l0_1 x23_1).f3).length c402_3] 45 (0, 0)) (by (with_reducible repeat (first | refine jAf ?_ _ | refine jAi ?_ | refine jAe ?_ _)); exact BK403.out) hb); have n2_ := jAa.mk (jAu (by repeat (first | (with_reducible first | exact HB.out | apply jAj | apply jAd | apply jAk | refine jAh ?_ GE399.out | refine jAh ?_ GE403.out) | exact HB.out)) hb); have n3_ := jAa.mk (hbox); have n4_ := jAa.mk ((by rw [hg]; exact (jBj (by repeat (first | (with_reducible first | exact HB.out | apply jAj | apply jAd | apply jAk | refine jAh ?_ GE399.out | refine jAh ?_ GE403.out) | exact HB.out))) : w.heap.size ≤ gb408)); have n5_ := jAa.mk ((by rw [hg]; exact (jBj (by repeat (first | (with_reducible first | exact HB.out | apply jAj | apply jAd | apply jAk | refine jAh ?_ GE399.out | refine jAh ?_ GE403.out) | exact HB.out))) : w.heap.size ≤ gb408)); have n6_ := jAa.mk ((by rw [hg]; exact Nat.ne_of_lt (jBu (g := gb399) (o := .cells #[.int .i64 a0_0, .slice (some ad402) l0_1.length c0_1, .slice A0_2 l0_2.length c0_2] 25 (0, 0)) (by (with_reducible repeat (first | refine jAf ?_ _ | refine jAi ?_ | refine jAe ?_ _)); exact BK399.out)) : gb399 ≠ gb408)); have n7_ := jAa.mk ((by rw [hg]; exact Nat.ne_of_gt (jBu (g := gb399) (o := .cells #[.int .i64 a0_0, .slice (some ad402) l0_1.length c0_1, .slice A0_2 l0_2.length c0_2] 25 (0, 0)) (by (with_reducible repeat (first | refine jAf ?_ _ | refine jAi ?_ | refine jAe ?_ _)); exact BK399.out)) : gb408 ≠ gb399)); have n8_ := jAa.mk ((by rw [hg]; exact Nat.ne_of_lt (jBu (g := gb403) (o := .cells #[.string ((jAl l0_1 x23_1).f0), .int .i64 ((jAl l0_1 x23_1).f1), .slice (some ad407) ((jAl l0_1 x23_1).f2).length c402_2, .slice A402_3 ((jAl l0_1 x23_1).f3).length c402_3] 45 (0, 0)) (by (with_reducible repeat (first | refine jAf ?_ _ | refine jAi ?_ | refine jAe ?_ _)); exact BK403.out)) : gb403 ≠ gb408)); have n9_ := jAa.mk ((by rw [hg]; exact Nat.ne_of_gt (jBu (g := gb403) (o := .cells #[.string ((jAl l0_1 x23_1).f0), .int .i64 ((jAl l0_1 x23_1).f1), .slice (some ad407) ((jAl l0_1 x23_1).f2).length c402_2, .slice A402_3 ((jAl l0_1 x23_1).f3).length c402_3] 45 (0, 0)) (by (with_reducible repeat (first | refine jAf ?_ _ | refine jAi ?_ | refine jAe ?_ _)); exact BK403.out)) : gb408 ≠ gb403)); clear BK399; clear BK403; clear HB; have BK399 := n0_; have BK403 := n1_; have HB := n2_; have BK408 := n3_; have GW408 := n4_; have GE408 := n5_; have NB399_408 := n6_; have NB408_399 := n7_; have NB403_408 := n8_; have NB408_403 := n9_; clear n0_ n1_ n2_ n3_ n4_ n5_ n6_ n7_ n8_ n9_; clear hb hbox hg; have hnb44 := NB408_399.out; have hnc44 := NB399_408.out; have hnb45 := NB408_403.out; have hnc45 := NB403_408.out; have hcz46_0 : w43.cell? ⟨gb408, 0, none⟩ = some (.string (⟨#[]⟩ : ByteArray)) := (jAb BK408.out 0).trans rfl; have hcz46_1 : w43.cell? ⟨gb408, 1, none⟩ = some (.int .i64 0) := (jAb BK408.out 1).trans rfl; have hcz46_2 : w43.cell? ⟨gb408, 2, none⟩ = some (.bool false) := (jAb BK408.out 2).trans rfl; have hcz46_3 : w43.cell? ⟨gb408, 3, none⟩ = some (.bool false) := (jAb BK408.out 3).trans rfl; have hcz46_4 : w43.cell? ⟨gb408, 4, none⟩ = some (.string (⟨#[]⟩ : ByteArray)) := (jAb BK408.out 4).trans rfl; have hcz46_5 : w43.cell? ⟨gb408, 5, none⟩ = some (.int .i64 0) := (jAb BK408.out 5).trans rfl; have hfz46_0 := jAg BK408.out 0; have hfz46_1 := jAg BK408.out 1; have hfz46_2 := jAg BK408.out 2; have hfz46_3 := jAg BK408.out 3; have hfz46_4 := jAg BK408.out 4; have hfz46_5 := jAg BK408.out 5))
                     have n0_ : jAa (((((((w43.setCell ⟨gb408, 0, none⟩ (.string ((jBn ((jAl l0_1 x23_1).f2) x44_2).f0))).setCell ⟨gb408, 1, none⟩ (.int .i64 ((jBn ((jAl l0_1 x23_1).f2) x44_2).f1))).setCell ⟨gb408, 2, none⟩ (.bool ((jBn ((jAl l0_1 x23_1).f2) x44_2).f2))).setCell ⟨gb408, 3, none⟩ (.bool ((jBn ((jAl l0_1 x23_1).f2) x44_2).f3))).setCell ⟨gb408, 4, none⟩ (.string ((jBn ((jAl l0_1 x23_1).f2) x44_2).f4))).setCell ⟨gb408, 5, none⟩ (.int .i64 ((jBn ((jAl l0_1 x23_1).f2) x44_2).f5))).heap[gb399]? = some (.cells #[.int .i64 a0_0, .slice (some ad402) l0_1.length c0_1, .slice A0_2 l0_2.length c0_2] 25 (0, 0))) := ⟨by (with_reducible repeat (first | refine jAf ?_ _ | refine jAi ?_ | refine jAe ?_ _)); refine jBa ?_ NB399_408.out _; (with_reducible repeat (first | refine jAf ?_ _ | refine jAi ?_ | refine jAe ?_ _)); refine jBa ?_ NB399_408.out _; (with_reducible repeat (first | refine jAf ?_ _ | refine jAi ?_ | refine jAe ?_ _)); refine jBa ?_ NB399_408.out _; (with_reducible repeat (first | refine jAf ?_ _ | refine jAi ?_ | refine jAe ?_ _)); refine jBa ?_ NB399_408.out _; (with_reducible repeat (first | refine jAf ?_ _ | refine jAi ?_ | refine jAe ?_ _)); refine jBa ?_ NB399_408.out _; (with_reducible repeat (first | refine jAf ?_ _ | refine jAi ?_ | refine jAe ?_ _)); refine jBa ?_ NB399_408.out _; (with_reducible repeat (first | refine jAf ?_ _ | refine jAi ?_ | refine jAe ?_ _)); exact BK399.out⟩
                     have n1_ : jAa (((((((w43.setCell ⟨gb408, 0, none⟩ (.string ((jBn ((jAl l0_1 x23_1).f2) x44_2).f0))).setCell ⟨gb408, 1, none⟩ (.int .i64 ((jBn ((jAl l0_1 x23_1).f2) x44_2).f1))).setCell ⟨gb408, 2, none⟩ (.bool ((jBn ((jAl l0_1 x23_1).f2) x44_2).f2))).setCell ⟨gb408, 3, none⟩ (.bool ((jBn ((jAl l0_1 x23_1).f2) x44_2).f3))).setCell ⟨gb408, 4, none⟩ (.string ((jBn ((jAl l0_1 x23_1).f2) x44_2).f4))).setCell ⟨gb408, 5, none⟩ (.int .i64 ((jBn ((jAl l0_1 x23_1).f2) x44_2).f5))).heap[gb403]? = some (.cells #[.string ((jAl l0_1 x23_1).f0), .int .i64 ((jAl l0_1 x23_1).f1), .slice (some ad407) ((jAl l0_1 x23_1).f2).length c402_2, .slice A402_3 ((jAl l0_1 x23_1).f3).length c402_3] 45 (0, 0))) := ⟨by (with_reducible repeat (first | refine jAf ?_ _ | refine jAi ?_ | refine jAe ?_ _)); refine jBa ?_ NB403_408.out _; (with_reducible repeat (first | refine jAf ?_ _ | refine jAi ?_ | refine jAe ?_ _)); refine jBa ?_ NB403_408.out _; (with_reducible repeat (first | refine jAf ?_ _ | refine jAi ?_ | refine jAe ?_ _)); refine jBa ?_ NB403_408.out _; (with_reducible repeat (first | refine jAf ?_ _ | refine jAi ?_ | refine jAe ?_ _)); refine jBa ?_ NB403_408.out _; (with_reducible repeat (first | refine jAf ?_ _ | refine jAi ?_ | refine jAe ?_ _)); refine jBa ?_ NB403_408.out _; (with_reducible repeat (first | refine jAf ?_ _ | refine jAi ?_ | refine jAe ?_ _)); refine jBa ?_ NB403_408.out _; (with_reducible repeat (first | refine jAf ?_ _ | refine jAi ?_ | refine jAe ?_ _)); exact BK403.out⟩
                     have n2_ : jAa (((((((w43.setCell ⟨gb408, 0, none⟩ (.string ((jBn ((jAl l0_1 x23_1).f2) x44_2).f0))).setCell ⟨gb408, 1, none⟩ (.int .i64 ((jBn ((jAl l0_1 x23_1).f2) x44_2).f1))).setCell ⟨gb408, 2, none⟩ (.bool ((jBn ((jAl l0_1 x23_1).f2) x44_2).f2))).setCell ⟨gb408, 3, none⟩ (.bool ((jBn ((jAl l0_1 x23_1).f2) x44_2).f3))).setCell ⟨gb408, 4, none⟩ (.string ((jBn ((jAl l0_1 x23_1).f2) x44_2).f4))).setCell ⟨gb408, 5, none⟩ (.int .i64 ((jBn ((jAl l0_1 x23_1).f2) x44_2).f5))).heap[gb408]? = some (.cells #[.string ((jBn ((jAl l0_1 x23_1).f2) x44_2).f0), .int .i64 ((jBn ((jAl l0_1 x23_1).f2) x44_2).f1), .bool ((jBn ((jAl l0_1 x23_1).f2) x44_2).f2), .bool ((jBn ((jAl l0_1 x23_1).f2) x44_2).f3), .string ((jBn ((jAl l0_1 x23_1).f2) x44_2).f4), .int .i64 ((jBn ((jAl l0_1 x23_1).f2) x44_2).f5)] 59 (0, 0))) := ⟨by (with_reducible repeat (first | refine jAf ?_ _ | refine jAi ?_ | refine jAe ?_ _)); refine jBf (cs := #[.string ((jBn ((jAl l0_1 x23_1).f2) x44_2).f0), .int .i64 ((jBn ((jAl l0_1 x23_1).f2) x44_2).f1), .bool ((jBn ((jAl l0_1 x23_1).f2) x44_2).f2), .bool ((jBn ((jAl l0_1 x23_1).f2) x44_2).f3), .string ((jBn ((jAl l0_1 x23_1).f2) x44_2).f4), .int .i64 0]) ?_ 5 _ rfl; (with_reducible repeat (first | refine jAf ?_ _ | refine jAi ?_ | refine jAe ?_ _)); refine jBf (cs := #[.string ((jBn ((jAl l0_1 x23_1).f2) x44_2).f0), .int .i64 ((jBn ((jAl l0_1 x23_1).f2) x44_2).f1), .bool ((jBn ((jAl l0_1 x23_1).f2) x44_2).f2), .bool ((jBn ((jAl l0_1 x23_1).f2) x44_2).f3), .string (⟨#[]⟩ : ByteArray), .int .i64 0]) ?_ 4 _ rfl; (with_reducible repeat (first | refine jAf ?_ _ | refine jAi ?_ | refine jAe ?_ _)); refine jBf (cs := #[.string ((jBn ((jAl l0_1 x23_1).f2) x44_2).f0), .int .i64 ((jBn ((jAl l0_1 x23_1).f2) x44_2).f1), .bool ((jBn ((jAl l0_1 x23_1).f2) x44_2).f2), .bool false, .string (⟨#[]⟩ : ByteArray), .int .i64 0]) ?_ 3 _ rfl; (with_reducible repeat (first | refine jAf ?_ _ | refine jAi ?_ | refine jAe ?_ _)); refine jBf (cs := #[.string ((jBn ((jAl l0_1 x23_1).f2) x44_2).f0), .int .i64 ((jBn ((jAl l0_1 x23_1).f2) x44_2).f1), .bool false, .bool false, .string (⟨#[]⟩ : ByteArray), .int .i64 0]) ?_ 2 _ rfl; (with_reducible repeat (first | refine jAf ?_ _ | refine jAi ?_ | refine jAe ?_ _)); refine jBf (cs := #[.string ((jBn ((jAl l0_1 x23_1).f2) x44_2).f0), .int .i64 0, .bool false, .bool false, .string (⟨#[]⟩ : ByteArray), .int .i64 0]) ?_ 1 _ rfl; (with_reducible repeat (first | refine jAf ?_ _ | refine jAi ?_ | refine jAe ?_ _)); refine jBf (cs := #[.string (⟨#[]⟩ : ByteArray), .int .i64 0, .bool false, .bool false, .string (⟨#[]⟩ : ByteArray), .int .i64 0]) ?_ 0 _ rfl; (with_reducible repeat (first | refine jAf ?_ _ | refine jAi ?_ | refine jAe ?_ _)); exact BK408.out⟩
                     have n3_ : jAa (Below w.heap.size w ((((((w43.setCell ⟨gb408, 0, none⟩ (.string ((jBn ((jAl l0_1 x23_1).f2) x44_2).f0))).setCell ⟨gb408, 1, none⟩ (.int .i64 ((jBn ((jAl l0_1 x23_1).f2) x44_2).f1))).setCell ⟨gb408, 2, none⟩ (.bool ((jBn ((jAl l0_1 x23_1).f2) x44_2).f2))).setCell ⟨gb408, 3, none⟩ (.bool ((jBn ((jAl l0_1 x23_1).f2) x44_2).f3))).setCell ⟨gb408, 4, none⟩ (.string ((jBn ((jAl l0_1 x23_1).f2) x44_2).f4))).setCell ⟨gb408, 5, none⟩ (.int .i64 ((jBn ((jAl l0_1 x23_1).f2) x44_2).f5)))) := ⟨by repeat (first | (with_reducible first | exact HB.out | apply jAj | apply jAd | apply jAk | refine jAh ?_ GE399.out | refine jAh ?_ GE403.out | refine jAh ?_ GE408.out) | exact HB.out)⟩
                     (try clear BK399)
                     (try clear BK403)
                     (try clear BK408)
                     (try clear HB)
                     generalize ((((((w43.setCell ⟨gb408, 0, none⟩ (.string ((jBn ((jAl l0_1 x23_1).f2) x44_2).f0))).setCell ⟨gb408, 1, none⟩ (.int .i64 ((jBn ((jAl l0_1 x23_1).f2) x44_2).f1))).setCell ⟨gb408, 2, none⟩ (.bool ((jBn ((jAl l0_1 x23_1).f2) x44_2).f2))).setCell ⟨gb408, 3, none⟩ (.bool ((jBn ((jAl l0_1 x23_1).f2) x44_2).f3))).setCell ⟨gb408, 4, none⟩ (.string ((jBn ((jAl l0_1 x23_1).f2) x44_2).f4))).setCell ⟨gb408, 5, none⟩ (.int .i64 ((jBn ((jAl l0_1 x23_1).f2) x44_2).f5))) = w47 at n0_ n1_ n2_ n3_ ⊢
                     have BK399 := n0_
                     have BK403 := n1_
                     have BK408 := n2_
                     have HB := n3_
                     clear n0_ n1_ n2_ n3_
                     have n0_ := jAa.mk (jAi BK399.out)
                     have n1_ := jAa.mk (jAi BK403.out)
                     have n2_ := jAa.mk (jAi BK408.out)
                     have n3_ := jAa.mk (jAk HB.out)
                     clear BK399
                     clear BK403
                     clear BK408
                     clear HB
                     have BK399 := n0_
                     have BK403 := n1_
                     have BK408 := n2_
                     have HB := n3_
                     clear n0_ n1_ n2_ n3_
                     refine jDz (n := 26) (S := fun w' => w'.cell? ⟨gb408, 0, none⟩ = some (.string ((jBn ((jAl l0_1 x23_1).f2) x44_2).f0)) ∧ w'.cell? ⟨gb408, 1, none⟩ = some (.int .i64 ((jBn ((jAl l0_1 x23_1).f2) x44_2).f1)) ∧ w'.cell? ⟨gb408, 2, none⟩ = some (.bool ((jBn ((jAl l0_1 x23_1).f2) x44_2).f2)) ∧ w'.cell? ⟨gb408, 3, none⟩ = some (.bool ((jBn ((jAl l0_1 x23_1).f2) x44_2).f3)) ∧ w'.cell? ⟨gb408, 4, none⟩ = some (.string ((jBn ((jAl l0_1 x23_1).f2) x44_2).f4)) ∧ w'.cell? ⟨gb408, 5, none⟩ = some (.int .i64 ((jBn ((jAl l0_1 x23_1).f2) x44_2).f5))) (ds := []) #[false, false, false, false, false, false, false, false, false, false, false, false, false, false, false, false, false, false, false, false, false, false, false, false, false, false] (by kernel_rfl) rfl rfl ⟨(jAb BK408.out 0).trans rfl, (jAb BK408.out 1).trans rfl, (jAb BK408.out 2).trans rfl, (jAb BK408.out 3).trans rfl, (jAb BK408.out 4).trans rfl, (jAb BK408.out 5).trans rfl⟩ (fun hHeld => ?_); refine jDl jAo.tab9 jAo.bits9 (fun HT_ HW_ => ?_)
                     generalize w47.drew = w48 at BK399 BK403 BK408 HB hHeld ⊢
                     refine pure_ (i := 0) (N := some 48) (v := ?_) (a' := ?_) #[true, false, false, false, false, false, false, false, false, false, false, false, false, false, false, false, false, false, false, false, false, false, false, false, false, false] rfl rfl (jCc HT_.out (by kernel_rfl)) (fun _ _ _ h => h) (Or.inl ⟨by rfl, ?_⟩) ?_ ?_
                     rotate_left
                     ·intro w'
                      go_simp
                      with_reducible rfl
                     rotate_left
                     ·simp only [Act.put, List.setIfInBounds_toArray, List.set_cons_zero, List.set_cons_succ, i64_w, i32_w]
                      rfl
                     refine pure_ (i := 1) (N := some 49) (v := ?_) (a' := ?_) #[true, true, false, false, false, false, false, false, false, false, false, false, false, false, false, false, false, false, false, false, false, false, false, false, false, false] rfl rfl (jCc HT_.out (by kernel_rfl)) (fun _ _ _ h => h) (Or.inl ⟨by rfl, ?_⟩) ?_ ?_
                     rotate_left
                     ·intro w'
                      go_simp
                      with_reducible rfl
                     rotate_left
                     ·simp only [Act.put, List.setIfInBounds_toArray, List.set_cons_zero, List.set_cons_succ, i64_w, i32_w]
                      rfl
                     refine pure_ (i := 5) (N := some 53) (v := ?_) (a' := ?_) #[true, true, false, false, false, true, false, false, false, false, false, false, false, false, false, false, false, false, false, false, false, false, false, false, false, false] rfl rfl (jCc HT_.out (by kernel_rfl)) (fun _ _ _ h => h) (Or.inl ⟨by rfl, ?_⟩) ?_ ?_
                     rotate_left
                     ·intro w'
                      go_simp
                      with_reducible rfl
                     rotate_left
                     ·simp only [Act.put, List.setIfInBounds_toArray, List.set_cons_zero, List.set_cons_succ, i64_w, i32_w]
                      rfl
                     refine pure_ (i := 9) (N := some 57) (v := ?_) (a' := ?_) #[true, true, false, false, false, true, false, false, false, true, false, false, false, false, false, false, false, false, false, false, false, false, false, false, false, false] rfl rfl (jCc HT_.out (by kernel_rfl)) (fun _ _ _ h => h) (Or.inl ⟨by rfl, ?_⟩) ?_ ?_
                     rotate_left
                     ·intro w'
                      go_simp
                      with_reducible rfl
                     rotate_left
                     ·simp only [Act.put, List.setIfInBounds_toArray, List.set_cons_zero, List.set_cons_succ, i64_w, i32_w]
                      rfl
                     refine pure_ (i := 13) (N := some 61) (v := ?_) (a' := ?_) #[true, true, false, false, false, true, false, false, false, true, false, false, false, true, false, false, false, false, false, false, false, false, false, false, false, false] rfl rfl (jCc HT_.out (by kernel_rfl)) (fun _ _ _ h => h) (Or.inl ⟨by rfl, ?_⟩) ?_ ?_
                     rotate_left
                     ·intro w'
                      go_simp
                      with_reducible rfl
                     rotate_left
                     ·simp only [Act.put, List.setIfInBounds_toArray, List.set_cons_zero, List.set_cons_succ, i64_w, i32_w]
                      rfl
                     refine pure_ (i := 17) (N := some 65) (v := ?_) (a' := ?_) #[true, true, false, false, false, true, false, false, false, true, false, false, false, true, false, false, false, true, false, false, false, false, false, false, false, false] rfl rfl (jCc HT_.out (by kernel_rfl)) (fun _ _ _ h => h) (Or.inl ⟨by rfl, ?_⟩) ?_ ?_
                     rotate_left
                     ·intro w'
                      go_simp
                      with_reducible rfl
                     rotate_left
                     ·simp only [Act.put, List.setIfInBounds_toArray, List.set_cons_zero, List.set_cons_succ, i64_w, i32_w]
                      rfl
                     refine pure_ (i := 21) (N := some 69) (v := ?_) (a' := ?_) #[true, true, false, false, false, true, false, false, false, true, false, false, false, true, false, false, false, true, false, false, false, true, false, false, false, false] rfl rfl (jCc HT_.out (by kernel_rfl)) (fun _ _ _ h => h) (Or.inl ⟨by rfl, ?_⟩) ?_ ?_
                     rotate_left
                     ·intro w'
                      go_simp
                      with_reducible rfl
                     rotate_left
                     ·simp only [Act.put, List.setIfInBounds_toArray, List.set_cons_zero, List.set_cons_succ, i64_w, i32_w]
                      rfl
                     refine take_ (i := 2) (N := some 50) (v := ?_) (a' := ?_) #[true, true, true, false, false, true, false, false, false, true, false, false, false, true, false, false, false, true, false, false, false, true, false, false, false, false] rfl rfl (jCm HT_.out HW_.out (by kernel_rfl)) (fun _ _ _ h => h) (Or.inl ⟨by rfl, ?_⟩) hHeld ?_ ?_
                     rotate_left
                     ·rintro w' ⟨s0, s1, s2, s3, s4, s5⟩
                      go_simp
                      with_reducible rfl
                     rotate_left
                     ·simp only [Act.put, List.setIfInBounds_toArray, List.set_cons_zero, List.set_cons_succ, i64_w, i32_w]
                      rfl
                     refine take_ (i := 6) (N := some 54) (v := ?_) (a' := ?_) #[true, true, true, false, false, true, true, false, false, true, false, false, false, true, false, false, false, true, false, false, false, true, false, false, false, false] rfl rfl (jCm HT_.out HW_.out (by kernel_rfl)) (fun _ _ _ h => h) (Or.inl ⟨by rfl, ?_⟩) hHeld ?_ ?_
                     rotate_left
                     ·rintro w' ⟨s0, s1, s2, s3, s4, s5⟩
                      go_simp
                      with_reducible rfl
                     rotate_left
                     ·simp only [Act.put, List.setIfInBounds_toArray, List.set_cons_zero, List.set_cons_succ, i64_w, i32_w]
                      rfl
                     refine take_ (i := 10) (N := some 58) (v := ?_) (a' := ?_) #[true, true, true, false, false, true, true, false, false, true, true, false, false, true, false, false, false, true, false, false, false, true, false, false, false, false] rfl rfl (jCm HT_.out HW_.out (by kernel_rfl)) (fun _ _ _ h => h) (Or.inl ⟨by rfl, ?_⟩) hHeld ?_ ?_
                     rotate_left
                     ·rintro w' ⟨s0, s1, s2, s3, s4, s5⟩
                      go_simp
                      with_reducible rfl
                     rotate_left
                     ·simp only [Act.put, List.setIfInBounds_toArray, List.set_cons_zero, List.set_cons_succ, i64_w, i32_w]
                      rfl
                     refine take_ (i := 14) (N := some 62) (v := ?_) (a' := ?_) #[true, true, true, false, false, true, true, false, false, true, true, false, false, true, true, false, false, true, false, false, false, true, false, false, false, false] rfl rfl (jCm HT_.out HW_.out (by kernel_rfl)) (fun _ _ _ h => h) (Or.inl ⟨by rfl, ?_⟩) hHeld ?_ ?_
                     rotate_left
                     ·rintro w' ⟨s0, s1, s2, s3, s4, s5⟩
                      go_simp
                      with_reducible rfl
                     rotate_left
                     ·simp only [Act.put, List.setIfInBounds_toArray, List.set_cons_zero, List.set_cons_succ, i64_w, i32_w]
                      rfl
                     refine take_ (i := 18) (N := some 66) (v := ?_) (a' := ?_) #[true, true, true, false, false, true, true, false, false, true, true, false, false, true, true, false, false, true, true, false, false, true, false, false, false, false] rfl rfl (jCm HT_.out HW_.out (by kernel_rfl)) (fun _ _ _ h => h) (Or.inl ⟨by rfl, ?_⟩) hHeld ?_ ?_
                     rotate_left
                     ·rintro w' ⟨s0, s1, s2, s3, s4, s5⟩
                      go_simp
                      with_reducible rfl
                     rotate_left
                     ·simp only [Act.put, List.setIfInBounds_toArray, List.set_cons_zero, List.set_cons_succ, i64_w, i32_w]
                      rfl
                     refine take_ (i := 22) (N := some 70) (v := ?_) (a' := ?_) #[true, true, true, false, false, true, true, false, false, true, true, false, false, true, true, false, false, true, true, false, false, true, true, false, false, false] rfl rfl (jCm HT_.out HW_.out (by kernel_rfl)) (fun _ _ _ h => h) (Or.inl ⟨by rfl, ?_⟩) hHeld ?_ ?_
                     rotate_left
                     ·rintro w' ⟨s0, s1, s2, s3, s4, s5⟩
                      go_simp
                      with_reducible rfl
                     rotate_left
                     ·simp only [Act.put, List.setIfInBounds_toArray, List.set_cons_zero, List.set_cons_succ, i64_w, i32_w]
                      rfl
                     refine one_ (i := 3) (N := some 51) #[true, true, true, true, false, true, true, false, false, true, true, false, false, true, true, false, false, true, true, false, false, true, true, false, false, false] rfl rfl (jCu HT_.out (by kernel_rfl)) (by decide) (fun K hK => ?_)
                     refine goes_ Tryd.func72 (by kernel_rfl) rfl #[.string ((jBn ((jAl l0_1 x23_1).f2) x44_2).f0)] (by rfl) rfl rfl (by (try simp only [List.map_toArray, List.map_cons, List.map_nil]); first | done | rfl | (simp only [List.length_drop, List.length_take]; rfl)) ?_
                     with_reducible refine (jBt.calls k2 ((jBn ((jAl l0_1 x23_1).f2) x44_2).f0) t409 _ A31.out).mono ?_
                     rintro e w49 ⟨rfl, hb⟩
                     refine ⟨_, rfl, ?_⟩
                     have n0_ := jAa.mk (jAp (g := gb399) (o := .cells #[.int .i64 a0_0, .slice (some ad402) l0_1.length c0_1, .slice A0_2 l0_2.length c0_2] 25 (0, 0)) (by (with_reducible repeat (first | refine jAf ?_ _ | refine jAi ?_ | refine jAe ?_ _)); exact BK399.out) hb)
                     have n1_ := jAa.mk (jAp (g := gb403) (o := .cells #[.string ((jAl l0_1 x23_1).f0), .int .i64 ((jAl l0_1 x23_1).f1), .slice (some ad407) ((jAl l0_1 x23_1).f2).length c402_2, .slice A402_3 ((jAl l0_1 x23_1).f3).length c402_3] 45 (0, 0)) (by (with_reducible repeat (first | refine jAf ?_ _ | refine jAi ?_ | refine jAe ?_ _)); exact BK403.out) hb)
                     have n2_ := jAa.mk (jAp (g := gb408) (o := .cells #[.string ((jBn ((jAl l0_1 x23_1).f2) x44_2).f0), .int .i64 ((jBn ((jAl l0_1 x23_1).f2) x44_2).f1), .bool ((jBn ((jAl l0_1 x23_1).f2) x44_2).f2), .bool ((jBn ((jAl l0_1 x23_1).f2) x44_2).f3), .string ((jBn ((jAl l0_1 x23_1).f2) x44_2).f4), .int .i64 ((jBn ((jAl l0_1 x23_1).f2) x44_2).f5)] 59 (0, 0)) (by (with_reducible repeat (first | refine jAf ?_ _ | refine jAi ?_ | refine jAe ?_ _)); exact BK408.out) hb)
                     have n3_ := jAa.mk (jAu (by repeat (first | (with_reducible first | exact HB.out | apply jAj | apply jAd | apply jAk | refine jAh ?_ GE399.out | refine jAh ?_ GE403.out | refine jAh ?_ GE408.out) | exact HB.out)) hb)
                     clear BK399
                     clear BK403
                     clear BK408
                     clear HB
                     have BK399 := n0_
                     have BK403 := n1_
                     have BK408 := n2_
                     have HB := n3_
                     clear n0_ n1_ n2_ n3_
                     (try clear hb)
                     (try clear hb2)
                     (try clear hk)
                     (try clear hi)
                     refine hK.out _ _ ⟨(jAb BK408.out 0).trans rfl, (jAb BK408.out 1).trans rfl, (jAb BK408.out 2).trans rfl, (jAb BK408.out 3).trans rfl, (jAb BK408.out 4).trans rfl, (jAb BK408.out 5).trans rfl⟩ (fun hHeld => ?_)
                     clear hK K
                     refine norm_ (a' := ?_) ?_ ?_
                     rotate_left
                     ·show Act.put _ (some 51) _ = _
                      simp only [Act.put, List.setIfInBounds_toArray, List.set_cons_zero, List.set_cons_succ, i64_w, i32_w]
                      rfl
                     refine pure_ (i := 4) (N := some 52) (v := ?_) (a' := ?_) #[true, true, true, true, true, true, true, false, false, true, true, false, false, true, true, false, false, true, true, false, false, true, true, false, false, false] rfl rfl (jCc HT_.out (by kernel_rfl)) (fun _ _ _ h => h) (Or.inl ⟨by rfl, ?_⟩) ?_ ?_
                     rotate_left
                     ·intro w'
                      go_simp
                      with_reducible rfl
                     rotate_left
                     ·simp only [Act.put, List.setIfInBounds_toArray, List.set_cons_zero, List.set_cons_succ, i64_w, i32_w]
                      rfl
                     refine one_ (i := 7) (N := some 55) #[true, true, true, true, true, true, true, true, false, true, true, false, false, true, true, false, false, true, true, false, false, true, true, false, false, false] rfl rfl (jCu HT_.out (by kernel_rfl)) (by decide) (fun K hK => ?_)
                     refine goes_ Tryd.func72 (by kernel_rfl) rfl #[.string ((jBn ((jAl l0_1 x23_1).f2) x44_2).f4)] (by rfl) rfl rfl (by (try simp only [List.map_toArray, List.map_cons, List.map_nil]); first | done | rfl | (simp only [List.length_drop, List.length_take]; rfl)) ?_
                     with_reducible refine (jBt.calls k2 ((jBn ((jAl l0_1 x23_1).f2) x44_2).f4) t410 _ A33.out).mono ?_
                     rintro e w50 ⟨rfl, hb⟩
                     refine ⟨_, rfl, ?_⟩
                     have n0_ := jAa.mk (jAp (g := gb399) (o := .cells #[.int .i64 a0_0, .slice (some ad402) l0_1.length c0_1, .slice A0_2 l0_2.length c0_2] 25 (0, 0)) (by (with_reducible repeat (first | refine jAf ?_ _ | refine jAi ?_ | refine jAe ?_ _)); exact BK399.out) hb)
                     have n1_ := jAa.mk (jAp (g := gb403) (o := .cells #[.string ((jAl l0_1 x23_1).f0), .int .i64 ((jAl l0_1 x23_1).f1), .slice (some ad407) ((jAl l0_1 x23_1).f2).length c402_2, .slice A402_3 ((jAl l0_1 x23_1).f3).length c402_3] 45 (0, 0)) (by (with_reducible repeat (first | refine jAf ?_ _ | refine jAi ?_ | refine jAe ?_ _)); exact BK403.out) hb)
                     have n2_ := jAa.mk (jAp (g := gb408) (o := .cells #[.string ((jBn ((jAl l0_1 x23_1).f2) x44_2).f0), .int .i64 ((jBn ((jAl l0_1 x23_1).f2) x44_2).f1), .bool ((jBn ((jAl l0_1 x23_1).f2) x44_2).f2), .bool ((jBn ((jAl l0_1 x23_1).f2) x44_2).f3), .string ((jBn ((jAl l0_1 x23_1).f2) x44_2).f4), .int .i64 ((jBn ((jAl l0_1 x23_1).f2) x44_2).f5)] 59 (0, 0)) (by (with_reducible repeat (first | refine jAf ?_ _ | refine jAi ?_ | refine jAe ?_ _)); exact BK408.out) hb)
                     have n3_ := jAa.mk (jAu (by repeat (first | (with_reducible first | exact HB.out | apply jAj | apply jAd | apply jAk | refine jAh ?_ GE399.out | refine jAh ?_ GE403.out | refine jAh ?_ GE408.out) | exact HB.out)) hb)
                     clear BK399
                     clear BK403
                     clear BK408
                     clear HB
                     have BK399 := n0_
                     have BK403 := n1_
                     have BK408 := n2_
                     have HB := n3_
                     clear n0_ n1_ n2_ n3_
                     (try clear hb)
                     (try clear hb2)
                     (try clear hk)
                     (try clear hi)
                     refine hK.out _ _ ⟨(jAb BK408.out 0).trans rfl, (jAb BK408.out 1).trans rfl, (jAb BK408.out 2).trans rfl, (jAb BK408.out 3).trans rfl, (jAb BK408.out 4).trans rfl, (jAb BK408.out 5).trans rfl⟩ (fun hHeld => ?_)
                     clear hK K
                     refine norm_ (a' := ?_) ?_ ?_
                     rotate_left
                     ·show Act.put _ (some 55) _ = _
                      simp only [Act.put, List.setIfInBounds_toArray, List.set_cons_zero, List.set_cons_succ, i64_w, i32_w]
                      rfl
                     refine pure_ (i := 8) (N := some 56) (v := ?_) (a' := ?_) #[true, true, true, true, true, true, true, true, true, true, true, false, false, true, true, false, false, true, true, false, false, true, true, false, false, false] rfl rfl (jCc HT_.out (by kernel_rfl)) (fun _ _ _ h => h) (Or.inl ⟨by rfl, ?_⟩) ?_ ?_
                     rotate_left
                     ·intro w'
                      go_simp
                      with_reducible rfl
                     rotate_left
                     ·simp only [Act.put, List.setIfInBounds_toArray, List.set_cons_zero, List.set_cons_succ, i64_w, i32_w]
                      rfl
                     refine one_ (i := 11) (N := some 59) #[true, true, true, true, true, true, true, true, true, true, true, true, false, true, true, false, false, true, true, false, false, true, true, false, false, false] rfl rfl (jCu HT_.out (by kernel_rfl)) (by decide) (fun K hK => ?_)
                     refine goes_ Tryd.func71 (by kernel_rfl) rfl #[.int .i64 ((jBn ((jAl l0_1 x23_1).f2) x44_2).f1)] (by rfl) rfl rfl (by (try simp only [List.map_toArray, List.map_cons, List.map_nil]); first | done | rfl | (simp only [List.length_drop, List.length_take]; rfl)) ?_
                     with_reducible refine (jAr.calls k2 ((jBn ((jAl l0_1 x23_1).f2) x44_2).f1) t411 _ A35.out).mono ?_
                     rintro e w51 ⟨rfl, hb⟩
                     refine ⟨_, rfl, ?_⟩
                     have n0_ := jAa.mk (jAp (g := gb399) (o := .cells #[.int .i64 a0_0, .slice (some ad402) l0_1.length c0_1, .slice A0_2 l0_2.length c0_2] 25 (0, 0)) (by (with_reducible repeat (first | refine jAf ?_ _ | refine jAi ?_ | refine jAe ?_ _)); exact BK399.out) hb)
                     have n1_ := jAa.mk (jAp (g := gb403) (o := .cells #[.string ((jAl l0_1 x23_1).f0), .int .i64 ((jAl l0_1 x23_1).f1), .slice (some ad407) ((jAl l0_1 x23_1).f2).length c402_2, .slice A402_3 ((jAl l0_1 x23_1).f3).length c402_3] 45 (0, 0)) (by (with_reducible repeat (first | refine jAf ?_ _ | refine jAi ?_ | refine jAe ?_ _)); exact BK403.out) hb)
                     have n2_ := jAa.mk (jAp (g := gb408) (o := .cells #[.string ((jBn ((jAl l0_1 x23_1).f2) x44_2).f0), .int .i64 ((jBn ((jAl l0_1 x23_1).f2) x44_2).f1), .bool ((jBn ((jAl l0_1 x23_1).f2) x44_2).f2), .bool ((jBn ((jAl l0_1 x23_1).f2) x44_2).f3), .string ((jBn ((jAl l0_1 x23_1).f2) x44_2).f4), .int .i64 ((jBn ((jAl l0_1 x23_1).f2) x44_2).f5)] 59 (0, 0)) (by (with_reducible repeat (first | refine jAf ?_ _ | refine jAi ?_ | refine jAe ?_ _)); exact BK408.out) hb)
                     have n3_ := jAa.mk (jAu (by repeat (first | (with_reducible first | exact HB.out | apply jAj | apply jAd | apply jAk | refine jAh ?_ GE399.out | refine jAh ?_ GE403.out | refine jAh ?_ GE408.out) | exact HB.out)) hb)
                     clear BK399
                     clear BK403
                     clear BK408
                     clear HB
                     have BK399 := n0_
                     have BK403 := n1_
                     have BK408 := n2_
                     have HB := n3_
                     clear n0_ n1_ n2_ n3_
                     (try clear hb)
                     (try clear hb2)
                     (try clear hk)
                     (try clear hi)
                     refine hK.out _ _ ⟨(jAb BK408.out 0).trans rfl, (jAb BK408.out 1).trans rfl, (jAb BK408.out 2).trans rfl, (jAb BK408.out 3).trans rfl, (jAb BK408.out 4).trans rfl, (jAb BK408.out 5).trans rfl⟩ (fun hHeld => ?_)
                     clear hK K
                     refine norm_ (a' := ?_) ?_ ?_
                     rotate_left
                     ·show Act.put _ (some 59) _ = _
                      simp only [Act.put, List.setIfInBounds_toArray, List.set_cons_zero, List.set_cons_succ, i64_w, i32_w]
                      rfl
                     refine pure_ (i := 12) (N := some 60) (v := ?_) (a' := ?_) #[true, true, true, true, true, true, true, true, true, true, true, true, true, true, true, false, false, true, true, false, false, true, true, false, false, false] rfl rfl (jCc HT_.out (by kernel_rfl)) (fun _ _ _ h => h) (Or.inl ⟨by rfl, ?_⟩) ?_ ?_
                     rotate_left
                     ·intro w'
                      go_simp
                      with_reducible rfl
                     rotate_left
                     ·simp only [Act.put, List.setIfInBounds_toArray, List.set_cons_zero, List.set_cons_succ, i64_w, i32_w]
                      rfl
                     refine one_ (i := 15) (N := some 63) #[true, true, true, true, true, true, true, true, true, true, true, true, true, true, true, true, false, true, true, false, false, true, true, false, false, false] rfl rfl (jCu HT_.out (by kernel_rfl)) (by decide) (fun K hK => ?_)
                     refine goes_ Tryd.func71 (by kernel_rfl) rfl #[.int .i64 ((jBn ((jAl l0_1 x23_1).f2) x44_2).f5)] (by rfl) rfl rfl (by (try simp only [List.map_toArray, List.map_cons, List.map_nil]); first | done | rfl | (simp only [List.length_drop, List.length_take]; rfl)) ?_
                     with_reducible refine (jAr.calls k2 ((jBn ((jAl l0_1 x23_1).f2) x44_2).f5) t412 _ A37.out).mono ?_
                     rintro e w52 ⟨rfl, hb⟩
                     refine ⟨_, rfl, ?_⟩
                     have n0_ := jAa.mk (jAp (g := gb399) (o := .cells #[.int .i64 a0_0, .slice (some ad402) l0_1.length c0_1, .slice A0_2 l0_2.length c0_2] 25 (0, 0)) (by (with_reducible repeat (first | refine jAf ?_ _ | refine jAi ?_ | refine jAe ?_ _)); exact BK399.out) hb)
                     have n1_ := jAa.mk (jAp (g := gb403) (o := .cells #[.string ((jAl l0_1 x23_1).f0), .int .i64 ((jAl l0_1 x23_1).f1), .slice (some ad407) ((jAl l0_1 x23_1).f2).length c402_2, .slice A402_3 ((jAl l0_1 x23_1).f3).length c402_3] 45 (0, 0)) (by (with_reducible repeat (first | refine jAf ?_ _ | refine jAi ?_ | refine jAe ?_ _)); exact BK403.out) hb)
                     have n2_ := jAa.mk (jAp (g := gb408) (o := .cells #[.string ((jBn ((jAl l0_1 x23_1).f2) x44_2).f0), .int .i64 ((jBn ((jAl l0_1 x23_1).f2) x44_2).f1), .bool ((jBn ((jAl l0_1 x23_1).f2) x44_2).f2), .bool ((jBn ((jAl l0_1 x23_1).f2) x44_2).f3), .string ((jBn ((jAl l0_1 x23_1).f2) x44_2).f4), .int .i64 ((jBn ((jAl l0_1 x23_1).f2) x44_2).f5)] 59 (0, 0)) (by (with_reducible repeat (first | refine jAf ?_ _ | refine jAi ?_ | refine jAe ?_ _)); exact BK408.out) hb)
                     have n3_ := jAa.mk (jAu (by repeat (first | (with_reducible first | exact HB.out | apply jAj | apply jAd | apply jAk | refine jAh ?_ GE399.out | refine jAh ?_ GE403.out | refine jAh ?_ GE408.out) | exact HB.out)) hb)
                     clear BK399
                     clear BK403
                     clear BK408
                     clear HB
                     have BK399 := n0_
                     have BK403 := n1_
                     have BK408 := n2_
                     have HB := n3_
                     clear n0_ n1_ n2_ n3_
                     (try clear hb)
                     (try clear hb2)
                     (try clear hk)
                     (try clear hi)
                     refine hK.out _ _ ⟨(jAb BK408.out 0).trans rfl, (jAb BK408.out 1).trans rfl, (jAb BK408.out 2).trans rfl, (jAb BK408.out 3).trans rfl, (jAb BK408.out 4).trans rfl, (jAb BK408.out 5).trans rfl⟩ (fun hHeld => ?_)
                     clear hK K
                     refine norm_ (a' := ?_) ?_ ?_
                     rotate_left
                     ·show Act.put _ (some 63) _ = _
                      simp only [Act.put, List.setIfInBounds_toArray, List.set_cons_zero, List.set_cons_succ, i64_w, i32_w]
                      rfl
                     refine pure_ (i := 16) (N := some 64) (v := ?_) (a' := ?_) #[true, true, true, true, true, true, true, true, true, true, true, true, true, true, true, true, true, true, true, false, false, true, true, false, false, false] rfl rfl (jCc HT_.out (by kernel_rfl)) (fun _ _ _ h => h) (Or.inl ⟨by rfl, ?_⟩) ?_ ?_
                     rotate_left
                     ·intro w'
                      go_simp
                      with_reducible rfl
                     rotate_left
                     ·simp only [Act.put, List.setIfInBounds_toArray, List.set_cons_zero, List.set_cons_succ, i64_w, i32_w]
                      rfl
                     refine one_ (i := 19) (N := some 67) #[true, true, true, true, true, true, true, true, true, true, true, true, true, true, true, true, true, true, true, true, false, true, true, false, false, false] rfl rfl (jCu HT_.out (by kernel_rfl)) (by decide) (fun K hK => ?_)
                     refine goes_ Tryd.func73 (by kernel_rfl) rfl #[.bool ((jBn ((jAl l0_1 x23_1).f2) x44_2).f2)] (by rfl) rfl rfl (by (try simp only [List.map_toArray, List.map_cons, List.map_nil]); first | done | rfl | (simp only [List.length_drop, List.length_take]; rfl)) ?_
                     with_reducible refine (jBs.calls k2 ((jBn ((jAl l0_1 x23_1).f2) x44_2).f2) t413 _ A39.out).mono ?_
                     rintro e w53 ⟨rfl, hb⟩
                     refine ⟨_, rfl, ?_⟩
                     have n0_ := jAa.mk (jAp (g := gb399) (o := .cells #[.int .i64 a0_0, .slice (some ad402) l0_1.length c0_1, .slice A0_2 l0_2.length c0_2] 25 (0, 0)) (by (with_reducible repeat (first | refine jAf ?_ _ | refine jAi ?_ | refine jAe ?_ _)); exact BK399.out) hb)
                     have n1_ := jAa.mk (jAp (g := gb403) (o := .cells #[.string ((jAl l0_1 x23_1).f0), .int .i64 ((jAl l0_1 x23_1).f1), .slice (some ad407) ((jAl l0_1 x23_1).f2).length c402_2, .slice A402_3 ((jAl l0_1 x23_1).f3).length c402_3] 45 (0, 0)) (by (with_reducible repeat (first | refine jAf ?_ _ | refine jAi ?_ | refine jAe ?_ _)); exact BK403.out) hb)
                     have n2_ := jAa.mk (jAp (g := gb408) (o := .cells #[.string ((jBn ((jAl l0_1 x23_1).f2) x44_2).f0), .int .i64 ((jBn ((jAl l0_1 x23_1).f2) x44_2).f1), .bool ((jBn ((jAl l0_1 x23_1).f2) x44_2).f2), .bool ((jBn ((jAl l0_1 x23_1).f2) x44_2).f3), .string ((jBn ((jAl l0_1 x23_1).f2) x44_2).f4), .int .i64 ((jBn ((jAl l0_1 x23_1).f2) x44_2).f5)] 59 (0, 0)) (by (with_reducible repeat (first | refine jAf ?_ _ | refine jAi ?_ | refine jAe ?_ _)); exact BK408.out) hb)
                     have n3_ := jAa.mk (jAu (by repeat (first | (with_reducible first | exact HB.out | apply jAj | apply jAd | apply jAk | refine jAh ?_ GE399.out | refine jAh ?_ GE403.out | refine jAh ?_ GE408.out) | exact HB.out)) hb)
                     clear BK399
                     clear BK403
                     clear BK408
                     clear HB
                     have BK399 := n0_
                     have BK403 := n1_
                     have BK408 := n2_
                     have HB := n3_
                     clear n0_ n1_ n2_ n3_
                     (try clear hb)
                     (try clear hb2)
                     (try clear hk)
                     (try clear hi)
                     refine hK.out _ _ ⟨(jAb BK408.out 0).trans rfl, (jAb BK408.out 1).trans rfl, (jAb BK408.out 2).trans rfl, (jAb BK408.out 3).trans rfl, (jAb BK408.out 4).trans rfl, (jAb BK408.out 5).trans rfl⟩ (fun hHeld => ?_)
                     clear hK K
                     refine norm_ (a' := ?_) ?_ ?_
                     rotate_left
                     ·show Act.put _ (some 67) _ = _
                      simp only [Act.put, List.setIfInBounds_toArray, List.set_cons_zero, List.set_cons_succ, i64_w, i32_w]
                      rfl
                     refine pure_ (i := 20) (N := some 68) (v := ?_) (a' := ?_) #[true, true, true, true, true, true, true, true, true, true, true, true, true, true, true, true, true, true, true, true, true, true, true, false, false, false] rfl rfl (jCc HT_.out (by kernel_rfl)) (fun _ _ _ h => h) (Or.inl ⟨by rfl, ?_⟩) ?_ ?_
                     rotate_left
                     ·intro w'
                      go_simp
                      with_reducible rfl
                     rotate_left
                     ·simp only [Act.put, List.setIfInBounds_toArray, List.set_cons_zero, List.set_cons_succ, i64_w, i32_w]
                      rfl
                     refine one_ (i := 23) (N := some 71) #[true, true, true, true, true, true, true, true, true, true, true, true, true, true, true, true, true, true, true, true, true, true, true, true, false, false] rfl rfl (jCu HT_.out (by kernel_rfl)) (by decide) (fun K hK => ?_)
                     refine goes_ Tryd.func73 (by kernel_rfl) rfl #[.bool ((jBn ((jAl l0_1 x23_1).f2) x44_2).f3)] (by rfl) rfl rfl (by (try simp only [List.map_toArray, List.map_cons, List.map_nil]); first | done | rfl | (simp only [List.length_drop, List.length_take]; rfl)) ?_
                     with_reducible refine (jBs.calls k2 ((jBn ((jAl l0_1 x23_1).f2) x44_2).f3) t414 _ A41.out).mono ?_
                     rintro e w54 ⟨rfl, hb⟩
                     refine ⟨_, rfl, ?_⟩
                     have n0_ := jAa.mk (jAp (g := gb399) (o := .cells #[.int .i64 a0_0, .slice (some ad402) l0_1.length c0_1, .slice A0_2 l0_2.length c0_2] 25 (0, 0)) (by (with_reducible repeat (first | refine jAf ?_ _ | refine jAi ?_ | refine jAe ?_ _)); exact BK399.out) hb)
                     have n1_ := jAa.mk (jAp (g := gb403) (o := .cells #[.string ((jAl l0_1 x23_1).f0), .int .i64 ((jAl l0_1 x23_1).f1), .slice (some ad407) ((jAl l0_1 x23_1).f2).length c402_2, .slice A402_3 ((jAl l0_1 x23_1).f3).length c402_3] 45 (0, 0)) (by (with_reducible repeat (first | refine jAf ?_ _ | refine jAi ?_ | refine jAe ?_ _)); exact BK403.out) hb)
                     have n2_ := jAa.mk (jAp (g := gb408) (o := .cells #[.string ((jBn ((jAl l0_1 x23_1).f2) x44_2).f0), .int .i64 ((jBn ((jAl l0_1 x23_1).f2) x44_2).f1), .bool ((jBn ((jAl l0_1 x23_1).f2) x44_2).f2), .bool ((jBn ((jAl l0_1 x23_1).f2) x44_2).f3), .string ((jBn ((jAl l0_1 x23_1).f2) x44_2).f4), .int .i64 ((jBn ((jAl l0_1 x23_1).f2) x44_2).f5)] 59 (0, 0)) (by (with_reducible repeat (first | refine jAf ?_ _ | refine jAi ?_ | refine jAe ?_ _)); exact BK408.out) hb)
                     have n3_ := jAa.mk (jAu (by repeat (first | (with_reducible first | exact HB.out | apply jAj | apply jAd | apply jAk | refine jAh ?_ GE399.out | refine jAh ?_ GE403.out | refine jAh ?_ GE408.out) | exact HB.out)) hb)
                     clear BK399
                     clear BK403
                     clear BK408
                     clear HB
                     have BK399 := n0_
                     have BK403 := n1_
                     have BK408 := n2_
                     have HB := n3_
                     clear n0_ n1_ n2_ n3_
                     (try clear hb)
                     (try clear hb2)
                     (try clear hk)
                     (try clear hi)
                     refine hK.out _ _ ⟨(jAb BK408.out 0).trans rfl, (jAb BK408.out 1).trans rfl, (jAb BK408.out 2).trans rfl, (jAb BK408.out 3).trans rfl, (jAb BK408.out 4).trans rfl, (jAb BK408.out 5).trans rfl⟩ (fun hHeld => ?_)
                     clear hK K
                     refine norm_ (a' := ?_) ?_ ?_
                     rotate_left
                     ·show Act.put _ (some 71) _ = _
                      simp only [Act.put, List.setIfInBounds_toArray, List.set_cons_zero, List.set_cons_succ, i64_w, i32_w]
                      rfl
                     refine pure_ (i := 24) (N := some 72) (v := ?_) (a' := ?_) #[true, true, true, true, true, true, true, true, true, true, true, true, true, true, true, true, true, true, true, true, true, true, true, true, true, false] rfl rfl (jCc HT_.out (by kernel_rfl)) (fun _ _ _ h => h) (Or.inl ⟨by rfl, ?_⟩) ?_ ?_
                     rotate_left
                     ·intro w'
                      go_simp
                      with_reducible rfl
                     rotate_left
                     ·simp only [Act.put, List.setIfInBounds_toArray, List.set_cons_zero, List.set_cons_succ, i64_w, i32_w]
                      rfl
                     refine pure_ (i := 25) (N := some 3) (v := ?_) (a' := ?_) #[true, true, true, true, true, true, true, true, true, true, true, true, true, true, true, true, true, true, true, true, true, true, true, true, true, true] rfl rfl (jCc HT_.out (by kernel_rfl)) (fun _ _ _ h => h) (Or.inl ⟨by rfl, ?_⟩) ?_ ?_
                     rotate_left
                     ·intro w'
                      go_simp
                      with_reducible rfl
                     rotate_left
                     ·simp only [Act.put, List.setIfInBounds_toArray, List.set_cons_zero, List.set_cons_succ, i64_w, i32_w]
                      rfl
                     refine done_ (jEm HT_.out (by kernel_rfl)) ?_
                     try go_wp2
                     go_roundg k2
                     case measure => have := HK1.out; have := HK2.out; omega
                     case rel => exact ⟨((((((x3_2 ++ t409) ++ t410) ++ t411) ++ t412) ++ t413) ++ t414), (wrap64 (x44_2 + 1)), (by first | rfl | (simp; done) | (simp [*]; done)), (by first | rfl | (simp; done) | (simp [*]; done)), H', ⟨by have := HK1.out; have := HK2.out; omega⟩, ⟨by (with_reducible repeat (first | refine jAf ?_ _ | refine jAi ?_ | refine jAe ?_ _)); exact BK399.out⟩, ⟨by (with_reducible repeat (first | refine jAf ?_ _ | refine jAi ?_ | refine jAe ?_ _)); exact BK403.out⟩, ⟨by repeat (first | (with_reducible first | exact HB.out | apply jAj | apply jAd | apply jAk | refine jAh ?_ GE399.out | refine jAh ?_ GE403.out | refine jAh ?_ GE408.out) | exact HB.out)⟩⟩
                    ·rw [if_neg c42] at H
                     exact absurd H (by simp)
                   ·rw [if_neg c40] at H
                    exact absurd H (by simp)
                  ·rw [if_neg c38] at H
                   exact absurd H (by simp)
                 ·rw [if_neg c36] at H
                  exact absurd H (by simp)
                ·rw [if_neg c34] at H
                 exact absurd H (by simp)
               ·rw [if_neg c32] at H
                exact absurd H (by simp)
              ·rw [if_neg c30] at H
               exact absurd H (by simp)
             ·rw [if_neg c29] at H
              exact absurd H (by simp)
            ·rw [if_neg c28] at H
             have c28b0 : decide (x44_2 < (((jAl l0_1 x23_1).f2).length : Int)) = false := decide_eq_false c28
             clear c28
             replace H := Option.bind_eq_some_iff.mp H
             obtain ⟨t415, A550, H⟩ := H
             replace H : (if x3_2.size + t415.size ≤ 9223372036854775807 then (jAo.l2 k2 (x3_2 ++ t415) l0_1 (l0_1.length : Int) x23_1 ((jAl l0_1 x23_1).f3) (((jAl l0_1 x23_1).f3).length : Int) 0 a0_0 l0_1 l0_2) else (none)) = some r := H
             have A55 := jAa.mk A550
             clear A550
             by_cases c56 : x3_2.size + t415.size ≤ 9223372036854775807
             ·rw [if_pos c56] at H
              have c56b0 := eq_true c56
              have c56b1 : decide (x3_2.size + t415.size ≤ 9223372036854775807) = true := decide_eq_true c56
              try have c56b2 : (9223372036854775807 < x3_2.size + t415.size) = False := eq_false (Nat.not_lt.2 c56)
              have H' := jAa.mk H
              clear H
              have hnb57 := NB403_399.out
              have hnc57 := NB399_403.out
              have hcz58_0 : wr.cell? ⟨gb403, 0, none⟩ = some (.string ((jAl l0_1 x23_1).f0)) := (jAb BK403.out 0).trans rfl
              have hcz58_1 : wr.cell? ⟨gb403, 1, none⟩ = some (.int .i64 ((jAl l0_1 x23_1).f1)) := (jAb BK403.out 1).trans rfl
              have hcz58_2 : wr.cell? ⟨gb403, 2, none⟩ = some (.slice A402_2 ((jAl l0_1 x23_1).f2).length c402_2) := (jAb BK403.out 2).trans rfl
              have hcz58_3 : wr.cell? ⟨gb403, 3, none⟩ = some (.slice A402_3 ((jAl l0_1 x23_1).f3).length c402_3) := (jAb BK403.out 3).trans rfl
              have hfz58_0 := jAg BK403.out 0
              have hfz58_1 := jAg BK403.out 1
              have hfz58_2 := jAg BK403.out 2
              have hfz58_3 := jAg BK403.out 3
              go_wp2_with (first | ((with_reducible refine jBl (f := 71) rfl ?_); refine jCe (some 78) rfl rfl Tryd.func71 (by kernel_rfl) rfl #[.int .i64 (((jAl l0_1 x23_1).f3).length : Int)] rfl (by (try simp only [List.map_toArray, List.map_cons, List.map_nil]); first | done | rfl | (simp only [List.length_drop, List.length_take]; rfl)) ?_; (with_reducible refine (jAr.calls k2 (((jAl l0_1 x23_1).f3).length : Int) t415 _ A55.out).mono ?_); rintro e w59 ⟨rfl, hb⟩; refine ⟨_, rfl, ?_⟩; have n0_ := jAa.mk (jAp (g := gb399) (o := .cells #[.int .i64 a0_0, .slice (some ad402) l0_1.length c0_1, .slice A0_2 l0_2.length c0_2] 25 (0, 0)) (by (with_reducible repeat (first | refine jAf ?_ _ | refine jAi ?_ | refine jAe ?_ _)); exact BK399.out) hb); have n1_ := jAa.mk (jAp (g := gb403) (o := .cells #[.string ((jAl l0_1 x23_1).f0), .int .i64 ((jAl l0_1 x23_1).f1), .slice A402_2 ((jAl l0_1 x23_1).f2).length c402_2, .slice A402_3 ((jAl l0_1 x23_1).f3).length c402_3] 45 (0, 0)) (by (with_reducible repeat (first | refine jAf ?_ _ | refine jAi ?_ | refine jAe ?_ _)); exact BK403.out) hb); have n2_ := jAa.mk (jAu (by repeat (first | (with_reducible first | exact HB.out | apply jAj | apply jAd | apply jAk | refine jAh ?_ GE399.out | refine jAh ?_ GE403.out) | exact HB.out)) hb); clear BK399; clear BK403; clear HB; have BK399 := n0_; have BK403 := n1_; have HB := n2_; clear n0_ n1_ n2_; (try clear hb); (try clear hb2); (try clear hk); (try clear hi); have hcz60_0 : w59.cell? ⟨gb403, 0, none⟩ = some (.string ((jAl l0_1 x23_1).f0)) := (jAb BK403.out 0).trans rfl; have hcz60_1 : w59.cell? ⟨gb403, 1, none⟩ = some (.int .i64 ((jAl l0_1 x23_1).f1)) := (jAb BK403.out 1).trans rfl; have hcz60_2 : w59.cell? ⟨gb403, 2, none⟩ = some (.slice A402_2 ((jAl l0_1 x23_1).f2).length c402_2) := (jAb BK403.out 2).trans rfl; have hcz60_3 : w59.cell? ⟨gb403, 3, none⟩ = some (.slice A402_3 ((jAl l0_1 x23_1).f3).length c402_3) := (jAb BK403.out 3).trans rfl; have hfz60_0 := jAg BK403.out 0; have hfz60_1 := jAg BK403.out 1; have hfz60_2 := jAg BK403.out 2; have hfz60_3 := jAg BK403.out 3))
              go_loopg [3, 83] k2 (fun kq v3 v83 w' => ∃ (x3_3 : ByteArray) (x83_3 : Int), v3 = .string x3_3 ∧ v83 = .int .i64 x83_3 ∧ jAa (jAo.l2 kq x3_3 l0_1 (l0_1.length : Int) x23_1 ((jAl l0_1 x23_1).f3) (((jAl l0_1 x23_1).f3).length : Int) x83_3 a0_0 l0_1 l0_2 = some r) ∧ jAa (kq ≤ k2) ∧ jAa (w'.heap[gb399]? = some (.cells #[.int .i64 a0_0, (.slice (some ad402) l0_1.length c0_1), (.slice A0_2 l0_2.length c0_2)] 25 (0, 0))) ∧ jAa (w'.heap[gb403]? = some (.cells #[.string ((jAl l0_1 x23_1).f0), .int .i64 ((jAl l0_1 x23_1).f1), (.slice A402_2 ((jAl l0_1 x23_1).f2).length c402_2), (.slice A402_3 ((jAl l0_1 x23_1).f3).length c402_3)] 45 (0, 0))) ∧ jAa (Below w.heap.size w w'))
              case atStart => exact ⟨(x3_2 ++ t415), (0), (by first | rfl | (simp; done) | (simp [*]; done)), (by first | rfl | (simp; done) | (simp [*]; done)), H', ⟨Nat.le_refl _⟩, ⟨by (with_reducible repeat (first | refine jAf ?_ _ | refine jAi ?_ | refine jAe ?_ _)); exact BK399.out⟩, ⟨by (with_reducible repeat (first | refine jAf ?_ _ | refine jAi ?_ | refine jAe ?_ _)); exact BK403.out⟩, ⟨by repeat (first | (with_reducible first | exact HB.out | apply jAj | apply jAd | apply jAk | refine jAh ?_ GE399.out | refine jAh ?_ GE403.out) | exact HB.out)⟩⟩
              case round =>
               clear H'
               try clear c1
               try clear c2
               try clear p2
               try clear c3
               try clear c4
               try clear c4b0
               try clear c4b1
               try clear c4b2
               try clear p4
               try clear q4
               try clear hx4
               try clear c5
               try clear p6
               try clear c7
               try clear c10
               try clear c10b0
               try clear c11
               try clear c11b0
               try clear c12
               try clear c12b0
               try clear c14
               try clear c14b0
               try clear c14b1
               try clear c14b2
               try clear c16
               try clear c16b0
               try clear c16b1
               try clear c16b2
               try clear c18
               try clear c18b0
               try clear c18b1
               try clear c18b2
               try clear c20
               try clear c28
               try clear c28b0
               try clear c29
               try clear c29b0
               try clear c30
               try clear c30b0
               try clear c32
               try clear c32b0
               try clear c32b1
               try clear c32b2
               try clear c34
               try clear c34b0
               try clear c34b1
               try clear c34b2
               try clear c36
               try clear c36b0
               try clear c36b1
               try clear c36b2
               try clear c38
               try clear c38b0
               try clear c38b1
               try clear c38b2
               try clear c40
               try clear c40b0
               try clear c40b1
               try clear c40b2
               try clear p40
               try clear q40
               try clear hx40
               try clear c42
               try clear c42b0
               try clear c42b1
               try clear c42b2
               try clear c44
               try clear c45
               try clear c56
               try clear c56b0
               try clear c56b1
               try clear c56b2
               try clear c57
               try clear hcz21_0
               try clear hcz21_1
               try clear hcz21_2
               try clear hcz21_3
               try clear hcz27_0
               try clear hcz27_1
               try clear hcz27_2
               try clear hcz27_3
               try clear hcz46_0
               try clear hcz46_1
               try clear hcz46_2
               try clear hcz46_3
               try clear hcz46_4
               try clear hcz46_5
               try clear hcz58_0
               try clear hcz58_1
               try clear hcz58_2
               try clear hcz58_3
               try clear hcz60_0
               try clear hcz60_1
               try clear hcz60_2
               try clear hcz60_3
               try clear hcz9_0
               try clear hcz9_1
               try clear hcz9_2
               try clear hfz21_0
               try clear hfz21_1
               try clear hfz21_2
               try clear hfz21_3
               try clear hfz27_0
               try clear hfz27_1
               try clear hfz27_2
               try clear hfz27_3
               try clear hfz46_0
               try clear hfz46_1
               try clear hfz46_2
               try clear hfz46_3
               try clear hfz46_4
               try clear hfz46_5
               try clear hfz58_0
               try clear hfz58_1
               try clear hfz58_2
               try clear hfz58_3
               try clear hfz60_0
               try clear hfz60_1
               try clear hfz60_2
               try clear hfz60_3
               try clear hfz9_0
               try clear hfz9_1
               try clear hfz9_2
               try clear hx402_0
               try clear hx402_1
               try clear hx402_2
               try clear hx402_3
               try clear hx407_0
               try clear hx407_1
               try clear hx407_2
               try clear hx407_3
               try clear hx407_4
               try clear hx407_5
               try clear p2
               try clear p4
               try clear p402
               try clear p407
               try clear q4
               try clear q402
               try clear q407
               obtain ⟨x3_3, x83_3, rfl, rfl, HA, HK3, BK399, BK403, HB⟩ := hrel
               cases gk with
               | zero => exact absurd HA.out (by simp [jAo.l2])
               | succ k3 =>
                have H := HA.out
                clear HA
                simp only [jAo.l2] at H
                by_cases c61 : x83_3 < (((jAl l0_1 x23_1).f3).length : Int)
                ·rw [if_pos c61] at H
                 have c61b0 : decide (x83_3 < (((jAl l0_1 x23_1).f3).length : Int)) = true := decide_eq_true c61
                 clear c61
                 by_cases c62 : 0 ≤ x83_3
                 ·rw [if_pos c62] at H
                  have c62b0 : decide (0 ≤ x83_3) = true := decide_eq_true c62
                  clear c62
                  by_cases c63 : x83_3 < (((jAl l0_1 x23_1).f3).length : Int)
                  ·rw [if_pos c63] at H
                   have c63b0 : decide (x83_3 < (((jAl l0_1 x23_1).f3).length : Int)) = true := decide_eq_true c63
                   clear c63
                   replace H := Option.bind_eq_some_iff.mp H
                   obtain ⟨t418, A640, H⟩ := H
                   replace H : (if x3_3.size + t418.size ≤ 9223372036854775807 then (jAo.l2 k3 (x3_3 ++ t418) l0_1 (l0_1.length : Int) x23_1 ((jAl l0_1 x23_1).f3) (((jAl l0_1 x23_1).f3).length : Int) (wrap64 (x83_3 + 1)) a0_0 l0_1 l0_2) else (none)) = some r := H
                   have A64 := jAa.mk A640
                   clear A640
                   by_cases c65 : x3_3.size + t418.size ≤ 9223372036854775807
                   ·rw [if_pos c65] at H
                    have c65b0 := eq_true c65
                    have c65b1 : decide (x3_3.size + t418.size ≤ 9223372036854775807) = true := decide_eq_true c65
                    try have c65b2 : (9223372036854775807 < x3_3.size + t418.size) = False := eq_false (Nat.not_lt.2 c65)
                    have H' := jAa.mk H
                    clear H
                    have p416 : 0 ≤ (x83_3 : Int) := of_decide_eq_true (by first | (with_reducible assumption) | assumption)
                    have q416 : x83_3 < (((jAl l0_1 x23_1).f3).length : Int) := of_decide_eq_true (by first | (with_reducible assumption) | assumption)
                    obtain ⟨ad416, A416_5, c416_5, e416, hx416_0, hx416_1, hx416_2, hx416_3, hx416_4, hx416_5, hl416_5, hi416_5⟩ := jDx HR402_3.out x83_3 p416 q416
                    cases e416
                    replace hx416_0 := (HB.out.cell (World.block_lt_of_cell? w _ hx416_0)).trans hx416_0
                    replace hx416_1 := (HB.out.cell (World.block_lt_of_cell? w _ hx416_1)).trans hx416_1
                    replace hx416_2 := (HB.out.cell (World.block_lt_of_cell? w _ hx416_2)).trans hx416_2
                    replace hx416_3 := (HB.out.cell (World.block_lt_of_cell? w _ hx416_3)).trans hx416_3
                    replace hx416_4 := (HB.out.cell (World.block_lt_of_cell? w _ hx416_4)).trans hx416_4
                    replace hx416_5 := (HB.out.cell (World.block_lt_of_cell? w _ hx416_5)).trans hx416_5
                    have HR416_5 := jAa.mk hi416_5
                    have HC416_5 := jAa.mk hl416_5
                    clear hi416_5 hl416_5
                    replace p416 := eq_true p416
                    replace q416 := eq_true q416
                    go_wp2_with (first | ((with_reducible refine jCa (N := 9) rfl ?_); refine jBv ?hg (N := 9) ?hd (cs := #[.int .i64 0, .int .i64 0, .int .i64 0, .int .i64 0, .string (⟨#[]⟩ : ByteArray), .slice none 0 0]) (t := 72) ?hr ?_; (case hd => rfl); (case hg => rfl); (case hr => first | (go_simp; done) | (go_simp; rfl)); intro gb417 hg w66 hbox hb; have n0_ := jAa.mk (jAp (g := gb399) (o := .cells #[.int .i64 a0_0, .slice (some ad402) l0_1.length c0_1, .slice A0_2 l0_2.length c0_2] 25 (0, 0)) (by (with_reducible repeat (first | refine jAf ?_ _ | refine jAi ?_ | refine jAe ?_ _)); exact BK399.out) hb); have n1_ := jAa.mk (jAp (g := gb403) (o := .cells #[.string ((jAl l0_1 x23_1).f0), .int .i64 ((jAl l0_1 x23_1).f1), .slice A402_2 ((jAl l0_1 x23_1).f2).length c402_2, .slice (some ad416) ((jAl l0_1 x23_1).f3).length c402_3] 45 (0, 0)) (by (with_reducible repeat (first | refine jAf ?_ _ | refine jAi ?_ | refine jAe ?_ _)); exact BK403.out) hb); have n2_ := jAa.mk (jAu (by repeat (first | (with_reducible first | exact HB.out | apply jAj | apply jAd | apply jAk | refine jAh ?_ GE399.out | refine jAh ?_ GE403.out) | exact HB.out)) hb); have n3_ := jAa.mk (hbox); have n4_ := jAa.mk ((by rw [hg]; exact (jBj (by repeat (first | (with_reducible first | exact HB.out | apply jAj | apply jAd | apply jAk | refine jAh ?_ GE399.out | refine jAh ?_ GE403.out) | exact HB.out))) : w.heap.size ≤ gb417)); have n5_ := jAa.mk ((by rw [hg]; exact (jBj (by repeat (first | (with_reducible first | exact HB.out | apply jAj | apply jAd | apply jAk | refine jAh ?_ GE399.out | refine jAh ?_ GE403.out) | exact HB.out))) : w.heap.size ≤ gb417)); have n6_ := jAa.mk ((by rw [hg]; exact Nat.ne_of_lt (jBu (g := gb399) (o := .cells #[.int .i64 a0_0, .slice (some ad402) l0_1.length c0_1, .slice A0_2 l0_2.length c0_2] 25 (0, 0)) (by (with_reducible repeat (first | refine jAf ?_ _ | refine jAi ?_ | refine jAe ?_ _)); exact BK399.out)) : gb399 ≠ gb417)); have n7_ := jAa.mk ((by rw [hg]; exact Nat.ne_of_gt (jBu (g := gb399) (o := .cells #[.int .i64 a0_0, .slice (some ad402) l0_1.length c0_1, .slice A0_2 l0_2.length c0_2] 25 (0, 0)) (by (with_reducible repeat (first | refine jAf ?_ _ | refine jAi ?_ | refine jAe ?_ _)); exact BK399.out)) : gb417 ≠ gb399)); have n8_ := jAa.mk ((by rw [hg]; exact Nat.ne_of_lt (jBu (g := gb403) (o := .cells #[.string ((jAl l0_1 x23_1).f0), .int .i64 ((jAl l0_1 x23_1).f1), .slice A402_2 ((jAl l0_1 x23_1).f2).length c402_2, .slice (some ad416) ((jAl l0_1 x23_1).f3).length c402_3] 45 (0, 0)) (by (with_reducible repeat (first | refine jAf ?_ _ | refine jAi ?_ | refine jAe ?_ _)); exact BK403.out)) : gb403 ≠ gb417)); have n9_ := jAa.mk ((by rw [hg]; exact Nat.ne_of_gt (jBu (g := gb403) (o := .cells #[.string ((jAl l0_1 x23_1).f0), .int .i64 ((jAl l0_1 x23_1).f1), .slice A402_2 ((jAl l0_1 x23_1).f2).length c402_2, .slice (some ad416) ((jAl l0_1 x23_1).f3).length c402_3] 45 (0, 0)) (by (with_reducible repeat (first | refine jAf ?_ _ | refine jAi ?_ | refine jAe ?_ _)); exact BK403.out)) : gb417 ≠ gb403)); clear BK399; clear BK403; clear HB; have BK399 := n0_; have BK403 := n1_; have HB := n2_; have BK417 := n3_; have GW417 := n4_; have GE417 := n5_; have NB399_417 := n6_; have NB417_399 := n7_; have NB403_417 := n8_; have NB417_403 := n9_; clear n0_ n1_ n2_ n3_ n4_ n5_ n6_ n7_ n8_ n9_; clear hb hbox hg; have hnb67 := NB417_399.out; have hnc67 := NB399_417.out; have hnb68 := NB417_403.out; have hnc68 := NB403_417.out; have hcz69_0 : w66.cell? ⟨gb417, 0, none⟩ = some (.int .i64 0) := (jAb BK417.out 0).trans rfl; have hcz69_1 : w66.cell? ⟨gb417, 1, none⟩ = some (.int .i64 0) := (jAb BK417.out 1).trans rfl; have hcz69_2 : w66.cell? ⟨gb417, 2, none⟩ = some (.int .i64 0) := (jAb BK417.out 2).trans rfl; have hcz69_3 : w66.cell? ⟨gb417, 3, none⟩ = some (.int .i64 0) := (jAb BK417.out 3).trans rfl; have hcz69_4 : w66.cell? ⟨gb417, 4, none⟩ = some (.string (⟨#[]⟩ : ByteArray)) := (jAb BK417.out 4).trans rfl; have hcz69_5 : w66.cell? ⟨gb417, 5, none⟩ = some (.slice none 0 0) := (jAb BK417.out 5).trans rfl; have hfz69_0 := jAg BK417.out 0; have hfz69_1 := jAg BK417.out 1; have hfz69_2 := jAg BK417.out 2; have hfz69_3 := jAg BK417.out 3; have hfz69_4 := jAg BK417.out 4; have hfz69_5 := jAg BK417.out 5) | ((with_reducible refine jBl (f := 74) rfl ?_); refine jCe (some 89) rfl rfl Tryd.func74 (by kernel_rfl) rfl #[.agg #[.int .i64 ((jAq ((jAl l0_1 x23_1).f3) x83_3).f0), .int .i64 ((jAq ((jAl l0_1 x23_1).f3) x83_3).f1), .int .i64 ((jAq ((jAl l0_1 x23_1).f3) x83_3).f2.f0), .int .i64 ((jAq ((jAl l0_1 x23_1).f3) x83_3).f2.f1), .string ((jAq ((jAl l0_1 x23_1).f3) x83_3).f2.f2), .slice A416_5 ((jAq ((jAl l0_1 x23_1).f3) x83_3).f3).length c416_5]] rfl (by (try simp only [List.map_toArray, List.map_cons, List.map_nil]); first | done | rfl | (simp only [List.length_drop, List.length_take]; rfl)) ?_; (with_reducible refine (jBc.calls k3 ((jAq ((jAl l0_1 x23_1).f3) x83_3).f0) ((jAq ((jAl l0_1 x23_1).f3) x83_3).f1) ((jAq ((jAl l0_1 x23_1).f3) x83_3).f2.f0) ((jAq ((jAl l0_1 x23_1).f3) x83_3).f2.f1) ((jAq ((jAl l0_1 x23_1).f3) x83_3).f2.f2) _ _ ((jAq ((jAl l0_1 x23_1).f3) x83_3).f3) t418 _ ?side1 ?side2 A64.out).mono ?_); (case side1 => exact Kd.C_below HR416_5.out (by repeat (first | (with_reducible first | exact HB.out | apply jAj | apply jAd | apply jAk | refine jAh ?_ GE399.out | refine jAh ?_ GE403.out | refine jAh ?_ GE417.out) | exact HB.out))); (case side2 => exact HC416_5.out); rintro e w70 ⟨rfl, hb⟩; refine ⟨_, rfl, ?_⟩; have n0_ := jAa.mk (jAp (g := gb399) (o := .cells #[.int .i64 a0_0, .slice (some ad402) l0_1.length c0_1, .slice A0_2 l0_2.length c0_2] 25 (0, 0)) (by (with_reducible repeat (first | refine jAf ?_ _ | refine jAi ?_ | refine jAe ?_ _)); refine jBa ?_ NB399_417.out _; (with_reducible repeat (first | refine jAf ?_ _ | refine jAi ?_ | refine jAe ?_ _)); refine jBa ?_ NB399_417.out _; (with_reducible repeat (first | refine jAf ?_ _ | refine jAi ?_ | refine jAe ?_ _)); refine jBa ?_ NB399_417.out _; (with_reducible repeat (first | refine jAf ?_ _ | refine jAi ?_ | refine jAe ?_ _)); refine jBa ?_ NB399_417.out _; (with_reducible repeat (first | refine jAf ?_ _ | refine jAi ?_ | refine jAe ?_ _)); refine jBa ?_ NB399_417.out _; (with_reducible repeat (first | refine jAf ?_ _ | refine jAi ?_ | refine jAe ?_ _)); refine jBa ?_ NB399_417.out _; (with_reducible repeat (first | refine jAf ?_ _ | refine jAi ?_ | refine jAe ?_ _)); exact BK399.out) hb); have n1_ := jAa.mk (jAp (g := gb403) (o := .cells #[.string ((jAl l0_1 x23_1).f0), .int .i64 ((jAl l0_1 x23_1).f1), .slice A402_2 ((jAl l0_1 x23_1).f2).length c402_2, .slice (some ad416) ((jAl l0_1 x23_1).f3).length c402_3] 45 (0, 0)) (by (with_reducible repeat (first | refine jAf ?_ _ | refine jAi ?_ | refine jAe ?_ _)); refine jBa ?_ NB403_417.out _; (with_reducible repeat (first | refine jAf ?_ _ | refine jAi ?_ | refine jAe ?_ _)); refine jBa ?_ NB403_417.out _; (with_reducible repeat (first | refine jAf ?_ _ | refine jAi ?_ | refine jAe ?_ _)); refine jBa ?_ NB403_417.out _; (with_reducible repeat (first | refine jAf ?_ _ | refine jAi ?_ | refine jAe ?_ _)); refine jBa ?_ NB403_417.out _; (with_reducible repeat (first | refine jAf ?_ _ | refine jAi ?_ | refine jAe ?_ _)); refine jBa ?_ NB403_417.out _; (with_reducible repeat (first | refine jAf ?_ _ | refine jAi ?_ | refine jAe ?_ _)); refine jBa ?_ NB403_417.out _; (with_reducible repeat (first | refine jAf ?_ _ | refine jAi ?_ | refine jAe ?_ _)); exact BK403.out) hb); have n2_ := jAa.mk (jAp (g := gb417) (o := .cells #[.int .i64 ((jAq ((jAl l0_1 x23_1).f3) x83_3).f0), .int .i64 ((jAq ((jAl l0_1 x23_1).f3) x83_3).f1), .int .i64 ((jAq ((jAl l0_1 x23_1).f3) x83_3).f2.f0), .int .i64 ((jAq ((jAl l0_1 x23_1).f3) x83_3).f2.f1), .string ((jAq ((jAl l0_1 x23_1).f3) x83_3).f2.f2), .slice A416_5 ((jAq ((jAl l0_1 x23_1).f3) x83_3).f3).length c416_5] 72 (0, 0)) (by (with_reducible repeat (first | refine jAf ?_ _ | refine jAi ?_ | refine jAe ?_ _)); refine jBf (cs := #[.int .i64 ((jAq ((jAl l0_1 x23_1).f3) x83_3).f0), .int .i64 ((jAq ((jAl l0_1 x23_1).f3) x83_3).f1), .int .i64 ((jAq ((jAl l0_1 x23_1).f3) x83_3).f2.f0), .int .i64 ((jAq ((jAl l0_1 x23_1).f3) x83_3).f2.f1), .string ((jAq ((jAl l0_1 x23_1).f3) x83_3).f2.f2), .slice none 0 0]) ?_ 5 _ rfl; (with_reducible repeat (first | refine jAf ?_ _ | refine jAi ?_ | refine jAe ?_ _)); refine jBf (cs := #[.int .i64 ((jAq ((jAl l0_1 x23_1).f3) x83_3).f0), .int .i64 ((jAq ((jAl l0_1 x23_1).f3) x83_3).f1), .int .i64 ((jAq ((jAl l0_1 x23_1).f3) x83_3).f2.f0), .int .i64 ((jAq ((jAl l0_1 x23_1).f3) x83_3).f2.f1), .string (⟨#[]⟩ : ByteArray), .slice none 0 0]) ?_ 4 _ rfl; (with_reducible repeat (first | refine jAf ?_ _ | refine jAi ?_ | refine jAe ?_ _)); refine jBf (cs := #[.int .i64 ((jAq ((jAl l0_1 x23_1).f3) x83_3).f0), .int .i64 ((jAq ((jAl l0_1 x23_1).f3) x83_3).f1), .int .i64 ((jAq ((jAl l0_1 x23_1).f3) x83_3).f2.f0), .int .i64 0, .string (⟨#[]⟩ : ByteArray), .slice none 0 0]) ?_ 3 _ rfl; (with_reducible repeat (first | refine jAf ?_ _ | refine jAi ?_ | refine jAe ?_ _)); refine jBf (cs := #[.int .i64 ((jAq ((jAl l0_1 x23_1).f3) x83_3).f0), .int .i64 ((jAq ((jAl l0_1 x23_1).f3) x83_3).f1), .int .i64 0, .int .i64 0, .string (⟨#[]⟩ : ByteArray), .slice none 0 0]) ?_ 2 _ rfl; (with_reducible repeat (first | refine jAf ?_ _ | refine jAi ?_ | refine jAe ?_ _)); refine jBf (cs := #[.int .i64 ((jAq ((jAl l0_1 x23_1).f3) x83_3).f0), .int .i64 0, .int .i64 0, .int .i64 0, .string (⟨#[]⟩ : ByteArray), .slice none 0 0]) ?_ 1 _ rfl; (with_reducible repeat (first | refine jAf ?_ _ | refine jAi ?_ | refine jAe ?_ _)); refine jBf (cs := #[.int .i64 0, .int .i64 0, .int .i64 0, .int .i64 0, .string (⟨#[]⟩ : ByteArray), .slice none 0 0]) ?_ 0 _ rfl; (with_reducible repeat (first | refine jAf ?_ _ | refine jAi ?_ | refine jAe ?_ _)); exact BK417.out) hb); have n3_ := jAa.mk (jAu (by repeat (first | (with_reducible first | exact HB.out | apply jAj | apply jAd | apply jAk | refine jAh ?_ GE399.out | refine jAh ?_ GE403.out | refine jAh ?_ GE417.out) | exact HB.out)) hb); clear BK399; clear BK403; clear BK417; clear HB; have BK399 := n0_; have BK403 := n1_; have BK417 := n2_; have HB := n3_; clear n0_ n1_ n2_ n3_; (try clear hb); (try clear hb2); (try clear hk); (try clear hi)))
                    go_roundg k3
                    case measure => have := HK1.out; have := HK2.out; have := HK3.out; omega
                    case rel => exact ⟨(x3_3 ++ t418), (wrap64 (x83_3 + 1)), (by first | rfl | (simp; done) | (simp [*]; done)), (by first | rfl | (simp; done) | (simp [*]; done)), H', ⟨by have := HK1.out; have := HK2.out; have := HK3.out; omega⟩, ⟨by (with_reducible repeat (first | refine jAf ?_ _ | refine jAi ?_ | refine jAe ?_ _)); exact BK399.out⟩, ⟨by (with_reducible repeat (first | refine jAf ?_ _ | refine jAi ?_ | refine jAe ?_ _)); exact BK403.out⟩, ⟨by repeat (first | (with_reducible first | exact HB.out | apply jAj | apply jAd | apply jAk | refine jAh ?_ GE399.out | refine jAh ?_ GE403.out | refine jAh ?_ GE417.out) | exact HB.out)⟩⟩
                   ·rw [if_neg c65] at H
                    exact absurd H (by simp)
                  ·rw [if_neg c63] at H
                   exact absurd H (by simp)
                 ·rw [if_neg c62] at H
                  exact absurd H (by simp)
                ·rw [if_neg c61] at H
                 have c61b0 : decide (x83_3 < (((jAl l0_1 x23_1).f3).length : Int)) = false := decide_eq_false c61
                 clear c61
                 have H' := jAa.mk H
                 clear H
                 go_wp2
                 go_roundg k3
                 case measure => have := HK1.out; have := HK2.out; have := HK3.out; omega
                 case rel => exact ⟨(x3_3), (wrap64 (x23_1 + 1)), (by first | rfl | (simp; done) | (simp [*]; done)), (by first | rfl | (simp; done) | (simp [*]; done)), H', ⟨by have := HK1.out; have := HK2.out; have := HK3.out; omega⟩, ⟨by (with_reducible repeat (first | refine jAf ?_ _ | refine jAi ?_ | refine jAe ?_ _)); exact BK399.out⟩, ⟨by repeat (first | (with_reducible first | exact HB.out | apply jAj | apply jAd | apply jAk | refine jAh ?_ GE399.out | refine jAh ?_ GE403.out) | exact HB.out)⟩⟩
             ·rw [if_neg c56] at H
              exact absurd H (by simp)
         ·rw [if_neg c18] at H
          exact absurd H (by simp)
        ·rw [if_neg c16] at H
         exact absurd H (by simp)
       ·rw [if_neg c14] at H
        exact absurd H (by simp)
      ·rw [if_neg c12] at H
       exact absurd H (by simp)
     ·rw [if_neg c11] at H
      exact absurd H (by simp)
    ·rw [if_neg c10] at H
     have c10b0 : decide (x23_1 < (l0_1.length : Int)) = false := decide_eq_false c10
     clear c10
     replace H := Option.bind_eq_some_iff.mp H
     obtain ⟨t419, A710, H⟩ := H
     replace H : (if x3_1.size + t419.size ≤ 9223372036854775807 then (jAo.l3 k1 (x3_1 ++ t419) l0_2 (l0_2.length : Int) 0) else (none)) = some r := H
     have A71 := jAa.mk A710
     clear A710
     by_cases c72 : x3_1.size + t419.size ≤ 9223372036854775807
     ·rw [if_pos c72] at H
      have c72b0 := eq_true c72
      have c72b1 : decide (x3_1.size + t419.size ≤ 9223372036854775807) = true := decide_eq_true c72
      try have c72b2 : (9223372036854775807 < x3_1.size + t419.size) = False := eq_false (Nat.not_lt.2 c72)
      have H' := jAa.mk H
      clear H
      have hcz73_0 : wr.cell? ⟨gb399, 0, none⟩ = some (.int .i64 a0_0) := (jAb BK399.out 0).trans rfl
      have hcz73_1 : wr.cell? ⟨gb399, 1, none⟩ = some (.slice A0_1 l0_1.length c0_1) := (jAb BK399.out 1).trans rfl
      have hcz73_2 : wr.cell? ⟨gb399, 2, none⟩ = some (.slice A0_2 l0_2.length c0_2) := (jAb BK399.out 2).trans rfl
      have hfz73_0 := jAg BK399.out 0
      have hfz73_1 := jAg BK399.out 1
      have hfz73_2 := jAg BK399.out 2
      go_wp2_with (first | ((with_reducible refine jBl (f := 71) rfl ?_); refine jCe (some 97) rfl rfl Tryd.func71 (by kernel_rfl) rfl #[.int .i64 (l0_2.length : Int)] rfl (by (try simp only [List.map_toArray, List.map_cons, List.map_nil]); first | done | rfl | (simp only [List.length_drop, List.length_take]; rfl)) ?_; (with_reducible refine (jAr.calls k1 (l0_2.length : Int) t419 _ A71.out).mono ?_); rintro e w74 ⟨rfl, hb⟩; refine ⟨_, rfl, ?_⟩; have n0_ := jAa.mk (jAp (g := gb399) (o := .cells #[.int .i64 a0_0, .slice A0_1 l0_1.length c0_1, .slice A0_2 l0_2.length c0_2] 25 (0, 0)) (by (with_reducible repeat (first | refine jAf ?_ _ | refine jAi ?_ | refine jAe ?_ _)); exact BK399.out) hb); have n1_ := jAa.mk (jAu (by repeat (first | (with_reducible first | exact HB.out | apply jAj | apply jAd | apply jAk | refine jAh ?_ GE399.out) | exact HB.out)) hb); clear BK399; clear HB; have BK399 := n0_; have HB := n1_; clear n0_ n1_; (try clear hb); (try clear hb2); (try clear hk); (try clear hi); have hcz75_0 : w74.cell? ⟨gb399, 0, none⟩ = some (.int .i64 a0_0) := (jAb BK399.out 0).trans rfl; have hcz75_1 : w74.cell? ⟨gb399, 1, none⟩ = some (.slice A0_1 l0_1.length c0_1) := (jAb BK399.out 1).trans rfl; have hcz75_2 : w74.cell? ⟨gb399, 2, none⟩ = some (.slice A0_2 l0_2.length c0_2) := (jAb BK399.out 2).trans rfl; have hfz75_0 := jAg BK399.out 0; have hfz75_1 := jAg BK399.out 1; have hfz75_2 := jAg BK399.out 2))
      go_loopg [3, 102] k1 (fun kq v3 v102 w' => ∃ (x3_2 : ByteArray) (x102_2 : Int), v3 = .string x3_2 ∧ v102 = .int .i64 x102_2 ∧ jAa (jAo.l3 kq x3_2 l0_2 (l0_2.length : Int) x102_2 = some r) ∧ jAa (kq ≤ k1) ∧ jAa (w'.heap[gb399]? = some (.cells #[.int .i64 a0_0, (.slice A0_1 l0_1.length c0_1), (.slice A0_2 l0_2.length c0_2)] 25 (0, 0))) ∧ jAa (Below w.heap.size w w'))
      case atStart => exact ⟨(x3_1 ++ t419), (0), (by first | rfl | (simp; done) | (simp [*]; done)), (by first | rfl | (simp; done) | (simp [*]; done)), H', ⟨Nat.le_refl _⟩, ⟨by (with_reducible repeat (first | refine jAf ?_ _ | refine jAi ?_ | refine jAe ?_ _)); exact BK399.out⟩, ⟨by repeat (first | (with_reducible first | exact HB.out | apply jAj | apply jAd | apply jAk | refine jAh ?_ GE399.out) | exact HB.out)⟩⟩
      case round =>
       clear H'
       try clear c1
       try clear c2
       try clear p2
       try clear c3
       try clear c4
       try clear c4b0
       try clear c4b1
       try clear c4b2
       try clear p4
       try clear q4
       try clear hx4
       try clear c5
       try clear c6
       try clear p6
       try clear c7
       try clear c10
       try clear c10b0
       try clear c11
       try clear c11b0
       try clear c12
       try clear c12b0
       try clear c14
       try clear c14b0
       try clear c14b1
       try clear c14b2
       try clear c16
       try clear c16b0
       try clear c16b1
       try clear c16b2
       try clear c18
       try clear c18b0
       try clear c18b1
       try clear c18b2
       try clear c20
       try clear c28
       try clear c28b0
       try clear c29
       try clear c29b0
       try clear c30
       try clear c30b0
       try clear c32
       try clear c32b0
       try clear c32b1
       try clear c32b2
       try clear c34
       try clear c34b0
       try clear c34b1
       try clear c34b2
       try clear c36
       try clear c36b0
       try clear c36b1
       try clear c36b2
       try clear c38
       try clear c38b0
       try clear c38b1
       try clear c38b2
       try clear c40
       try clear c40b0
       try clear c40b1
       try clear c40b2
       try clear p40
       try clear q40
       try clear hx40
       try clear c41
       try clear p41
       try clear q41
       try clear hx41
       try clear c42
       try clear c42b0
       try clear c42b1
       try clear c42b2
       try clear c44
       try clear c45
       try clear c56
       try clear c56b0
       try clear c56b1
       try clear c56b2
       try clear c57
       try clear c61
       try clear c61b0
       try clear c62
       try clear c62b0
       try clear c63
       try clear c63b0
       try clear p64
       try clear c65
       try clear c65b0
       try clear c65b1
       try clear c65b2
       try clear c67
       try clear c68
       try clear c71
       try clear c72
       try clear c72b0
       try clear c72b1
       try clear c72b2
       try clear c73
       try clear c74
       try clear hcz21_0
       try clear hcz21_1
       try clear hcz21_2
       try clear hcz21_3
       try clear hcz27_0
       try clear hcz27_1
       try clear hcz27_2
       try clear hcz27_3
       try clear hcz46_0
       try clear hcz46_1
       try clear hcz46_2
       try clear hcz46_3
       try clear hcz46_4
       try clear hcz46_5
       try clear hcz58_0
       try clear hcz58_1
       try clear hcz58_2
       try clear hcz58_3
       try clear hcz60_0
       try clear hcz60_1
       try clear hcz60_2
       try clear hcz60_3
       try clear hcz69_0
       try clear hcz69_1
       try clear hcz69_2
       try clear hcz69_3
       try clear hcz69_4
       try clear hcz69_5
       try clear hcz73_0
       try clear hcz73_1
       try clear hcz73_2
       try clear hcz75_0
       try clear hcz75_1
       try clear hcz75_2
       try clear hcz9_0
       try clear hcz9_1
       try clear hcz9_2
       try clear hfz21_0
       try clear hfz21_1
       try clear hfz21_2
       try clear hfz21_3
       try clear hfz27_0
       try clear hfz27_1
       try clear hfz27_2
       try clear hfz27_3
       try clear hfz46_0
       try clear hfz46_1
       try clear hfz46_2
       try clear hfz46_3
       try clear hfz46_4
       try clear hfz46_5
       try clear hfz58_0
       try clear hfz58_1
       try clear hfz58_2
       try clear hfz58_3
       try clear hfz60_0
       try clear hfz60_1
       try clear hfz60_2
       try clear hfz60_3
       try clear hfz69_0
       try clear hfz69_1
       try clear hfz69_2
       try clear hfz69_3
       try clear hfz69_4
       try clear hfz69_5
       try clear hfz73_0
       try clear hfz73_1
       try clear hfz73_2
       try clear hfz75_0
       try clear hfz75_1
       try clear hfz75_2
       try clear hfz9_0
       try clear hfz9_1
       try clear hfz9_2
       try clear hx402_0
       try clear hx402_1
       try clear hx402_2
       try clear hx402_3
       try clear hx407_0
       try clear hx407_1
       try clear hx407_2
       try clear hx407_3
       try clear hx407_4
       try clear hx407_5
       try clear hx416_0
       try clear hx416_1
       try clear hx416_2
       try clear hx416_3
       try clear hx416_4
       try clear hx416_5
       try clear p2
       try clear p4
       try clear p40
       try clear p402
       try clear p407
       try clear p416
       try clear p6
       try clear q4
       try clear q40
       try clear q402
       try clear q407
       try clear q416
       obtain ⟨x3_2, x102_2, rfl, rfl, HA, HK2, BK399, HB⟩ := hrel
       cases gk with
       | zero => exact absurd HA.out (by simp [jAo.l3])
       | succ k2 =>
        have H := HA.out
        clear HA
        simp only [jAo.l3] at H
        by_cases c76 : x102_2 < (l0_2.length : Int)
        ·rw [if_pos c76] at H
         have c76b0 : decide (x102_2 < (l0_2.length : Int)) = true := decide_eq_true c76
         clear c76
         by_cases c77 : 0 ≤ x102_2
         ·rw [if_pos c77] at H
          have c77b0 : decide (0 ≤ x102_2) = true := decide_eq_true c77
          clear c77
          by_cases c78 : x102_2 < (l0_2.length : Int)
          ·rw [if_pos c78] at H
           have c78b0 : decide (x102_2 < (l0_2.length : Int)) = true := decide_eq_true c78
           clear c78
           replace H := Option.bind_eq_some_iff.mp H
           obtain ⟨t422, A790, H⟩ := H
           replace H : (if x3_2.size + t422.size ≤ 9223372036854775807 then ((jAr.f k2 ((jCf l0_2 x102_2).f2)).bind fun t423 => (if (x3_2 ++ t422).size + t423.size ≤ 9223372036854775807 then ((jBt.f k2 ((jCf l0_2 x102_2).f1)).bind fun t424 => (if ((x3_2 ++ t422) ++ t423).size + t424.size ≤ 9223372036854775807 then (jAo.l3 k2 (((x3_2 ++ t422) ++ t423) ++ t424) l0_2 (l0_2.length : Int) (wrap64 (x102_2 + 1))) else (none))) else (none))) else (none)) = some r := H
           have A79 := jAa.mk A790
           clear A790
           by_cases c80 : x3_2.size + t422.size ≤ 9223372036854775807
           ·rw [if_pos c80] at H
            have c80b0 := eq_true c80
            have c80b1 : decide (x3_2.size + t422.size ≤ 9223372036854775807) = true := decide_eq_true c80
            try have c80b2 : (9223372036854775807 < x3_2.size + t422.size) = False := eq_false (Nat.not_lt.2 c80)
            replace H := Option.bind_eq_some_iff.mp H
            obtain ⟨t423, A810, H⟩ := H
            replace H : (if (x3_2 ++ t422).size + t423.size ≤ 9223372036854775807 then ((jBt.f k2 ((jCf l0_2 x102_2).f1)).bind fun t424 => (if ((x3_2 ++ t422) ++ t423).size + t424.size ≤ 9223372036854775807 then (jAo.l3 k2 (((x3_2 ++ t422) ++ t423) ++ t424) l0_2 (l0_2.length : Int) (wrap64 (x102_2 + 1))) else (none))) else (none)) = some r := H
            have A81 := jAa.mk A810
            clear A810
            by_cases c82 : (x3_2 ++ t422).size + t423.size ≤ 9223372036854775807
            ·rw [if_pos c82] at H
             have c82b0 := eq_true c82
             have c82b1 : decide ((x3_2 ++ t422).size + t423.size ≤ 9223372036854775807) = true := decide_eq_true c82
             try have c82b2 : (9223372036854775807 < (x3_2 ++ t422).size + t423.size) = False := eq_false (Nat.not_lt.2 c82)
             try (have c82b2x := c82b2; simp only [ByteArray.size_append] at c82b2x)
             replace H := Option.bind_eq_some_iff.mp H
             obtain ⟨t424, A830, H⟩ := H
             replace H : (if ((x3_2 ++ t422) ++ t423).size + t424.size ≤ 9223372036854775807 then (jAo.l3 k2 (((x3_2 ++ t422) ++ t423) ++ t424) l0_2 (l0_2.length : Int) (wrap64 (x102_2 + 1))) else (none)) = some r := H
             have A83 := jAa.mk A830
             clear A830
             by_cases c84 : ((x3_2 ++ t422) ++ t423).size + t424.size ≤ 9223372036854775807
             ·rw [if_pos c84] at H
              have c84b0 := eq_true c84
              have c84b1 : decide (((x3_2 ++ t422) ++ t423).size + t424.size ≤ 9223372036854775807) = true := decide_eq_true c84
              try have c84b2 : (9223372036854775807 < ((x3_2 ++ t422) ++ t423).size + t424.size) = False := eq_false (Nat.not_lt.2 c84)
              try (have c84b2x := c84b2; simp only [ByteArray.size_append] at c84b2x)
              have H' := jAa.mk H
              clear H
              have p420 : 0 ≤ (x102_2 : Int) := of_decide_eq_true (by first | (with_reducible assumption) | assumption)
              have q420 : x102_2 < (l0_2.length : Int) := of_decide_eq_true (by first | (with_reducible assumption) | assumption)
              obtain ⟨ad420, e420, hx420_0, hx420_1, hx420_2⟩ := at_T27 HR0_2.out x102_2 p420 q420
              cases e420
              replace hx420_0 := (HB.out.cell (World.block_lt_of_cell? w _ hx420_0)).trans hx420_0
              replace hx420_1 := (HB.out.cell (World.block_lt_of_cell? w _ hx420_1)).trans hx420_1
              replace hx420_2 := (HB.out.cell (World.block_lt_of_cell? w _ hx420_2)).trans hx420_2
              replace p420 := eq_true p420
              replace q420 := eq_true q420
              try go_wp2_with (first | ((with_reducible refine jCa (N := 11) rfl ?_); refine jBv ?hg (N := 11) ?hd (cs := #[.int .i64 0, .string (⟨#[]⟩ : ByteArray), .int .i64 0]) (t := 27) ?hr ?_; (case hd => rfl); (case hg => rfl); (case hr => first | (go_simp; done) | (go_simp; rfl)); intro gb421 hg w85 hbox hb; have n0_ := jAa.mk (jAp (g := gb399) (o := .cells #[.int .i64 a0_0, .slice A0_1 l0_1.length c0_1, .slice (some ad420) l0_2.length c0_2] 25 (0, 0)) (by (with_reducible repeat (first | refine jAf ?_ _ | refine jAi ?_ | refine jAe ?_ _)); exact BK399.out) hb); have n1_ := jAa.mk (jAu (by repeat (first | (with_reducible first | exact HB.out | apply jAj | apply jAd | apply jAk | refine jAh ?_ GE399.out) | exact HB.out)) hb); have n2_ := jAa.mk (hbox); have n3_ := jAa.mk ((by rw [hg]; exact (jBj (by repeat (first | (with_reducible first | exact HB.out | apply jAj | apply jAd | apply jAk | refine jAh ?_ GE399.out) | exact HB.out))) : w.heap.size ≤ gb421)); have n4_ := jAa.mk ((by rw [hg]; exact (jBj (by repeat (first | (with_reducible first | exact HB.out | apply jAj | apply jAd | apply jAk | refine jAh ?_ GE399.out) | exact HB.out))) : w.heap.size ≤ gb421)); have n5_ := jAa.mk ((by rw [hg]; exact Nat.ne_of_lt (jBu (g := gb399) (o := .cells #[.int .i64 a0_0, .slice A0_1 l0_1.length c0_1, .slice (some ad420) l0_2.length c0_2] 25 (0, 0)) (by (with_reducible repeat (first | refine jAf ?_ _ | refine jAi ?_ | refine jAe ?_ _)); exact BK399.out)) : gb399 ≠ gb421)); have n6_ := jAa.mk ((by rw [hg]; exact Nat.ne_of_gt (jBu (g := gb399) (o := .cells #[.int .i64 a0_0, .slice A0_1 l0_1.length c0_1, .slice (some ad420) l0_2.length c0_2] 25 (0, 0)) (by (with_reducible repeat (first | refine jAf ?_ _ | refine jAi ?_ | refine jAe ?_ _)); exact BK399.out)) : gb421 ≠ gb399)); clear BK399; clear HB; have BK399 := n0_; have HB := n1_; have BK421 := n2_; have GW421 := n3_; have GE421 := n4_; have NB399_421 := n5_; have NB421_399 := n6_; clear n0_ n1_ n2_ n3_ n4_ n5_ n6_; clear hb hbox hg; have hnb86 := NB421_399.out; have hnc86 := NB399_421.out; have hcz87_0 : w85.cell? ⟨gb421, 0, none⟩ = some (.int .i64 0) := (jAb BK421.out 0).trans rfl; have hcz87_1 : w85.cell? ⟨gb421, 1, none⟩ = some (.string (⟨#[]⟩ : ByteArray)) := (jAb BK421.out 1).trans rfl; have hcz87_2 : w85.cell? ⟨gb421, 2, none⟩ = some (.int .i64 0) := (jAb BK421.out 2).trans rfl; have hfz87_0 := jAg BK421.out 0; have hfz87_1 := jAg BK421.out 1; have hfz87_2 := jAg BK421.out 2))
              have n0_ : jAa ((((w85.setCell ⟨gb421, 0, none⟩ (.int .i64 ((jCf l0_2 x102_2).f0))).setCell ⟨gb421, 1, none⟩ (.string ((jCf l0_2 x102_2).f1))).setCell ⟨gb421, 2, none⟩ (.int .i64 ((jCf l0_2 x102_2).f2))).heap[gb399]? = some (.cells #[.int .i64 a0_0, .slice A0_1 l0_1.length c0_1, .slice (some ad420) l0_2.length c0_2] 25 (0, 0))) := ⟨by (with_reducible repeat (first | refine jAf ?_ _ | refine jAi ?_ | refine jAe ?_ _)); refine jBa ?_ NB399_421.out _; (with_reducible repeat (first | refine jAf ?_ _ | refine jAi ?_ | refine jAe ?_ _)); refine jBa ?_ NB399_421.out _; (with_reducible repeat (first | refine jAf ?_ _ | refine jAi ?_ | refine jAe ?_ _)); refine jBa ?_ NB399_421.out _; (with_reducible repeat (first | refine jAf ?_ _ | refine jAi ?_ | refine jAe ?_ _)); exact BK399.out⟩
              have n1_ : jAa ((((w85.setCell ⟨gb421, 0, none⟩ (.int .i64 ((jCf l0_2 x102_2).f0))).setCell ⟨gb421, 1, none⟩ (.string ((jCf l0_2 x102_2).f1))).setCell ⟨gb421, 2, none⟩ (.int .i64 ((jCf l0_2 x102_2).f2))).heap[gb421]? = some (.cells #[.int .i64 ((jCf l0_2 x102_2).f0), .string ((jCf l0_2 x102_2).f1), .int .i64 ((jCf l0_2 x102_2).f2)] 27 (0, 0))) := ⟨by (with_reducible repeat (first | refine jAf ?_ _ | refine jAi ?_ | refine jAe ?_ _)); refine jBf (cs := #[.int .i64 ((jCf l0_2 x102_2).f0), .string ((jCf l0_2 x102_2).f1), .int .i64 0]) ?_ 2 _ rfl; (with_reducible repeat (first | refine jAf ?_ _ | refine jAi ?_ | refine jAe ?_ _)); refine jBf (cs := #[.int .i64 ((jCf l0_2 x102_2).f0), .string (⟨#[]⟩ : ByteArray), .int .i64 0]) ?_ 1 _ rfl; (with_reducible repeat (first | refine jAf ?_ _ | refine jAi ?_ | refine jAe ?_ _)); refine jBf (cs := #[.int .i64 0, .string (⟨#[]⟩ : ByteArray), .int .i64 0]) ?_ 0 _ rfl; (with_reducible repeat (first | refine jAf ?_ _ | refine jAi ?_ | refine jAe ?_ _)); exact BK421.out⟩
              have n2_ : jAa (Below w.heap.size w (((w85.setCell ⟨gb421, 0, none⟩ (.int .i64 ((jCf l0_2 x102_2).f0))).setCell ⟨gb421, 1, none⟩ (.string ((jCf l0_2 x102_2).f1))).setCell ⟨gb421, 2, none⟩ (.int .i64 ((jCf l0_2 x102_2).f2)))) := ⟨by repeat (first | (with_reducible first | exact HB.out | apply jAj | apply jAd | apply jAk | refine jAh ?_ GE399.out | refine jAh ?_ GE421.out) | exact HB.out)⟩
              (try clear BK399)
              (try clear BK421)
              (try clear HB)
              generalize (((w85.setCell ⟨gb421, 0, none⟩ (.int .i64 ((jCf l0_2 x102_2).f0))).setCell ⟨gb421, 1, none⟩ (.string ((jCf l0_2 x102_2).f1))).setCell ⟨gb421, 2, none⟩ (.int .i64 ((jCf l0_2 x102_2).f2))) = w88 at n0_ n1_ n2_ ⊢
              have BK399 := n0_
              have BK421 := n1_
              have HB := n2_
              clear n0_ n1_ n2_
              have n0_ := jAa.mk (jAi BK399.out)
              have n1_ := jAa.mk (jAi BK421.out)
              have n2_ := jAa.mk (jAk HB.out)
              clear BK399
              clear BK421
              clear HB
              have BK399 := n0_
              have BK421 := n1_
              have HB := n2_
              clear n0_ n1_ n2_
              refine jDz (n := 14) (S := fun w' => w'.cell? ⟨gb421, 0, none⟩ = some (.int .i64 ((jCf l0_2 x102_2).f0)) ∧ w'.cell? ⟨gb421, 1, none⟩ = some (.string ((jCf l0_2 x102_2).f1)) ∧ w'.cell? ⟨gb421, 2, none⟩ = some (.int .i64 ((jCf l0_2 x102_2).f2))) (ds := []) #[false, false, false, false, false, false, false, false, false, false, false, false, false, false] (by kernel_rfl) rfl rfl ⟨(jAb BK421.out 0).trans rfl, (jAb BK421.out 1).trans rfl, (jAb BK421.out 2).trans rfl⟩ (fun hHeld => ?_); refine jDl jAo.tab22 jAo.bits22 (fun HT_ HW_ => ?_)
              generalize w88.drew = w89 at BK399 BK421 HB hHeld ⊢
              refine pure_ (i := 0) (N := some 106) (v := ?_) (a' := ?_) #[true, false, false, false, false, false, false, false, false, false, false, false, false, false] rfl rfl (jCc HT_.out (by kernel_rfl)) (fun _ _ _ h => h) (Or.inl ⟨by rfl, ?_⟩) ?_ ?_
              rotate_left
              ·intro w'
               go_simp
               with_reducible rfl
              rotate_left
              ·simp only [Act.put, List.setIfInBounds_toArray, List.set_cons_zero, List.set_cons_succ, i64_w, i32_w]
               rfl
              refine pure_ (i := 1) (N := some 107) (v := ?_) (a' := ?_) #[true, true, false, false, false, false, false, false, false, false, false, false, false, false] rfl rfl (jCc HT_.out (by kernel_rfl)) (fun _ _ _ h => h) (Or.inl ⟨by rfl, ?_⟩) ?_ ?_
              rotate_left
              ·intro w'
               go_simp
               with_reducible rfl
              rotate_left
              ·simp only [Act.put, List.setIfInBounds_toArray, List.set_cons_zero, List.set_cons_succ, i64_w, i32_w]
               rfl
              refine pure_ (i := 5) (N := some 111) (v := ?_) (a' := ?_) #[true, true, false, false, false, true, false, false, false, false, false, false, false, false] rfl rfl (jCc HT_.out (by kernel_rfl)) (fun _ _ _ h => h) (Or.inl ⟨by rfl, ?_⟩) ?_ ?_
              rotate_left
              ·intro w'
               go_simp
               with_reducible rfl
              rotate_left
              ·simp only [Act.put, List.setIfInBounds_toArray, List.set_cons_zero, List.set_cons_succ, i64_w, i32_w]
               rfl
              refine pure_ (i := 9) (N := some 115) (v := ?_) (a' := ?_) #[true, true, false, false, false, true, false, false, false, true, false, false, false, false] rfl rfl (jCc HT_.out (by kernel_rfl)) (fun _ _ _ h => h) (Or.inl ⟨by rfl, ?_⟩) ?_ ?_
              rotate_left
              ·intro w'
               go_simp
               with_reducible rfl
              rotate_left
              ·simp only [Act.put, List.setIfInBounds_toArray, List.set_cons_zero, List.set_cons_succ, i64_w, i32_w]
               rfl
              refine take_ (i := 2) (N := some 108) (v := ?_) (a' := ?_) #[true, true, true, false, false, true, false, false, false, true, false, false, false, false] rfl rfl (jCm HT_.out HW_.out (by kernel_rfl)) (fun _ _ _ h => h) (Or.inl ⟨by rfl, ?_⟩) hHeld ?_ ?_
              rotate_left
              ·rintro w' ⟨s0, s1, s2⟩
               go_simp
               with_reducible rfl
              rotate_left
              ·simp only [Act.put, List.setIfInBounds_toArray, List.set_cons_zero, List.set_cons_succ, i64_w, i32_w]
               rfl
              refine take_ (i := 6) (N := some 112) (v := ?_) (a' := ?_) #[true, true, true, false, false, true, true, false, false, true, false, false, false, false] rfl rfl (jCm HT_.out HW_.out (by kernel_rfl)) (fun _ _ _ h => h) (Or.inl ⟨by rfl, ?_⟩) hHeld ?_ ?_
              rotate_left
              ·rintro w' ⟨s0, s1, s2⟩
               go_simp
               with_reducible rfl
              rotate_left
              ·simp only [Act.put, List.setIfInBounds_toArray, List.set_cons_zero, List.set_cons_succ, i64_w, i32_w]
               rfl
              refine take_ (i := 10) (N := some 116) (v := ?_) (a' := ?_) #[true, true, true, false, false, true, true, false, false, true, true, false, false, false] rfl rfl (jCm HT_.out HW_.out (by kernel_rfl)) (fun _ _ _ h => h) (Or.inl ⟨by rfl, ?_⟩) hHeld ?_ ?_
              rotate_left
              ·rintro w' ⟨s0, s1, s2⟩
               go_simp
               with_reducible rfl
              rotate_left
              ·simp only [Act.put, List.setIfInBounds_toArray, List.set_cons_zero, List.set_cons_succ, i64_w, i32_w]
               rfl
              refine one_ (i := 3) (N := some 109) #[true, true, true, true, false, true, true, false, false, true, true, false, false, false] rfl rfl (jCu HT_.out (by kernel_rfl)) (by decide) (fun K hK => ?_)
              refine goes_ Tryd.func71 (by kernel_rfl) rfl #[.int .i64 ((jCf l0_2 x102_2).f0)] (by rfl) rfl rfl (by (try simp only [List.map_toArray, List.map_cons, List.map_nil]); first | done | rfl | (simp only [List.length_drop, List.length_take]; rfl)) ?_
              with_reducible refine (jAr.calls k2 ((jCf l0_2 x102_2).f0) t422 _ A79.out).mono ?_
              rintro e w90 ⟨rfl, hb⟩
              refine ⟨_, rfl, ?_⟩
              have n0_ := jAa.mk (jAp (g := gb399) (o := .cells #[.int .i64 a0_0, .slice A0_1 l0_1.length c0_1, .slice (some ad420) l0_2.length c0_2] 25 (0, 0)) (by (with_reducible repeat (first | refine jAf ?_ _ | refine jAi ?_ | refine jAe ?_ _)); exact BK399.out) hb)
              have n1_ := jAa.mk (jAp (g := gb421) (o := .cells #[.int .i64 ((jCf l0_2 x102_2).f0), .string ((jCf l0_2 x102_2).f1), .int .i64 ((jCf l0_2 x102_2).f2)] 27 (0, 0)) (by (with_reducible repeat (first | refine jAf ?_ _ | refine jAi ?_ | refine jAe ?_ _)); exact BK421.out) hb)
              have n2_ := jAa.mk (jAu (by repeat (first | (with_reducible first | exact HB.out | apply jAj | apply jAd | apply jAk | refine jAh ?_ GE399.out | refine jAh ?_ GE421.out) | exact HB.out)) hb)
              clear BK399
              clear BK421
              clear HB
              have BK399 := n0_
              have BK421 := n1_
              have HB := n2_
              clear n0_ n1_ n2_
              (try clear hb)
              (try clear hb2)
              (try clear hk)
              (try clear hi)
              refine hK.out _ _ ⟨(jAb BK421.out 0).trans rfl, (jAb BK421.out 1).trans rfl, (jAb BK421.out 2).trans rfl⟩ (fun hHeld => ?_)
              clear hK K
              refine norm_ (a' := ?_) ?_ ?_
              rotate_left
              ·show Act.put _ (some 109) _ = _
               simp only [Act.put, List.setIfInBounds_toArray, List.set_cons_zero, List.set_cons_succ, i64_w, i32_w]
               rfl
              refine pure_ (i := 4) (N := some 110) (v := ?_) (a' := ?_) #[true, true, true, true, true, true, true, false, false, true, true, false, false, false] rfl rfl (jCc HT_.out (by kernel_rfl)) (fun _ _ _ h => h) (Or.inl ⟨by rfl, ?_⟩) ?_ ?_
              rotate_left
              ·intro w'
               go_simp
               with_reducible rfl
              rotate_left
              ·simp only [Act.put, List.setIfInBounds_toArray, List.set_cons_zero, List.set_cons_succ, i64_w, i32_w]
               rfl
              refine one_ (i := 7) (N := some 113) #[true, true, true, true, true, true, true, true, false, true, true, false, false, false] rfl rfl (jCu HT_.out (by kernel_rfl)) (by decide) (fun K hK => ?_)
              refine goes_ Tryd.func71 (by kernel_rfl) rfl #[.int .i64 ((jCf l0_2 x102_2).f2)] (by rfl) rfl rfl (by (try simp only [List.map_toArray, List.map_cons, List.map_nil]); first | done | rfl | (simp only [List.length_drop, List.length_take]; rfl)) ?_
              with_reducible refine (jAr.calls k2 ((jCf l0_2 x102_2).f2) t423 _ A81.out).mono ?_
              rintro e w91 ⟨rfl, hb⟩
              refine ⟨_, rfl, ?_⟩
              have n0_ := jAa.mk (jAp (g := gb399) (o := .cells #[.int .i64 a0_0, .slice A0_1 l0_1.length c0_1, .slice (some ad420) l0_2.length c0_2] 25 (0, 0)) (by (with_reducible repeat (first | refine jAf ?_ _ | refine jAi ?_ | refine jAe ?_ _)); exact BK399.out) hb)
              have n1_ := jAa.mk (jAp (g := gb421) (o := .cells #[.int .i64 ((jCf l0_2 x102_2).f0), .string ((jCf l0_2 x102_2).f1), .int .i64 ((jCf l0_2 x102_2).f2)] 27 (0, 0)) (by (with_reducible repeat (first | refine jAf ?_ _ | refine jAi ?_ | refine jAe ?_ _)); exact BK421.out) hb)
              have n2_ := jAa.mk (jAu (by repeat (first | (with_reducible first | exact HB.out | apply jAj | apply jAd | apply jAk | refine jAh ?_ GE399.out | refine jAh ?_ GE421.out) | exact HB.out)) hb)
              clear BK399
              clear BK421
              clear HB
              have BK399 := n0_
              have BK421 := n1_
              have HB := n2_
              clear n0_ n1_ n2_
              (try clear hb)
              (try clear hb2)
              (try clear hk)
              (try clear hi)
              refine hK.out _ _ ⟨(jAb BK421.out 0).trans rfl, (jAb BK421.out 1).trans rfl, (jAb BK421.out 2).trans rfl⟩ (fun hHeld => ?_)
              clear hK K
              refine norm_ (a' := ?_) ?_ ?_
              rotate_left
              ·show Act.put _ (some 113) _ = _
               simp only [Act.put, List.setIfInBounds_toArray, List.set_cons_zero, List.set_cons_succ, i64_w, i32_w]
               rfl
              refine pure_ (i := 8) (N := some 114) (v := ?_) (a' := ?_) #[true, true, true, true, true, true, true, true, true, true, true, false, false, false] rfl rfl (jCc HT_.out (by kernel_rfl)) (fun _ _ _ h => h) (Or.inl ⟨by rfl, ?_⟩) ?_ ?_
              rotate_left
              ·intro w'
               go_simp
               with_reducible rfl
              rotate_left
              ·simp only [Act.put, List.setIfInBounds_toArray, List.set_cons_zero, List.set_cons_succ, i64_w, i32_w]
               rfl
              refine one_ (i := 11) (N := some 117) #[true, true, true, true, true, true, true, true, true, true, true, true, false, false] rfl rfl (jCu HT_.out (by kernel_rfl)) (by decide) (fun K hK => ?_)
              refine goes_ Tryd.func72 (by kernel_rfl) rfl #[.string ((jCf l0_2 x102_2).f1)] (by rfl) rfl rfl (by (try simp only [List.map_toArray, List.map_cons, List.map_nil]); first | done | rfl | (simp only [List.length_drop, List.length_take]; rfl)) ?_
              with_reducible refine (jBt.calls k2 ((jCf l0_2 x102_2).f1) t424 _ A83.out).mono ?_
              rintro e w92 ⟨rfl, hb⟩
              refine ⟨_, rfl, ?_⟩
              have n0_ := jAa.mk (jAp (g := gb399) (o := .cells #[.int .i64 a0_0, .slice A0_1 l0_1.length c0_1, .slice (some ad420) l0_2.length c0_2] 25 (0, 0)) (by (with_reducible repeat (first | refine jAf ?_ _ | refine jAi ?_ | refine jAe ?_ _)); exact BK399.out) hb)
              have n1_ := jAa.mk (jAp (g := gb421) (o := .cells #[.int .i64 ((jCf l0_2 x102_2).f0), .string ((jCf l0_2 x102_2).f1), .int .i64 ((jCf l0_2 x102_2).f2)] 27 (0, 0)) (by (with_reducible repeat (first | refine jAf ?_ _ | refine jAi ?_ | refine jAe ?_ _)); exact BK421.out) hb)
              have n2_ := jAa.mk (jAu (by repeat (first | (with_reducible first | exact HB.out | apply jAj | apply jAd | apply jAk | refine jAh ?_ GE399.out | refine jAh ?_ GE421.out) | exact HB.out)) hb)
              clear BK399
              clear BK421
              clear HB
              have BK399 := n0_
              have BK421 := n1_
              have HB := n2_
              clear n0_ n1_ n2_
              (try clear hb)
              (try clear hb2)
              (try clear hk)
              (try clear hi)
              refine hK.out _ _ ⟨(jAb BK421.out 0).trans rfl, (jAb BK421.out 1).trans rfl, (jAb BK421.out 2).trans rfl⟩ (fun hHeld => ?_)
              clear hK K
              refine norm_ (a' := ?_) ?_ ?_
              rotate_left
              ·show Act.put _ (some 117) _ = _
               simp only [Act.put, List.setIfInBounds_toArray, List.set_cons_zero, List.set_cons_succ, i64_w, i32_w]
               rfl
              refine pure_ (i := 12) (N := some 118) (v := ?_) (a' := ?_) #[true, true, true, true, true, true, true, true, true, true, true, true, true, false] rfl rfl (jCc HT_.out (by kernel_rfl)) (fun _ _ _ h => h) (Or.inl ⟨by rfl, ?_⟩) ?_ ?_
              rotate_left
              ·intro w'
               go_simp
               with_reducible rfl
              rotate_left
              ·simp only [Act.put, List.setIfInBounds_toArray, List.set_cons_zero, List.set_cons_succ, i64_w, i32_w]
               rfl
              refine pure_ (i := 13) (N := some 3) (v := ?_) (a' := ?_) #[true, true, true, true, true, true, true, true, true, true, true, true, true, true] rfl rfl (jCc HT_.out (by kernel_rfl)) (fun _ _ _ h => h) (Or.inl ⟨by rfl, ?_⟩) ?_ ?_
              rotate_left
              ·intro w'
               go_simp
               with_reducible rfl
              rotate_left
              ·simp only [Act.put, List.setIfInBounds_toArray, List.set_cons_zero, List.set_cons_succ, i64_w, i32_w]
               rfl
              refine done_ (jEm HT_.out (by kernel_rfl)) ?_
              try go_wp2
              go_roundg k2
              case measure => have := HK1.out; have := HK2.out; omega
              case rel => exact ⟨(((x3_2 ++ t422) ++ t423) ++ t424), (wrap64 (x102_2 + 1)), (by first | rfl | (simp; done) | (simp [*]; done)), (by first | rfl | (simp; done) | (simp [*]; done)), H', ⟨by have := HK1.out; have := HK2.out; omega⟩, ⟨by (with_reducible repeat (first | refine jAf ?_ _ | refine jAi ?_ | refine jAe ?_ _)); exact BK399.out⟩, ⟨by repeat (first | (with_reducible first | exact HB.out | apply jAj | apply jAd | apply jAk | refine jAh ?_ GE399.out | refine jAh ?_ GE421.out) | exact HB.out)⟩⟩
             ·rw [if_neg c84] at H
              exact absurd H (by simp)
            ·rw [if_neg c82] at H
             exact absurd H (by simp)
           ·rw [if_neg c80] at H
            exact absurd H (by simp)
          ·rw [if_neg c78] at H
           exact absurd H (by simp)
         ·rw [if_neg c77] at H
          exact absurd H (by simp)
        ·rw [if_neg c76] at H
         have c76b0 : decide (x102_2 < (l0_2.length : Int)) = false := decide_eq_false c76
         clear c76
         obtain rfl := Option.some.inj H
         go_wp2
         go_ret
         exact ⟨by first | rfl | (simp [jBd, jBe] <;> rfl) | (simp [*, jBd, jBe] <;> rfl), by repeat (first | (with_reducible first | exact HB.out | apply jAj | apply jAd | apply jAk | refine jAh ?_ GE399.out) | exact HB.out)⟩
     ·rw [if_neg c72] at H
      exact absurd H (by simp)
 ·rw [if_neg c4] at H
  exact absurd H (by simp)
end Go.Proofs.YtefdfgmlmjnmlaaDoor.Rf
end

section
set_option linter.unusedSimpArgs false
set_option linter.unusedVariables false
namespace Go.Proofs.YtefdfgmlmjnmlaaDoor.My
open Go.RowKit Go.Proofs.YtefdfgmlmjnmlaaDoorW.PrintWords Go.Proofs.YtefdfgmlmjnmlaaDoorW.PrintMore Go.Proofs.YtefdfgmlmjnmlaaDoor.Rf
def SB (l : List UInt8) : ByteArray := ⟨l.toArray⟩
theorem SB_data (l : List UInt8) : (SB l).data.toList = l := by simp [SB]
theorem jCs (l : List UInt8) : (SB l).size = l.length := by simp [SB, ByteArray.size]
theorem SB_of (b : ByteArray) : SB b.data.toList = b := by cases b; simp [SB]
theorem jDf (l m : List UInt8) : SB l ++ SB m = SB (l ++ m) := by
  apply ByteArray.ext
  simp [SB]
theorem SB_nums1 (n : Nat) (h : n < 256) : strOfNums [(n : Int) % 256] = SB [UInt8.ofNat n] := by
  have : ((n : Int) % 256).toNat = n := by omega
  simp [strOfNums, SB, this]
def encU (u : Nat) : List UInt8 := if h : u < 128 then [UInt8.ofNat u] else UInt8.ofNat (128 + u % 128) :: encU (u / 128)
termination_by u
decreasing_by omega
theorem jDb {u : Nat} (h : u < 128) : encU u = [UInt8.ofNat u] := by rw [encU, dif_pos h]
theorem jDv {u : Nat} (h : ¬ u < 128) : encU u = UInt8.ofNat (128 + u % 128) :: encU (u / 128) := by rw [encU, dif_neg h]
theorem encU_len : ∀ (j u : Nat), u < 128 ^ (j + 1) → (encU u).length ≤ j + 1 := by
  intro j
  induction j with
  | zero => intro u h; rw [jDb (by simpa using h)]; simp
  | succ j ih =>
    intro u h
    by_cases hu : u < 128
    · rw [jDb hu]; simp
    · rw [jDv hu]
      have : u / 128 < 128 ^ (j + 1) := by
        rw [Nat.div_lt_iff_lt_mul (by decide)]
        rw [Nat.pow_succ] at h
        exact h
      have := ih _ this
      simp only [List.length_cons]
      omega
def jDo (n : Int) : Nat := if 0 ≤ n then (2 * n).toNat else (2 * (-(n + 1)) + 1).toNat
def encI (n : Int) : List UInt8 := encU (jDo n)
theorem jGj {n : Int} (h : I64 n) : jDo n < 18446744073709551616 := by
  unfold jDo; obtain ⟨h1, h2⟩ := h; split <;> omega
theorem jCv {n : Int} (h : I64 n) : (encI n).length ≤ 10 := encU_len 9 _ (Nat.lt_of_lt_of_le (jGj h) (by decide))
theorem u64w (n : Int) : IntKind.u64.wrap n = n % 18446744073709551616 := by simp [IntKind.wrap, IntKind.bits, IntKind.signed]
theorem plain_f {n : Int} (h : I64 n) : jCl.f n = some ((jDo n : Nat) : Int) := by
  obtain ⟨h1, h2⟩ := h
  unfold jCl.f jDo
  by_cases h0 : 0 ≤ n
  · rw [if_pos (by omega), if_pos h0]
    simp only [u64w, Option.some.injEq]
    omega
  · rw [if_neg (by omega), if_neg h0]
    simp only [u64w, Option.some.injEq]
    unfold wrap64
    omega
theorem int_l0 : ∀ (u : Nat), u < 18446744073709551616 → ∀ x : List UInt8, x.length + (encU u).length ≤ 9223372036854775807 → Ev (fun k => jAr.l0 k (u : Int) (SB x)) (SB (x ++ encU u)) := by
  intro u
  induction u using Nat.strongRecOn with
  | ind u ih =>
    intro hu x hx
    by_cases h : u < 128
    · rw [jDb h] at hx ⊢
      refine Ev.step (f := fun _ => some (SB (x ++ [UInt8.ofNat u]))) (fun k => ?_) (Ev.now _)
      simp only [jAr.l0]
      rw [if_neg (by omega)]
      simp only [Option.bind_some]
      rw [SB_nums1 u (by omega), if_pos (by simp only [jCs]; simpa using hx), jDf]
    · rw [jDv h] at hx ⊢
      have e1 : x ++ UInt8.ofNat (128 + u % 128) :: encU (u / 128) = (x ++ [UInt8.ofNat (128 + u % 128)]) ++ encU (u / 128) := by simp
      rw [e1]
      have h2 := ih (u / 128) (by omega) (by omega) (x ++ [UInt8.ofNat (128 + u % 128)]) (by simp only [List.length_append, List.length_cons, List.length_nil] at hx ⊢; omega)
      refine Ev.step (fun k => ?_) h2
      simp only [jAr.l0]
      rw [if_pos (by omega)]
      simp only [Option.bind_some]
      have e2 : (IntKind.u64.wrap (128 + (Int.tmod (u : Int) 128))) % 256 = (((128 + u % 128 : Nat) : Nat) : Int) % 256 := by
        rw [Int.tmod_eq_emod_of_nonneg (by omega), u64w]; omega
      have e3 : IntKind.u64.wrap (Int.tdiv (u : Int) 128) = ((u / 128 : Nat) : Int) := by
        rw [Int.tdiv_eq_ediv_of_nonneg (by omega), u64w]; omega
      rw [e2, e3, SB_nums1 _ (by omega), if_pos (by simp only [jCs, List.length_append, List.length_cons, List.length_nil] at hx ⊢; omega), jDf]
theorem jCq {n : Int} (h : I64 n) : Ev (fun k => jAr.f k n) (SB (encI n)) := by
  have h1 := int_l0 (jDo n) (jGj h) [] (by have := jCv h; unfold encI at this; simp only [List.length_nil]; omega)
  refine Ev.congr (f := fun k => jAr.l0 k ((jDo n : Nat) : Int) (SB [])) (fun k => ?_) h1
  simp only [jAr.f, plain_f h, Option.bind_some]
  rfl
theorem jDc {n : Nat} (h : n ≤ 9223372036854775807) : I64 (n : Int) := ⟨by omega, by omega⟩
def encS (s : ByteArray) : List UInt8 := encI (s.size : Int) ++ s.data.toList
def encB (b : Bool) : List UInt8 := encI (if b then 1 else 0)
def encV (v : S70) : List UInt8 := encI v.f0 ++ encI v.f1 ++ encS v.f2
theorem jDh (s : ByteArray) : s.data.toList.length = s.size := Array.length_toList
set_option maxRecDepth 10000 in
theorem jEu {s : ByteArray} (h : (encS s).length ≤ 9223372036854775807) : Ev (fun k => jBt.f k s) (SB (encS s)) := by
  have hl : (encI (s.size : Int)).length + s.size ≤ 9223372036854775807 := by
    have := jDh s
    simp only [encS, List.length_append] at h; omega
  refine Ev.congr (fun k => rfl) (Ev.bind (jCq (jDc (by omega))) (Ev.congr (f := fun _ => some (SB (encS s))) (fun k => ?_) (Ev.now _)))
  rw [if_pos (by rw [jCs]; exact hl)]
  unfold encS
  rw [← jDf, SB_of]
theorem jHr (b : Bool) : Ev (fun k => jBs.f k b) (SB (encB b)) := by
  cases b with
  | true =>
    refine Ev.congr (f := fun k => (jAr.f k 1).bind fun t => some t) (fun k => by unfold jBs.f; rw [if_pos rfl]) ?_
    exact Ev.bind (jCq (n := 1) ⟨by omega, by omega⟩) (Ev.now _)
  | false =>
    refine Ev.congr (f := fun k => (jAr.f k 0).bind fun t => some t) (fun k => by unfold jBs.f; rw [if_neg (by decide)]) ?_
    exact Ev.bind (jCq (n := 0) ⟨by omega, by omega⟩) (Ev.now _)
theorem refVal_ev {v : S70} (q : Q70 v) (h : (encV v).length ≤ 9223372036854775807) : Ev (fun k => jBq.f k v.f0 v.f1 v.f2) (SB (encV v)) := by
  have h' := h
  simp only [encV, List.length_append] at h'
  refine Ev.congr (fun k => rfl) (Ev.bind (jCq q.a) (Ev.bind (jCq q.b) ?_))
  refine Ev.congr (fun k => if_pos (by simp only [jCs]; omega)) ?_
  refine Ev.bind (jEu (by omega)) ?_
  refine Ev.congr (fun k => if_pos (by simp only [jDf, jCs, List.length_append]; omega)) ?_
  simp only [jDf]
  exact Ev.now _
def encE (e : S72) : List UInt8 := encI e.f0 ++ encI e.f1 ++ encV e.f2 ++ encI (e.f3.length : Int) ++ (e.f3.attach.map fun x => encE x.1).flatten
termination_by SizeOf.sizeOf e
decreasing_by
  have := List.sizeOf_lt_of_mem x.2
  cases e
  simp only [S72.mk.sizeOf_spec]
  simp only at this
  omega
theorem jEn (e : S72) : encE e = encI e.f0 ++ encI e.f1 ++ encV e.f2 ++ encI (e.f3.length : Int) ++ (e.f3.map encE).flatten := by
  rw [encE]; simp
theorem jDk {α : Type} {l : List α} (z : α) {i : Nat} (h : i < l.length) : l.drop i = l.getD i z :: l.drop (i + 1) := by
  rw [List.drop_eq_getElem_cons h]
  simp [List.getD, List.getElem?_eq_getElem h]
theorem refExpr_l0 (l : List S72) (hl : l.length ≤ 9223372036854775807) (h : ∀ x, x ∈ l → (encE x).length ≤ 9223372036854775807 → Ev (fun k => jBc.f k x.f0 x.f1 x.f2.f0 x.f2.f1 x.f2.f2 x.f3) (SB (encE x))) :
    ∀ d i, i + d = l.length → ∀ a : List UInt8, (a ++ ((l.drop i).map encE).flatten).length ≤ 9223372036854775807 → Ev (fun k => jBc.l0 k (SB a) l (l.length : Int) (i : Int)) (SB (a ++ ((l.drop i).map encE).flatten)) := by
  intro d
  induction d with
  | zero =>
    intro i hi a ha
    rw [List.drop_eq_nil_of_le (by omega)]
    simp only [List.map_nil, List.flatten_nil, List.append_nil]
    exact Ev.step (f := fun _ => some (SB a)) (fun k => by simp only [jBc.l0]; rw [if_neg (by omega)]) (Ev.now _)
  | succ d ih =>
    intro i hi a ha
    have hlt : i < l.length := by omega
    rw [jDk z72 hlt, List.map_cons, List.flatten_cons, ← List.append_assoc] at ha ⊢
    have ha' := ha
    simp only [List.length_append] at ha'
    refine Ev.step (fun k => ?_) (Ev.bind (f := fun k t => if (SB a).size + t.size ≤ 9223372036854775807 then jBc.l0 k (SB a ++ t) l (l.length : Int) ((i + 1 : Nat) : Int) else none) (h _ (jCn (z := z72) hlt) (by omega)) ?_)
    · simp only [jBc.l0]
      rw [if_pos (by omega), if_pos (by omega), if_pos (by omega), jEb, jCr hlt hl]
    · refine Ev.congr (fun k => if_pos (by simp only [jCs]; omega)) ?_
      rw [jDf]
      exact ih (i + 1) (by omega) _ ha
theorem refExpr_ev {e : S72} (hq : Q72 e) (ho : OkE e) : (encE e).length ≤ 9223372036854775807 → Ev (fun k => jBc.f k e.f0 e.f1 e.f2.f0 e.f2.f1 e.f2.f2 e.f3) (SB (encE e)) := by
  induction hq with
  | mk e a b c _ ih =>
    intro h
    have hl := ho.len
    rw [jEn] at h ⊢
    have h' := h
    simp only [List.length_append] at h'
    have h0 := refExpr_l0 e.f3 hl (fun x hx hx' => ih x hx (ho.sub hx) hx') e.f3.length 0 (by omega) (encI e.f0 ++ encI e.f1 ++ encV e.f2 ++ encI (e.f3.length : Int)) h
    rw [List.drop_zero] at h0
    refine Ev.step (fun k => rfl) (Ev.bind (jCq a) (Ev.bind (jCq b) ?_))
    refine Ev.congr (fun k => if_pos (by simp only [jCs]; omega)) ?_
    refine Ev.bind (refVal_ev c (by omega)) ?_
    refine Ev.congr (fun k => if_pos (by simp only [jDf, jCs, List.length_append]; omega)) ?_
    refine Ev.bind (jCq (jDc hl)) ?_
    refine Ev.congr (fun k => if_pos (by simp only [jDf, jCs, List.length_append]; omega)) ?_
    simp only [jDf]
    exact h0
end Go.Proofs.YtefdfgmlmjnmlaaDoor.My
end

section
set_option linter.unusedSimpArgs false
set_option linter.unusedVariables false
namespace Go.Proofs.YtefdfgmlmjnmlaaDoor.My
open Go.RowKit Go.Proofs.YtefdfgmlmjnmlaaDoorW.PrintWords Go.Proofs.YtefdfgmlmjnmlaaDoorW.PrintMore Go.Proofs.YtefdfgmlmjnmlaaDoor.Rf
def encC (c : S59) : List UInt8 := encS c.f0 ++ encS c.f4 ++ encI c.f1 ++ encI c.f5 ++ encB c.f2 ++ encB c.f3
def encT (t : S45) : List UInt8 := encS t.f0 ++ encI t.f1 ++ encI (t.f2.length : Int) ++ (t.f2.map encC).flatten ++ encI (t.f3.length : Int) ++ (t.f3.map encE).flatten
def encG (g : S27) : List UInt8 := encI g.f0 ++ encI g.f2 ++ encS g.f1
def encH (v : Int) (ts : List S45) (gs : List S27) : List UInt8 := encI v ++ encI (ts.length : Int) ++ (ts.map encT).flatten ++ encI (gs.length : Int) ++ (gs.map encG).flatten
theorem refBytes_l3 (gs : List S27) (hl : gs.length ≤ 9223372036854775807) (hq : ∀ x, x ∈ gs → Q27 x) :
    ∀ d i, i + d = gs.length → ∀ a : List UInt8, (a ++ ((gs.drop i).map encG).flatten).length ≤ 9223372036854775807 → Ev (fun k => jAo.l3 k (SB a) gs (gs.length : Int) (i : Int)) (SB (a ++ ((gs.drop i).map encG).flatten)) := by
  intro d
  induction d with
  | zero =>
    intro i hi a ha
    rw [List.drop_eq_nil_of_le (by omega)]
    simp only [List.map_nil, List.flatten_nil, List.append_nil]
    exact Ev.step (f := fun _ => some (SB a)) (fun k => by simp only [jAo.l3]; rw [if_neg (by omega)]) (Ev.now _)
  | succ d ih =>
    intro i hi a ha
    have hlt : i < gs.length := by omega
    rw [jDk z27 hlt, List.map_cons, List.flatten_cons, ← List.append_assoc] at ha ⊢
    have q := hq _ (jCn (z := z27) hlt)
    generalize hg : gs.getD i z27 = g at q ha ⊢
    have ih := ih (i + 1) (by omega) (a ++ encG g) ha
    generalize ((gs.drop (i + 1)).map encG).flatten = R at ih ha ⊢
    have ha' := ha
    simp only [encG, List.length_append] at ha'
    refine Ev.step (fun k => by simp only [jAo.l3]; rw [if_pos (by omega), if_pos (by omega), if_pos (by omega), rd27_nat, jCr hlt hl, hg]) (Ev.bind (jCq q.a) ?_)
    refine Ev.congr (fun k => if_pos (by simp only [jCs]; omega)) ?_
    refine Ev.bind (jCq q.c) ?_
    refine Ev.congr (fun k => if_pos (by simp only [jDf, jCs, List.length_append]; omega)) ?_
    refine Ev.bind (jEu (by omega)) ?_
    refine Ev.congr (fun k => if_pos (by simp only [jDf, jCs, List.length_append]; omega)) ?_
    simp only [jDf]
    have e : a ++ encI g.f0 ++ encI g.f2 ++ encS g.f1 = a ++ encG g := by simp [encG]
    rw [e]
    exact ih
theorem refBytes_l2 (ts : List S45) (n j v : Int) (gs : List S27) (cs : List S72) (hl : cs.length ≤ 9223372036854775807) (hq : ∀ x, x ∈ cs → Q72 x ∧ OkE x) (r : ByteArray) :
    ∀ d i, i + d = cs.length → ∀ a : List UInt8, (a ++ ((cs.drop i).map encE).flatten).length ≤ 9223372036854775807 →
      Ev (fun k => jAo.l0 k (SB (a ++ ((cs.drop i).map encE).flatten)) ts n (wrap64 (j + 1)) v ts gs) r → Ev (fun k => jAo.l2 k (SB a) ts n j cs (cs.length : Int) (i : Int) v ts gs) r := by
  intro d
  induction d with
  | zero =>
    intro i hi a ha h
    rw [List.drop_eq_nil_of_le (by omega)] at h
    simp only [List.map_nil, List.flatten_nil, List.append_nil] at h
    exact Ev.step (fun k => by simp only [jAo.l2]; rw [if_neg (by omega)]) h
  | succ d ih =>
    intro i hi a ha h
    have hlt : i < cs.length := by omega
    rw [jDk z72 hlt, List.map_cons, List.flatten_cons, ← List.append_assoc] at ha h
    have q := hq _ (jCn (z := z72) hlt)
    have ha' := ha
    simp only [List.length_append] at ha'
    have ih := ih (i + 1) (by omega) _ ha h
    refine Ev.step (fun k => by simp only [jAo.l2]; rw [if_pos (by omega), if_pos (by omega), if_pos (by omega), jEb, jCr hlt hl]) (Ev.bind (refExpr_ev q.1 q.2 (by omega)) ?_)
    refine Ev.congr (fun k => if_pos (by simp only [jCs]; omega)) ?_
    rw [jDf]
    exact ih
theorem refBytes_l1 (ts : List S45) (n j v : Int) (gs : List S27) (t : S45) (q : Q45 t) (o : OkT t) (r : ByteArray) :
    ∀ d i, i + d = t.f2.length → ∀ a : List UInt8, (a ++ ((t.f2.drop i).map encC).flatten ++ encI (t.f3.length : Int) ++ (t.f3.map encE).flatten).length ≤ 9223372036854775807 →
      Ev (fun k => jAo.l0 k (SB (a ++ ((t.f2.drop i).map encC).flatten ++ encI (t.f3.length : Int) ++ (t.f3.map encE).flatten)) ts n (wrap64 (j + 1)) v ts gs) r →
      Ev (fun k => jAo.l1 k (SB a) ts n j t.f2 (t.f2.length : Int) (i : Int) v ts gs t.f0 t.f1 t.f2 t.f3) r := by
  intro d
  induction d with
  | zero =>
    intro i hi a ha h
    rw [List.drop_eq_nil_of_le (by omega)] at h ha
    simp only [List.map_nil, List.flatten_nil, List.append_nil] at h ha
    have h2 := refBytes_l2 ts n j v gs t.f3 o.checks (fun x hx => ⟨q.d x hx, o.each x hx⟩) r t.f3.length 0 (by omega) (a ++ encI (t.f3.length : Int))
    rw [List.drop_zero] at h2
    have h2 := h2 ha h
    simp only [List.length_append] at ha
    refine Ev.step (fun k => by simp only [jAo.l1]; rw [if_neg (by omega)]) (Ev.bind (jCq (jDc o.checks)) ?_)
    refine Ev.congr (fun k => if_pos (by simp only [jCs]; omega)) ?_
    rw [jDf]
    exact h2
  | succ d ih =>
    intro i hi a ha h
    have hlt : i < t.f2.length := by omega
    rw [jDk z59 hlt, List.map_cons, List.flatten_cons, ← List.append_assoc] at ha h
    have qc := q.c _ (jCn (z := z59) hlt)
    generalize hg : t.f2.getD i z59 = c at qc ha h
    have ih := ih (i + 1) (by omega) (a ++ encC c) ha h
    generalize ((t.f2.drop (i + 1)).map encC).flatten = R at ih ha h
    have ha' := ha
    simp only [encC, List.length_append] at ha'
    refine Ev.step (fun k => by simp only [jAo.l1]; rw [if_pos (by omega), if_pos (by omega), if_pos (by omega), rd59_nat, jCr hlt o.cols, hg]) (Ev.bind (jEu (by omega)) ?_)
    refine Ev.congr (fun k => if_pos (by simp only [jCs]; omega)) ?_
    refine Ev.bind (jEu (by omega)) ?_
    refine Ev.congr (fun k => if_pos (by simp only [jDf, jCs, List.length_append]; omega)) ?_
    refine Ev.bind (jCq qc.b) ?_
    refine Ev.congr (fun k => if_pos (by simp only [jDf, jCs, List.length_append]; omega)) ?_
    refine Ev.bind (jCq qc.d) ?_
    refine Ev.congr (fun k => if_pos (by simp only [jDf, jCs, List.length_append]; omega)) ?_
    refine Ev.bind (jHr c.f2) ?_
    refine Ev.congr (fun k => if_pos (by simp only [jDf, jCs, List.length_append]; omega)) ?_
    refine Ev.bind (jHr c.f3) ?_
    refine Ev.congr (fun k => if_pos (by simp only [jDf, jCs, List.length_append]; omega)) ?_
    simp only [jDf]
    have e : a ++ encS c.f0 ++ encS c.f4 ++ encI c.f1 ++ encI c.f5 ++ encB c.f2 ++ encB c.f3 = a ++ encC c := by simp [encC]
    rw [e]
    exact ih
theorem refBytes_l0 (ts : List S45) (v : Int) (gs : List S27) (hl : ts.length ≤ 9223372036854775807) (hg : gs.length ≤ 9223372036854775807) (hq : ∀ t, t ∈ ts → Q45 t ∧ OkT t) (hqg : ∀ x, x ∈ gs → Q27 x) :
    ∀ d i, i + d = ts.length → ∀ a : List UInt8, (a ++ ((ts.drop i).map encT).flatten ++ encI (gs.length : Int) ++ (gs.map encG).flatten).length ≤ 9223372036854775807 →
      Ev (fun k => jAo.l0 k (SB a) ts (ts.length : Int) (i : Int) v ts gs) (SB (a ++ ((ts.drop i).map encT).flatten ++ encI (gs.length : Int) ++ (gs.map encG).flatten)) := by
  intro d
  induction d with
  | zero =>
    intro i hi a ha
    rw [List.drop_eq_nil_of_le (by omega)] at ha ⊢
    simp only [List.map_nil, List.flatten_nil, List.append_nil] at ha ⊢
    have h3 := refBytes_l3 gs hg hqg gs.length 0 (by omega) (a ++ encI (gs.length : Int))
    rw [List.drop_zero] at h3
    have h3 := h3 ha
    simp only [List.length_append] at ha
    refine Ev.step (fun k => by simp only [jAo.l0]; rw [if_neg (by omega)]) (Ev.bind (jCq (jDc hg)) ?_)
    refine Ev.congr (fun k => if_pos (by simp only [jCs]; omega)) ?_
    rw [jDf]
    exact h3
  | succ d ih =>
    intro i hi a ha
    have hlt : i < ts.length := by omega
    rw [jDk z45 hlt, List.map_cons, List.flatten_cons, ← List.append_assoc] at ha ⊢
    have q := hq _ (jCn (z := z45) hlt)
    generalize ht : ts.getD i z45 = t at q ha ⊢
    have ih := ih (i + 1) (by omega) (a ++ encT t) ha
    generalize ((ts.drop (i + 1)).map encT).flatten = R at ih ha ⊢
    have ha' := ha
    simp only [encT, List.length_append] at ha'
    have e : a ++ encS t.f0 ++ encI t.f1 ++ encI (t.f2.length : Int) ++ (t.f2.map encC).flatten ++ encI (t.f3.length : Int) ++ (t.f3.map encE).flatten = a ++ encT t := by simp [encT]
    have h1 := refBytes_l1 ts (ts.length : Int) (i : Int) v gs t q.1 q.2 (SB (a ++ encT t ++ R ++ encI (gs.length : Int) ++ (gs.map encG).flatten)) t.f2.length 0 (by omega) (a ++ encS t.f0 ++ encI t.f1 ++ encI (t.f2.length : Int))
    rw [List.drop_zero, e, jCr hlt hl] at h1
    have h1 := h1 (by simp only [List.length_append]; simp only [encT, List.length_append]; omega) ih
    refine Ev.step (fun k => by simp only [jAo.l0]; rw [if_pos (by omega), if_pos (by omega), if_pos (by omega), jGi, ht]) (Ev.bind (jEu (by omega)) ?_)
    refine Ev.congr (fun k => if_pos (by simp only [jCs]; omega)) ?_
    refine Ev.bind (jCq q.1.b) ?_
    refine Ev.congr (fun k => if_pos (by simp only [jDf, jCs, List.length_append]; omega)) ?_
    refine Ev.bind (jCq (jDc q.2.cols)) ?_
    refine Ev.congr (fun k => if_pos (by simp only [jDf, jCs, List.length_append]; omega)) ?_
    simp only [jDf]
    exact h1
theorem refBytes_ev (v : Int) (ts : List S45) (gs : List S27) (hv : I64 v) (hl : ts.length ≤ 9223372036854775807) (hg : gs.length ≤ 9223372036854775807) (hq : ∀ t, t ∈ ts → Q45 t ∧ OkT t) (hqg : ∀ x, x ∈ gs → Q27 x) (h : (encH v ts gs).length ≤ 9223372036854775807) :
    Ev (fun k => jAo.f k v ts gs) (SB (encH v ts gs)) := by
  have h0 := refBytes_l0 ts v gs hl hg hq hqg ts.length 0 (by omega) (encI v ++ encI (ts.length : Int))
  rw [List.drop_zero] at h0
  have h0 := h0 h
  have h' := h
  simp only [encH, List.length_append] at h'
  refine Ev.congr (fun k => rfl) (Ev.bind (jCq hv) (Ev.bind (jCq (jDc hl)) ?_))
  refine Ev.congr (fun k => if_pos (by simp only [jCs]; omega)) ?_
  rw [jDf]
  exact h0
end Go.Proofs.YtefdfgmlmjnmlaaDoor.My
end

section
set_option linter.unusedSimpArgs false
set_option linter.unusedVariables false
set_option maxRecDepth 10000
namespace Go.Proofs.YtefdfgmlmjnmlaaDoor.My
open Go.RowKit Go.Proofs.YtefdfgmlmjnmlaaDoorW.PrintWords Go.Proofs.YtefdfgmlmjnmlaaDoor.Rf
open Go.Proofs.YtefdfgmlmjnmlaaDoor
theorem jGs {H : Type} {α : Type} {P : α → Prop} (f : α → List UInt8) : ∀ {l : List α} {es : List (DataW H)}, All2 (fun (y : α) x => P y ∧ (f y).length ≤ 10 * Rows.uptoBulk x) l es → (∀ y, y ∈ l → P y) ∧ (l.map f).flatten.length ≤ 10 * Rows.uptoBulkAll es := by
  intro l es h
  induction h with
  | nil => exact ⟨(fun y hy => by cases hy), by simp⟩
  | cons h _ ih =>
    refine ⟨fun y hy => ?_, ?_⟩
    · rcases List.mem_cons.1 hy with rfl | hy
      · exact h.1
      · exact ih.1 y hy
    · have h1 := h.2
      have h2 := ih.2
      simp only [List.map_cons, List.flatten_cons, List.length_append, Rows.uptoBulkAll]
      omega
theorem encS_le {s : ByteArray} (h : s.size ≤ 9223372036854775807) : (encS s).length ≤ 10 + s.size := by
  have := jCv (jDc h)
  rw [encS, List.length_append, jDh]; omega
theorem encB_le (x : Bool) : (encB x).length ≤ 10 := by
  cases x
  · exact jCv (n := 0) ⟨by omega, by omega⟩
  · exact jCv (n := 1) ⟨by omega, by omega⟩
section
variable {H : Type} {enc : TypeId × Value → H} {w : World} {b : Nat} {sp : Nat → Bool} {held : Bool}
theorem open9B {fuel : Nat} {cs : List Value} {x : DataW H × List MemPlace} (h : DataW.trod enc Tryd.prog w b sp held fuel 9 cs = some x) : ∃ s, cs = [.string s] ∧ s.size ≤ 9223372036854775807 ∧ (encS s).length ≤ 10 * Rows.uptoBulk x.1 := by
  obtain ⟨n, h1, h3, h2⟩ := DataW.trod_string Tryd.underlying9 h
  refine ⟨n, h1, h2, ?_⟩
  have := encS_le h2
  subst h3
  simp only [Rows.uptoBulk, jDh]
  omega
theorem open70B {fuel : Nat} {cs : List Value} {x : DataW H × List MemPlace} (h : DataW.trod enc Tryd.prog w b sp held fuel 70 cs = some x) : ∃ y, k70.K w y cs ∧ Q70 y ∧ (encV y).length ≤ 10 * Rows.uptoBulk x.1 := by
  obtain ⟨xs, n, rfl, rfl, hl, hx, hf⟩ := DataW.trod_struct Tryd.underlying70 h
  rw [c70] at hl
  obtain ⟨v0, v1, v2, rfl⟩ := list3 hl
  obtain ⟨x0, x1, x2, rfl⟩ := list3 (show xs.length = 3 from hx)
  have h0 := hf 0 _ rfl
  have h1 := hf 1 _ rfl
  have h2 := hf 2 _ rfl
  simp only [c3, c9, List.drop_zero, List.drop_succ_cons, List.take_succ_cons, List.take_zero, List.getElem?_cons_zero, List.getElem?_cons_succ] at h0 h1 h2
  obtain ⟨a0, e0, q0⟩ := open3 h0
  obtain ⟨a1, e1, q1⟩ := open3 h1
  obtain ⟨a2, e2, q2, u2⟩ := open9B h2
  cases e0; cases e1; cases e2
  refine ⟨⟨a0, a1, a2⟩, k70_mk w _, ⟨q0, q1, q2⟩, ?_⟩
  have l0 := jCv q0
  have l1 := jCv q1
  have b0 := jDj x0.1
  have b1 := jDj x1.1
  simp only [encV, List.length_append, List.map_cons, List.map_nil, Rows.uptoBulk, Rows.uptoBulkAll]
  omega
theorem open72B : ∀ (fuel : Nat) (cs : List Value) (x : DataW H × List MemPlace), DataW.trod enc Tryd.prog w b sp held fuel 72 cs = some x → ∃ y, k72.K w y cs ∧ Q72 y ∧ (encE y).length ≤ 10 * Rows.uptoBulk x.1 := by
  intro fuel
  induction fuel using Nat.strongRecOn with
  | ind fuel ih =>
    intro cs x h
    obtain ⟨xs, n, rfl, rfl, hl, hx, hf⟩ := DataW.trod_struct Tryd.underlying72 h
    rw [c72] at hl
    obtain ⟨v0, v1, v2, v3, v4, v5, rfl⟩ := list6 hl
    obtain ⟨x0, x1, x2, x3, rfl⟩ := list4 (show xs.length = 4 from hx)
    have h0 := hf 0 _ rfl
    have h1 := hf 1 _ rfl
    have h2 := hf 2 _ rfl
    have h3 := hf 3 _ rfl
    simp only [c3, c70, c43, List.drop_zero, List.drop_succ_cons, List.take_succ_cons, List.take_zero, List.getElem?_cons_zero, List.getElem?_cons_succ] at h0 h1 h2 h3
    obtain ⟨a0, e0, q0⟩ := open3 h0
    obtain ⟨a1, e1, q1⟩ := open3 h1
    obtain ⟨a2, e2, q2, u2⟩ := open70B h2
    obtain ⟨A, c, l, es, e3, l3, g3, q3, u3⟩ := jEt (d := k72) (Q := fun (y : S72) x => Q72 y ∧ (encE y).length ≤ 10 * Rows.uptoBulk x) Tryd.underlying43 (by rw [c72]; rfl) h3 (fun m hm => ih m (by omega))
    obtain ⟨q3, s3⟩ := jGs encE q3
    have e2 := k70_open e2
    cases e0; cases e1; cases e2; cases e3
    refine ⟨⟨a0, a1, a2, l⟩, k72_mk w ⟨a0, a1, a2, l⟩ l3 g3, Q72.mk _ q0 q1 q2 q3, ?_⟩
    have l0 := jCv q0
    have l1 := jCv q1
    have ll := jCv (jDc (Kd.C_max g3))
    have b0 := jDj x0.1
    have b1 := jDj x1.1
    rw [jEn]
    simp only [List.length_append, List.map_cons, List.map_nil, Rows.uptoBulk, Rows.uptoBulkAll]
    show (encI a0).length + (encI a1).length + (encV a2).length + (encI (l.length : Int)).length + (l.map encE).flatten.length ≤ _
    omega
theorem open59B {fuel : Nat} {cs : List Value} {x : DataW H × List MemPlace} (h : DataW.trod enc Tryd.prog w b sp held fuel 59 cs = some x) : ∃ y, k59.K w y cs ∧ Q59 y ∧ (encC y).length ≤ 10 * Rows.uptoBulk x.1 := by
  obtain ⟨xs, n, rfl, rfl, hl, hx, hf⟩ := DataW.trod_struct Tryd.underlying59 h
  rw [c59] at hl
  obtain ⟨v0, v1, v2, v3, v4, v5, rfl⟩ := list6 hl
  obtain ⟨x0, x1, x2, x3, x4, x5, rfl⟩ := list6 (show xs.length = 6 from hx)
  have h0 := hf 0 _ rfl
  have h1 := hf 1 _ rfl
  have h2 := hf 2 _ rfl
  have h3 := hf 3 _ rfl
  have h4 := hf 4 _ rfl
  have h5 := hf 5 _ rfl
  simp only [c3, c4, c9, List.drop_zero, List.drop_succ_cons, List.take_succ_cons, List.take_zero, List.getElem?_cons_zero, List.getElem?_cons_succ] at h0 h1 h2 h3 h4 h5
  obtain ⟨a0, e0, q0, u0⟩ := open9B h0
  obtain ⟨a1, e1, q1⟩ := open3 h1
  obtain ⟨a2, e2⟩ := open4 h2
  obtain ⟨a3, e3⟩ := open4 h3
  obtain ⟨a4, e4, q4, u4⟩ := open9B h4
  obtain ⟨a5, e5, q5⟩ := open3 h5
  cases e0; cases e1; cases e2; cases e3; cases e4; cases e5
  refine ⟨⟨a0, a1, a2, a3, a4, a5⟩, k59_mk w _, ⟨q0, q1, q4, q5⟩, ?_⟩
  have l1 := jCv q1
  have l5 := jCv q5
  have l2 := encB_le a2
  have l3 := encB_le a3
  have b1 := jDj x1.1
  have b2 := jDj x2.1
  have b3 := jDj x3.1
  have b5 := jDj x5.1
  simp only [encC, List.length_append, List.map_cons, List.map_nil, Rows.uptoBulk, Rows.uptoBulkAll]
  omega
theorem open27B {fuel : Nat} {cs : List Value} {x : DataW H × List MemPlace} (h : DataW.trod enc Tryd.prog w b sp held fuel 27 cs = some x) : ∃ y, k27.K w y cs ∧ Q27 y ∧ (encG y).length ≤ 10 * Rows.uptoBulk x.1 := by
  obtain ⟨xs, n, rfl, rfl, hl, hx, hf⟩ := DataW.trod_struct Tryd.underlying27 h
  rw [c27] at hl
  obtain ⟨v0, v1, v2, rfl⟩ := list3 hl
  obtain ⟨x0, x1, x2, rfl⟩ := list3 (show xs.length = 3 from hx)
  have h0 := hf 0 _ rfl
  have h1 := hf 1 _ rfl
  have h2 := hf 2 _ rfl
  simp only [c3, c9, List.drop_zero, List.drop_succ_cons, List.take_succ_cons, List.take_zero, List.getElem?_cons_zero, List.getElem?_cons_succ] at h0 h1 h2
  obtain ⟨a0, e0, q0⟩ := open3 h0
  obtain ⟨a1, e1, q1, u1⟩ := open9B h1
  obtain ⟨a2, e2, q2⟩ := open3 h2
  cases e0; cases e1; cases e2
  refine ⟨⟨a0, a1, a2⟩, k27_mk w _, ⟨q0, q1, q2⟩, ?_⟩
  have l0 := jCv q0
  have l2 := jCv q2
  have b0 := jDj x0.1
  have b2 := jDj x2.1
  simp only [encG, List.length_append, List.map_cons, List.map_nil, Rows.uptoBulk, Rows.uptoBulkAll]
  omega
theorem open45B {fuel : Nat} {cs : List Value} {x : DataW H × List MemPlace} (h : DataW.trod enc Tryd.prog w b sp held fuel 45 cs = some x) : ∃ y, k45.K w y cs ∧ Q45 y ∧ (encT y).length ≤ 10 * Rows.uptoBulk x.1 := by
  obtain ⟨xs, n, rfl, rfl, hl, hx, hf⟩ := DataW.trod_struct Tryd.underlying45 h
  rw [c45] at hl
  obtain ⟨v0, v1, v2, v3, rfl⟩ := list4 hl
  obtain ⟨x0, x1, x2, x3, rfl⟩ := list4 (show xs.length = 4 from hx)
  have h0 := hf 0 _ rfl
  have h1 := hf 1 _ rfl
  have h2 := hf 2 _ rfl
  have h3 := hf 3 _ rfl
  simp only [c3, c9, c42, c43, List.drop_zero, List.drop_succ_cons, List.take_succ_cons, List.take_zero, List.getElem?_cons_zero, List.getElem?_cons_succ] at h0 h1 h2 h3
  obtain ⟨a0, e0, q0, u0⟩ := open9B h0
  obtain ⟨a1, e1, q1⟩ := open3 h1
  obtain ⟨A, c, l, es, e2, l2, g2, q2, u2⟩ := jEt (d := k59) (Q := fun (y : S59) x => Q59 y ∧ (encC y).length ≤ 10 * Rows.uptoBulk x) Tryd.underlying42 (by rw [c59]; rfl) h2 (fun m _ _ _ hm => open59B hm)
  obtain ⟨A', c', l', es', e3, l3, g3, q3, u3⟩ := jEt (d := k72) (Q := fun (y : S72) x => Q72 y ∧ (encE y).length ≤ 10 * Rows.uptoBulk x) Tryd.underlying43 (by rw [c72]; rfl) h3 (fun m _ => open72B m)
  obtain ⟨q2, s2⟩ := jGs encC q2
  obtain ⟨q3, s3⟩ := jGs encE q3
  cases e0; cases e1; cases e2; cases e3
  refine ⟨⟨a0, a1, l, l'⟩, k45_mk w ⟨a0, a1, l, l'⟩ l2 g2 l3 g3, ⟨q0, q1, q2, q3⟩, ?_⟩
  have i1 := jCv q1
  have ll := jCv (jDc (Kd.C_max g2))
  have lm := jCv (jDc (Kd.C_max g3))
  have b1 := jDj x1.1
  simp only [encT, List.length_append, List.map_cons, List.map_nil, Rows.uptoBulk, Rows.uptoBulkAll]
  omega
theorem open25B {fuel : Nat} {cs : List Value} {x : DataW H × List MemPlace} (h : DataW.trod enc Tryd.prog w b sp held fuel 25 cs = some x) :
    ∃ v A c l A' c' l', cs = [.int .i64 v, .slice A l.length c, .slice A' l'.length c'] ∧ I64 v ∧ l.length ≤ c ∧ Kd.C k45 w A l.length l ∧ (∀ y, y ∈ l → Q45 y) ∧ l'.length ≤ c' ∧ Kd.C k27 w A' l'.length l' ∧ (∀ y, y ∈ l' → Q27 y) ∧ (encH v l l').length ≤ 10 * Rows.uptoBulk x.1 := by
  obtain ⟨xs, n, rfl, rfl, hl, hx, hf⟩ := DataW.trod_struct Tryd.underlying25 h
  rw [c25] at hl
  obtain ⟨v0, v1, v2, rfl⟩ := list3 hl
  obtain ⟨x0, x1, x2, rfl⟩ := list3 (show xs.length = 3 from hx)
  have h0 := hf 0 _ rfl
  have h1 := hf 1 _ rfl
  have h2 := hf 2 _ rfl
  simp only [c3, c22, c23, List.drop_zero, List.drop_succ_cons, List.take_succ_cons, List.take_zero, List.getElem?_cons_zero, List.getElem?_cons_succ] at h0 h1 h2
  obtain ⟨a0, e0, q0⟩ := open3 h0
  obtain ⟨A, c, l, es, e1, l1, g1, q1, u1⟩ := jEt (d := k45) (Q := fun (y : S45) x => Q45 y ∧ (encT y).length ≤ 10 * Rows.uptoBulk x) Tryd.underlying22 (by rw [c45]; rfl) h1 (fun m _ _ _ hm => open45B hm)
  obtain ⟨A', c', l', es', e2, l2, g2, q2, u2⟩ := jEt (d := k27) (Q := fun (y : S27) x => Q27 y ∧ (encG y).length ≤ 10 * Rows.uptoBulk x) Tryd.underlying23 (by rw [c27]; rfl) h2 (fun m _ _ _ hm => open27B hm)
  obtain ⟨q1, s1⟩ := jGs encT q1
  obtain ⟨q2, s2⟩ := jGs encG q2
  cases e0; cases e1; cases e2
  refine ⟨_, _, _, _, _, _, _, rfl, q0, l1, g1, q1, l2, g2, q2, ?_⟩
  have i0 := jCv q0
  have ll := jCv (jDc (Kd.C_max g1))
  have lm := jCv (jDc (Kd.C_max g2))
  have b0 := jDj x0.1
  simp only [encH, List.length_append, List.map_cons, List.map_nil, Rows.uptoBulk, Rows.uptoBulkAll]
  omega
end
end Go.Proofs.YtefdfgmlmjnmlaaDoor.My
end

section
set_option linter.unusedVariables false
set_option linter.unusedSimpArgs false
namespace Go.Proofs.YtefdfgmlmjnmlaaDoor.Rf
open Go.RowKit Go.Proofs.YtefdfgmlmjnmlaaDoorW.PrintWords Go.Proofs.YtefdfgmlmjnmlaaDoorW.PrintLast Go.Proofs.YtefdfgmlmjnmlaaDoorW.PrintMore
attribute [local go_sem] jCg jCo
/-- A state of type 129 at block g of W; what its slices lead to came in by w0. -/
def jAc (w0 W : World) (g : Nat) (f0 : ByteArray) (f1 : Int) (f2 : Bool) : Prop := W.heap[g]? = some (.cells #[.string f0, .int .i64 f1, .bool f2] 129 (0, 0)) ∧ w0.heap.size ≤ g
theorem jAc.grown {w0 W : World} {g : Nat} {f0 : ByteArray} {f1 : Int} {f2 : Bool} {W1 : World} {row : Option Nat} (h : jAc w0 W g f0 f1 f2) (hw : W.grownBy W1 row) (hne : some g ≠ row) : jAc w0 W1 g f0 f1 f2 := by
 obtain ⟨hb, hg⟩ := h
 exact ⟨jCz hb hw hne, hg⟩
theorem jAc.kept {w0 W : World} {g : Nat} {f0 : ByteArray} {f1 : Int} {f2 : Bool} {W1 : World} {S : Nat → Prop} (h : jAc w0 W g f0 f1 f2) (hk : Kept W W1 S) (hne : ¬ S g) : jAc w0 W1 g f0 f1 f2 := by
 obtain ⟨hb, hg⟩ := h
 exact ⟨blk_kept hb hk hne, hg⟩
theorem jAc.below {w0 W : World} {g : Nat} {f0 : ByteArray} {f1 : Int} {f2 : Bool} {W1 : World} (h : jAc w0 W g f0 f1 f2) (hw : Below W.heap.size W W1) : jAc w0 W1 g f0 f1 f2 := h.grown (jFg hw none) (by simp)
theorem jAc.alloc {w0 W : World} {g : Nat} {f0 : ByteArray} {f1 : Int} {f2 : Bool} (h : jAc w0 W g f0 f1 f2) (o : Obj) : jAc w0 (W.alloc o) g f0 f1 f2 := h.below (jAj (Below.refl _ _) o)
theorem jAc.drewN {w0 W : World} {g : Nat} {f0 : ByteArray} {f1 : Int} {f2 : Bool} (h : jAc w0 W g f0 f1 f2) (m : Nat) : jAc w0 (W.drewN m) g f0 f1 f2 := h
theorem jAc.drew {w0 W : World} {g : Nat} {f0 : ByteArray} {f1 : Int} {f2 : Bool} (h : jAc w0 W g f0 f1 f2) : jAc w0 W.drew g f0 f1 f2 := h
theorem jAc.apart {w0 W : World} {g : Nat} {f0 : ByteArray} {f1 : Int} {f2 : Bool} {α : Type} {d : Kd α} {e : Nat} {base : Nat} {ok : Nat → Prop} {v : Value} {xs : List α} (h : jAc w0 W g f0 f1 f2) (ho : d.R e W base ok v xs) (ht : ∀ q, q ∈ e :: d.E → q ≠ 129) : d.R e W base (fun k => ok k ∧ k ≠ g) v xs := by
 obtain ⟨hb, hg⟩ := h
 exact Kd.R_types ho hb ht
theorem jAc.own_ne {w0 W : World} {g : Nat} {f0 : ByteArray} {f1 : Int} {f2 : Bool} {α : Type} {d : Kd α} {e : Nat} {base : Nat} {ok : Nat → Prop} {v : Value} {xs : List α} (h : jAc w0 W g f0 f1 f2) (ho : d.R e W base ok v xs) (ht : e ≠ 129) : some g ≠ v.ownBlock := by
 obtain ⟨hb, hg⟩ := h
 exact Kd.R_ne ho hb ht
theorem jAc.lt {w0 W : World} {g : Nat} {f0 : ByteArray} {f1 : Int} {f2 : Bool} (h : jAc w0 W g f0 f1 f2) : g < W.heap.size := by
 obtain ⟨hb, hg⟩ := h
 exact jBu hb
theorem jAc.ge {w0 W : World} {g : Nat} {f0 : ByteArray} {f1 : Int} {f2 : Bool} (h : jAc w0 W g f0 f1 f2) : w0.heap.size ≤ g := by
 obtain ⟨hb, hg⟩ := h
 exact hg
theorem jAc.ne_blk {w0 W : World} {g : Nat} {f0 : ByteArray} {f1 : Int} {f2 : Bool} {a : Nat} {cs : Array Value} {t : TypeId} {fr : Nat × Nat} (h : jAc w0 W g f0 f1 f2) (hb2 : W.heap[a]? = some (.cells cs t fr)) (ht : t ≠ 129) : g ≠ a := by
 obtain ⟨hb, hg⟩ := h
 rintro rfl
 rw [hb] at hb2
 injection hb2 with hb2
 injection hb2 with _ ht2
 exact ht ht2.symm
theorem jAc.far {w0 W : World} {g : Nat} {f0 : ByteArray} {f1 : Int} {f2 : Bool} {p : Addr} (h : jAc w0 W g f0 f1 f2) (hne : g ≠ p.block) (u : Value) : jAc w0 (W.setCell p u) g f0 f1 f2 := by
 obtain ⟨hb, hg⟩ := h
 exact ⟨jBa hb hne u, hg⟩
theorem jBw {W : World} {g : Nat} {f0 : ByteArray} {f1 : Int} {f2 : Bool} (h : W.heap[g]? = some (.cells #[.string f0, .int .i64 f1, .bool f2] 129 (0, 0))) : W.cell? ⟨g, 0, none⟩ = some (.string f0) := (jAb h 0).trans rfl
theorem jAc.set_0 {w0 W : World} {g : Nat} {f0 : ByteArray} {f1 : Int} {f2 : Bool} (h : jAc w0 W g f0 f1 f2) (x : ByteArray) : jAc w0 (W.setCell ⟨g, 0, none⟩ (.string x)) g x f1 f2 := by
 obtain ⟨hb, hg⟩ := h
 exact ⟨by simpa using blk_set hb 0 (.string x), hg⟩
theorem jBx {W : World} {g : Nat} {f0 : ByteArray} {f1 : Int} {f2 : Bool} (h : W.heap[g]? = some (.cells #[.string f0, .int .i64 f1, .bool f2] 129 (0, 0))) : W.cell? ⟨g, 1, none⟩ = some (.int .i64 f1) := (jAb h 1).trans rfl
theorem jAc.set_1 {w0 W : World} {g : Nat} {f0 : ByteArray} {f1 : Int} {f2 : Bool} (h : jAc w0 W g f0 f1 f2) (x : Int) : jAc w0 (W.setCell ⟨g, 1, none⟩ (.int .i64 x)) g f0 x f2 := by
 obtain ⟨hb, hg⟩ := h
 exact ⟨by simpa using blk_set hb 1 (.int .i64 x), hg⟩
theorem jBy {W : World} {g : Nat} {f0 : ByteArray} {f1 : Int} {f2 : Bool} (h : W.heap[g]? = some (.cells #[.string f0, .int .i64 f1, .bool f2] 129 (0, 0))) : W.cell? ⟨g, 2, none⟩ = some (.bool f2) := (jAb h 2).trans rfl
theorem jAc.set_2 {w0 W : World} {g : Nat} {f0 : ByteArray} {f1 : Int} {f2 : Bool} (h : jAc w0 W g f0 f1 f2) (x : Bool) : jAc w0 (W.setCell ⟨g, 2, none⟩ (.bool x)) g f0 f1 x := by
 obtain ⟨hb, hg⟩ := h
 exact ⟨by simpa using blk_set hb 2 (.bool x), hg⟩
def jEv.f (a0 : ByteArray) : Option (ByteArray × Int × Bool) := some (a0, 0, false)
set_option maxHeartbeats 8000000 in
set_option maxRecDepth 100000 in
theorem jEv.calls (a0 : ByteArray) (r1 : ByteArray) (r2 : Int) (r3 : Bool) (w0 w : World) (hB : Below w0.heap.size w0 w) (h : jEv.f a0 = some (r1, r2, r3)) :
  Calls Tryd.prog 64 #[.string a0] w fun e w' => ∃ g_ : Nat, e = .returned (.pointer (some ⟨g_, 0, none⟩)) ∧ jAc w0 w' g_ r1 r2 r3 ∧ Below w0.heap.size w0 w' ∧ Below w.heap.size w w' := by
 have hu129 := Tryd.underlying129
 have HBW := jAa.mk (Below.refl w.heap.size w)
 have HW0 := jAa.mk hB.size
 have HB := jAa.mk hB
 clear hB
 have H : (some (a0, 0, false)) = some (r1, r2, r3) := h
 clear h
 simp only [Option.some.injEq, Prod.mk.injEq] at H
 obtain ⟨rfl, rfl, rfl⟩ := H
 go_enter Tryd.func64, Tryd.ntmps64
 go_wp2_with (first | ((with_reducible refine jCa (N := 5) rfl ?_); refine jBv ?hg (N := 5) ?hd (cs := #[.string a0, .int .i64 0, .bool false]) (t := 129) ?hr ?_; (case hd => rfl); (case hg => rfl); (case hr => first | (go_simp; done) | (go_simp; rfl)); intro gb272 hg w2 hbox hb; have n0_ := jAa.mk (jAu HBW.out hb); have n1_ := jAa.mk (jAu (by repeat (first | (with_reducible first | exact HB.out | apply jAj | apply jAd | apply jAk) | exact HB.out)) hb); have n2_ := jAa.mk (hbox); have n3_ := jAa.mk ((by rw [hg]; exact (jBj (by repeat (first | (with_reducible first | exact HBW.out | apply jAj | apply jAd | apply jAk) | exact HBW.out))) : w.heap.size ≤ gb272)); have n4_ := jAa.mk ((Nat.le_trans HW0.out (by rw [hg]; exact (jBj (by repeat (first | (with_reducible first | exact HBW.out | apply jAj | apply jAd | apply jAk) | exact HBW.out))) : w.heap.size ≤ gb272) : w0.heap.size ≤ gb272)); clear HBW; clear HB; have HBW := n0_; have HB := n1_; have BK272 := n2_; have GW272 := n3_; have GE272 := n4_; clear n0_ n1_ n2_ n3_ n4_; clear hb hbox hg))
 go_ret
 exact ⟨_, rfl, (show jAc w0 _ gb272 a0 0 false from ⟨by (with_reducible repeat (first | refine jAf ?_ _ | refine jAi ?_ | refine jAe ?_ _)); exact BK272.out, GE272.out⟩), by repeat (first | (with_reducible first | exact HB.out | apply jAj | apply jAd | apply jAk | refine jAh ?_ GE272.out) | exact HB.out), by repeat (first | (with_reducible first | exact HBW.out | apply jAj | apply jAd | apply jAk | refine jAh ?_ GW272.out) | exact HBW.out)⟩
end Go.Proofs.YtefdfgmlmjnmlaaDoor.Rf
end

section
set_option linter.unusedVariables false
set_option linter.unusedSimpArgs false
namespace Go.Proofs.YtefdfgmlmjnmlaaDoor.Rf
open Go.RowKit Go.Proofs.YtefdfgmlmjnmlaaDoorW.PrintWords Go.Proofs.YtefdfgmlmjnmlaaDoorW.PrintLast Go.Proofs.YtefdfgmlmjnmlaaDoorW.PrintMore
attribute [local go_sem] jCg jCo
def jAy.f (s0_0 : ByteArray) (s0_1 : Int) (s0_2 : Bool) : Option (Int × ByteArray × Int × Bool) := some (0, s0_0, s0_1, true)
set_option maxHeartbeats 8000000 in
set_option maxRecDepth 100000 in
theorem jAy.calls (g : Nat) (s0_0 : ByteArray) (s0_1 : Int) (s0_2 : Bool) (r1 : Int) (r2 : ByteArray) (r3 : Int) (r4 : Bool) (w0 w : World) (hI : jAc w0 w g s0_0 s0_1 s0_2) (hB : Below w0.heap.size w0 w) (h : jAy.f s0_0 s0_1 s0_2 = some (r1, r2, r3, r4)) :
  Calls Tryd.prog 94 #[.pointer (some ⟨g, 0, none⟩)] w fun e w' => e = .returned (.int .i64 r1) ∧ jAc w0 w' g r2 r3 r4 ∧ Below w0.heap.size w0 w' ∧ jAn w w' g none := by
 have HI0 := jAa.mk hI
 have HK := jAa.mk (jAn.refl w g none)
 have HL := jAa.mk hB.size
 clear hI
 have HW0 := jAa.mk hB.size
 have HB := jAa.mk hB
 clear hB
 have H : (some (0, s0_0, s0_1, true)) = some (r1, r2, r3, r4) := h
 clear h
 simp only [Option.some.injEq, Prod.mk.injEq] at H
 obtain ⟨rfl, rfl, rfl, rfl⟩ := H
 obtain ⟨HGz2, hgz2⟩ := HI0.out
 have hcz2_0 := jBw HGz2
 have hcz2_1 := jBx HGz2
 have hcz2_2 := jBy HGz2
 have hfz2_0 := jAg HGz2 0
 have hfz2_1 := jAg HGz2 1
 have hfz2_2 := jAg HGz2 2
 clear HGz2 hgz2
 go_enter Tryd.func94, Tryd.ntmps94
 go_wp2
 go_ret
 exact ⟨by first | rfl | (simp [jBd, jBe] <;> rfl) | (simp [*, jBd, jBe] <;> rfl), by repeat (first | (with_reducible first | exact HI0.out | apply jAc.alloc | apply jAc.drewN | apply jAc.drew | apply jAc.set_0 | apply jAc.set_1 | apply jAc.set_2) | exact HI0.out), by repeat (first | (with_reducible first | exact HB.out | apply jAj | apply jAd | apply jAk | refine jAh ?_ (jAc.ge HI0.out)) | exact HB.out), by repeat (first | (with_reducible first | exact HK.out | apply jAn.set_ | apply jAs | apply jAw | apply jAt) | exact HK.out)⟩
end Go.Proofs.YtefdfgmlmjnmlaaDoor.Rf
end

section
set_option linter.unusedVariables false
set_option linter.unusedSimpArgs false
namespace Go.Proofs.YtefdfgmlmjnmlaaDoor.Rf
open Go.RowKit Go.Proofs.YtefdfgmlmjnmlaaDoorW.PrintWords Go.Proofs.YtefdfgmlmjnmlaaDoorW.PrintLast Go.Proofs.YtefdfgmlmjnmlaaDoorW.PrintMore
attribute [local go_sem] jCg jCo
def jDw.f (a0 : Int) : Option (Int) := some (Go.bits .xor .i64 (wrap64 (a0 / 2)) (wrap64 (-(wrap64 (Go.bits .and .u64 a0 1)))))
set_option maxHeartbeats 8000000 in
set_option maxRecDepth 100000 in
theorem jDw.calls (a0 : Int) (r : Int) (w : World) (h : jDw.f a0 = some r) :
  Calls Tryd.prog 95 #[.int .u64 a0] w fun e w' => e = .returned (.int .i64 r) ∧ jDp w w' := by
 have H : (some (Go.bits .xor .i64 (wrap64 (a0 / 2)) (wrap64 (-(wrap64 (Go.bits .and .u64 a0 1)))))) = some r := h
 clear h
 obtain rfl := Option.some.inj H
 go_enter Tryd.func95, Tryd.ntmps95
 go_wp2
 go_ret
 exact ⟨by first | rfl | (simp; done) | (simp [*]; done), by repeat (first | exact jDp.refl _ | apply jDp.step)⟩
end Go.Proofs.YtefdfgmlmjnmlaaDoor.Rf
end
