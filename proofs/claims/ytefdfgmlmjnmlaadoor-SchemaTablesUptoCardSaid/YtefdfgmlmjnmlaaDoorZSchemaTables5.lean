/- Lemmas for the law SchemaTables: what the functions that it reaches compute, with those words of the kit's print that they use. No condition. Joined out of this session's smaller texts (part 5 of 7). -/
import Derived.Test.YtefdfgmlmjnmlaaDoorZSchemaTables4
import Derived.Test.YtefdfgmlmjnmlaaDoorZSchemaTables3
import Derived.Defers
import Derived.Recover
import Derived.Test.YtefdfgmlmjnmlaaDoorZSchemaTables2
section
set_option linter.unusedSimpArgs false
set_option linter.unusedVariables false
namespace Go.Proofs.YtefdfgmlmjnmlaaDoor.My
open Go.RowKit Go.Proofs.YtefdfgmlmjnmlaaDoorW.PrintWords Go.Proofs.YtefdfgmlmjnmlaaDoor.Rf
open Go.Proofs.YtefdfgmlmjnmlaaDoorW.PrintLast Go.Proofs.YtefdfgmlmjnmlaaDoorW.PrintMore
attribute [local go_sem high] eqA70
structure KindRPost (r : Int × Int) (w : World) (e : Ending) (w' : World) : Prop where
  out : e = .returned (.tuple #[.int .i64 r.1, .int .i64 r.2])
  below : Below w.heap.size w w'
set_option maxHeartbeats 4000000 in
set_option maxRecDepth 100000 in
theorem kindR_A (f0 f1 : Int) (v0 v1 : Int) (v2 : ByteArray) (l : List S72) (A : Option Addr) (c : Nat) (cols : List S59) (B : Option Addr) (d : Nat) (w : World) (hr : Kd.C k72 w A l.length l) (hB : Kd.C k59 w B cols.length cols) (hp : (partsN f0 != (l.length : Int)) = true) :
    Calls Tryd.prog 91 #[.agg #[.int .i64 f0, .int .i64 f1, .int .i64 v0, .int .i64 v1, .string v2, .slice A l.length c], .slice B cols.length d] w (KindRPost (kindE cols ⟨f0, f1, ⟨v0, v1, v2⟩, l⟩) w) := by
  have hpre : preK ⟨f0, f1, ⟨v0, v1, v2⟩, l⟩ = true := by simp only [preK, zeroV]; rw [hp]; rfl
  have b1 := below1 w (.cells #[.int .i64 f0, .int .i64 f1, .int .i64 v0, .int .i64 v1, .string v2, .slice A l.length c] 72)
  have HB := Aside0.mk b1
  have HR := Aside0.mk (Kd.C_below hr b1)
  have HC := Aside0.mk (Kd.C_below hB b1)
  have HK := Aside0.mk (blk_new w (.cells #[.int .i64 f0, .int .i64 f1, .int .i64 v0, .int .i64 v1, .string v2, .slice A l.length c] 72))
  have HRw := Aside0.mk hr
  have HCw := Aside0.mk hB
  clear hr hB b1
  go_enter Tryd.func91, Tryd.ntmps91
  go_wp2_with (fail)
  refine start_ (n := 28) (S := (fun w' => w'.cell? ⟨w.heap.size, 0, none⟩ = some (.int .i64 f0) ∧ w'.cell? ⟨w.heap.size, 1, none⟩ = some (.int .i64 f1) ∧ w'.cell? ⟨w.heap.size, 2, none⟩ = some (.int .i64 v0) ∧ w'.cell? ⟨w.heap.size, 3, none⟩ = some (.int .i64 v1) ∧ w'.cell? ⟨w.heap.size, 4, none⟩ = some (.string v2) ∧ w'.cell? ⟨w.heap.size, 5, none⟩ = some (.slice A l.length c))) (ds := []) #[false, false, false, false, false, false, false, false, false, false, false, false, false, false, false, false, false, false, false, false, false, false, false, false, false, false, false, false] (by kernel_rfl) rfl rfl ⟨blk_cell HK.out 0, blk_cell HK.out 1, blk_cell HK.out 2, blk_cell HK.out 3, blk_cell HK.out 4, blk_cell HK.out 5⟩ (fun hHeld => ?_)
  refine pure_ (i := 0) (N := some 12) (v := ?_) (a' := ?_) #[true, false, false, false, false, false, false, false, false, false, false, false, false, false, false, false, false, false, false, false, false, false, false, false, false, false, false, false] rfl rfl (by kernel_rfl) (fun _ _ _ h => h) (Or.inl ⟨by rfl, ?_⟩) ?_ ?_
  rotate_left
  · intro w'
    go_simp
    with_reducible rfl
  rotate_left
  · simp only [Act.put, List.setIfInBounds_toArray, List.set_cons_zero, List.set_cons_succ, i64_w, i32_w]
    rfl
  refine pure_ (i := 3) (N := some 15) (v := ?_) (a' := ?_) #[true, false, false, true, false, false, false, false, false, false, false, false, false, false, false, false, false, false, false, false, false, false, false, false, false, false, false, false] rfl rfl (by kernel_rfl) (fun _ _ _ h => h) (Or.inl ⟨by rfl, ?_⟩) ?_ ?_
  rotate_left
  · intro w'
    go_simp
    with_reducible rfl
  rotate_left
  · simp only [Act.put, List.setIfInBounds_toArray, List.set_cons_zero, List.set_cons_succ, i64_w, i32_w]
    rfl
  refine take_ (i := 1) (N := some 13) (v := ?_) (a' := ?_) #[true, true, false, true, false, false, false, false, false, false, false, false, false, false, false, false, false, false, false, false, false, false, false, false, false, false, false, false] rfl rfl (by kernel_rfl) (fun _ _ _ h => h) (Or.inl ⟨by rfl, ?_⟩) hHeld ?_ ?_
  rotate_left
  · rintro w' ⟨s0, s1, s2, s3, s4, s5⟩
    go_simp
    with_reducible rfl
  rotate_left
  · simp only [Act.put, List.setIfInBounds_toArray, List.set_cons_zero, List.set_cons_succ, i64_w, i32_w]
    rfl
  refine take_ (i := 4) (N := some 16) (v := ?_) (a' := ?_) #[true, true, false, true, true, false, false, false, false, false, false, false, false, false, false, false, false, false, false, false, false, false, false, false, false, false, false, false] rfl rfl (by kernel_rfl) (fun _ _ _ h => h) (Or.inl ⟨by rfl, ?_⟩) hHeld ?_ ?_
  rotate_left
  · rintro w' ⟨s0, s1, s2, s3, s4, s5⟩
    go_simp
    with_reducible rfl
  rotate_left
  · simp only [Act.put, List.setIfInBounds_toArray, List.set_cons_zero, List.set_cons_succ, i64_w, i32_w]
    rfl
  refine pure_ (i := 5) (N := some 17) (v := ?_) (a' := ?_) #[true, true, false, true, true, true, false, false, false, false, false, false, false, false, false, false, false, false, false, false, false, false, false, false, false, false, false, false] rfl rfl (by kernel_rfl) (fun _ _ _ h => h) (Or.inl ⟨by rfl, ?_⟩) ?_ ?_
  rotate_left
  · intro w'
    go_simp
    with_reducible rfl
  rotate_left
  · simp only [Act.put, List.setIfInBounds_toArray, List.set_cons_zero, List.set_cons_succ, i64_w, i32_w]
    rfl
  refine one_ (i := 2) (N := some 14) #[true, true, true, true, true, true, false, false, false, false, false, false, false, false, false, false, false, false, false, false, false, false, false, false, false, false, false, false] rfl rfl (by kernel_rfl) (by decide) (fun K hK => ?_)
  refine goes_ Tryd.func115 (by kernel_rfl) rfl #[.int .i64 f0] (by rfl) rfl rfl (by first | rfl | (simp only [List.map_toArray, List.map_cons, List.map_nil]; rfl)) ?_
  refine (count_calls f0 _).mono ?_
  rintro e w2 ⟨rfl, hb2⟩
  have hb2 := undrew hb2
  have HK2 := Aside0.mk (blk_below HK.out hb2)
  have HR2 := Aside0.mk (Kd.C_below HR.out hb2)
  have HC2 := Aside0.mk (Kd.C_below HC.out hb2)
  have HB2 := Aside0.mk (below_step HB.out hb2)
  refine ⟨_, rfl, ?_⟩
  refine hK.out _ _ ⟨blk_cell HK2.out 0, blk_cell HK2.out 1, blk_cell HK2.out 2, blk_cell HK2.out 3, blk_cell HK2.out 4, blk_cell HK2.out 5⟩ (fun hHeld => ?_)
  clear hK K
  refine norm_ (a' := ?_) ?_ ?_
  rotate_left
  · show Act.put _ (some 14) _ = _
    simp only [Act.put, List.setIfInBounds_toArray, List.set_cons_zero, List.set_cons_succ, i64_w, i32_w]
    rfl
  refine pure_ (i := 6) (N := some 18) (v := ?_) (a' := ?_) #[true, true, true, true, true, true, true, false, false, false, false, false, false, false, false, false, false, false, false, false, false, false, false, false, false, false, false, false] rfl rfl (by kernel_rfl) (fun _ _ _ h => h) (Or.inl ⟨by rfl, ?_⟩) ?_ ?_
  rotate_left
  · intro w'
    go_simp
    with_reducible rfl
  rotate_left
  · simp only [Act.put, List.setIfInBounds_toArray, List.set_cons_zero, List.set_cons_succ, i64_w, i32_w]
    rfl
  refine pure_ (i := 7) (N := some 19) (v := ?_) (a' := ?_) #[true, true, true, true, true, true, true, true, false, false, false, false, false, false, false, false, false, false, false, false, false, false, false, false, false, false, false, false] rfl rfl (by kernel_rfl) (fun _ _ _ h => h) (Or.inl ⟨by rfl, ?_⟩) ?_ ?_
  rotate_left
  · intro w'
    go_simp
    with_reducible rfl
  rotate_left
  · simp only [Act.put, List.setIfInBounds_toArray, List.set_cons_zero, List.set_cons_succ, i64_w, i32_w]
    rfl
  refine pure_ (i := 8) (N := some 20) (v := undef) (a' := ?_) #[true, true, true, true, true, true, true, true, true, false, false, false, false, false, false, false, false, false, false, false, false, false, false, false, false, false, false, false] rfl rfl (by kernel_rfl) (fun _ _ _ h => h) (Or.inr ⟨by rfl, rfl⟩) ?_ ?_
  rotate_left
  · simp only [Act.put, List.setIfInBounds_toArray, List.set_cons_zero, List.set_cons_succ, i64_w, i32_w]
    rfl
  refine pure_ (i := 9) (N := some 21) (v := undef) (a' := ?_) #[true, true, true, true, true, true, true, true, true, true, false, false, false, false, false, false, false, false, false, false, false, false, false, false, false, false, false, false] rfl rfl (by kernel_rfl) (fun _ _ _ h => h) (Or.inr ⟨by rfl, rfl⟩) ?_ ?_
  rotate_left
  · simp only [Act.put, List.setIfInBounds_toArray, List.set_cons_zero, List.set_cons_succ, i64_w, i32_w]
    rfl
  refine pure_ (i := 10) (N := some 22) (v := undef) (a' := ?_) #[true, true, true, true, true, true, true, true, true, true, true, false, false, false, false, false, false, false, false, false, false, false, false, false, false, false, false, false] rfl rfl (by kernel_rfl) (fun _ _ _ h => h) (Or.inr ⟨by rfl, rfl⟩) ?_ ?_
  rotate_left
  · simp only [Act.put, List.setIfInBounds_toArray, List.set_cons_zero, List.set_cons_succ, i64_w, i32_w]
    rfl
  refine pure_ (i := 11) (N := some 23) (v := undef) (a' := ?_) #[true, true, true, true, true, true, true, true, true, true, true, true, false, false, false, false, false, false, false, false, false, false, false, false, false, false, false, false] rfl rfl (by kernel_rfl) (fun _ _ _ h => h) (Or.inr ⟨by rfl, rfl⟩) ?_ ?_
  rotate_left
  · simp only [Act.put, List.setIfInBounds_toArray, List.set_cons_zero, List.set_cons_succ, i64_w, i32_w]
    rfl
  refine pure_ (i := 12) (N := some 24) (v := undef) (a' := ?_) #[true, true, true, true, true, true, true, true, true, true, true, true, true, false, false, false, false, false, false, false, false, false, false, false, false, false, false, false] rfl rfl (by kernel_rfl) (fun _ _ _ h => h) (Or.inr ⟨by rfl, rfl⟩) ?_ ?_
  rotate_left
  · simp only [Act.put, List.setIfInBounds_toArray, List.set_cons_zero, List.set_cons_succ, i64_w, i32_w]
    rfl
  refine pure_ (i := 13) (N := some 25) (v := undef) (a' := ?_) #[true, true, true, true, true, true, true, true, true, true, true, true, true, true, false, false, false, false, false, false, false, false, false, false, false, false, false, false] rfl rfl (by kernel_rfl) (fun _ _ _ h => h) (Or.inr ⟨by rfl, rfl⟩) ?_ ?_
  rotate_left
  · simp only [Act.put, List.setIfInBounds_toArray, List.set_cons_zero, List.set_cons_succ, i64_w, i32_w]
    rfl
  refine pure_ (i := 14) (N := some 26) (v := undef) (a' := ?_) #[true, true, true, true, true, true, true, true, true, true, true, true, true, true, true, false, false, false, false, false, false, false, false, false, false, false, false, false] rfl rfl (by kernel_rfl) (fun _ _ _ h => h) (Or.inr ⟨by rfl, rfl⟩) ?_ ?_
  rotate_left
  · simp only [Act.put, List.setIfInBounds_toArray, List.set_cons_zero, List.set_cons_succ, i64_w, i32_w]
    rfl
  refine pure_ (i := 15) (N := some 27) (v := undef) (a' := ?_) #[true, true, true, true, true, true, true, true, true, true, true, true, true, true, true, true, false, false, false, false, false, false, false, false, false, false, false, false] rfl rfl (by kernel_rfl) (fun _ _ _ h => h) (Or.inr ⟨by rfl, rfl⟩) ?_ ?_
  rotate_left
  · simp only [Act.put, List.setIfInBounds_toArray, List.set_cons_zero, List.set_cons_succ, i64_w, i32_w]
    rfl
  refine pure_ (i := 16) (N := some 28) (v := ?_) (a' := ?_) #[true, true, true, true, true, true, true, true, true, true, true, true, true, true, true, true, true, false, false, false, false, false, false, false, false, false, false, false] rfl rfl (by kernel_rfl) (fun _ _ _ h => h) (Or.inl ⟨by rfl, ?_⟩) ?_ ?_
  rotate_left
  · intro w'
    go_simp
    with_reducible rfl
  rotate_left
  · simp only [Act.put, List.setIfInBounds_toArray, List.set_cons_zero, List.set_cons_succ, i64_w, i32_w]
    rfl
  refine pure_ (i := 17) (N := some 29) (v := ?_) (a' := ?_) #[true, true, true, true, true, true, true, true, true, true, true, true, true, true, true, true, true, true, false, false, false, false, false, false, false, false, false, false] rfl rfl (by kernel_rfl) (fun _ _ _ h => h) (Or.inl ⟨by rfl, ?_⟩) ?_ ?_
  rotate_left
  · intro w'
    go_simp
    with_reducible rfl
  rotate_left
  · simp only [Act.put, List.setIfInBounds_toArray, List.set_cons_zero, List.set_cons_succ, i64_w, i32_w]
    rfl
  refine pure_ (i := 18) (N := some 30) (v := undef) (a' := ?_) #[true, true, true, true, true, true, true, true, true, true, true, true, true, true, true, true, true, true, true, false, false, false, false, false, false, false, false, false] rfl rfl (by kernel_rfl) (fun _ _ _ h => h) (Or.inr ⟨by rfl, rfl⟩) ?_ ?_
  rotate_left
  · simp only [Act.put, List.setIfInBounds_toArray, List.set_cons_zero, List.set_cons_succ, i64_w, i32_w]
    rfl
  refine pure_ (i := 19) (N := some 31) (v := undef) (a' := ?_) #[true, true, true, true, true, true, true, true, true, true, true, true, true, true, true, true, true, true, true, true, false, false, false, false, false, false, false, false] rfl rfl (by kernel_rfl) (fun _ _ _ h => h) (Or.inr ⟨by rfl, rfl⟩) ?_ ?_
  rotate_left
  · simp only [Act.put, List.setIfInBounds_toArray, List.set_cons_zero, List.set_cons_succ, i64_w, i32_w]
    rfl
  refine pure_ (i := 20) (N := some 32) (v := undef) (a' := ?_) #[true, true, true, true, true, true, true, true, true, true, true, true, true, true, true, true, true, true, true, true, true, false, false, false, false, false, false, false] rfl rfl (by kernel_rfl) (fun _ _ _ h => h) (Or.inr ⟨by rfl, rfl⟩) ?_ ?_
  rotate_left
  · simp only [Act.put, List.setIfInBounds_toArray, List.set_cons_zero, List.set_cons_succ, i64_w, i32_w]
    rfl
  refine pure_ (i := 21) (N := some 33) (v := undef) (a' := ?_) #[true, true, true, true, true, true, true, true, true, true, true, true, true, true, true, true, true, true, true, true, true, true, false, false, false, false, false, false] rfl rfl (by kernel_rfl) (fun _ _ _ h => h) (Or.inr ⟨by rfl, rfl⟩) ?_ ?_
  rotate_left
  · simp only [Act.put, List.setIfInBounds_toArray, List.set_cons_zero, List.set_cons_succ, i64_w, i32_w]
    rfl
  refine pure_ (i := 22) (N := some 34) (v := undef) (a' := ?_) #[true, true, true, true, true, true, true, true, true, true, true, true, true, true, true, true, true, true, true, true, true, true, true, false, false, false, false, false] rfl rfl (by kernel_rfl) (fun _ _ _ h => h) (Or.inr ⟨by rfl, rfl⟩) ?_ ?_
  rotate_left
  · simp only [Act.put, List.setIfInBounds_toArray, List.set_cons_zero, List.set_cons_succ, i64_w, i32_w]
    rfl
  refine pure_ (i := 23) (N := some 35) (v := undef) (a' := ?_) #[true, true, true, true, true, true, true, true, true, true, true, true, true, true, true, true, true, true, true, true, true, true, true, true, false, false, false, false] rfl rfl (by kernel_rfl) (fun _ _ _ h => h) (Or.inr ⟨by rfl, rfl⟩) ?_ ?_
  rotate_left
  · simp only [Act.put, List.setIfInBounds_toArray, List.set_cons_zero, List.set_cons_succ, i64_w, i32_w]
    rfl
  refine pure_ (i := 24) (N := some 36) (v := undef) (a' := ?_) #[true, true, true, true, true, true, true, true, true, true, true, true, true, true, true, true, true, true, true, true, true, true, true, true, true, false, false, false] rfl rfl (by kernel_rfl) (fun _ _ _ h => h) (Or.inr ⟨by rfl, rfl⟩) ?_ ?_
  rotate_left
  · simp only [Act.put, List.setIfInBounds_toArray, List.set_cons_zero, List.set_cons_succ, i64_w, i32_w]
    rfl
  refine pure_ (i := 25) (N := some 37) (v := undef) (a' := ?_) #[true, true, true, true, true, true, true, true, true, true, true, true, true, true, true, true, true, true, true, true, true, true, true, true, true, true, false, false] rfl rfl (by kernel_rfl) (fun _ _ _ h => h) (Or.inr ⟨by rfl, rfl⟩) ?_ ?_
  rotate_left
  · simp only [Act.put, List.setIfInBounds_toArray, List.set_cons_zero, List.set_cons_succ, i64_w, i32_w]
    rfl
  refine pure_ (i := 26) (N := some 38) (v := undef) (a' := ?_) #[true, true, true, true, true, true, true, true, true, true, true, true, true, true, true, true, true, true, true, true, true, true, true, true, true, true, true, false] rfl rfl (by kernel_rfl) (fun _ _ _ h => h) (Or.inr ⟨by rfl, rfl⟩) ?_ ?_
  rotate_left
  · simp only [Act.put, List.setIfInBounds_toArray, List.set_cons_zero, List.set_cons_succ, i64_w, i32_w]
    rfl
  refine pure_ (i := 27) (N := some 39) (v := ?_) (a' := ?_) #[true, true, true, true, true, true, true, true, true, true, true, true, true, true, true, true, true, true, true, true, true, true, true, true, true, true, true, true] rfl rfl (by kernel_rfl) (fun _ _ _ h => h) (Or.inl ⟨by rfl, ?_⟩) ?_ ?_
  rotate_left
  · intro w'
    go_simp
    with_reducible rfl
  rotate_left
  · simp only [Act.put, List.setIfInBounds_toArray, List.set_cons_zero, List.set_cons_succ, i64_w, i32_w]
    rfl
  refine done_ (by kernel_rfl) ?_
  go_wp2_with (fail)
  go_ret2
  exact ⟨by rw [pre_bad _ _ hpre]; rfl, HB2.out⟩
set_option maxHeartbeats 4000000 in
set_option maxRecDepth 100000 in
theorem kindR_B (f0 f1 : Int) (v0 v1 : Int) (v2 : ByteArray) (l : List S72) (A : Option Addr) (c : Nat) (cols : List S59) (B : Option Addr) (d : Nat) (w : World) (hr : Kd.C k72 w A l.length l) (hB : Kd.C k59 w B cols.length cols) (hp : (partsN f0 != (l.length : Int)) = false) (h2 : (f0 != 2) = true) (h3 : (f1 != 0) = true) :
    Calls Tryd.prog 91 #[.agg #[.int .i64 f0, .int .i64 f1, .int .i64 v0, .int .i64 v1, .string v2, .slice A l.length c], .slice B cols.length d] w (KindRPost (kindE cols ⟨f0, f1, ⟨v0, v1, v2⟩, l⟩) w) := by
  have hpre : preK ⟨f0, f1, ⟨v0, v1, v2⟩, l⟩ = true := by simp only [preK, zeroV]; rw [hp, h2, h3]; rfl
  have b1 := below1 w (.cells #[.int .i64 f0, .int .i64 f1, .int .i64 v0, .int .i64 v1, .string v2, .slice A l.length c] 72)
  have HB := Aside0.mk b1
  have HR := Aside0.mk (Kd.C_below hr b1)
  have HC := Aside0.mk (Kd.C_below hB b1)
  have HK := Aside0.mk (blk_new w (.cells #[.int .i64 f0, .int .i64 f1, .int .i64 v0, .int .i64 v1, .string v2, .slice A l.length c] 72))
  have HRw := Aside0.mk hr
  have HCw := Aside0.mk hB
  clear hr hB b1
  go_enter Tryd.func91, Tryd.ntmps91
  go_wp2_with (fail)
  refine start_ (n := 28) (S := (fun w' => w'.cell? ⟨w.heap.size, 0, none⟩ = some (.int .i64 f0) ∧ w'.cell? ⟨w.heap.size, 1, none⟩ = some (.int .i64 f1) ∧ w'.cell? ⟨w.heap.size, 2, none⟩ = some (.int .i64 v0) ∧ w'.cell? ⟨w.heap.size, 3, none⟩ = some (.int .i64 v1) ∧ w'.cell? ⟨w.heap.size, 4, none⟩ = some (.string v2) ∧ w'.cell? ⟨w.heap.size, 5, none⟩ = some (.slice A l.length c))) (ds := []) #[false, false, false, false, false, false, false, false, false, false, false, false, false, false, false, false, false, false, false, false, false, false, false, false, false, false, false, false] (by kernel_rfl) rfl rfl ⟨blk_cell HK.out 0, blk_cell HK.out 1, blk_cell HK.out 2, blk_cell HK.out 3, blk_cell HK.out 4, blk_cell HK.out 5⟩ (fun hHeld => ?_)
  refine pure_ (i := 0) (N := some 12) (v := ?_) (a' := ?_) #[true, false, false, false, false, false, false, false, false, false, false, false, false, false, false, false, false, false, false, false, false, false, false, false, false, false, false, false] rfl rfl (by kernel_rfl) (fun _ _ _ h => h) (Or.inl ⟨by rfl, ?_⟩) ?_ ?_
  rotate_left
  · intro w'
    go_simp
    with_reducible rfl
  rotate_left
  · simp only [Act.put, List.setIfInBounds_toArray, List.set_cons_zero, List.set_cons_succ, i64_w, i32_w]
    rfl
  refine pure_ (i := 3) (N := some 15) (v := ?_) (a' := ?_) #[true, false, false, true, false, false, false, false, false, false, false, false, false, false, false, false, false, false, false, false, false, false, false, false, false, false, false, false] rfl rfl (by kernel_rfl) (fun _ _ _ h => h) (Or.inl ⟨by rfl, ?_⟩) ?_ ?_
  rotate_left
  · intro w'
    go_simp
    with_reducible rfl
  rotate_left
  · simp only [Act.put, List.setIfInBounds_toArray, List.set_cons_zero, List.set_cons_succ, i64_w, i32_w]
    rfl
  refine take_ (i := 1) (N := some 13) (v := ?_) (a' := ?_) #[true, true, false, true, false, false, false, false, false, false, false, false, false, false, false, false, false, false, false, false, false, false, false, false, false, false, false, false] rfl rfl (by kernel_rfl) (fun _ _ _ h => h) (Or.inl ⟨by rfl, ?_⟩) hHeld ?_ ?_
  rotate_left
  · rintro w' ⟨s0, s1, s2, s3, s4, s5⟩
    go_simp
    with_reducible rfl
  rotate_left
  · simp only [Act.put, List.setIfInBounds_toArray, List.set_cons_zero, List.set_cons_succ, i64_w, i32_w]
    rfl
  refine take_ (i := 4) (N := some 16) (v := ?_) (a' := ?_) #[true, true, false, true, true, false, false, false, false, false, false, false, false, false, false, false, false, false, false, false, false, false, false, false, false, false, false, false] rfl rfl (by kernel_rfl) (fun _ _ _ h => h) (Or.inl ⟨by rfl, ?_⟩) hHeld ?_ ?_
  rotate_left
  · rintro w' ⟨s0, s1, s2, s3, s4, s5⟩
    go_simp
    with_reducible rfl
  rotate_left
  · simp only [Act.put, List.setIfInBounds_toArray, List.set_cons_zero, List.set_cons_succ, i64_w, i32_w]
    rfl
  refine pure_ (i := 5) (N := some 17) (v := ?_) (a' := ?_) #[true, true, false, true, true, true, false, false, false, false, false, false, false, false, false, false, false, false, false, false, false, false, false, false, false, false, false, false] rfl rfl (by kernel_rfl) (fun _ _ _ h => h) (Or.inl ⟨by rfl, ?_⟩) ?_ ?_
  rotate_left
  · intro w'
    go_simp
    with_reducible rfl
  rotate_left
  · simp only [Act.put, List.setIfInBounds_toArray, List.set_cons_zero, List.set_cons_succ, i64_w, i32_w]
    rfl
  refine one_ (i := 2) (N := some 14) #[true, true, true, true, true, true, false, false, false, false, false, false, false, false, false, false, false, false, false, false, false, false, false, false, false, false, false, false] rfl rfl (by kernel_rfl) (by decide) (fun K hK => ?_)
  refine goes_ Tryd.func115 (by kernel_rfl) rfl #[.int .i64 f0] (by rfl) rfl rfl (by first | rfl | (simp only [List.map_toArray, List.map_cons, List.map_nil]; rfl)) ?_
  refine (count_calls f0 _).mono ?_
  rintro e w2 ⟨rfl, hb2⟩
  have hb2 := undrew hb2
  have HK2 := Aside0.mk (blk_below HK.out hb2)
  have HR2 := Aside0.mk (Kd.C_below HR.out hb2)
  have HC2 := Aside0.mk (Kd.C_below HC.out hb2)
  have HB2 := Aside0.mk (below_step HB.out hb2)
  refine ⟨_, rfl, ?_⟩
  refine hK.out _ _ ⟨blk_cell HK2.out 0, blk_cell HK2.out 1, blk_cell HK2.out 2, blk_cell HK2.out 3, blk_cell HK2.out 4, blk_cell HK2.out 5⟩ (fun hHeld => ?_)
  clear hK K
  refine norm_ (a' := ?_) ?_ ?_
  rotate_left
  · show Act.put _ (some 14) _ = _
    simp only [Act.put, List.setIfInBounds_toArray, List.set_cons_zero, List.set_cons_succ, i64_w, i32_w]
    rfl
  refine pure_ (i := 6) (N := some 18) (v := ?_) (a' := ?_) #[true, true, true, true, true, true, true, false, false, false, false, false, false, false, false, false, false, false, false, false, false, false, false, false, false, false, false, false] rfl rfl (by kernel_rfl) (fun _ _ _ h => h) (Or.inl ⟨by rfl, ?_⟩) ?_ ?_
  rotate_left
  · intro w'
    go_simp
    with_reducible rfl
  rotate_left
  · simp only [Act.put, List.setIfInBounds_toArray, List.set_cons_zero, List.set_cons_succ, i64_w, i32_w]
    rfl
  refine pure_ (i := 7) (N := some 19) (v := ?_) (a' := ?_) #[true, true, true, true, true, true, true, true, false, false, false, false, false, false, false, false, false, false, false, false, false, false, false, false, false, false, false, false] rfl rfl (by kernel_rfl) (fun _ _ _ h => h) (Or.inl ⟨by rfl, ?_⟩) ?_ ?_
  rotate_left
  · intro w'
    go_simp
    with_reducible rfl
  rotate_left
  · simp only [Act.put, List.setIfInBounds_toArray, List.set_cons_zero, List.set_cons_succ, i64_w, i32_w]
    rfl
  refine pure_ (i := 8) (N := some 20) (v := ?_) (a' := ?_) #[true, true, true, true, true, true, true, true, true, false, false, false, false, false, false, false, false, false, false, false, false, false, false, false, false, false, false, false] rfl rfl (by kernel_rfl) (fun _ _ _ h => h) (Or.inl ⟨by rfl, ?_⟩) ?_ ?_
  rotate_left
  · intro w'
    go_simp
    with_reducible rfl
  rotate_left
  · simp only [Act.put, List.setIfInBounds_toArray, List.set_cons_zero, List.set_cons_succ, i64_w, i32_w]
    rfl
  refine take_ (i := 9) (N := some 21) (v := ?_) (a' := ?_) #[true, true, true, true, true, true, true, true, true, true, false, false, false, false, false, false, false, false, false, false, false, false, false, false, false, false, false, false] rfl rfl (by kernel_rfl) (fun _ _ _ h => h) (Or.inl ⟨by rfl, ?_⟩) hHeld ?_ ?_
  rotate_left
  · rintro w' ⟨s0, s1, s2, s3, s4, s5⟩
    go_simp
    with_reducible rfl
  rotate_left
  · simp only [Act.put, List.setIfInBounds_toArray, List.set_cons_zero, List.set_cons_succ, i64_w, i32_w]
    rfl
  refine pure_ (i := 10) (N := some 22) (v := ?_) (a' := ?_) #[true, true, true, true, true, true, true, true, true, true, true, false, false, false, false, false, false, false, false, false, false, false, false, false, false, false, false, false] rfl rfl (by kernel_rfl) (fun _ _ _ h => h) (Or.inl ⟨by rfl, ?_⟩) ?_ ?_
  rotate_left
  · intro w'
    go_simp
    with_reducible rfl
  rotate_left
  · simp only [Act.put, List.setIfInBounds_toArray, List.set_cons_zero, List.set_cons_succ, i64_w, i32_w]
    rfl
  refine pure_ (i := 11) (N := some 23) (v := ?_) (a' := ?_) #[true, true, true, true, true, true, true, true, true, true, true, true, false, false, false, false, false, false, false, false, false, false, false, false, false, false, false, false] rfl rfl (by kernel_rfl) (fun _ _ _ h => h) (Or.inl ⟨by rfl, ?_⟩) ?_ ?_
  rotate_left
  · intro w'
    go_simp
    with_reducible rfl
  rotate_left
  · simp only [Act.put, List.setIfInBounds_toArray, List.set_cons_zero, List.set_cons_succ, i64_w, i32_w]
    rfl
  refine pure_ (i := 12) (N := some 24) (v := ?_) (a' := ?_) #[true, true, true, true, true, true, true, true, true, true, true, true, true, false, false, false, false, false, false, false, false, false, false, false, false, false, false, false] rfl rfl (by kernel_rfl) (fun _ _ _ h => h) (Or.inl ⟨by rfl, ?_⟩) ?_ ?_
  rotate_left
  · intro w'
    go_simp
    with_reducible rfl
  rotate_left
  · simp only [Act.put, List.setIfInBounds_toArray, List.set_cons_zero, List.set_cons_succ, i64_w, i32_w]
    rfl
  refine take_ (i := 13) (N := some 25) (v := ?_) (a' := ?_) #[true, true, true, true, true, true, true, true, true, true, true, true, true, true, false, false, false, false, false, false, false, false, false, false, false, false, false, false] rfl rfl (by kernel_rfl) (fun _ _ _ h => h) (Or.inl ⟨by rfl, ?_⟩) hHeld ?_ ?_
  rotate_left
  · rintro w' ⟨s0, s1, s2, s3, s4, s5⟩
    go_simp
    with_reducible rfl
  rotate_left
  · simp only [Act.put, List.setIfInBounds_toArray, List.set_cons_zero, List.set_cons_succ, i64_w, i32_w]
    rfl
  refine pure_ (i := 14) (N := some 26) (v := ?_) (a' := ?_) #[true, true, true, true, true, true, true, true, true, true, true, true, true, true, true, false, false, false, false, false, false, false, false, false, false, false, false, false] rfl rfl (by kernel_rfl) (fun _ _ _ h => h) (Or.inl ⟨by rfl, ?_⟩) ?_ ?_
  rotate_left
  · intro w'
    go_simp
    with_reducible rfl
  rotate_left
  · simp only [Act.put, List.setIfInBounds_toArray, List.set_cons_zero, List.set_cons_succ, i64_w, i32_w]
    rfl
  refine pure_ (i := 15) (N := some 27) (v := ?_) (a' := ?_) #[true, true, true, true, true, true, true, true, true, true, true, true, true, true, true, true, false, false, false, false, false, false, false, false, false, false, false, false] rfl rfl (by kernel_rfl) (fun _ _ _ h => h) (Or.inl ⟨by rfl, ?_⟩) ?_ ?_
  rotate_left
  · intro w'
    go_simp
    with_reducible rfl
  rotate_left
  · simp only [Act.put, List.setIfInBounds_toArray, List.set_cons_zero, List.set_cons_succ, i64_w, i32_w]
    rfl
  refine pure_ (i := 16) (N := some 28) (v := ?_) (a' := ?_) #[true, true, true, true, true, true, true, true, true, true, true, true, true, true, true, true, true, false, false, false, false, false, false, false, false, false, false, false] rfl rfl (by kernel_rfl) (fun _ _ _ h => h) (Or.inl ⟨by rfl, ?_⟩) ?_ ?_
  rotate_left
  · intro w'
    go_simp
    with_reducible rfl
  rotate_left
  · simp only [Act.put, List.setIfInBounds_toArray, List.set_cons_zero, List.set_cons_succ, i64_w, i32_w]
    rfl
  refine pure_ (i := 17) (N := some 29) (v := ?_) (a' := ?_) #[true, true, true, true, true, true, true, true, true, true, true, true, true, true, true, true, true, true, false, false, false, false, false, false, false, false, false, false] rfl rfl (by kernel_rfl) (fun _ _ _ h => h) (Or.inl ⟨by rfl, ?_⟩) ?_ ?_
  rotate_left
  · intro w'
    go_simp
    with_reducible rfl
  rotate_left
  · simp only [Act.put, List.setIfInBounds_toArray, List.set_cons_zero, List.set_cons_succ, i64_w, i32_w]
    rfl
  refine pure_ (i := 18) (N := some 30) (v := undef) (a' := ?_) #[true, true, true, true, true, true, true, true, true, true, true, true, true, true, true, true, true, true, true, false, false, false, false, false, false, false, false, false] rfl rfl (by kernel_rfl) (fun _ _ _ h => h) (Or.inr ⟨by rfl, rfl⟩) ?_ ?_
  rotate_left
  · simp only [Act.put, List.setIfInBounds_toArray, List.set_cons_zero, List.set_cons_succ, i64_w, i32_w]
    rfl
  refine pure_ (i := 19) (N := some 31) (v := undef) (a' := ?_) #[true, true, true, true, true, true, true, true, true, true, true, true, true, true, true, true, true, true, true, true, false, false, false, false, false, false, false, false] rfl rfl (by kernel_rfl) (fun _ _ _ h => h) (Or.inr ⟨by rfl, rfl⟩) ?_ ?_
  rotate_left
  · simp only [Act.put, List.setIfInBounds_toArray, List.set_cons_zero, List.set_cons_succ, i64_w, i32_w]
    rfl
  refine pure_ (i := 20) (N := some 32) (v := undef) (a' := ?_) #[true, true, true, true, true, true, true, true, true, true, true, true, true, true, true, true, true, true, true, true, true, false, false, false, false, false, false, false] rfl rfl (by kernel_rfl) (fun _ _ _ h => h) (Or.inr ⟨by rfl, rfl⟩) ?_ ?_
  rotate_left
  · simp only [Act.put, List.setIfInBounds_toArray, List.set_cons_zero, List.set_cons_succ, i64_w, i32_w]
    rfl
  refine pure_ (i := 21) (N := some 33) (v := undef) (a' := ?_) #[true, true, true, true, true, true, true, true, true, true, true, true, true, true, true, true, true, true, true, true, true, true, false, false, false, false, false, false] rfl rfl (by kernel_rfl) (fun _ _ _ h => h) (Or.inr ⟨by rfl, rfl⟩) ?_ ?_
  rotate_left
  · simp only [Act.put, List.setIfInBounds_toArray, List.set_cons_zero, List.set_cons_succ, i64_w, i32_w]
    rfl
  refine pure_ (i := 22) (N := some 34) (v := undef) (a' := ?_) #[true, true, true, true, true, true, true, true, true, true, true, true, true, true, true, true, true, true, true, true, true, true, true, false, false, false, false, false] rfl rfl (by kernel_rfl) (fun _ _ _ h => h) (Or.inr ⟨by rfl, rfl⟩) ?_ ?_
  rotate_left
  · simp only [Act.put, List.setIfInBounds_toArray, List.set_cons_zero, List.set_cons_succ, i64_w, i32_w]
    rfl
  refine pure_ (i := 23) (N := some 35) (v := undef) (a' := ?_) #[true, true, true, true, true, true, true, true, true, true, true, true, true, true, true, true, true, true, true, true, true, true, true, true, false, false, false, false] rfl rfl (by kernel_rfl) (fun _ _ _ h => h) (Or.inr ⟨by rfl, rfl⟩) ?_ ?_
  rotate_left
  · simp only [Act.put, List.setIfInBounds_toArray, List.set_cons_zero, List.set_cons_succ, i64_w, i32_w]
    rfl
  refine pure_ (i := 24) (N := some 36) (v := undef) (a' := ?_) #[true, true, true, true, true, true, true, true, true, true, true, true, true, true, true, true, true, true, true, true, true, true, true, true, true, false, false, false] rfl rfl (by kernel_rfl) (fun _ _ _ h => h) (Or.inr ⟨by rfl, rfl⟩) ?_ ?_
  rotate_left
  · simp only [Act.put, List.setIfInBounds_toArray, List.set_cons_zero, List.set_cons_succ, i64_w, i32_w]
    rfl
  refine pure_ (i := 25) (N := some 37) (v := undef) (a' := ?_) #[true, true, true, true, true, true, true, true, true, true, true, true, true, true, true, true, true, true, true, true, true, true, true, true, true, true, false, false] rfl rfl (by kernel_rfl) (fun _ _ _ h => h) (Or.inr ⟨by rfl, rfl⟩) ?_ ?_
  rotate_left
  · simp only [Act.put, List.setIfInBounds_toArray, List.set_cons_zero, List.set_cons_succ, i64_w, i32_w]
    rfl
  refine pure_ (i := 26) (N := some 38) (v := undef) (a' := ?_) #[true, true, true, true, true, true, true, true, true, true, true, true, true, true, true, true, true, true, true, true, true, true, true, true, true, true, true, false] rfl rfl (by kernel_rfl) (fun _ _ _ h => h) (Or.inr ⟨by rfl, rfl⟩) ?_ ?_
  rotate_left
  · simp only [Act.put, List.setIfInBounds_toArray, List.set_cons_zero, List.set_cons_succ, i64_w, i32_w]
    rfl
  refine pure_ (i := 27) (N := some 39) (v := ?_) (a' := ?_) #[true, true, true, true, true, true, true, true, true, true, true, true, true, true, true, true, true, true, true, true, true, true, true, true, true, true, true, true] rfl rfl (by kernel_rfl) (fun _ _ _ h => h) (Or.inl ⟨by rfl, ?_⟩) ?_ ?_
  rotate_left
  · intro w'
    go_simp
    with_reducible rfl
  rotate_left
  · simp only [Act.put, List.setIfInBounds_toArray, List.set_cons_zero, List.set_cons_succ, i64_w, i32_w]
    rfl
  refine done_ (by kernel_rfl) ?_
  go_wp2_with (fail)
  go_ret2
  exact ⟨by rw [pre_bad _ _ hpre]; rfl, HB2.out⟩
set_option maxHeartbeats 4000000 in
set_option maxRecDepth 100000 in
theorem kindR_C1 (f1 : Int) (v0 v1 : Int) (v2 : ByteArray) (l : List S72) (A : Option Addr) (c : Nat) (cols : List S59) (B : Option Addr) (d : Nat) (w : World) (hr : Kd.C k72 w A l.length l) (hB : Kd.C k59 w B cols.length cols) (hp : (partsN 2 != (l.length : Int)) = false) (hz : (v0 == 0 && (v1 == 0 && v2.toList.isEmpty)) = false) :
    Calls Tryd.prog 91 #[.agg #[.int .i64 2, .int .i64 f1, .int .i64 v0, .int .i64 v1, .string v2, .slice A l.length c], .slice B cols.length d] w (KindRPost (kindE cols ⟨2, f1, ⟨v0, v1, v2⟩, l⟩) w) := by
  have hpre : preK ⟨2, f1, ⟨v0, v1, v2⟩, l⟩ = true := by simp only [preK, zeroV]; rw [hp, hz]; rfl
  have b1 := below1 w (.cells #[.int .i64 2, .int .i64 f1, .int .i64 v0, .int .i64 v1, .string v2, .slice A l.length c] 72)
  have HB := Aside0.mk b1
  have HR := Aside0.mk (Kd.C_below hr b1)
  have HC := Aside0.mk (Kd.C_below hB b1)
  have HK := Aside0.mk (blk_new w (.cells #[.int .i64 2, .int .i64 f1, .int .i64 v0, .int .i64 v1, .string v2, .slice A l.length c] 72))
  have HRw := Aside0.mk hr
  have HCw := Aside0.mk hB
  clear hr hB b1
  go_enter Tryd.func91, Tryd.ntmps91
  go_wp2_with (fail)
  refine start_ (n := 28) (S := (fun w' => w'.cell? ⟨w.heap.size, 0, none⟩ = some (.int .i64 2) ∧ w'.cell? ⟨w.heap.size, 1, none⟩ = some (.int .i64 f1) ∧ w'.cell? ⟨w.heap.size, 2, none⟩ = some (.int .i64 v0) ∧ w'.cell? ⟨w.heap.size, 3, none⟩ = some (.int .i64 v1) ∧ w'.cell? ⟨w.heap.size, 4, none⟩ = some (.string v2) ∧ w'.cell? ⟨w.heap.size, 5, none⟩ = some (.slice A l.length c))) (ds := []) #[false, false, false, false, false, false, false, false, false, false, false, false, false, false, false, false, false, false, false, false, false, false, false, false, false, false, false, false] (by kernel_rfl) rfl rfl ⟨blk_cell HK.out 0, blk_cell HK.out 1, blk_cell HK.out 2, blk_cell HK.out 3, blk_cell HK.out 4, blk_cell HK.out 5⟩ (fun hHeld => ?_)
  refine pure_ (i := 0) (N := some 12) (v := ?_) (a' := ?_) #[true, false, false, false, false, false, false, false, false, false, false, false, false, false, false, false, false, false, false, false, false, false, false, false, false, false, false, false] rfl rfl (by kernel_rfl) (fun _ _ _ h => h) (Or.inl ⟨by rfl, ?_⟩) ?_ ?_
  rotate_left
  · intro w'
    go_simp
    with_reducible rfl
  rotate_left
  · simp only [Act.put, List.setIfInBounds_toArray, List.set_cons_zero, List.set_cons_succ, i64_w, i32_w]
    rfl
  refine pure_ (i := 3) (N := some 15) (v := ?_) (a' := ?_) #[true, false, false, true, false, false, false, false, false, false, false, false, false, false, false, false, false, false, false, false, false, false, false, false, false, false, false, false] rfl rfl (by kernel_rfl) (fun _ _ _ h => h) (Or.inl ⟨by rfl, ?_⟩) ?_ ?_
  rotate_left
  · intro w'
    go_simp
    with_reducible rfl
  rotate_left
  · simp only [Act.put, List.setIfInBounds_toArray, List.set_cons_zero, List.set_cons_succ, i64_w, i32_w]
    rfl
  refine take_ (i := 1) (N := some 13) (v := ?_) (a' := ?_) #[true, true, false, true, false, false, false, false, false, false, false, false, false, false, false, false, false, false, false, false, false, false, false, false, false, false, false, false] rfl rfl (by kernel_rfl) (fun _ _ _ h => h) (Or.inl ⟨by rfl, ?_⟩) hHeld ?_ ?_
  rotate_left
  · rintro w' ⟨s0, s1, s2, s3, s4, s5⟩
    go_simp
    with_reducible rfl
  rotate_left
  · simp only [Act.put, List.setIfInBounds_toArray, List.set_cons_zero, List.set_cons_succ, i64_w, i32_w]
    rfl
  refine take_ (i := 4) (N := some 16) (v := ?_) (a' := ?_) #[true, true, false, true, true, false, false, false, false, false, false, false, false, false, false, false, false, false, false, false, false, false, false, false, false, false, false, false] rfl rfl (by kernel_rfl) (fun _ _ _ h => h) (Or.inl ⟨by rfl, ?_⟩) hHeld ?_ ?_
  rotate_left
  · rintro w' ⟨s0, s1, s2, s3, s4, s5⟩
    go_simp
    with_reducible rfl
  rotate_left
  · simp only [Act.put, List.setIfInBounds_toArray, List.set_cons_zero, List.set_cons_succ, i64_w, i32_w]
    rfl
  refine pure_ (i := 5) (N := some 17) (v := ?_) (a' := ?_) #[true, true, false, true, true, true, false, false, false, false, false, false, false, false, false, false, false, false, false, false, false, false, false, false, false, false, false, false] rfl rfl (by kernel_rfl) (fun _ _ _ h => h) (Or.inl ⟨by rfl, ?_⟩) ?_ ?_
  rotate_left
  · intro w'
    go_simp
    with_reducible rfl
  rotate_left
  · simp only [Act.put, List.setIfInBounds_toArray, List.set_cons_zero, List.set_cons_succ, i64_w, i32_w]
    rfl
  refine one_ (i := 2) (N := some 14) #[true, true, true, true, true, true, false, false, false, false, false, false, false, false, false, false, false, false, false, false, false, false, false, false, false, false, false, false] rfl rfl (by kernel_rfl) (by decide) (fun K hK => ?_)
  refine goes_ Tryd.func115 (by kernel_rfl) rfl #[.int .i64 2] (by rfl) rfl rfl (by first | rfl | (simp only [List.map_toArray, List.map_cons, List.map_nil]; rfl)) ?_
  refine (count_calls 2 _).mono ?_
  rintro e w2 ⟨rfl, hb2⟩
  have hb2 := undrew hb2
  have HK2 := Aside0.mk (blk_below HK.out hb2)
  have HR2 := Aside0.mk (Kd.C_below HR.out hb2)
  have HC2 := Aside0.mk (Kd.C_below HC.out hb2)
  have HB2 := Aside0.mk (below_step HB.out hb2)
  refine ⟨_, rfl, ?_⟩
  refine hK.out _ _ ⟨blk_cell HK2.out 0, blk_cell HK2.out 1, blk_cell HK2.out 2, blk_cell HK2.out 3, blk_cell HK2.out 4, blk_cell HK2.out 5⟩ (fun hHeld => ?_)
  clear hK K
  refine norm_ (a' := ?_) ?_ ?_
  rotate_left
  · show Act.put _ (some 14) _ = _
    simp only [Act.put, List.setIfInBounds_toArray, List.set_cons_zero, List.set_cons_succ, i64_w, i32_w]
    rfl
  refine pure_ (i := 6) (N := some 18) (v := ?_) (a' := ?_) #[true, true, true, true, true, true, true, false, false, false, false, false, false, false, false, false, false, false, false, false, false, false, false, false, false, false, false, false] rfl rfl (by kernel_rfl) (fun _ _ _ h => h) (Or.inl ⟨by rfl, ?_⟩) ?_ ?_
  rotate_left
  · intro w'
    go_simp
    with_reducible rfl
  rotate_left
  · simp only [Act.put, List.setIfInBounds_toArray, List.set_cons_zero, List.set_cons_succ, i64_w, i32_w]
    rfl
  refine pure_ (i := 7) (N := some 19) (v := ?_) (a' := ?_) #[true, true, true, true, true, true, true, true, false, false, false, false, false, false, false, false, false, false, false, false, false, false, false, false, false, false, false, false] rfl rfl (by kernel_rfl) (fun _ _ _ h => h) (Or.inl ⟨by rfl, ?_⟩) ?_ ?_
  rotate_left
  · intro w'
    go_simp
    with_reducible rfl
  rotate_left
  · simp only [Act.put, List.setIfInBounds_toArray, List.set_cons_zero, List.set_cons_succ, i64_w, i32_w]
    rfl
  refine pure_ (i := 8) (N := some 20) (v := ?_) (a' := ?_) #[true, true, true, true, true, true, true, true, true, false, false, false, false, false, false, false, false, false, false, false, false, false, false, false, false, false, false, false] rfl rfl (by kernel_rfl) (fun _ _ _ h => h) (Or.inl ⟨by rfl, ?_⟩) ?_ ?_
  rotate_left
  · intro w'
    go_simp
    with_reducible rfl
  rotate_left
  · simp only [Act.put, List.setIfInBounds_toArray, List.set_cons_zero, List.set_cons_succ, i64_w, i32_w]
    rfl
  refine take_ (i := 9) (N := some 21) (v := ?_) (a' := ?_) #[true, true, true, true, true, true, true, true, true, true, false, false, false, false, false, false, false, false, false, false, false, false, false, false, false, false, false, false] rfl rfl (by kernel_rfl) (fun _ _ _ h => h) (Or.inl ⟨by rfl, ?_⟩) hHeld ?_ ?_
  rotate_left
  · rintro w' ⟨s0, s1, s2, s3, s4, s5⟩
    go_simp
    with_reducible rfl
  rotate_left
  · simp only [Act.put, List.setIfInBounds_toArray, List.set_cons_zero, List.set_cons_succ, i64_w, i32_w]
    rfl
  refine pure_ (i := 10) (N := some 22) (v := ?_) (a' := ?_) #[true, true, true, true, true, true, true, true, true, true, true, false, false, false, false, false, false, false, false, false, false, false, false, false, false, false, false, false] rfl rfl (by kernel_rfl) (fun _ _ _ h => h) (Or.inl ⟨by rfl, ?_⟩) ?_ ?_
  rotate_left
  · intro w'
    go_simp
    with_reducible rfl
  rotate_left
  · simp only [Act.put, List.setIfInBounds_toArray, List.set_cons_zero, List.set_cons_succ, i64_w, i32_w]
    rfl
  refine pure_ (i := 11) (N := some 23) (v := ?_) (a' := ?_) #[true, true, true, true, true, true, true, true, true, true, true, true, false, false, false, false, false, false, false, false, false, false, false, false, false, false, false, false] rfl rfl (by kernel_rfl) (fun _ _ _ h => h) (Or.inl ⟨by rfl, ?_⟩) ?_ ?_
  rotate_left
  · intro w'
    go_simp
    with_reducible rfl
  rotate_left
  · simp only [Act.put, List.setIfInBounds_toArray, List.set_cons_zero, List.set_cons_succ, i64_w, i32_w]
    rfl
  refine pure_ (i := 12) (N := some 24) (v := undef) (a' := ?_) #[true, true, true, true, true, true, true, true, true, true, true, true, true, false, false, false, false, false, false, false, false, false, false, false, false, false, false, false] rfl rfl (by kernel_rfl) (fun _ _ _ h => h) (Or.inr ⟨by rfl, rfl⟩) ?_ ?_
  rotate_left
  · simp only [Act.put, List.setIfInBounds_toArray, List.set_cons_zero, List.set_cons_succ, i64_w, i32_w]
    rfl
  refine pure_ (i := 13) (N := some 25) (v := undef) (a' := ?_) #[true, true, true, true, true, true, true, true, true, true, true, true, true, true, false, false, false, false, false, false, false, false, false, false, false, false, false, false] rfl rfl (by kernel_rfl) (fun _ _ _ h => h) (Or.inr ⟨by rfl, rfl⟩) ?_ ?_
  rotate_left
  · simp only [Act.put, List.setIfInBounds_toArray, List.set_cons_zero, List.set_cons_succ, i64_w, i32_w]
    rfl
  refine pure_ (i := 14) (N := some 26) (v := undef) (a' := ?_) #[true, true, true, true, true, true, true, true, true, true, true, true, true, true, true, false, false, false, false, false, false, false, false, false, false, false, false, false] rfl rfl (by kernel_rfl) (fun _ _ _ h => h) (Or.inr ⟨by rfl, rfl⟩) ?_ ?_
  rotate_left
  · simp only [Act.put, List.setIfInBounds_toArray, List.set_cons_zero, List.set_cons_succ, i64_w, i32_w]
    rfl
  refine pure_ (i := 15) (N := some 27) (v := ?_) (a' := ?_) #[true, true, true, true, true, true, true, true, true, true, true, true, true, true, true, true, false, false, false, false, false, false, false, false, false, false, false, false] rfl rfl (by kernel_rfl) (fun _ _ _ h => h) (Or.inl ⟨by rfl, ?_⟩) ?_ ?_
  rotate_left
  · intro w'
    go_simp
    with_reducible rfl
  rotate_left
  · simp only [Act.put, List.setIfInBounds_toArray, List.set_cons_zero, List.set_cons_succ, i64_w, i32_w]
    rfl
  refine pure_ (i := 16) (N := some 28) (v := ?_) (a' := ?_) #[true, true, true, true, true, true, true, true, true, true, true, true, true, true, true, true, true, false, false, false, false, false, false, false, false, false, false, false] rfl rfl (by kernel_rfl) (fun _ _ _ h => h) (Or.inl ⟨by rfl, ?_⟩) ?_ ?_
  rotate_left
  · intro w'
    go_simp
    with_reducible rfl
  rotate_left
  · simp only [Act.put, List.setIfInBounds_toArray, List.set_cons_zero, List.set_cons_succ, i64_w, i32_w]
    rfl
  refine pure_ (i := 17) (N := some 29) (v := ?_) (a' := ?_) #[true, true, true, true, true, true, true, true, true, true, true, true, true, true, true, true, true, true, false, false, false, false, false, false, false, false, false, false] rfl rfl (by kernel_rfl) (fun _ _ _ h => h) (Or.inl ⟨by rfl, ?_⟩) ?_ ?_
  rotate_left
  · intro w'
    go_simp
    with_reducible rfl
  rotate_left
  · simp only [Act.put, List.setIfInBounds_toArray, List.set_cons_zero, List.set_cons_succ, i64_w, i32_w]
    rfl
  refine pure_ (i := 18) (N := some 30) (v := ?_) (a' := ?_) #[true, true, true, true, true, true, true, true, true, true, true, true, true, true, true, true, true, true, true, false, false, false, false, false, false, false, false, false] rfl rfl (by kernel_rfl) (fun _ _ _ h => h) (Or.inl ⟨by rfl, ?_⟩) ?_ ?_
  rotate_left
  · intro w'
    go_simp
    with_reducible rfl
  rotate_left
  · simp only [Act.put, List.setIfInBounds_toArray, List.set_cons_zero, List.set_cons_succ, i64_w, i32_w]
    rfl
  refine take_ (i := 19) (N := some 31) (v := ?_) (a' := ?_) #[true, true, true, true, true, true, true, true, true, true, true, true, true, true, true, true, true, true, true, true, false, false, false, false, false, false, false, false] rfl rfl (by kernel_rfl) (fun _ _ _ h => h) (Or.inl ⟨by rfl, ?_⟩) hHeld ?_ ?_
  rotate_left
  · rintro w' ⟨s0, s1, s2, s3, s4, s5⟩
    go_simp
    with_reducible rfl
  rotate_left
  · simp only [Act.put, List.setIfInBounds_toArray, List.set_cons_zero, List.set_cons_succ, i64_w, i32_w]
    rfl
  refine pure_ (i := 20) (N := some 32) (v := ?_) (a' := ?_) #[true, true, true, true, true, true, true, true, true, true, true, true, true, true, true, true, true, true, true, true, true, false, false, false, false, false, false, false] rfl rfl (by kernel_rfl) (fun _ _ _ h => h) (Or.inl ⟨by rfl, ?_⟩) ?_ ?_
  rotate_left
  · intro w'
    go_simp
    with_reducible rfl
  rotate_left
  · simp only [Act.put, List.setIfInBounds_toArray, List.set_cons_zero, List.set_cons_succ, i64_w, i32_w]
    rfl
  refine pure_ (i := 21) (N := some 33) (v := ?_) (a' := ?_) #[true, true, true, true, true, true, true, true, true, true, true, true, true, true, true, true, true, true, true, true, true, true, false, false, false, false, false, false] rfl rfl (by kernel_rfl) (fun _ _ _ h => h) (Or.inl ⟨by rfl, ?_⟩) ?_ ?_
  rotate_left
  · intro w'
    go_simp
    with_reducible rfl
  rotate_left
  · simp only [Act.put, List.setIfInBounds_toArray, List.set_cons_zero, List.set_cons_succ, i64_w, i32_w]
    rfl
  refine pure_ (i := 22) (N := some 34) (v := ?_) (a' := ?_) #[true, true, true, true, true, true, true, true, true, true, true, true, true, true, true, true, true, true, true, true, true, true, true, false, false, false, false, false] rfl rfl (by kernel_rfl) (fun _ _ _ h => h) (Or.inl ⟨by rfl, ?_⟩) ?_ ?_
  rotate_left
  · intro w'
    go_simp
    with_reducible rfl
  rotate_left
  · simp only [Act.put, List.setIfInBounds_toArray, List.set_cons_zero, List.set_cons_succ, i64_w, i32_w]
    rfl
  refine pure_ (i := 24) (N := some 36) (v := ?_) (a' := ?_) #[true, true, true, true, true, true, true, true, true, true, true, true, true, true, true, true, true, true, true, true, true, true, true, false, true, false, false, false] rfl rfl (by kernel_rfl) (fun _ _ _ h => h) (Or.inl ⟨by rfl, ?_⟩) ?_ ?_
  rotate_left
  · intro w'
    go_simp
    with_reducible rfl
  rotate_left
  · simp only [Act.put, List.setIfInBounds_toArray, List.set_cons_zero, List.set_cons_succ, i64_w, i32_w]
    rfl
  refine take_ (i := 23) (N := some 35) (v := ?_) (a' := ?_) #[true, true, true, true, true, true, true, true, true, true, true, true, true, true, true, true, true, true, true, true, true, true, true, true, true, false, false, false] rfl rfl (by kernel_rfl) (fun _ _ _ h => h) (Or.inl ⟨by rfl, ?_⟩) hHeld ?_ ?_
  rotate_left
  · rintro w' ⟨s0, s1, s2, s3, s4, s5⟩
    go_simp
    with_reducible rfl
  rotate_left
  · simp only [Act.put, List.setIfInBounds_toArray, List.set_cons_zero, List.set_cons_succ, i64_w, i32_w]
    rfl
  refine pure_ (i := 25) (N := some 37) (v := ?_) (a' := ?_) #[true, true, true, true, true, true, true, true, true, true, true, true, true, true, true, true, true, true, true, true, true, true, true, true, true, true, false, false] rfl rfl (by kernel_rfl) (fun _ _ _ h => h) (Or.inl ⟨by rfl, ?_⟩) ?_ ?_
  rotate_left
  · intro w'
    go_simp
    with_reducible rfl
  rotate_left
  · simp only [Act.put, List.setIfInBounds_toArray, List.set_cons_zero, List.set_cons_succ, i64_w, i32_w]
    rfl
  refine pure_ (i := 26) (N := some 38) (v := ?_) (a' := ?_) #[true, true, true, true, true, true, true, true, true, true, true, true, true, true, true, true, true, true, true, true, true, true, true, true, true, true, true, false] rfl rfl (by kernel_rfl) (fun _ _ _ h => h) (Or.inl ⟨by rfl, ?_⟩) ?_ ?_
  rotate_left
  · intro w'
    go_simp
    with_reducible rfl
  rotate_left
  · simp only [Act.put, List.setIfInBounds_toArray, List.set_cons_zero, List.set_cons_succ, i64_w, i32_w]
    rfl
  refine pure_ (i := 27) (N := some 39) (v := ?_) (a' := ?_) #[true, true, true, true, true, true, true, true, true, true, true, true, true, true, true, true, true, true, true, true, true, true, true, true, true, true, true, true] rfl rfl (by kernel_rfl) (fun _ _ _ h => h) (Or.inl ⟨by rfl, ?_⟩) ?_ ?_
  rotate_left
  · intro w'
    go_simp
    with_reducible rfl
  rotate_left
  · simp only [Act.put, List.setIfInBounds_toArray, List.set_cons_zero, List.set_cons_succ, i64_w, i32_w]
    rfl
  refine done_ (by kernel_rfl) ?_
  go_wp2_with (fail)
  go_ret2
  exact ⟨by rw [pre_bad _ _ hpre]; rfl, HB2.out⟩
set_option maxHeartbeats 4000000 in
set_option maxRecDepth 100000 in
theorem kindR_E1 (f0 f1 : Int) (v0 v1 : Int) (v2 : ByteArray) (l : List S72) (A : Option Addr) (c : Nat) (cols : List S59) (B : Option Addr) (d : Nat) (w : World) (hr : Kd.C k72 w A l.length l) (hB : Kd.C k59 w B cols.length cols) (hp : (partsN f0 != (l.length : Int)) = false) (h2 : (f0 != 2) = true) (h3 : (f1 != 0) = false) (h4 : (f0 != 1) = true) (hz : (v0 == 0 && (v1 == 0 && v2.toList.isEmpty)) = false) :
    Calls Tryd.prog 91 #[.agg #[.int .i64 f0, .int .i64 f1, .int .i64 v0, .int .i64 v1, .string v2, .slice A l.length c], .slice B cols.length d] w (KindRPost (kindE cols ⟨f0, f1, ⟨v0, v1, v2⟩, l⟩) w) := by
  have hpre : preK ⟨f0, f1, ⟨v0, v1, v2⟩, l⟩ = true := by simp only [preK, zeroV]; rw [hp, h2, h3, h4, hz]; rfl
  have b1 := below1 w (.cells #[.int .i64 f0, .int .i64 f1, .int .i64 v0, .int .i64 v1, .string v2, .slice A l.length c] 72)
  have HB := Aside0.mk b1
  have HR := Aside0.mk (Kd.C_below hr b1)
  have HC := Aside0.mk (Kd.C_below hB b1)
  have HK := Aside0.mk (blk_new w (.cells #[.int .i64 f0, .int .i64 f1, .int .i64 v0, .int .i64 v1, .string v2, .slice A l.length c] 72))
  have HRw := Aside0.mk hr
  have HCw := Aside0.mk hB
  clear hr hB b1
  go_enter Tryd.func91, Tryd.ntmps91
  go_wp2_with (fail)
  refine start_ (n := 28) (S := (fun w' => w'.cell? ⟨w.heap.size, 0, none⟩ = some (.int .i64 f0) ∧ w'.cell? ⟨w.heap.size, 1, none⟩ = some (.int .i64 f1) ∧ w'.cell? ⟨w.heap.size, 2, none⟩ = some (.int .i64 v0) ∧ w'.cell? ⟨w.heap.size, 3, none⟩ = some (.int .i64 v1) ∧ w'.cell? ⟨w.heap.size, 4, none⟩ = some (.string v2) ∧ w'.cell? ⟨w.heap.size, 5, none⟩ = some (.slice A l.length c))) (ds := []) #[false, false, false, false, false, false, false, false, false, false, false, false, false, false, false, false, false, false, false, false, false, false, false, false, false, false, false, false] (by kernel_rfl) rfl rfl ⟨blk_cell HK.out 0, blk_cell HK.out 1, blk_cell HK.out 2, blk_cell HK.out 3, blk_cell HK.out 4, blk_cell HK.out 5⟩ (fun hHeld => ?_)
  refine pure_ (i := 0) (N := some 12) (v := ?_) (a' := ?_) #[true, false, false, false, false, false, false, false, false, false, false, false, false, false, false, false, false, false, false, false, false, false, false, false, false, false, false, false] rfl rfl (by kernel_rfl) (fun _ _ _ h => h) (Or.inl ⟨by rfl, ?_⟩) ?_ ?_
  rotate_left
  · intro w'
    go_simp
    with_reducible rfl
  rotate_left
  · simp only [Act.put, List.setIfInBounds_toArray, List.set_cons_zero, List.set_cons_succ, i64_w, i32_w]
    rfl
  refine pure_ (i := 3) (N := some 15) (v := ?_) (a' := ?_) #[true, false, false, true, false, false, false, false, false, false, false, false, false, false, false, false, false, false, false, false, false, false, false, false, false, false, false, false] rfl rfl (by kernel_rfl) (fun _ _ _ h => h) (Or.inl ⟨by rfl, ?_⟩) ?_ ?_
  rotate_left
  · intro w'
    go_simp
    with_reducible rfl
  rotate_left
  · simp only [Act.put, List.setIfInBounds_toArray, List.set_cons_zero, List.set_cons_succ, i64_w, i32_w]
    rfl
  refine take_ (i := 1) (N := some 13) (v := ?_) (a' := ?_) #[true, true, false, true, false, false, false, false, false, false, false, false, false, false, false, false, false, false, false, false, false, false, false, false, false, false, false, false] rfl rfl (by kernel_rfl) (fun _ _ _ h => h) (Or.inl ⟨by rfl, ?_⟩) hHeld ?_ ?_
  rotate_left
  · rintro w' ⟨s0, s1, s2, s3, s4, s5⟩
    go_simp
    with_reducible rfl
  rotate_left
  · simp only [Act.put, List.setIfInBounds_toArray, List.set_cons_zero, List.set_cons_succ, i64_w, i32_w]
    rfl
  refine take_ (i := 4) (N := some 16) (v := ?_) (a' := ?_) #[true, true, false, true, true, false, false, false, false, false, false, false, false, false, false, false, false, false, false, false, false, false, false, false, false, false, false, false] rfl rfl (by kernel_rfl) (fun _ _ _ h => h) (Or.inl ⟨by rfl, ?_⟩) hHeld ?_ ?_
  rotate_left
  · rintro w' ⟨s0, s1, s2, s3, s4, s5⟩
    go_simp
    with_reducible rfl
  rotate_left
  · simp only [Act.put, List.setIfInBounds_toArray, List.set_cons_zero, List.set_cons_succ, i64_w, i32_w]
    rfl
  refine pure_ (i := 5) (N := some 17) (v := ?_) (a' := ?_) #[true, true, false, true, true, true, false, false, false, false, false, false, false, false, false, false, false, false, false, false, false, false, false, false, false, false, false, false] rfl rfl (by kernel_rfl) (fun _ _ _ h => h) (Or.inl ⟨by rfl, ?_⟩) ?_ ?_
  rotate_left
  · intro w'
    go_simp
    with_reducible rfl
  rotate_left
  · simp only [Act.put, List.setIfInBounds_toArray, List.set_cons_zero, List.set_cons_succ, i64_w, i32_w]
    rfl
  refine one_ (i := 2) (N := some 14) #[true, true, true, true, true, true, false, false, false, false, false, false, false, false, false, false, false, false, false, false, false, false, false, false, false, false, false, false] rfl rfl (by kernel_rfl) (by decide) (fun K hK => ?_)
  refine goes_ Tryd.func115 (by kernel_rfl) rfl #[.int .i64 f0] (by rfl) rfl rfl (by first | rfl | (simp only [List.map_toArray, List.map_cons, List.map_nil]; rfl)) ?_
  refine (count_calls f0 _).mono ?_
  rintro e w2 ⟨rfl, hb2⟩
  have hb2 := undrew hb2
  have HK2 := Aside0.mk (blk_below HK.out hb2)
  have HR2 := Aside0.mk (Kd.C_below HR.out hb2)
  have HC2 := Aside0.mk (Kd.C_below HC.out hb2)
  have HB2 := Aside0.mk (below_step HB.out hb2)
  refine ⟨_, rfl, ?_⟩
  refine hK.out _ _ ⟨blk_cell HK2.out 0, blk_cell HK2.out 1, blk_cell HK2.out 2, blk_cell HK2.out 3, blk_cell HK2.out 4, blk_cell HK2.out 5⟩ (fun hHeld => ?_)
  clear hK K
  refine norm_ (a' := ?_) ?_ ?_
  rotate_left
  · show Act.put _ (some 14) _ = _
    simp only [Act.put, List.setIfInBounds_toArray, List.set_cons_zero, List.set_cons_succ, i64_w, i32_w]
    rfl
  refine pure_ (i := 6) (N := some 18) (v := ?_) (a' := ?_) #[true, true, true, true, true, true, true, false, false, false, false, false, false, false, false, false, false, false, false, false, false, false, false, false, false, false, false, false] rfl rfl (by kernel_rfl) (fun _ _ _ h => h) (Or.inl ⟨by rfl, ?_⟩) ?_ ?_
  rotate_left
  · intro w'
    go_simp
    with_reducible rfl
  rotate_left
  · simp only [Act.put, List.setIfInBounds_toArray, List.set_cons_zero, List.set_cons_succ, i64_w, i32_w]
    rfl
  refine pure_ (i := 7) (N := some 19) (v := ?_) (a' := ?_) #[true, true, true, true, true, true, true, true, false, false, false, false, false, false, false, false, false, false, false, false, false, false, false, false, false, false, false, false] rfl rfl (by kernel_rfl) (fun _ _ _ h => h) (Or.inl ⟨by rfl, ?_⟩) ?_ ?_
  rotate_left
  · intro w'
    go_simp
    with_reducible rfl
  rotate_left
  · simp only [Act.put, List.setIfInBounds_toArray, List.set_cons_zero, List.set_cons_succ, i64_w, i32_w]
    rfl
  refine pure_ (i := 8) (N := some 20) (v := ?_) (a' := ?_) #[true, true, true, true, true, true, true, true, true, false, false, false, false, false, false, false, false, false, false, false, false, false, false, false, false, false, false, false] rfl rfl (by kernel_rfl) (fun _ _ _ h => h) (Or.inl ⟨by rfl, ?_⟩) ?_ ?_
  rotate_left
  · intro w'
    go_simp
    with_reducible rfl
  rotate_left
  · simp only [Act.put, List.setIfInBounds_toArray, List.set_cons_zero, List.set_cons_succ, i64_w, i32_w]
    rfl
  refine take_ (i := 9) (N := some 21) (v := ?_) (a' := ?_) #[true, true, true, true, true, true, true, true, true, true, false, false, false, false, false, false, false, false, false, false, false, false, false, false, false, false, false, false] rfl rfl (by kernel_rfl) (fun _ _ _ h => h) (Or.inl ⟨by rfl, ?_⟩) hHeld ?_ ?_
  rotate_left
  · rintro w' ⟨s0, s1, s2, s3, s4, s5⟩
    go_simp
    with_reducible rfl
  rotate_left
  · simp only [Act.put, List.setIfInBounds_toArray, List.set_cons_zero, List.set_cons_succ, i64_w, i32_w]
    rfl
  refine pure_ (i := 10) (N := some 22) (v := ?_) (a' := ?_) #[true, true, true, true, true, true, true, true, true, true, true, false, false, false, false, false, false, false, false, false, false, false, false, false, false, false, false, false] rfl rfl (by kernel_rfl) (fun _ _ _ h => h) (Or.inl ⟨by rfl, ?_⟩) ?_ ?_
  rotate_left
  · intro w'
    go_simp
    with_reducible rfl
  rotate_left
  · simp only [Act.put, List.setIfInBounds_toArray, List.set_cons_zero, List.set_cons_succ, i64_w, i32_w]
    rfl
  refine pure_ (i := 11) (N := some 23) (v := ?_) (a' := ?_) #[true, true, true, true, true, true, true, true, true, true, true, true, false, false, false, false, false, false, false, false, false, false, false, false, false, false, false, false] rfl rfl (by kernel_rfl) (fun _ _ _ h => h) (Or.inl ⟨by rfl, ?_⟩) ?_ ?_
  rotate_left
  · intro w'
    go_simp
    with_reducible rfl
  rotate_left
  · simp only [Act.put, List.setIfInBounds_toArray, List.set_cons_zero, List.set_cons_succ, i64_w, i32_w]
    rfl
  refine pure_ (i := 12) (N := some 24) (v := ?_) (a' := ?_) #[true, true, true, true, true, true, true, true, true, true, true, true, true, false, false, false, false, false, false, false, false, false, false, false, false, false, false, false] rfl rfl (by kernel_rfl) (fun _ _ _ h => h) (Or.inl ⟨by rfl, ?_⟩) ?_ ?_
  rotate_left
  · intro w'
    go_simp
    with_reducible rfl
  rotate_left
  · simp only [Act.put, List.setIfInBounds_toArray, List.set_cons_zero, List.set_cons_succ, i64_w, i32_w]
    rfl
  refine take_ (i := 13) (N := some 25) (v := ?_) (a' := ?_) #[true, true, true, true, true, true, true, true, true, true, true, true, true, true, false, false, false, false, false, false, false, false, false, false, false, false, false, false] rfl rfl (by kernel_rfl) (fun _ _ _ h => h) (Or.inl ⟨by rfl, ?_⟩) hHeld ?_ ?_
  rotate_left
  · rintro w' ⟨s0, s1, s2, s3, s4, s5⟩
    go_simp
    with_reducible rfl
  rotate_left
  · simp only [Act.put, List.setIfInBounds_toArray, List.set_cons_zero, List.set_cons_succ, i64_w, i32_w]
    rfl
  refine pure_ (i := 14) (N := some 26) (v := ?_) (a' := ?_) #[true, true, true, true, true, true, true, true, true, true, true, true, true, true, true, false, false, false, false, false, false, false, false, false, false, false, false, false] rfl rfl (by kernel_rfl) (fun _ _ _ h => h) (Or.inl ⟨by rfl, ?_⟩) ?_ ?_
  rotate_left
  · intro w'
    go_simp
    with_reducible rfl
  rotate_left
  · simp only [Act.put, List.setIfInBounds_toArray, List.set_cons_zero, List.set_cons_succ, i64_w, i32_w]
    rfl
  refine pure_ (i := 15) (N := some 27) (v := ?_) (a' := ?_) #[true, true, true, true, true, true, true, true, true, true, true, true, true, true, true, true, false, false, false, false, false, false, false, false, false, false, false, false] rfl rfl (by kernel_rfl) (fun _ _ _ h => h) (Or.inl ⟨by rfl, ?_⟩) ?_ ?_
  rotate_left
  · intro w'
    go_simp
    with_reducible rfl
  rotate_left
  · simp only [Act.put, List.setIfInBounds_toArray, List.set_cons_zero, List.set_cons_succ, i64_w, i32_w]
    rfl
  refine pure_ (i := 16) (N := some 28) (v := ?_) (a' := ?_) #[true, true, true, true, true, true, true, true, true, true, true, true, true, true, true, true, true, false, false, false, false, false, false, false, false, false, false, false] rfl rfl (by kernel_rfl) (fun _ _ _ h => h) (Or.inl ⟨by rfl, ?_⟩) ?_ ?_
  rotate_left
  · intro w'
    go_simp
    with_reducible rfl
  rotate_left
  · simp only [Act.put, List.setIfInBounds_toArray, List.set_cons_zero, List.set_cons_succ, i64_w, i32_w]
    rfl
  refine pure_ (i := 17) (N := some 29) (v := ?_) (a' := ?_) #[true, true, true, true, true, true, true, true, true, true, true, true, true, true, true, true, true, true, false, false, false, false, false, false, false, false, false, false] rfl rfl (by kernel_rfl) (fun _ _ _ h => h) (Or.inl ⟨by rfl, ?_⟩) ?_ ?_
  rotate_left
  · intro w'
    go_simp
    with_reducible rfl
  rotate_left
  · simp only [Act.put, List.setIfInBounds_toArray, List.set_cons_zero, List.set_cons_succ, i64_w, i32_w]
    rfl
  refine pure_ (i := 18) (N := some 30) (v := ?_) (a' := ?_) #[true, true, true, true, true, true, true, true, true, true, true, true, true, true, true, true, true, true, true, false, false, false, false, false, false, false, false, false] rfl rfl (by kernel_rfl) (fun _ _ _ h => h) (Or.inl ⟨by rfl, ?_⟩) ?_ ?_
  rotate_left
  · intro w'
    go_simp
    with_reducible rfl
  rotate_left
  · simp only [Act.put, List.setIfInBounds_toArray, List.set_cons_zero, List.set_cons_succ, i64_w, i32_w]
    rfl
  refine take_ (i := 19) (N := some 31) (v := ?_) (a' := ?_) #[true, true, true, true, true, true, true, true, true, true, true, true, true, true, true, true, true, true, true, true, false, false, false, false, false, false, false, false] rfl rfl (by kernel_rfl) (fun _ _ _ h => h) (Or.inl ⟨by rfl, ?_⟩) hHeld ?_ ?_
  rotate_left
  · rintro w' ⟨s0, s1, s2, s3, s4, s5⟩
    go_simp
    with_reducible rfl
  rotate_left
  · simp only [Act.put, List.setIfInBounds_toArray, List.set_cons_zero, List.set_cons_succ, i64_w, i32_w]
    rfl
  refine pure_ (i := 20) (N := some 32) (v := ?_) (a' := ?_) #[true, true, true, true, true, true, true, true, true, true, true, true, true, true, true, true, true, true, true, true, true, false, false, false, false, false, false, false] rfl rfl (by kernel_rfl) (fun _ _ _ h => h) (Or.inl ⟨by rfl, ?_⟩) ?_ ?_
  rotate_left
  · intro w'
    go_simp
    with_reducible rfl
  rotate_left
  · simp only [Act.put, List.setIfInBounds_toArray, List.set_cons_zero, List.set_cons_succ, i64_w, i32_w]
    rfl
  refine pure_ (i := 21) (N := some 33) (v := ?_) (a' := ?_) #[true, true, true, true, true, true, true, true, true, true, true, true, true, true, true, true, true, true, true, true, true, true, false, false, false, false, false, false] rfl rfl (by kernel_rfl) (fun _ _ _ h => h) (Or.inl ⟨by rfl, ?_⟩) ?_ ?_
  rotate_left
  · intro w'
    go_simp
    with_reducible rfl
  rotate_left
  · simp only [Act.put, List.setIfInBounds_toArray, List.set_cons_zero, List.set_cons_succ, i64_w, i32_w]
    rfl
  refine pure_ (i := 22) (N := some 34) (v := ?_) (a' := ?_) #[true, true, true, true, true, true, true, true, true, true, true, true, true, true, true, true, true, true, true, true, true, true, true, false, false, false, false, false] rfl rfl (by kernel_rfl) (fun _ _ _ h => h) (Or.inl ⟨by rfl, ?_⟩) ?_ ?_
  rotate_left
  · intro w'
    go_simp
    with_reducible rfl
  rotate_left
  · simp only [Act.put, List.setIfInBounds_toArray, List.set_cons_zero, List.set_cons_succ, i64_w, i32_w]
    rfl
  refine pure_ (i := 24) (N := some 36) (v := ?_) (a' := ?_) #[true, true, true, true, true, true, true, true, true, true, true, true, true, true, true, true, true, true, true, true, true, true, true, false, true, false, false, false] rfl rfl (by kernel_rfl) (fun _ _ _ h => h) (Or.inl ⟨by rfl, ?_⟩) ?_ ?_
  rotate_left
  · intro w'
    go_simp
    with_reducible rfl
  rotate_left
  · simp only [Act.put, List.setIfInBounds_toArray, List.set_cons_zero, List.set_cons_succ, i64_w, i32_w]
    rfl
  refine take_ (i := 23) (N := some 35) (v := ?_) (a' := ?_) #[true, true, true, true, true, true, true, true, true, true, true, true, true, true, true, true, true, true, true, true, true, true, true, true, true, false, false, false] rfl rfl (by kernel_rfl) (fun _ _ _ h => h) (Or.inl ⟨by rfl, ?_⟩) hHeld ?_ ?_
  rotate_left
  · rintro w' ⟨s0, s1, s2, s3, s4, s5⟩
    go_simp
    with_reducible rfl
  rotate_left
  · simp only [Act.put, List.setIfInBounds_toArray, List.set_cons_zero, List.set_cons_succ, i64_w, i32_w]
    rfl
  refine pure_ (i := 25) (N := some 37) (v := ?_) (a' := ?_) #[true, true, true, true, true, true, true, true, true, true, true, true, true, true, true, true, true, true, true, true, true, true, true, true, true, true, false, false] rfl rfl (by kernel_rfl) (fun _ _ _ h => h) (Or.inl ⟨by rfl, ?_⟩) ?_ ?_
  rotate_left
  · intro w'
    go_simp
    with_reducible rfl
  rotate_left
  · simp only [Act.put, List.setIfInBounds_toArray, List.set_cons_zero, List.set_cons_succ, i64_w, i32_w]
    rfl
  refine pure_ (i := 26) (N := some 38) (v := ?_) (a' := ?_) #[true, true, true, true, true, true, true, true, true, true, true, true, true, true, true, true, true, true, true, true, true, true, true, true, true, true, true, false] rfl rfl (by kernel_rfl) (fun _ _ _ h => h) (Or.inl ⟨by rfl, ?_⟩) ?_ ?_
  rotate_left
  · intro w'
    go_simp
    with_reducible rfl
  rotate_left
  · simp only [Act.put, List.setIfInBounds_toArray, List.set_cons_zero, List.set_cons_succ, i64_w, i32_w]
    rfl
  refine pure_ (i := 27) (N := some 39) (v := ?_) (a' := ?_) #[true, true, true, true, true, true, true, true, true, true, true, true, true, true, true, true, true, true, true, true, true, true, true, true, true, true, true, true] rfl rfl (by kernel_rfl) (fun _ _ _ h => h) (Or.inl ⟨by rfl, ?_⟩) ?_ ?_
  rotate_left
  · intro w'
    go_simp
    with_reducible rfl
  rotate_left
  · simp only [Act.put, List.setIfInBounds_toArray, List.set_cons_zero, List.set_cons_succ, i64_w, i32_w]
    rfl
  refine done_ (by kernel_rfl) ?_
  go_wp2_with (fail)
  go_ret2
  exact ⟨by rw [pre_bad _ _ hpre]; rfl, HB2.out⟩
set_option maxHeartbeats 4000000 in
set_option maxRecDepth 100000 in
theorem kindR_D (f1 : Int) (v0 v1 : Int) (v2 : ByteArray) (l : List S72) (A : Option Addr) (c : Nat) (cols : List S59) (B : Option Addr) (d : Nat) (w : World) (hr : Kd.C k72 w A l.length l) (hB : Kd.C k59 w B cols.length cols) (hp : (partsN 1 != (l.length : Int)) = false) (h3 : (f1 != 0) = false) (hl : Aside0 (l.length = 0)) :
    Calls Tryd.prog 91 #[.agg #[.int .i64 1, .int .i64 f1, .int .i64 v0, .int .i64 v1, .string v2, .slice A l.length c], .slice B cols.length d] w (KindRPost (kindE cols ⟨1, f1, ⟨v0, v1, v2⟩, l⟩) w) := by
  have hpre : preK ⟨1, f1, ⟨v0, v1, v2⟩, l⟩ = false := by simp only [preK, zeroV]; rw [hp, h3]; rfl
  have b1 := below1 w (.cells #[.int .i64 1, .int .i64 f1, .int .i64 v0, .int .i64 v1, .string v2, .slice A l.length c] 72)
  have HB := Aside0.mk b1
  have HR := Aside0.mk (Kd.C_below hr b1)
  have HC := Aside0.mk (Kd.C_below hB b1)
  have HK := Aside0.mk (blk_new w (.cells #[.int .i64 1, .int .i64 f1, .int .i64 v0, .int .i64 v1, .string v2, .slice A l.length c] 72))
  have HRw := Aside0.mk hr
  have HCw := Aside0.mk hB
  clear hr hB b1
  go_enter Tryd.func91, Tryd.ntmps91
  go_wp2_with (fail)
  refine start_ (n := 28) (S := (fun w' => w'.cell? ⟨w.heap.size, 0, none⟩ = some (.int .i64 1) ∧ w'.cell? ⟨w.heap.size, 1, none⟩ = some (.int .i64 f1) ∧ w'.cell? ⟨w.heap.size, 2, none⟩ = some (.int .i64 v0) ∧ w'.cell? ⟨w.heap.size, 3, none⟩ = some (.int .i64 v1) ∧ w'.cell? ⟨w.heap.size, 4, none⟩ = some (.string v2) ∧ w'.cell? ⟨w.heap.size, 5, none⟩ = some (.slice A l.length c))) (ds := []) #[false, false, false, false, false, false, false, false, false, false, false, false, false, false, false, false, false, false, false, false, false, false, false, false, false, false, false, false] (by kernel_rfl) rfl rfl ⟨blk_cell HK.out 0, blk_cell HK.out 1, blk_cell HK.out 2, blk_cell HK.out 3, blk_cell HK.out 4, blk_cell HK.out 5⟩ (fun hHeld => ?_)
  refine pure_ (i := 0) (N := some 12) (v := ?_) (a' := ?_) #[true, false, false, false, false, false, false, false, false, false, false, false, false, false, false, false, false, false, false, false, false, false, false, false, false, false, false, false] rfl rfl (by kernel_rfl) (fun _ _ _ h => h) (Or.inl ⟨by rfl, ?_⟩) ?_ ?_
  rotate_left
  · intro w'
    go_simp
    with_reducible rfl
  rotate_left
  · simp only [Act.put, List.setIfInBounds_toArray, List.set_cons_zero, List.set_cons_succ, i64_w, i32_w]
    rfl
  refine pure_ (i := 3) (N := some 15) (v := ?_) (a' := ?_) #[true, false, false, true, false, false, false, false, false, false, false, false, false, false, false, false, false, false, false, false, false, false, false, false, false, false, false, false] rfl rfl (by kernel_rfl) (fun _ _ _ h => h) (Or.inl ⟨by rfl, ?_⟩) ?_ ?_
  rotate_left
  · intro w'
    go_simp
    with_reducible rfl
  rotate_left
  · simp only [Act.put, List.setIfInBounds_toArray, List.set_cons_zero, List.set_cons_succ, i64_w, i32_w]
    rfl
  refine take_ (i := 1) (N := some 13) (v := ?_) (a' := ?_) #[true, true, false, true, false, false, false, false, false, false, false, false, false, false, false, false, false, false, false, false, false, false, false, false, false, false, false, false] rfl rfl (by kernel_rfl) (fun _ _ _ h => h) (Or.inl ⟨by rfl, ?_⟩) hHeld ?_ ?_
  rotate_left
  · rintro w' ⟨s0, s1, s2, s3, s4, s5⟩
    go_simp
    with_reducible rfl
  rotate_left
  · simp only [Act.put, List.setIfInBounds_toArray, List.set_cons_zero, List.set_cons_succ, i64_w, i32_w]
    rfl
  refine take_ (i := 4) (N := some 16) (v := ?_) (a' := ?_) #[true, true, false, true, true, false, false, false, false, false, false, false, false, false, false, false, false, false, false, false, false, false, false, false, false, false, false, false] rfl rfl (by kernel_rfl) (fun _ _ _ h => h) (Or.inl ⟨by rfl, ?_⟩) hHeld ?_ ?_
  rotate_left
  · rintro w' ⟨s0, s1, s2, s3, s4, s5⟩
    go_simp
    with_reducible rfl
  rotate_left
  · simp only [Act.put, List.setIfInBounds_toArray, List.set_cons_zero, List.set_cons_succ, i64_w, i32_w]
    rfl
  refine pure_ (i := 5) (N := some 17) (v := ?_) (a' := ?_) #[true, true, false, true, true, true, false, false, false, false, false, false, false, false, false, false, false, false, false, false, false, false, false, false, false, false, false, false] rfl rfl (by kernel_rfl) (fun _ _ _ h => h) (Or.inl ⟨by rfl, ?_⟩) ?_ ?_
  rotate_left
  · intro w'
    go_simp
    with_reducible rfl
  rotate_left
  · simp only [Act.put, List.setIfInBounds_toArray, List.set_cons_zero, List.set_cons_succ, i64_w, i32_w]
    rfl
  refine one_ (i := 2) (N := some 14) #[true, true, true, true, true, true, false, false, false, false, false, false, false, false, false, false, false, false, false, false, false, false, false, false, false, false, false, false] rfl rfl (by kernel_rfl) (by decide) (fun K hK => ?_)
  refine goes_ Tryd.func115 (by kernel_rfl) rfl #[.int .i64 1] (by rfl) rfl rfl (by first | rfl | (simp only [List.map_toArray, List.map_cons, List.map_nil]; rfl)) ?_
  refine (count_calls 1 _).mono ?_
  rintro e w2 ⟨rfl, hb2⟩
  have hb2 := undrew hb2
  have HK2 := Aside0.mk (blk_below HK.out hb2)
  have HR2 := Aside0.mk (Kd.C_below HR.out hb2)
  have HC2 := Aside0.mk (Kd.C_below HC.out hb2)
  have HB2 := Aside0.mk (below_step HB.out hb2)
  refine ⟨_, rfl, ?_⟩
  refine hK.out _ _ ⟨blk_cell HK2.out 0, blk_cell HK2.out 1, blk_cell HK2.out 2, blk_cell HK2.out 3, blk_cell HK2.out 4, blk_cell HK2.out 5⟩ (fun hHeld => ?_)
  clear hK K
  refine norm_ (a' := ?_) ?_ ?_
  rotate_left
  · show Act.put _ (some 14) _ = _
    simp only [Act.put, List.setIfInBounds_toArray, List.set_cons_zero, List.set_cons_succ, i64_w, i32_w]
    rfl
  refine pure_ (i := 6) (N := some 18) (v := ?_) (a' := ?_) #[true, true, true, true, true, true, true, false, false, false, false, false, false, false, false, false, false, false, false, false, false, false, false, false, false, false, false, false] rfl rfl (by kernel_rfl) (fun _ _ _ h => h) (Or.inl ⟨by rfl, ?_⟩) ?_ ?_
  rotate_left
  · intro w'
    go_simp
    with_reducible rfl
  rotate_left
  · simp only [Act.put, List.setIfInBounds_toArray, List.set_cons_zero, List.set_cons_succ, i64_w, i32_w]
    rfl
  refine pure_ (i := 7) (N := some 19) (v := ?_) (a' := ?_) #[true, true, true, true, true, true, true, true, false, false, false, false, false, false, false, false, false, false, false, false, false, false, false, false, false, false, false, false] rfl rfl (by kernel_rfl) (fun _ _ _ h => h) (Or.inl ⟨by rfl, ?_⟩) ?_ ?_
  rotate_left
  · intro w'
    go_simp
    with_reducible rfl
  rotate_left
  · simp only [Act.put, List.setIfInBounds_toArray, List.set_cons_zero, List.set_cons_succ, i64_w, i32_w]
    rfl
  refine pure_ (i := 8) (N := some 20) (v := ?_) (a' := ?_) #[true, true, true, true, true, true, true, true, true, false, false, false, false, false, false, false, false, false, false, false, false, false, false, false, false, false, false, false] rfl rfl (by kernel_rfl) (fun _ _ _ h => h) (Or.inl ⟨by rfl, ?_⟩) ?_ ?_
  rotate_left
  · intro w'
    go_simp
    with_reducible rfl
  rotate_left
  · simp only [Act.put, List.setIfInBounds_toArray, List.set_cons_zero, List.set_cons_succ, i64_w, i32_w]
    rfl
  refine take_ (i := 9) (N := some 21) (v := ?_) (a' := ?_) #[true, true, true, true, true, true, true, true, true, true, false, false, false, false, false, false, false, false, false, false, false, false, false, false, false, false, false, false] rfl rfl (by kernel_rfl) (fun _ _ _ h => h) (Or.inl ⟨by rfl, ?_⟩) hHeld ?_ ?_
  rotate_left
  · rintro w' ⟨s0, s1, s2, s3, s4, s5⟩
    go_simp
    with_reducible rfl
  rotate_left
  · simp only [Act.put, List.setIfInBounds_toArray, List.set_cons_zero, List.set_cons_succ, i64_w, i32_w]
    rfl
  refine pure_ (i := 10) (N := some 22) (v := ?_) (a' := ?_) #[true, true, true, true, true, true, true, true, true, true, true, false, false, false, false, false, false, false, false, false, false, false, false, false, false, false, false, false] rfl rfl (by kernel_rfl) (fun _ _ _ h => h) (Or.inl ⟨by rfl, ?_⟩) ?_ ?_
  rotate_left
  · intro w'
    go_simp
    with_reducible rfl
  rotate_left
  · simp only [Act.put, List.setIfInBounds_toArray, List.set_cons_zero, List.set_cons_succ, i64_w, i32_w]
    rfl
  refine pure_ (i := 11) (N := some 23) (v := ?_) (a' := ?_) #[true, true, true, true, true, true, true, true, true, true, true, true, false, false, false, false, false, false, false, false, false, false, false, false, false, false, false, false] rfl rfl (by kernel_rfl) (fun _ _ _ h => h) (Or.inl ⟨by rfl, ?_⟩) ?_ ?_
  rotate_left
  · intro w'
    go_simp
    with_reducible rfl
  rotate_left
  · simp only [Act.put, List.setIfInBounds_toArray, List.set_cons_zero, List.set_cons_succ, i64_w, i32_w]
    rfl
  refine pure_ (i := 12) (N := some 24) (v := ?_) (a' := ?_) #[true, true, true, true, true, true, true, true, true, true, true, true, true, false, false, false, false, false, false, false, false, false, false, false, false, false, false, false] rfl rfl (by kernel_rfl) (fun _ _ _ h => h) (Or.inl ⟨by rfl, ?_⟩) ?_ ?_
  rotate_left
  · intro w'
    go_simp
    with_reducible rfl
  rotate_left
  · simp only [Act.put, List.setIfInBounds_toArray, List.set_cons_zero, List.set_cons_succ, i64_w, i32_w]
    rfl
  refine take_ (i := 13) (N := some 25) (v := ?_) (a' := ?_) #[true, true, true, true, true, true, true, true, true, true, true, true, true, true, false, false, false, false, false, false, false, false, false, false, false, false, false, false] rfl rfl (by kernel_rfl) (fun _ _ _ h => h) (Or.inl ⟨by rfl, ?_⟩) hHeld ?_ ?_
  rotate_left
  · rintro w' ⟨s0, s1, s2, s3, s4, s5⟩
    go_simp
    with_reducible rfl
  rotate_left
  · simp only [Act.put, List.setIfInBounds_toArray, List.set_cons_zero, List.set_cons_succ, i64_w, i32_w]
    rfl
  refine pure_ (i := 14) (N := some 26) (v := ?_) (a' := ?_) #[true, true, true, true, true, true, true, true, true, true, true, true, true, true, true, false, false, false, false, false, false, false, false, false, false, false, false, false] rfl rfl (by kernel_rfl) (fun _ _ _ h => h) (Or.inl ⟨by rfl, ?_⟩) ?_ ?_
  rotate_left
  · intro w'
    go_simp
    with_reducible rfl
  rotate_left
  · simp only [Act.put, List.setIfInBounds_toArray, List.set_cons_zero, List.set_cons_succ, i64_w, i32_w]
    rfl
  refine pure_ (i := 15) (N := some 27) (v := ?_) (a' := ?_) #[true, true, true, true, true, true, true, true, true, true, true, true, true, true, true, true, false, false, false, false, false, false, false, false, false, false, false, false] rfl rfl (by kernel_rfl) (fun _ _ _ h => h) (Or.inl ⟨by rfl, ?_⟩) ?_ ?_
  rotate_left
  · intro w'
    go_simp
    with_reducible rfl
  rotate_left
  · simp only [Act.put, List.setIfInBounds_toArray, List.set_cons_zero, List.set_cons_succ, i64_w, i32_w]
    rfl
  refine pure_ (i := 16) (N := some 28) (v := ?_) (a' := ?_) #[true, true, true, true, true, true, true, true, true, true, true, true, true, true, true, true, true, false, false, false, false, false, false, false, false, false, false, false] rfl rfl (by kernel_rfl) (fun _ _ _ h => h) (Or.inl ⟨by rfl, ?_⟩) ?_ ?_
  rotate_left
  · intro w'
    go_simp
    with_reducible rfl
  rotate_left
  · simp only [Act.put, List.setIfInBounds_toArray, List.set_cons_zero, List.set_cons_succ, i64_w, i32_w]
    rfl
  refine pure_ (i := 17) (N := some 29) (v := ?_) (a' := ?_) #[true, true, true, true, true, true, true, true, true, true, true, true, true, true, true, true, true, true, false, false, false, false, false, false, false, false, false, false] rfl rfl (by kernel_rfl) (fun _ _ _ h => h) (Or.inl ⟨by rfl, ?_⟩) ?_ ?_
  rotate_left
  · intro w'
    go_simp
    with_reducible rfl
  rotate_left
  · simp only [Act.put, List.setIfInBounds_toArray, List.set_cons_zero, List.set_cons_succ, i64_w, i32_w]
    rfl
  refine pure_ (i := 18) (N := some 30) (v := ?_) (a' := ?_) #[true, true, true, true, true, true, true, true, true, true, true, true, true, true, true, true, true, true, true, false, false, false, false, false, false, false, false, false] rfl rfl (by kernel_rfl) (fun _ _ _ h => h) (Or.inl ⟨by rfl, ?_⟩) ?_ ?_
  rotate_left
  · intro w'
    go_simp
    with_reducible rfl
  rotate_left
  · simp only [Act.put, List.setIfInBounds_toArray, List.set_cons_zero, List.set_cons_succ, i64_w, i32_w]
    rfl
  refine take_ (i := 19) (N := some 31) (v := ?_) (a' := ?_) #[true, true, true, true, true, true, true, true, true, true, true, true, true, true, true, true, true, true, true, true, false, false, false, false, false, false, false, false] rfl rfl (by kernel_rfl) (fun _ _ _ h => h) (Or.inl ⟨by rfl, ?_⟩) hHeld ?_ ?_
  rotate_left
  · rintro w' ⟨s0, s1, s2, s3, s4, s5⟩
    go_simp
    with_reducible rfl
  rotate_left
  · simp only [Act.put, List.setIfInBounds_toArray, List.set_cons_zero, List.set_cons_succ, i64_w, i32_w]
    rfl
  refine pure_ (i := 20) (N := some 32) (v := ?_) (a' := ?_) #[true, true, true, true, true, true, true, true, true, true, true, true, true, true, true, true, true, true, true, true, true, false, false, false, false, false, false, false] rfl rfl (by kernel_rfl) (fun _ _ _ h => h) (Or.inl ⟨by rfl, ?_⟩) ?_ ?_
  rotate_left
  · intro w'
    go_simp
    with_reducible rfl
  rotate_left
  · simp only [Act.put, List.setIfInBounds_toArray, List.set_cons_zero, List.set_cons_succ, i64_w, i32_w]
    rfl
  refine pure_ (i := 21) (N := some 33) (v := ?_) (a' := ?_) #[true, true, true, true, true, true, true, true, true, true, true, true, true, true, true, true, true, true, true, true, true, true, false, false, false, false, false, false] rfl rfl (by kernel_rfl) (fun _ _ _ h => h) (Or.inl ⟨by rfl, ?_⟩) ?_ ?_
  rotate_left
  · intro w'
    go_simp
    with_reducible rfl
  rotate_left
  · simp only [Act.put, List.setIfInBounds_toArray, List.set_cons_zero, List.set_cons_succ, i64_w, i32_w]
    rfl
  refine pure_ (i := 22) (N := some 34) (v := undef) (a' := ?_) #[true, true, true, true, true, true, true, true, true, true, true, true, true, true, true, true, true, true, true, true, true, true, true, false, false, false, false, false] rfl rfl (by kernel_rfl) (fun _ _ _ h => h) (Or.inr ⟨by rfl, rfl⟩) ?_ ?_
  rotate_left
  · simp only [Act.put, List.setIfInBounds_toArray, List.set_cons_zero, List.set_cons_succ, i64_w, i32_w]
    rfl
  refine pure_ (i := 23) (N := some 35) (v := undef) (a' := ?_) #[true, true, true, true, true, true, true, true, true, true, true, true, true, true, true, true, true, true, true, true, true, true, true, true, false, false, false, false] rfl rfl (by kernel_rfl) (fun _ _ _ h => h) (Or.inr ⟨by rfl, rfl⟩) ?_ ?_
  rotate_left
  · simp only [Act.put, List.setIfInBounds_toArray, List.set_cons_zero, List.set_cons_succ, i64_w, i32_w]
    rfl
  refine pure_ (i := 24) (N := some 36) (v := undef) (a' := ?_) #[true, true, true, true, true, true, true, true, true, true, true, true, true, true, true, true, true, true, true, true, true, true, true, true, true, false, false, false] rfl rfl (by kernel_rfl) (fun _ _ _ h => h) (Or.inr ⟨by rfl, rfl⟩) ?_ ?_
  rotate_left
  · simp only [Act.put, List.setIfInBounds_toArray, List.set_cons_zero, List.set_cons_succ, i64_w, i32_w]
    rfl
  refine pure_ (i := 25) (N := some 37) (v := undef) (a' := ?_) #[true, true, true, true, true, true, true, true, true, true, true, true, true, true, true, true, true, true, true, true, true, true, true, true, true, true, false, false] rfl rfl (by kernel_rfl) (fun _ _ _ h => h) (Or.inr ⟨by rfl, rfl⟩) ?_ ?_
  rotate_left
  · simp only [Act.put, List.setIfInBounds_toArray, List.set_cons_zero, List.set_cons_succ, i64_w, i32_w]
    rfl
  refine pure_ (i := 26) (N := some 38) (v := ?_) (a' := ?_) #[true, true, true, true, true, true, true, true, true, true, true, true, true, true, true, true, true, true, true, true, true, true, true, true, true, true, true, false] rfl rfl (by kernel_rfl) (fun _ _ _ h => h) (Or.inl ⟨by rfl, ?_⟩) ?_ ?_
  rotate_left
  · intro w'
    go_simp
    with_reducible rfl
  rotate_left
  · simp only [Act.put, List.setIfInBounds_toArray, List.set_cons_zero, List.set_cons_succ, i64_w, i32_w]
    rfl
  refine pure_ (i := 27) (N := some 39) (v := ?_) (a' := ?_) #[true, true, true, true, true, true, true, true, true, true, true, true, true, true, true, true, true, true, true, true, true, true, true, true, true, true, true, true] rfl rfl (by kernel_rfl) (fun _ _ _ h => h) (Or.inl ⟨by rfl, ?_⟩) ?_ ?_
  rotate_left
  · intro w'
    go_simp
    with_reducible rfl
  rotate_left
  · simp only [Act.put, List.setIfInBounds_toArray, List.set_cons_zero, List.set_cons_succ, i64_w, i32_w]
    rfl
  refine done_ (by kernel_rfl) ?_
  have gk := blk_lt HK2.out
  have z0 := blk_cell HK2.out 0
  have z1 := blk_cell HK2.out 1
  have z2 := blk_cell HK2.out 2
  have z3 := blk_cell HK2.out 3
  have z4 := blk_cell HK2.out 4
  have z5 := blk_cell HK2.out 5
  go_wp2_with (fail)
  have HKa := Aside0.mk (blk_alloc HK2.out (.cells #[.int .i64 0, .int .i64 0] 149))
  have HA := Aside0.mk (blk_new w2 (.cells #[.int .i64 0, .int .i64 0] 149))
  have HBa := Aside0.mk (below_alloc HB2.out (.cells #[.int .i64 0, .int .i64 0] 149))
  have hab : w.heap.size < w2.heap.size := gk
  clear z0 z1 z2 z3 z4 z5 gk
  go_loopw [7, 8, 9, 10, 43] (fun _ _ _ _ t41 wr => ∃ j : Nat, t41 = .int .i64 j ∧ j ≤ l.length ∧ Aside0 (∀ i, i < j → (kindE cols (l.getD i z72)).2 = 0) ∧ Aside0 (wr.heap[w.heap.size]? = some (.cells #[.int .i64 1, .int .i64 f1, .int .i64 v0, .int .i64 v1, .string v2, .slice A l.length c] 72 (0, 0))) ∧ Aside0 (wr.heap[w2.heap.size]? = some (.cells #[.int .i64 (kk cols l j 0), .int .i64 (kk cols l j 1)] 149 (0, 0))) ∧ Aside0 (Below w.heap.size w wr)) (fun _ _ _ _ t41 _ => l.length - (intOf t41).toNat)
  case atStart => exact ⟨0, rfl, Nat.zero_le _, ⟨fun i hi => absurd hi (by omega)⟩, HKa, HA, HBa⟩
  case round =>
    clear HKa HA HBa
    obtain ⟨j, rfl, hj, HE, HKr, HAr, HBr⟩ := hrel
    by_cases hlt : j < l.length
    · exact absurd hlt (by have := hl.out; omega)
    · obtain rfl : j = l.length := by omega
      have hres := join_ok cols ⟨1, f1, ⟨v0, v1, v2⟩, l⟩ hpre (fun i hi => HE.out i hi)
      obtain ⟨a, ha⟩ : ∃ a, kk cols l l.length 0 = a := ⟨_, rfl⟩
      obtain ⟨b, hb⟩ : ∃ b, kk cols l l.length 1 = b := ⟨_, rfl⟩
      have HAr := HAr.out
      dsimp only at hres
      rw [ha, hb] at HAr hres
      have HRES := Aside0.mk hres
      have HCr := Aside0.mk (Kd.C_below HCw.out HBr.out)
      have z0 := blk_cell HKr.out 0
      have z1 := blk_cell HKr.out 1
      have z2 := blk_cell HKr.out 2
      have z3 := blk_cell HKr.out 3
      have z4 := blk_cell HKr.out 4
      have z5 := blk_cell HKr.out 5
      have y0 := blk_cell HAr 0
      have y1 := blk_cell HAr 1
      clear HAr hres HE
      have hl0 := hl.out
      have ea : a = 0 := by rw [← ha]; unfold kk; rw [if_neg (by omega)]
      have eb : b = 0 := by rw [← hb]; unfold kk; rw [if_neg (by omega)]
      clear ha hb hl0
      subst ea eb
      cases hv : goodV ⟨v0, v1, v2⟩ with
      | true =>
        go_wp2_with (go_at_call 98; refine (valR_calls ⟨v0, v1, v2⟩ _).mono ?_; rw [hv]; rintro e w5 ⟨rfl, hb5⟩; have HK5 := Aside0.mk (blk_below HKr.out hb5); have x2 := blk_cell HK5.out 2)
        go_ret2
        refine ⟨?_, below_step HBr.out hb5⟩
        rw [HRES.out]
        simp [finK, apart, bne, hv]
      | false =>
        go_wp2_with (go_at_call 98; refine (valR_calls ⟨v0, v1, v2⟩ _).mono ?_; rw [hv]; rintro e w5 ⟨rfl, hb5⟩)
        go_ret2
        refine ⟨?_, below_step HBr.out hb5⟩
        rw [HRES.out]
        simp [finK, apart, bne, hv]
set_option maxHeartbeats 4000000 in
set_option maxRecDepth 100000 in
theorem kindR_C2 (f1 : Int) (v0 v1 : Int) (v2 : ByteArray) (l : List S72) (A : Option Addr) (c : Nat) (cols : List S59) (B : Option Addr) (d : Nat) (w : World) (hr : Kd.C k72 w A l.length l) (hB : Kd.C k59 w B cols.length cols) (hp : (partsN 2 != (l.length : Int)) = false) (hz : (v0 == 0 && (v1 == 0 && v2.toList.isEmpty)) = true) (hl : Aside0 (l.length = 0)) :
    Calls Tryd.prog 91 #[.agg #[.int .i64 2, .int .i64 f1, .int .i64 v0, .int .i64 v1, .string v2, .slice A l.length c], .slice B cols.length d] w (KindRPost (kindE cols ⟨2, f1, ⟨v0, v1, v2⟩, l⟩) w) := by
  have hpre : preK ⟨2, f1, ⟨v0, v1, v2⟩, l⟩ = false := by simp only [preK, zeroV]; rw [hp, hz]; rfl
  have b1 := below1 w (.cells #[.int .i64 2, .int .i64 f1, .int .i64 v0, .int .i64 v1, .string v2, .slice A l.length c] 72)
  have HB := Aside0.mk b1
  have HR := Aside0.mk (Kd.C_below hr b1)
  have HC := Aside0.mk (Kd.C_below hB b1)
  have HK := Aside0.mk (blk_new w (.cells #[.int .i64 2, .int .i64 f1, .int .i64 v0, .int .i64 v1, .string v2, .slice A l.length c] 72))
  have HRw := Aside0.mk hr
  have HCw := Aside0.mk hB
  clear hr hB b1
  go_enter Tryd.func91, Tryd.ntmps91
  go_wp2_with (fail)
  refine start_ (n := 28) (S := (fun w' => w'.cell? ⟨w.heap.size, 0, none⟩ = some (.int .i64 2) ∧ w'.cell? ⟨w.heap.size, 1, none⟩ = some (.int .i64 f1) ∧ w'.cell? ⟨w.heap.size, 2, none⟩ = some (.int .i64 v0) ∧ w'.cell? ⟨w.heap.size, 3, none⟩ = some (.int .i64 v1) ∧ w'.cell? ⟨w.heap.size, 4, none⟩ = some (.string v2) ∧ w'.cell? ⟨w.heap.size, 5, none⟩ = some (.slice A l.length c))) (ds := []) #[false, false, false, false, false, false, false, false, false, false, false, false, false, false, false, false, false, false, false, false, false, false, false, false, false, false, false, false] (by kernel_rfl) rfl rfl ⟨blk_cell HK.out 0, blk_cell HK.out 1, blk_cell HK.out 2, blk_cell HK.out 3, blk_cell HK.out 4, blk_cell HK.out 5⟩ (fun hHeld => ?_)
  refine pure_ (i := 0) (N := some 12) (v := ?_) (a' := ?_) #[true, false, false, false, false, false, false, false, false, false, false, false, false, false, false, false, false, false, false, false, false, false, false, false, false, false, false, false] rfl rfl (by kernel_rfl) (fun _ _ _ h => h) (Or.inl ⟨by rfl, ?_⟩) ?_ ?_
  rotate_left
  · intro w'
    go_simp
    with_reducible rfl
  rotate_left
  · simp only [Act.put, List.setIfInBounds_toArray, List.set_cons_zero, List.set_cons_succ, i64_w, i32_w]
    rfl
  refine pure_ (i := 3) (N := some 15) (v := ?_) (a' := ?_) #[true, false, false, true, false, false, false, false, false, false, false, false, false, false, false, false, false, false, false, false, false, false, false, false, false, false, false, false] rfl rfl (by kernel_rfl) (fun _ _ _ h => h) (Or.inl ⟨by rfl, ?_⟩) ?_ ?_
  rotate_left
  · intro w'
    go_simp
    with_reducible rfl
  rotate_left
  · simp only [Act.put, List.setIfInBounds_toArray, List.set_cons_zero, List.set_cons_succ, i64_w, i32_w]
    rfl
  refine take_ (i := 1) (N := some 13) (v := ?_) (a' := ?_) #[true, true, false, true, false, false, false, false, false, false, false, false, false, false, false, false, false, false, false, false, false, false, false, false, false, false, false, false] rfl rfl (by kernel_rfl) (fun _ _ _ h => h) (Or.inl ⟨by rfl, ?_⟩) hHeld ?_ ?_
  rotate_left
  · rintro w' ⟨s0, s1, s2, s3, s4, s5⟩
    go_simp
    with_reducible rfl
  rotate_left
  · simp only [Act.put, List.setIfInBounds_toArray, List.set_cons_zero, List.set_cons_succ, i64_w, i32_w]
    rfl
  refine take_ (i := 4) (N := some 16) (v := ?_) (a' := ?_) #[true, true, false, true, true, false, false, false, false, false, false, false, false, false, false, false, false, false, false, false, false, false, false, false, false, false, false, false] rfl rfl (by kernel_rfl) (fun _ _ _ h => h) (Or.inl ⟨by rfl, ?_⟩) hHeld ?_ ?_
  rotate_left
  · rintro w' ⟨s0, s1, s2, s3, s4, s5⟩
    go_simp
    with_reducible rfl
  rotate_left
  · simp only [Act.put, List.setIfInBounds_toArray, List.set_cons_zero, List.set_cons_succ, i64_w, i32_w]
    rfl
  refine pure_ (i := 5) (N := some 17) (v := ?_) (a' := ?_) #[true, true, false, true, true, true, false, false, false, false, false, false, false, false, false, false, false, false, false, false, false, false, false, false, false, false, false, false] rfl rfl (by kernel_rfl) (fun _ _ _ h => h) (Or.inl ⟨by rfl, ?_⟩) ?_ ?_
  rotate_left
  · intro w'
    go_simp
    with_reducible rfl
  rotate_left
  · simp only [Act.put, List.setIfInBounds_toArray, List.set_cons_zero, List.set_cons_succ, i64_w, i32_w]
    rfl
  refine one_ (i := 2) (N := some 14) #[true, true, true, true, true, true, false, false, false, false, false, false, false, false, false, false, false, false, false, false, false, false, false, false, false, false, false, false] rfl rfl (by kernel_rfl) (by decide) (fun K hK => ?_)
  refine goes_ Tryd.func115 (by kernel_rfl) rfl #[.int .i64 2] (by rfl) rfl rfl (by first | rfl | (simp only [List.map_toArray, List.map_cons, List.map_nil]; rfl)) ?_
  refine (count_calls 2 _).mono ?_
  rintro e w2 ⟨rfl, hb2⟩
  have hb2 := undrew hb2
  have HK2 := Aside0.mk (blk_below HK.out hb2)
  have HR2 := Aside0.mk (Kd.C_below HR.out hb2)
  have HC2 := Aside0.mk (Kd.C_below HC.out hb2)
  have HB2 := Aside0.mk (below_step HB.out hb2)
  refine ⟨_, rfl, ?_⟩
  refine hK.out _ _ ⟨blk_cell HK2.out 0, blk_cell HK2.out 1, blk_cell HK2.out 2, blk_cell HK2.out 3, blk_cell HK2.out 4, blk_cell HK2.out 5⟩ (fun hHeld => ?_)
  clear hK K
  refine norm_ (a' := ?_) ?_ ?_
  rotate_left
  · show Act.put _ (some 14) _ = _
    simp only [Act.put, List.setIfInBounds_toArray, List.set_cons_zero, List.set_cons_succ, i64_w, i32_w]
    rfl
  refine pure_ (i := 6) (N := some 18) (v := ?_) (a' := ?_) #[true, true, true, true, true, true, true, false, false, false, false, false, false, false, false, false, false, false, false, false, false, false, false, false, false, false, false, false] rfl rfl (by kernel_rfl) (fun _ _ _ h => h) (Or.inl ⟨by rfl, ?_⟩) ?_ ?_
  rotate_left
  · intro w'
    go_simp
    with_reducible rfl
  rotate_left
  · simp only [Act.put, List.setIfInBounds_toArray, List.set_cons_zero, List.set_cons_succ, i64_w, i32_w]
    rfl
  refine pure_ (i := 7) (N := some 19) (v := ?_) (a' := ?_) #[true, true, true, true, true, true, true, true, false, false, false, false, false, false, false, false, false, false, false, false, false, false, false, false, false, false, false, false] rfl rfl (by kernel_rfl) (fun _ _ _ h => h) (Or.inl ⟨by rfl, ?_⟩) ?_ ?_
  rotate_left
  · intro w'
    go_simp
    with_reducible rfl
  rotate_left
  · simp only [Act.put, List.setIfInBounds_toArray, List.set_cons_zero, List.set_cons_succ, i64_w, i32_w]
    rfl
  refine pure_ (i := 8) (N := some 20) (v := ?_) (a' := ?_) #[true, true, true, true, true, true, true, true, true, false, false, false, false, false, false, false, false, false, false, false, false, false, false, false, false, false, false, false] rfl rfl (by kernel_rfl) (fun _ _ _ h => h) (Or.inl ⟨by rfl, ?_⟩) ?_ ?_
  rotate_left
  · intro w'
    go_simp
    with_reducible rfl
  rotate_left
  · simp only [Act.put, List.setIfInBounds_toArray, List.set_cons_zero, List.set_cons_succ, i64_w, i32_w]
    rfl
  refine take_ (i := 9) (N := some 21) (v := ?_) (a' := ?_) #[true, true, true, true, true, true, true, true, true, true, false, false, false, false, false, false, false, false, false, false, false, false, false, false, false, false, false, false] rfl rfl (by kernel_rfl) (fun _ _ _ h => h) (Or.inl ⟨by rfl, ?_⟩) hHeld ?_ ?_
  rotate_left
  · rintro w' ⟨s0, s1, s2, s3, s4, s5⟩
    go_simp
    with_reducible rfl
  rotate_left
  · simp only [Act.put, List.setIfInBounds_toArray, List.set_cons_zero, List.set_cons_succ, i64_w, i32_w]
    rfl
  refine pure_ (i := 10) (N := some 22) (v := ?_) (a' := ?_) #[true, true, true, true, true, true, true, true, true, true, true, false, false, false, false, false, false, false, false, false, false, false, false, false, false, false, false, false] rfl rfl (by kernel_rfl) (fun _ _ _ h => h) (Or.inl ⟨by rfl, ?_⟩) ?_ ?_
  rotate_left
  · intro w'
    go_simp
    with_reducible rfl
  rotate_left
  · simp only [Act.put, List.setIfInBounds_toArray, List.set_cons_zero, List.set_cons_succ, i64_w, i32_w]
    rfl
  refine pure_ (i := 11) (N := some 23) (v := ?_) (a' := ?_) #[true, true, true, true, true, true, true, true, true, true, true, true, false, false, false, false, false, false, false, false, false, false, false, false, false, false, false, false] rfl rfl (by kernel_rfl) (fun _ _ _ h => h) (Or.inl ⟨by rfl, ?_⟩) ?_ ?_
  rotate_left
  · intro w'
    go_simp
    with_reducible rfl
  rotate_left
  · simp only [Act.put, List.setIfInBounds_toArray, List.set_cons_zero, List.set_cons_succ, i64_w, i32_w]
    rfl
  refine pure_ (i := 12) (N := some 24) (v := undef) (a' := ?_) #[true, true, true, true, true, true, true, true, true, true, true, true, true, false, false, false, false, false, false, false, false, false, false, false, false, false, false, false] rfl rfl (by kernel_rfl) (fun _ _ _ h => h) (Or.inr ⟨by rfl, rfl⟩) ?_ ?_
  rotate_left
  · simp only [Act.put, List.setIfInBounds_toArray, List.set_cons_zero, List.set_cons_succ, i64_w, i32_w]
    rfl
  refine pure_ (i := 13) (N := some 25) (v := undef) (a' := ?_) #[true, true, true, true, true, true, true, true, true, true, true, true, true, true, false, false, false, false, false, false, false, false, false, false, false, false, false, false] rfl rfl (by kernel_rfl) (fun _ _ _ h => h) (Or.inr ⟨by rfl, rfl⟩) ?_ ?_
  rotate_left
  · simp only [Act.put, List.setIfInBounds_toArray, List.set_cons_zero, List.set_cons_succ, i64_w, i32_w]
    rfl
  refine pure_ (i := 14) (N := some 26) (v := undef) (a' := ?_) #[true, true, true, true, true, true, true, true, true, true, true, true, true, true, true, false, false, false, false, false, false, false, false, false, false, false, false, false] rfl rfl (by kernel_rfl) (fun _ _ _ h => h) (Or.inr ⟨by rfl, rfl⟩) ?_ ?_
  rotate_left
  · simp only [Act.put, List.setIfInBounds_toArray, List.set_cons_zero, List.set_cons_succ, i64_w, i32_w]
    rfl
  refine pure_ (i := 15) (N := some 27) (v := ?_) (a' := ?_) #[true, true, true, true, true, true, true, true, true, true, true, true, true, true, true, true, false, false, false, false, false, false, false, false, false, false, false, false] rfl rfl (by kernel_rfl) (fun _ _ _ h => h) (Or.inl ⟨by rfl, ?_⟩) ?_ ?_
  rotate_left
  · intro w'
    go_simp
    with_reducible rfl
  rotate_left
  · simp only [Act.put, List.setIfInBounds_toArray, List.set_cons_zero, List.set_cons_succ, i64_w, i32_w]
    rfl
  refine pure_ (i := 16) (N := some 28) (v := ?_) (a' := ?_) #[true, true, true, true, true, true, true, true, true, true, true, true, true, true, true, true, true, false, false, false, false, false, false, false, false, false, false, false] rfl rfl (by kernel_rfl) (fun _ _ _ h => h) (Or.inl ⟨by rfl, ?_⟩) ?_ ?_
  rotate_left
  · intro w'
    go_simp
    with_reducible rfl
  rotate_left
  · simp only [Act.put, List.setIfInBounds_toArray, List.set_cons_zero, List.set_cons_succ, i64_w, i32_w]
    rfl
  refine pure_ (i := 17) (N := some 29) (v := ?_) (a' := ?_) #[true, true, true, true, true, true, true, true, true, true, true, true, true, true, true, true, true, true, false, false, false, false, false, false, false, false, false, false] rfl rfl (by kernel_rfl) (fun _ _ _ h => h) (Or.inl ⟨by rfl, ?_⟩) ?_ ?_
  rotate_left
  · intro w'
    go_simp
    with_reducible rfl
  rotate_left
  · simp only [Act.put, List.setIfInBounds_toArray, List.set_cons_zero, List.set_cons_succ, i64_w, i32_w]
    rfl
  refine pure_ (i := 18) (N := some 30) (v := ?_) (a' := ?_) #[true, true, true, true, true, true, true, true, true, true, true, true, true, true, true, true, true, true, true, false, false, false, false, false, false, false, false, false] rfl rfl (by kernel_rfl) (fun _ _ _ h => h) (Or.inl ⟨by rfl, ?_⟩) ?_ ?_
  rotate_left
  · intro w'
    go_simp
    with_reducible rfl
  rotate_left
  · simp only [Act.put, List.setIfInBounds_toArray, List.set_cons_zero, List.set_cons_succ, i64_w, i32_w]
    rfl
  refine take_ (i := 19) (N := some 31) (v := ?_) (a' := ?_) #[true, true, true, true, true, true, true, true, true, true, true, true, true, true, true, true, true, true, true, true, false, false, false, false, false, false, false, false] rfl rfl (by kernel_rfl) (fun _ _ _ h => h) (Or.inl ⟨by rfl, ?_⟩) hHeld ?_ ?_
  rotate_left
  · rintro w' ⟨s0, s1, s2, s3, s4, s5⟩
    go_simp
    with_reducible rfl
  rotate_left
  · simp only [Act.put, List.setIfInBounds_toArray, List.set_cons_zero, List.set_cons_succ, i64_w, i32_w]
    rfl
  refine pure_ (i := 20) (N := some 32) (v := ?_) (a' := ?_) #[true, true, true, true, true, true, true, true, true, true, true, true, true, true, true, true, true, true, true, true, true, false, false, false, false, false, false, false] rfl rfl (by kernel_rfl) (fun _ _ _ h => h) (Or.inl ⟨by rfl, ?_⟩) ?_ ?_
  rotate_left
  · intro w'
    go_simp
    with_reducible rfl
  rotate_left
  · simp only [Act.put, List.setIfInBounds_toArray, List.set_cons_zero, List.set_cons_succ, i64_w, i32_w]
    rfl
  refine pure_ (i := 21) (N := some 33) (v := ?_) (a' := ?_) #[true, true, true, true, true, true, true, true, true, true, true, true, true, true, true, true, true, true, true, true, true, true, false, false, false, false, false, false] rfl rfl (by kernel_rfl) (fun _ _ _ h => h) (Or.inl ⟨by rfl, ?_⟩) ?_ ?_
  rotate_left
  · intro w'
    go_simp
    with_reducible rfl
  rotate_left
  · simp only [Act.put, List.setIfInBounds_toArray, List.set_cons_zero, List.set_cons_succ, i64_w, i32_w]
    rfl
  refine pure_ (i := 22) (N := some 34) (v := ?_) (a' := ?_) #[true, true, true, true, true, true, true, true, true, true, true, true, true, true, true, true, true, true, true, true, true, true, true, false, false, false, false, false] rfl rfl (by kernel_rfl) (fun _ _ _ h => h) (Or.inl ⟨by rfl, ?_⟩) ?_ ?_
  rotate_left
  · intro w'
    go_simp
    with_reducible rfl
  rotate_left
  · simp only [Act.put, List.setIfInBounds_toArray, List.set_cons_zero, List.set_cons_succ, i64_w, i32_w]
    rfl
  refine pure_ (i := 24) (N := some 36) (v := ?_) (a' := ?_) #[true, true, true, true, true, true, true, true, true, true, true, true, true, true, true, true, true, true, true, true, true, true, true, false, true, false, false, false] rfl rfl (by kernel_rfl) (fun _ _ _ h => h) (Or.inl ⟨by rfl, ?_⟩) ?_ ?_
  rotate_left
  · intro w'
    go_simp
    with_reducible rfl
  rotate_left
  · simp only [Act.put, List.setIfInBounds_toArray, List.set_cons_zero, List.set_cons_succ, i64_w, i32_w]
    rfl
  refine take_ (i := 23) (N := some 35) (v := ?_) (a' := ?_) #[true, true, true, true, true, true, true, true, true, true, true, true, true, true, true, true, true, true, true, true, true, true, true, true, true, false, false, false] rfl rfl (by kernel_rfl) (fun _ _ _ h => h) (Or.inl ⟨by rfl, ?_⟩) hHeld ?_ ?_
  rotate_left
  · rintro w' ⟨s0, s1, s2, s3, s4, s5⟩
    go_simp
    with_reducible rfl
  rotate_left
  · simp only [Act.put, List.setIfInBounds_toArray, List.set_cons_zero, List.set_cons_succ, i64_w, i32_w]
    rfl
  refine pure_ (i := 25) (N := some 37) (v := ?_) (a' := ?_) #[true, true, true, true, true, true, true, true, true, true, true, true, true, true, true, true, true, true, true, true, true, true, true, true, true, true, false, false] rfl rfl (by kernel_rfl) (fun _ _ _ h => h) (Or.inl ⟨by rfl, ?_⟩) ?_ ?_
  rotate_left
  · intro w'
    go_simp
    with_reducible rfl
  rotate_left
  · simp only [Act.put, List.setIfInBounds_toArray, List.set_cons_zero, List.set_cons_succ, i64_w, i32_w]
    rfl
  refine pure_ (i := 26) (N := some 38) (v := ?_) (a' := ?_) #[true, true, true, true, true, true, true, true, true, true, true, true, true, true, true, true, true, true, true, true, true, true, true, true, true, true, true, false] rfl rfl (by kernel_rfl) (fun _ _ _ h => h) (Or.inl ⟨by rfl, ?_⟩) ?_ ?_
  rotate_left
  · intro w'
    go_simp
    with_reducible rfl
  rotate_left
  · simp only [Act.put, List.setIfInBounds_toArray, List.set_cons_zero, List.set_cons_succ, i64_w, i32_w]
    rfl
  refine pure_ (i := 27) (N := some 39) (v := ?_) (a' := ?_) #[true, true, true, true, true, true, true, true, true, true, true, true, true, true, true, true, true, true, true, true, true, true, true, true, true, true, true, true] rfl rfl (by kernel_rfl) (fun _ _ _ h => h) (Or.inl ⟨by rfl, ?_⟩) ?_ ?_
  rotate_left
  · intro w'
    go_simp
    with_reducible rfl
  rotate_left
  · simp only [Act.put, List.setIfInBounds_toArray, List.set_cons_zero, List.set_cons_succ, i64_w, i32_w]
    rfl
  refine done_ (by kernel_rfl) ?_
  have gk := blk_lt HK2.out
  have z0 := blk_cell HK2.out 0
  have z1 := blk_cell HK2.out 1
  have z2 := blk_cell HK2.out 2
  have z3 := blk_cell HK2.out 3
  have z4 := blk_cell HK2.out 4
  have z5 := blk_cell HK2.out 5
  go_wp2_with (fail)
  have HKa := Aside0.mk (blk_alloc HK2.out (.cells #[.int .i64 0, .int .i64 0] 149))
  have HA := Aside0.mk (blk_new w2 (.cells #[.int .i64 0, .int .i64 0] 149))
  have HBa := Aside0.mk (below_alloc HB2.out (.cells #[.int .i64 0, .int .i64 0] 149))
  have hab : w.heap.size < w2.heap.size := gk
  clear z0 z1 z2 z3 z4 z5 gk
  go_loopw [7, 8, 9, 10, 43] (fun _ _ _ _ t41 wr => ∃ j : Nat, t41 = .int .i64 j ∧ j ≤ l.length ∧ Aside0 (∀ i, i < j → (kindE cols (l.getD i z72)).2 = 0) ∧ Aside0 (wr.heap[w.heap.size]? = some (.cells #[.int .i64 2, .int .i64 f1, .int .i64 v0, .int .i64 v1, .string v2, .slice A l.length c] 72 (0, 0))) ∧ Aside0 (wr.heap[w2.heap.size]? = some (.cells #[.int .i64 (kk cols l j 0), .int .i64 (kk cols l j 1)] 149 (0, 0))) ∧ Aside0 (Below w.heap.size w wr)) (fun _ _ _ _ t41 _ => l.length - (intOf t41).toNat)
  case atStart => exact ⟨0, rfl, Nat.zero_le _, ⟨fun i hi => absurd hi (by omega)⟩, HKa, HA, HBa⟩
  case round =>
    clear HKa HA HBa
    obtain ⟨j, rfl, hj, HE, HKr, HAr, HBr⟩ := hrel
    by_cases hlt : j < l.length
    · exact absurd hlt (by have := hl.out; omega)
    · obtain rfl : j = l.length := by omega
      have hres := join_ok cols ⟨2, f1, ⟨v0, v1, v2⟩, l⟩ hpre (fun i hi => HE.out i hi)
      obtain ⟨a, ha⟩ : ∃ a, kk cols l l.length 0 = a := ⟨_, rfl⟩
      obtain ⟨b, hb⟩ : ∃ b, kk cols l l.length 1 = b := ⟨_, rfl⟩
      have HAr := HAr.out
      dsimp only at hres
      rw [ha, hb] at HAr hres
      have HRES := Aside0.mk hres
      have HCr := Aside0.mk (Kd.C_below HCw.out HBr.out)
      have z0 := blk_cell HKr.out 0
      have z1 := blk_cell HKr.out 1
      have z2 := blk_cell HKr.out 2
      have z3 := blk_cell HKr.out 3
      have z4 := blk_cell HKr.out 4
      have z5 := blk_cell HKr.out 5
      have y0 := blk_cell HAr 0
      have y1 := blk_cell HAr 1
      clear HAr hres HE
      have hl0 := hl.out
      have ea : a = 0 := by rw [← ha]; unfold kk; rw [if_neg (by omega)]
      have eb : b = 0 := by rw [← hb]; unfold kk; rw [if_neg (by omega)]
      clear ha hb hl0
      subst ea eb
      by_cases h0 : 0 ≤ f1
      · have h0' : decide (f1 < 0) = false := decide_eq_false (by omega)
        by_cases h1 : f1 < (cols.length : Int)
        · have h1' : decide ((cols.length : Int) ≤ f1) = false := decide_eq_false (by omega)
          have HQ := Aside0.mk (HRES.out.trans (show finK _ cols 0 0 = ((cols.getD f1.toNat z59).f1, 0) from by simp only [finK]; rw [if_neg (by decide), if_pos True.intro, if_pos ⟨h0, h1⟩]))
          obtain ⟨ad, e, hc0, hc1, hc2, hc3, hc4, hc5⟩ := at_T59 HCw.out f1 h0 h1
          subst e
          simp only [rd_T59] at hc0 hc1 hc2 hc3 hc4 hc5
          generalize cols.getD f1.toNat z59 = col at hc1 HQ
          have d1 := cell_now HBr.out hc1
          clear hc0 hc1 hc2 hc3 hc4 hc5
          go_wp2
          go_ret2
          exact ⟨by rw [HQ.out]; rfl, HBr.out⟩
        · have h1' : decide ((cols.length : Int) ≤ f1) = true := decide_eq_true (by omega)
          have HQ := Aside0.mk (HRES.out.trans (show finK _ cols 0 0 = (0, 4) from by simp only [finK]; rw [if_neg (by decide), if_pos True.intro, if_neg (fun h => h1 h.2)]))
          go_wp2
          go_ret2
          exact ⟨by rw [HQ.out]; rfl, HBr.out⟩
      · have h0' : decide (f1 < 0) = true := decide_eq_true (by omega)
        have HQ := Aside0.mk (HRES.out.trans (show finK _ cols 0 0 = (0, 4) from by simp only [finK]; rw [if_neg (by decide), if_pos True.intro, if_neg (fun h => h0 h.1)]))
        go_wp2
        go_ret2
        exact ⟨by rw [HQ.out]; rfl, HBr.out⟩
set_option maxHeartbeats 4000000 in
set_option maxRecDepth 100000 in
theorem kindR_E2 (f0 f1 : Int) (v0 v1 : Int) (v2 : ByteArray) (l : List S72) (A : Option Addr) (c : Nat) (cols : List S59) (B : Option Addr) (d : Nat) (w : World) (hr : Kd.C k72 w A l.length l) (hB : Kd.C k59 w B cols.length cols) (hp : (partsN f0 != (l.length : Int)) = false) (h2 : (f0 != 2) = true) (h3 : (f1 != 0) = false) (h4 : (f0 != 1) = true) (hz : (v0 == 0 && (v1 == 0 && v2.toList.isEmpty)) = true) (hl : l.length ≤ 2) (hop : f0 = 7 ∨ f0 = 8 ∨ f0 = 3 ∨ f0 = 4 ∨ f0 = 5 ∨ f0 = 6 ∨ f0 = 9 ∨ f0 = 10) (ih : ∀ x, x ∈ l → ∀ (A : Option Addr) (c : Nat) (w : World), Kd.C k72 w A x.f3.length x.f3 → Kd.C k59 w B cols.length cols → Calls Tryd.prog 91 #[.agg #[.int .i64 x.f0, .int .i64 x.f1, .int .i64 x.f2.f0, .int .i64 x.f2.f1, .string x.f2.f2, .slice A x.f3.length c], .slice B cols.length d] w (KindRPost (kindE cols x) w)) :
    Calls Tryd.prog 91 #[.agg #[.int .i64 f0, .int .i64 f1, .int .i64 v0, .int .i64 v1, .string v2, .slice A l.length c], .slice B cols.length d] w (KindRPost (kindE cols ⟨f0, f1, ⟨v0, v1, v2⟩, l⟩) w) := by
  have hpre : preK ⟨f0, f1, ⟨v0, v1, v2⟩, l⟩ = false := by simp only [preK, zeroV]; rw [hp, h2, h3, h4, hz]; rfl
  have b1 := below1 w (.cells #[.int .i64 f0, .int .i64 f1, .int .i64 v0, .int .i64 v1, .string v2, .slice A l.length c] 72)
  have HB := Aside0.mk b1
  have HR := Aside0.mk (Kd.C_below hr b1)
  have HC := Aside0.mk (Kd.C_below hB b1)
  have HK := Aside0.mk (blk_new w (.cells #[.int .i64 f0, .int .i64 f1, .int .i64 v0, .int .i64 v1, .string v2, .slice A l.length c] 72))
  have HRw := Aside0.mk hr
  have HCw := Aside0.mk hB
  clear hr hB b1
  go_enter Tryd.func91, Tryd.ntmps91
  go_wp2_with (fail)
  refine start_ (n := 28) (S := (fun w' => w'.cell? ⟨w.heap.size, 0, none⟩ = some (.int .i64 f0) ∧ w'.cell? ⟨w.heap.size, 1, none⟩ = some (.int .i64 f1) ∧ w'.cell? ⟨w.heap.size, 2, none⟩ = some (.int .i64 v0) ∧ w'.cell? ⟨w.heap.size, 3, none⟩ = some (.int .i64 v1) ∧ w'.cell? ⟨w.heap.size, 4, none⟩ = some (.string v2) ∧ w'.cell? ⟨w.heap.size, 5, none⟩ = some (.slice A l.length c))) (ds := []) #[false, false, false, false, false, false, false, false, false, false, false, false, false, false, false, false, false, false, false, false, false, false, false, false, false, false, false, false] (by kernel_rfl) rfl rfl ⟨blk_cell HK.out 0, blk_cell HK.out 1, blk_cell HK.out 2, blk_cell HK.out 3, blk_cell HK.out 4, blk_cell HK.out 5⟩ (fun hHeld => ?_)
  refine pure_ (i := 0) (N := some 12) (v := ?_) (a' := ?_) #[true, false, false, false, false, false, false, false, false, false, false, false, false, false, false, false, false, false, false, false, false, false, false, false, false, false, false, false] rfl rfl (by kernel_rfl) (fun _ _ _ h => h) (Or.inl ⟨by rfl, ?_⟩) ?_ ?_
  rotate_left
  · intro w'
    go_simp
    with_reducible rfl
  rotate_left
  · simp only [Act.put, List.setIfInBounds_toArray, List.set_cons_zero, List.set_cons_succ, i64_w, i32_w]
    rfl
  refine pure_ (i := 3) (N := some 15) (v := ?_) (a' := ?_) #[true, false, false, true, false, false, false, false, false, false, false, false, false, false, false, false, false, false, false, false, false, false, false, false, false, false, false, false] rfl rfl (by kernel_rfl) (fun _ _ _ h => h) (Or.inl ⟨by rfl, ?_⟩) ?_ ?_
  rotate_left
  · intro w'
    go_simp
    with_reducible rfl
  rotate_left
  · simp only [Act.put, List.setIfInBounds_toArray, List.set_cons_zero, List.set_cons_succ, i64_w, i32_w]
    rfl
  refine take_ (i := 1) (N := some 13) (v := ?_) (a' := ?_) #[true, true, false, true, false, false, false, false, false, false, false, false, false, false, false, false, false, false, false, false, false, false, false, false, false, false, false, false] rfl rfl (by kernel_rfl) (fun _ _ _ h => h) (Or.inl ⟨by rfl, ?_⟩) hHeld ?_ ?_
  rotate_left
  · rintro w' ⟨s0, s1, s2, s3, s4, s5⟩
    go_simp
    with_reducible rfl
  rotate_left
  · simp only [Act.put, List.setIfInBounds_toArray, List.set_cons_zero, List.set_cons_succ, i64_w, i32_w]
    rfl
  refine take_ (i := 4) (N := some 16) (v := ?_) (a' := ?_) #[true, true, false, true, true, false, false, false, false, false, false, false, false, false, false, false, false, false, false, false, false, false, false, false, false, false, false, false] rfl rfl (by kernel_rfl) (fun _ _ _ h => h) (Or.inl ⟨by rfl, ?_⟩) hHeld ?_ ?_
  rotate_left
  · rintro w' ⟨s0, s1, s2, s3, s4, s5⟩
    go_simp
    with_reducible rfl
  rotate_left
  · simp only [Act.put, List.setIfInBounds_toArray, List.set_cons_zero, List.set_cons_succ, i64_w, i32_w]
    rfl
  refine pure_ (i := 5) (N := some 17) (v := ?_) (a' := ?_) #[true, true, false, true, true, true, false, false, false, false, false, false, false, false, false, false, false, false, false, false, false, false, false, false, false, false, false, false] rfl rfl (by kernel_rfl) (fun _ _ _ h => h) (Or.inl ⟨by rfl, ?_⟩) ?_ ?_
  rotate_left
  · intro w'
    go_simp
    with_reducible rfl
  rotate_left
  · simp only [Act.put, List.setIfInBounds_toArray, List.set_cons_zero, List.set_cons_succ, i64_w, i32_w]
    rfl
  refine one_ (i := 2) (N := some 14) #[true, true, true, true, true, true, false, false, false, false, false, false, false, false, false, false, false, false, false, false, false, false, false, false, false, false, false, false] rfl rfl (by kernel_rfl) (by decide) (fun K hK => ?_)
  refine goes_ Tryd.func115 (by kernel_rfl) rfl #[.int .i64 f0] (by rfl) rfl rfl (by first | rfl | (simp only [List.map_toArray, List.map_cons, List.map_nil]; rfl)) ?_
  refine (count_calls f0 _).mono ?_
  rintro e w2 ⟨rfl, hb2⟩
  have hb2 := undrew hb2
  have HK2 := Aside0.mk (blk_below HK.out hb2)
  have HR2 := Aside0.mk (Kd.C_below HR.out hb2)
  have HC2 := Aside0.mk (Kd.C_below HC.out hb2)
  have HB2 := Aside0.mk (below_step HB.out hb2)
  refine ⟨_, rfl, ?_⟩
  refine hK.out _ _ ⟨blk_cell HK2.out 0, blk_cell HK2.out 1, blk_cell HK2.out 2, blk_cell HK2.out 3, blk_cell HK2.out 4, blk_cell HK2.out 5⟩ (fun hHeld => ?_)
  clear hK K
  refine norm_ (a' := ?_) ?_ ?_
  rotate_left
  · show Act.put _ (some 14) _ = _
    simp only [Act.put, List.setIfInBounds_toArray, List.set_cons_zero, List.set_cons_succ, i64_w, i32_w]
    rfl
  refine pure_ (i := 6) (N := some 18) (v := ?_) (a' := ?_) #[true, true, true, true, true, true, true, false, false, false, false, false, false, false, false, false, false, false, false, false, false, false, false, false, false, false, false, false] rfl rfl (by kernel_rfl) (fun _ _ _ h => h) (Or.inl ⟨by rfl, ?_⟩) ?_ ?_
  rotate_left
  · intro w'
    go_simp
    with_reducible rfl
  rotate_left
  · simp only [Act.put, List.setIfInBounds_toArray, List.set_cons_zero, List.set_cons_succ, i64_w, i32_w]
    rfl
  refine pure_ (i := 7) (N := some 19) (v := ?_) (a' := ?_) #[true, true, true, true, true, true, true, true, false, false, false, false, false, false, false, false, false, false, false, false, false, false, false, false, false, false, false, false] rfl rfl (by kernel_rfl) (fun _ _ _ h => h) (Or.inl ⟨by rfl, ?_⟩) ?_ ?_
  rotate_left
  · intro w'
    go_simp
    with_reducible rfl
  rotate_left
  · simp only [Act.put, List.setIfInBounds_toArray, List.set_cons_zero, List.set_cons_succ, i64_w, i32_w]
    rfl
  refine pure_ (i := 8) (N := some 20) (v := ?_) (a' := ?_) #[true, true, true, true, true, true, true, true, true, false, false, false, false, false, false, false, false, false, false, false, false, false, false, false, false, false, false, false] rfl rfl (by kernel_rfl) (fun _ _ _ h => h) (Or.inl ⟨by rfl, ?_⟩) ?_ ?_
  rotate_left
  · intro w'
    go_simp
    with_reducible rfl
  rotate_left
  · simp only [Act.put, List.setIfInBounds_toArray, List.set_cons_zero, List.set_cons_succ, i64_w, i32_w]
    rfl
  refine take_ (i := 9) (N := some 21) (v := ?_) (a' := ?_) #[true, true, true, true, true, true, true, true, true, true, false, false, false, false, false, false, false, false, false, false, false, false, false, false, false, false, false, false] rfl rfl (by kernel_rfl) (fun _ _ _ h => h) (Or.inl ⟨by rfl, ?_⟩) hHeld ?_ ?_
  rotate_left
  · rintro w' ⟨s0, s1, s2, s3, s4, s5⟩
    go_simp
    with_reducible rfl
  rotate_left
  · simp only [Act.put, List.setIfInBounds_toArray, List.set_cons_zero, List.set_cons_succ, i64_w, i32_w]
    rfl
  refine pure_ (i := 10) (N := some 22) (v := ?_) (a' := ?_) #[true, true, true, true, true, true, true, true, true, true, true, false, false, false, false, false, false, false, false, false, false, false, false, false, false, false, false, false] rfl rfl (by kernel_rfl) (fun _ _ _ h => h) (Or.inl ⟨by rfl, ?_⟩) ?_ ?_
  rotate_left
  · intro w'
    go_simp
    with_reducible rfl
  rotate_left
  · simp only [Act.put, List.setIfInBounds_toArray, List.set_cons_zero, List.set_cons_succ, i64_w, i32_w]
    rfl
  refine pure_ (i := 11) (N := some 23) (v := ?_) (a' := ?_) #[true, true, true, true, true, true, true, true, true, true, true, true, false, false, false, false, false, false, false, false, false, false, false, false, false, false, false, false] rfl rfl (by kernel_rfl) (fun _ _ _ h => h) (Or.inl ⟨by rfl, ?_⟩) ?_ ?_
  rotate_left
  · intro w'
    go_simp
    with_reducible rfl
  rotate_left
  · simp only [Act.put, List.setIfInBounds_toArray, List.set_cons_zero, List.set_cons_succ, i64_w, i32_w]
    rfl
  refine pure_ (i := 12) (N := some 24) (v := ?_) (a' := ?_) #[true, true, true, true, true, true, true, true, true, true, true, true, true, false, false, false, false, false, false, false, false, false, false, false, false, false, false, false] rfl rfl (by kernel_rfl) (fun _ _ _ h => h) (Or.inl ⟨by rfl, ?_⟩) ?_ ?_
  rotate_left
  · intro w'
    go_simp
    with_reducible rfl
  rotate_left
  · simp only [Act.put, List.setIfInBounds_toArray, List.set_cons_zero, List.set_cons_succ, i64_w, i32_w]
    rfl
  refine take_ (i := 13) (N := some 25) (v := ?_) (a' := ?_) #[true, true, true, true, true, true, true, true, true, true, true, true, true, true, false, false, false, false, false, false, false, false, false, false, false, false, false, false] rfl rfl (by kernel_rfl) (fun _ _ _ h => h) (Or.inl ⟨by rfl, ?_⟩) hHeld ?_ ?_
  rotate_left
  · rintro w' ⟨s0, s1, s2, s3, s4, s5⟩
    go_simp
    with_reducible rfl
  rotate_left
  · simp only [Act.put, List.setIfInBounds_toArray, List.set_cons_zero, List.set_cons_succ, i64_w, i32_w]
    rfl
  refine pure_ (i := 14) (N := some 26) (v := ?_) (a' := ?_) #[true, true, true, true, true, true, true, true, true, true, true, true, true, true, true, false, false, false, false, false, false, false, false, false, false, false, false, false] rfl rfl (by kernel_rfl) (fun _ _ _ h => h) (Or.inl ⟨by rfl, ?_⟩) ?_ ?_
  rotate_left
  · intro w'
    go_simp
    with_reducible rfl
  rotate_left
  · simp only [Act.put, List.setIfInBounds_toArray, List.set_cons_zero, List.set_cons_succ, i64_w, i32_w]
    rfl
  refine pure_ (i := 15) (N := some 27) (v := ?_) (a' := ?_) #[true, true, true, true, true, true, true, true, true, true, true, true, true, true, true, true, false, false, false, false, false, false, false, false, false, false, false, false] rfl rfl (by kernel_rfl) (fun _ _ _ h => h) (Or.inl ⟨by rfl, ?_⟩) ?_ ?_
  rotate_left
  · intro w'
    go_simp
    with_reducible rfl
  rotate_left
  · simp only [Act.put, List.setIfInBounds_toArray, List.set_cons_zero, List.set_cons_succ, i64_w, i32_w]
    rfl
  refine pure_ (i := 16) (N := some 28) (v := ?_) (a' := ?_) #[true, true, true, true, true, true, true, true, true, true, true, true, true, true, true, true, true, false, false, false, false, false, false, false, false, false, false, false] rfl rfl (by kernel_rfl) (fun _ _ _ h => h) (Or.inl ⟨by rfl, ?_⟩) ?_ ?_
  rotate_left
  · intro w'
    go_simp
    with_reducible rfl
  rotate_left
  · simp only [Act.put, List.setIfInBounds_toArray, List.set_cons_zero, List.set_cons_succ, i64_w, i32_w]
    rfl
  refine pure_ (i := 17) (N := some 29) (v := ?_) (a' := ?_) #[true, true, true, true, true, true, true, true, true, true, true, true, true, true, true, true, true, true, false, false, false, false, false, false, false, false, false, false] rfl rfl (by kernel_rfl) (fun _ _ _ h => h) (Or.inl ⟨by rfl, ?_⟩) ?_ ?_
  rotate_left
  · intro w'
    go_simp
    with_reducible rfl
  rotate_left
  · simp only [Act.put, List.setIfInBounds_toArray, List.set_cons_zero, List.set_cons_succ, i64_w, i32_w]
    rfl
  refine pure_ (i := 18) (N := some 30) (v := ?_) (a' := ?_) #[true, true, true, true, true, true, true, true, true, true, true, true, true, true, true, true, true, true, true, false, false, false, false, false, false, false, false, false] rfl rfl (by kernel_rfl) (fun _ _ _ h => h) (Or.inl ⟨by rfl, ?_⟩) ?_ ?_
  rotate_left
  · intro w'
    go_simp
    with_reducible rfl
  rotate_left
  · simp only [Act.put, List.setIfInBounds_toArray, List.set_cons_zero, List.set_cons_succ, i64_w, i32_w]
    rfl
  refine take_ (i := 19) (N := some 31) (v := ?_) (a' := ?_) #[true, true, true, true, true, true, true, true, true, true, true, true, true, true, true, true, true, true, true, true, false, false, false, false, false, false, false, false] rfl rfl (by kernel_rfl) (fun _ _ _ h => h) (Or.inl ⟨by rfl, ?_⟩) hHeld ?_ ?_
  rotate_left
  · rintro w' ⟨s0, s1, s2, s3, s4, s5⟩
    go_simp
    with_reducible rfl
  rotate_left
  · simp only [Act.put, List.setIfInBounds_toArray, List.set_cons_zero, List.set_cons_succ, i64_w, i32_w]
    rfl
  refine pure_ (i := 20) (N := some 32) (v := ?_) (a' := ?_) #[true, true, true, true, true, true, true, true, true, true, true, true, true, true, true, true, true, true, true, true, true, false, false, false, false, false, false, false] rfl rfl (by kernel_rfl) (fun _ _ _ h => h) (Or.inl ⟨by rfl, ?_⟩) ?_ ?_
  rotate_left
  · intro w'
    go_simp
    with_reducible rfl
  rotate_left
  · simp only [Act.put, List.setIfInBounds_toArray, List.set_cons_zero, List.set_cons_succ, i64_w, i32_w]
    rfl
  refine pure_ (i := 21) (N := some 33) (v := ?_) (a' := ?_) #[true, true, true, true, true, true, true, true, true, true, true, true, true, true, true, true, true, true, true, true, true, true, false, false, false, false, false, false] rfl rfl (by kernel_rfl) (fun _ _ _ h => h) (Or.inl ⟨by rfl, ?_⟩) ?_ ?_
  rotate_left
  · intro w'
    go_simp
    with_reducible rfl
  rotate_left
  · simp only [Act.put, List.setIfInBounds_toArray, List.set_cons_zero, List.set_cons_succ, i64_w, i32_w]
    rfl
  refine pure_ (i := 22) (N := some 34) (v := ?_) (a' := ?_) #[true, true, true, true, true, true, true, true, true, true, true, true, true, true, true, true, true, true, true, true, true, true, true, false, false, false, false, false] rfl rfl (by kernel_rfl) (fun _ _ _ h => h) (Or.inl ⟨by rfl, ?_⟩) ?_ ?_
  rotate_left
  · intro w'
    go_simp
    with_reducible rfl
  rotate_left
  · simp only [Act.put, List.setIfInBounds_toArray, List.set_cons_zero, List.set_cons_succ, i64_w, i32_w]
    rfl
  refine pure_ (i := 24) (N := some 36) (v := ?_) (a' := ?_) #[true, true, true, true, true, true, true, true, true, true, true, true, true, true, true, true, true, true, true, true, true, true, true, false, true, false, false, false] rfl rfl (by kernel_rfl) (fun _ _ _ h => h) (Or.inl ⟨by rfl, ?_⟩) ?_ ?_
  rotate_left
  · intro w'
    go_simp
    with_reducible rfl
  rotate_left
  · simp only [Act.put, List.setIfInBounds_toArray, List.set_cons_zero, List.set_cons_succ, i64_w, i32_w]
    rfl
  refine take_ (i := 23) (N := some 35) (v := ?_) (a' := ?_) #[true, true, true, true, true, true, true, true, true, true, true, true, true, true, true, true, true, true, true, true, true, true, true, true, true, false, false, false] rfl rfl (by kernel_rfl) (fun _ _ _ h => h) (Or.inl ⟨by rfl, ?_⟩) hHeld ?_ ?_
  rotate_left
  · rintro w' ⟨s0, s1, s2, s3, s4, s5⟩
    go_simp
    with_reducible rfl
  rotate_left
  · simp only [Act.put, List.setIfInBounds_toArray, List.set_cons_zero, List.set_cons_succ, i64_w, i32_w]
    rfl
  refine pure_ (i := 25) (N := some 37) (v := ?_) (a' := ?_) #[true, true, true, true, true, true, true, true, true, true, true, true, true, true, true, true, true, true, true, true, true, true, true, true, true, true, false, false] rfl rfl (by kernel_rfl) (fun _ _ _ h => h) (Or.inl ⟨by rfl, ?_⟩) ?_ ?_
  rotate_left
  · intro w'
    go_simp
    with_reducible rfl
  rotate_left
  · simp only [Act.put, List.setIfInBounds_toArray, List.set_cons_zero, List.set_cons_succ, i64_w, i32_w]
    rfl
  refine pure_ (i := 26) (N := some 38) (v := ?_) (a' := ?_) #[true, true, true, true, true, true, true, true, true, true, true, true, true, true, true, true, true, true, true, true, true, true, true, true, true, true, true, false] rfl rfl (by kernel_rfl) (fun _ _ _ h => h) (Or.inl ⟨by rfl, ?_⟩) ?_ ?_
  rotate_left
  · intro w'
    go_simp
    with_reducible rfl
  rotate_left
  · simp only [Act.put, List.setIfInBounds_toArray, List.set_cons_zero, List.set_cons_succ, i64_w, i32_w]
    rfl
  refine pure_ (i := 27) (N := some 39) (v := ?_) (a' := ?_) #[true, true, true, true, true, true, true, true, true, true, true, true, true, true, true, true, true, true, true, true, true, true, true, true, true, true, true, true] rfl rfl (by kernel_rfl) (fun _ _ _ h => h) (Or.inl ⟨by rfl, ?_⟩) ?_ ?_
  rotate_left
  · intro w'
    go_simp
    with_reducible rfl
  rotate_left
  · simp only [Act.put, List.setIfInBounds_toArray, List.set_cons_zero, List.set_cons_succ, i64_w, i32_w]
    rfl
  refine done_ (by kernel_rfl) ?_
  have gk := blk_lt HK2.out
  have z0 := blk_cell HK2.out 0
  have z1 := blk_cell HK2.out 1
  have z2 := blk_cell HK2.out 2
  have z3 := blk_cell HK2.out 3
  have z4 := blk_cell HK2.out 4
  have z5 := blk_cell HK2.out 5
  go_wp2_with (fail)
  have HKa := Aside0.mk (blk_alloc HK2.out (.cells #[.int .i64 0, .int .i64 0] 149))
  have HA := Aside0.mk (blk_new w2 (.cells #[.int .i64 0, .int .i64 0] 149))
  have HBa := Aside0.mk (below_alloc HB2.out (.cells #[.int .i64 0, .int .i64 0] 149))
  have hab : w.heap.size < w2.heap.size := gk
  clear z0 z1 z2 z3 z4 z5 gk
  go_loopw [7, 8, 9, 10, 43] (fun _ _ _ _ t41 wr => ∃ j : Nat, t41 = .int .i64 j ∧ j ≤ l.length ∧ Aside0 (∀ i, i < j → (kindE cols (l.getD i z72)).2 = 0) ∧ Aside0 (wr.heap[w.heap.size]? = some (.cells #[.int .i64 f0, .int .i64 f1, .int .i64 v0, .int .i64 v1, .string v2, .slice A l.length c] 72 (0, 0))) ∧ Aside0 (wr.heap[w2.heap.size]? = some (.cells #[.int .i64 (kk cols l j 0), .int .i64 (kk cols l j 1)] 149 (0, 0))) ∧ Aside0 (Below w.heap.size w wr)) (fun _ _ _ _ t41 _ => l.length - (intOf t41).toNat)
  case atStart => exact ⟨0, rfl, Nat.zero_le _, ⟨fun i hi => absurd hi (by omega)⟩, HKa, HA, HBa⟩
  case round =>
    clear HKa HA HBa
    obtain ⟨j, rfl, hj, HE, HKr, HAr, HBr⟩ := hrel
    by_cases hlt : j < l.length
    · obtain ⟨ad, A5, c5, e, hc0, hc1, hc2, hc3, hc4, hc5, hl5, hC5⟩ := at_T72 HRw.out (j : Int) (by omega) (by omega)
      subst e
      simp only [Int.toNat_natCast, rd_T72] at hc0 hc1 hc2 hc3 hc4 hc5 hl5 hC5
      have hmem := mem_getD (z := z72) hlt
      generalize hx : l.getD j z72 = x at hc0 hc1 hc2 hc3 hc4 hc5 hl5 hC5 hmem
      have HX := Aside0.mk hx
      have ihx := ih x hmem
      have d0 := cell_now HBr.out hc0
      have d1 := cell_now HBr.out hc1
      have d2 := cell_now HBr.out hc2
      have d3 := cell_now HBr.out hc3
      have d4 := cell_now HBr.out hc4
      have d5 := cell_now HBr.out hc5
      have HC5 := Aside0.mk (Kd.C_below hC5 HBr.out)
      have HCr := Aside0.mk (Kd.C_below HCw.out HBr.out)
      have HKx := Aside0.mk (blk_alloc HKr.out (.cells #[.int .i64 x.f0, .int .i64 x.f1, .int .i64 x.f2.f0, .int .i64 x.f2.f1, .string x.f2.f2, .slice A5 x.f3.length c5] 72))
      have HAx := Aside0.mk (blk_alloc HAr.out (.cells #[.int .i64 x.f0, .int .i64 x.f1, .int .i64 x.f2.f0, .int .i64 x.f2.f1, .string x.f2.f2, .slice A5 x.f3.length c5] 72))
      have HBx := Aside0.mk (below_alloc HBr.out (.cells #[.int .i64 x.f0, .int .i64 x.f1, .int .i64 x.f2.f0, .int .i64 x.f2.f1, .string x.f2.f2, .slice A5 x.f3.length c5] 72))
      have gk := blk_lt HKr.out
      have ga := blk_lt HAr.out
      clear hc0 hc1 hc2 hc3 hc4 hc5 hl5 hC5 hx hmem
      by_cases hb : (kindE cols x).2 = 0
      ·
        have hbb : ((kindE cols x).2 != 0) = false := by simp [hb]
        have hj0 : (0 : Int) ≤ (j : Int) := by omega
        have hj1 : (j : Int) < 2 := by omega
        have hj2 : j < 2 := by omega
        go_wp2_with (go_at_call 91; refine (ihx A5 c5 _ (Kd.C_alloc HC5.out _) (Kd.C_alloc HCr.out _)).mono ?_; rintro e w4 ⟨rfl, hb4⟩; have HK4 := Aside0.mk (blk_below HKx.out hb4); have HA4 := Aside0.mk (blk_below HAx.out hb4); have HB4 := Aside0.mk (below_step HBx.out hb4); have y0 := kk_cell hj2 (blk_cell HA4.out j); have q0 := blk_frozen HA4.out j; clear hb4)
        go_roundw
        case rel =>
          refine ⟨j + 1, by go_num, by omega, ⟨fun i hi => ?_⟩, ⟨blk_far HK4.out (show w.heap.size ≠ w2.heap.size by omega) _⟩, ⟨?_⟩, ⟨HB4.out.setCell (Nat.le_of_lt hab) _⟩⟩
          · rcases Nat.lt_or_ge i j with h | h
            · exact HE.out i h
            · obtain rfl : i = j := by omega
              rw [HX.out]; exact hb
          · have := blk_set HA4.out j (.int .i64 (kindE cols x).1)
            rw [this]
            rcases (show j = 0 ∨ j = 1 by omega) with rfl | rfl
            · have hx := HX.out
              simp only [List.getD_eq_getElem?_getD] at hx
              simp [kk, hx]
            · have hx := HX.out
              simp only [List.getD_eq_getElem?_getD] at hx
              simp [kk, hx]
        case measure => simp [intOf]; omega
      · have hbad := join_bad cols ⟨f0, f1, ⟨v0, v1, v2⟩, l⟩ hpre j hlt (fun i hi => HE.out i hi) (by dsimp only; rw [HX.out]; exact hb)
        dsimp only at hbad
        rw [HX.out] at hbad
        have HBAD := Aside0.mk hbad
        have hbb : ((kindE cols x).2 != 0) = true := by simp [hb]
        clear hbad
        go_wp2_with (go_at_call 91; refine (ihx A5 c5 _ (Kd.C_alloc HC5.out _) (Kd.C_alloc HCr.out _)).mono ?_; rintro e w4 ⟨rfl, hb4⟩)
        go_ret2
        exact ⟨by rw [HBAD.out]; rfl, below_step HBx.out hb4⟩
    · obtain rfl : j = l.length := by omega
      have hres := join_ok cols ⟨f0, f1, ⟨v0, v1, v2⟩, l⟩ hpre (fun i hi => HE.out i hi)
      obtain ⟨a, ha⟩ : ∃ a, kk cols l l.length 0 = a := ⟨_, rfl⟩
      obtain ⟨b, hb⟩ : ∃ b, kk cols l l.length 1 = b := ⟨_, rfl⟩
      have HAr := HAr.out
      dsimp only at hres
      rw [ha, hb] at HAr hres
      have HRES := Aside0.mk hres
      have HCr := Aside0.mk (Kd.C_below HCw.out HBr.out)
      have z0 := blk_cell HKr.out 0
      have z1 := blk_cell HKr.out 1
      have z2 := blk_cell HKr.out 2
      have z3 := blk_cell HKr.out 3
      have z4 := blk_cell HKr.out 4
      have z5 := blk_cell HKr.out 5
      have y0 := blk_cell HAr 0
      have y1 := blk_cell HAr 1
      clear HAr hres HE
      clear ha hb
      rcases hop with rfl | rfl | rfl | rfl | rfl | rfl | rfl | rfl
      ·
        cases h5 : (a == b) with
        | true =>
          by_cases g1 : 1 < a
          · have g1' : decide (1 < a) = true := decide_eq_true g1
            go_wp2
            go_ret2
            refine ⟨?_, HBr.out⟩
            rw [HRES.out]
            simp [finK, apart, bne, h5, g1]
          · have g1' : decide (1 < a) = false := decide_eq_false g1
            by_cases g2 : 1 < b
            · have g2' : decide (1 < b) = true := decide_eq_true g2
              go_wp2
              go_ret2
              refine ⟨?_, HBr.out⟩
              rw [HRES.out]
              simp [finK, apart, bne, h5, g1, g2]
            · have g2' : decide (1 < b) = false := decide_eq_false g2
              have G3 := Aside0.mk (show ¬ (1 < a ∨ 1 < b) by omega)
              go_wp2
              go_ret2
              refine ⟨?_, HBr.out⟩
              rw [HRES.out]
              simp [finK, apart, bne, h5, G3.out]
        | false =>
          cases h6 : (a == 0) with
          | true =>
            by_cases g1 : 1 < a
            · have g1' : decide (1 < a) = true := decide_eq_true g1
              go_wp2
              go_ret2
              refine ⟨?_, HBr.out⟩
              rw [HRES.out]
              simp [finK, apart, bne, h5, h6, g1]
            · have g1' : decide (1 < a) = false := decide_eq_false g1
              by_cases g2 : 1 < b
              · have g2' : decide (1 < b) = true := decide_eq_true g2
                go_wp2
                go_ret2
                refine ⟨?_, HBr.out⟩
                rw [HRES.out]
                simp [finK, apart, bne, h5, h6, g1, g2]
              · have g2' : decide (1 < b) = false := decide_eq_false g2
                have G3 := Aside0.mk (show ¬ (1 < a ∨ 1 < b) by omega)
                go_wp2
                go_ret2
                refine ⟨?_, HBr.out⟩
                rw [HRES.out]
                simp [finK, apart, bne, h5, h6, G3.out]
          | false =>
            cases h7 : (b == 0) with
            | true =>
              by_cases g1 : 1 < a
              · have g1' : decide (1 < a) = true := decide_eq_true g1
                go_wp2
                go_ret2
                refine ⟨?_, HBr.out⟩
                rw [HRES.out]
                simp [finK, apart, bne, h5, h6, h7, g1]
              · have g1' : decide (1 < a) = false := decide_eq_false g1
                by_cases g2 : 1 < b
                · have g2' : decide (1 < b) = true := decide_eq_true g2
                  go_wp2
                  go_ret2
                  refine ⟨?_, HBr.out⟩
                  rw [HRES.out]
                  simp [finK, apart, bne, h5, h6, h7, g1, g2]
                · have g2' : decide (1 < b) = false := decide_eq_false g2
                  have G3 := Aside0.mk (show ¬ (1 < a ∨ 1 < b) by omega)
                  go_wp2
                  go_ret2
                  refine ⟨?_, HBr.out⟩
                  rw [HRES.out]
                  simp [finK, apart, bne, h5, h6, h7, G3.out]
            | false =>
              by_cases g1 : 1 < a
              · have g1' : decide (1 < a) = true := decide_eq_true g1
                go_wp2
                go_ret2
                refine ⟨?_, HBr.out⟩
                rw [HRES.out]
                simp [finK, apart, bne, h5, h6, h7, g1]
              · have g1' : decide (1 < a) = false := decide_eq_false g1
                by_cases g2 : 1 < b
                · have g2' : decide (1 < b) = true := decide_eq_true g2
                  go_wp2
                  go_ret2
                  refine ⟨?_, HBr.out⟩
                  rw [HRES.out]
                  simp [finK, apart, bne, h5, h6, h7, g1, g2]
                · have g2' : decide (1 < b) = false := decide_eq_false g2
                  have G3 := Aside0.mk (show ¬ (1 < a ∨ 1 < b) by omega)
                  go_wp2
                  go_ret2
                  refine ⟨?_, HBr.out⟩
                  rw [HRES.out]
                  simp [finK, apart, bne, h5, h6, h7, G3.out]
      ·
        cases h5 : (a == b) with
        | true =>
          go_wp2
          go_ret2
          refine ⟨?_, HBr.out⟩
          rw [HRES.out]
          simp [finK, apart, bne, h5]
        | false =>
          cases h6 : (a == 0) with
          | true =>
            go_wp2
            go_ret2
            refine ⟨?_, HBr.out⟩
            rw [HRES.out]
            simp [finK, apart, bne, h5, h6]
          | false =>
            cases h7 : (b == 0) with
            | true =>
              go_wp2
              go_ret2
              refine ⟨?_, HBr.out⟩
              rw [HRES.out]
              simp [finK, apart, bne, h5, h6, h7]
            | false =>
              go_wp2
              go_ret2
              refine ⟨?_, HBr.out⟩
              rw [HRES.out]
              simp [finK, apart, bne, h5, h6, h7]
      ·
        cases h5 : (a == b) with
        | true =>
          go_wp2
          go_ret2
          refine ⟨?_, HBr.out⟩
          rw [HRES.out]
          simp [finK, apart, bne, h5]
        | false =>
          cases h6 : (a == 0) with
          | true =>
            go_wp2
            go_ret2
            refine ⟨?_, HBr.out⟩
            rw [HRES.out]
            simp [finK, apart, bne, h5, h6]
          | false =>
            cases h7 : (b == 0) with
            | true =>
              go_wp2
              go_ret2
              refine ⟨?_, HBr.out⟩
              rw [HRES.out]
              simp [finK, apart, bne, h5, h6, h7]
            | false =>
              go_wp2
              go_ret2
              refine ⟨?_, HBr.out⟩
              rw [HRES.out]
              simp [finK, apart, bne, h5, h6, h7]
      ·
        cases h5 : (a == b) with
        | true =>
          go_wp2
          go_ret2
          refine ⟨?_, HBr.out⟩
          rw [HRES.out]
          simp [finK, apart, bne, h5]
        | false =>
          cases h6 : (a == 0) with
          | true =>
            go_wp2
            go_ret2
            refine ⟨?_, HBr.out⟩
            rw [HRES.out]
            simp [finK, apart, bne, h5, h6]
          | false =>
            cases h7 : (b == 0) with
            | true =>
              go_wp2
              go_ret2
              refine ⟨?_, HBr.out⟩
              rw [HRES.out]
              simp [finK, apart, bne, h5, h6, h7]
            | false =>
              go_wp2
              go_ret2
              refine ⟨?_, HBr.out⟩
              rw [HRES.out]
              simp [finK, apart, bne, h5, h6, h7]
      ·
        cases h5 : (a == b) with
        | true =>
          by_cases g1 : 1 < a
          · have g1' : decide (1 < a) = true := decide_eq_true g1
            go_wp2
            go_ret2
            refine ⟨?_, HBr.out⟩
            rw [HRES.out]
            simp [finK, apart, bne, h5, g1]
          · have g1' : decide (1 < a) = false := decide_eq_false g1
            by_cases g2 : 1 < b
            · have g2' : decide (1 < b) = true := decide_eq_true g2
              go_wp2
              go_ret2
              refine ⟨?_, HBr.out⟩
              rw [HRES.out]
              simp [finK, apart, bne, h5, g1, g2]
            · have g2' : decide (1 < b) = false := decide_eq_false g2
              have G3 := Aside0.mk (show ¬ (1 < a ∨ 1 < b) by omega)
              go_wp2
              go_ret2
              refine ⟨?_, HBr.out⟩
              rw [HRES.out]
              simp [finK, apart, bne, h5, G3.out]
        | false =>
          cases h6 : (a == 0) with
          | true =>
            by_cases g1 : 1 < a
            · have g1' : decide (1 < a) = true := decide_eq_true g1
              go_wp2
              go_ret2
              refine ⟨?_, HBr.out⟩
              rw [HRES.out]
              simp [finK, apart, bne, h5, h6, g1]
            · have g1' : decide (1 < a) = false := decide_eq_false g1
              by_cases g2 : 1 < b
              · have g2' : decide (1 < b) = true := decide_eq_true g2
                go_wp2
                go_ret2
                refine ⟨?_, HBr.out⟩
                rw [HRES.out]
                simp [finK, apart, bne, h5, h6, g1, g2]
              · have g2' : decide (1 < b) = false := decide_eq_false g2
                have G3 := Aside0.mk (show ¬ (1 < a ∨ 1 < b) by omega)
                go_wp2
                go_ret2
                refine ⟨?_, HBr.out⟩
                rw [HRES.out]
                simp [finK, apart, bne, h5, h6, G3.out]
          | false =>
            cases h7 : (b == 0) with
            | true =>
              by_cases g1 : 1 < a
              · have g1' : decide (1 < a) = true := decide_eq_true g1
                go_wp2
                go_ret2
                refine ⟨?_, HBr.out⟩
                rw [HRES.out]
                simp [finK, apart, bne, h5, h6, h7, g1]
              · have g1' : decide (1 < a) = false := decide_eq_false g1
                by_cases g2 : 1 < b
                · have g2' : decide (1 < b) = true := decide_eq_true g2
                  go_wp2
                  go_ret2
                  refine ⟨?_, HBr.out⟩
                  rw [HRES.out]
                  simp [finK, apart, bne, h5, h6, h7, g1, g2]
                · have g2' : decide (1 < b) = false := decide_eq_false g2
                  have G3 := Aside0.mk (show ¬ (1 < a ∨ 1 < b) by omega)
                  go_wp2
                  go_ret2
                  refine ⟨?_, HBr.out⟩
                  rw [HRES.out]
                  simp [finK, apart, bne, h5, h6, h7, G3.out]
            | false =>
              by_cases g1 : 1 < a
              · have g1' : decide (1 < a) = true := decide_eq_true g1
                go_wp2
                go_ret2
                refine ⟨?_, HBr.out⟩
                rw [HRES.out]
                simp [finK, apart, bne, h5, h6, h7, g1]
              · have g1' : decide (1 < a) = false := decide_eq_false g1
                by_cases g2 : 1 < b
                · have g2' : decide (1 < b) = true := decide_eq_true g2
                  go_wp2
                  go_ret2
                  refine ⟨?_, HBr.out⟩
                  rw [HRES.out]
                  simp [finK, apart, bne, h5, h6, h7, g1, g2]
                · have g2' : decide (1 < b) = false := decide_eq_false g2
                  have G3 := Aside0.mk (show ¬ (1 < a ∨ 1 < b) by omega)
                  go_wp2
                  go_ret2
                  refine ⟨?_, HBr.out⟩
                  rw [HRES.out]
                  simp [finK, apart, bne, h5, h6, h7, G3.out]
      ·
        cases h5 : (a == b) with
        | true =>
          by_cases g1 : 1 < a
          · have g1' : decide (1 < a) = true := decide_eq_true g1
            go_wp2
            go_ret2
            refine ⟨?_, HBr.out⟩
            rw [HRES.out]
            simp [finK, apart, bne, h5, g1]
          · have g1' : decide (1 < a) = false := decide_eq_false g1
            by_cases g2 : 1 < b
            · have g2' : decide (1 < b) = true := decide_eq_true g2
              go_wp2
              go_ret2
              refine ⟨?_, HBr.out⟩
              rw [HRES.out]
              simp [finK, apart, bne, h5, g1, g2]
            · have g2' : decide (1 < b) = false := decide_eq_false g2
              have G3 := Aside0.mk (show ¬ (1 < a ∨ 1 < b) by omega)
              go_wp2
              go_ret2
              refine ⟨?_, HBr.out⟩
              rw [HRES.out]
              simp [finK, apart, bne, h5, G3.out]
        | false =>
          cases h6 : (a == 0) with
          | true =>
            by_cases g1 : 1 < a
            · have g1' : decide (1 < a) = true := decide_eq_true g1
              go_wp2
              go_ret2
              refine ⟨?_, HBr.out⟩
              rw [HRES.out]
              simp [finK, apart, bne, h5, h6, g1]
            · have g1' : decide (1 < a) = false := decide_eq_false g1
              by_cases g2 : 1 < b
              · have g2' : decide (1 < b) = true := decide_eq_true g2
                go_wp2
                go_ret2
                refine ⟨?_, HBr.out⟩
                rw [HRES.out]
                simp [finK, apart, bne, h5, h6, g1, g2]
              · have g2' : decide (1 < b) = false := decide_eq_false g2
                have G3 := Aside0.mk (show ¬ (1 < a ∨ 1 < b) by omega)
                go_wp2
                go_ret2
                refine ⟨?_, HBr.out⟩
                rw [HRES.out]
                simp [finK, apart, bne, h5, h6, G3.out]
          | false =>
            cases h7 : (b == 0) with
            | true =>
              by_cases g1 : 1 < a
              · have g1' : decide (1 < a) = true := decide_eq_true g1
                go_wp2
                go_ret2
                refine ⟨?_, HBr.out⟩
                rw [HRES.out]
                simp [finK, apart, bne, h5, h6, h7, g1]
              · have g1' : decide (1 < a) = false := decide_eq_false g1
                by_cases g2 : 1 < b
                · have g2' : decide (1 < b) = true := decide_eq_true g2
                  go_wp2
                  go_ret2
                  refine ⟨?_, HBr.out⟩
                  rw [HRES.out]
                  simp [finK, apart, bne, h5, h6, h7, g1, g2]
                · have g2' : decide (1 < b) = false := decide_eq_false g2
                  have G3 := Aside0.mk (show ¬ (1 < a ∨ 1 < b) by omega)
                  go_wp2
                  go_ret2
                  refine ⟨?_, HBr.out⟩
                  rw [HRES.out]
                  simp [finK, apart, bne, h5, h6, h7, G3.out]
            | false =>
              by_cases g1 : 1 < a
              · have g1' : decide (1 < a) = true := decide_eq_true g1
                go_wp2
                go_ret2
                refine ⟨?_, HBr.out⟩
                rw [HRES.out]
                simp [finK, apart, bne, h5, h6, h7, g1]
              · have g1' : decide (1 < a) = false := decide_eq_false g1
                by_cases g2 : 1 < b
                · have g2' : decide (1 < b) = true := decide_eq_true g2
                  go_wp2
                  go_ret2
                  refine ⟨?_, HBr.out⟩
                  rw [HRES.out]
                  simp [finK, apart, bne, h5, h6, h7, g1, g2]
                · have g2' : decide (1 < b) = false := decide_eq_false g2
                  have G3 := Aside0.mk (show ¬ (1 < a ∨ 1 < b) by omega)
                  go_wp2
                  go_ret2
                  refine ⟨?_, HBr.out⟩
                  rw [HRES.out]
                  simp [finK, apart, bne, h5, h6, h7, G3.out]
      ·
        cases h5 : (a == b) with
        | true =>
          cases g1 : (max a b == 3) with
          | true =>
            go_wp2
            go_ret2
            refine ⟨?_, HBr.out⟩
            rw [HRES.out]
            simp [finK, apart, bne, h5, g1]
          | false =>
            go_wp2
            go_ret2
            refine ⟨?_, HBr.out⟩
            rw [HRES.out]
            simp [finK, apart, bne, h5, g1]
        | false =>
          cases h6 : (a == 0) with
          | true =>
            cases g1 : (max a b == 3) with
            | true =>
              go_wp2
              go_ret2
              refine ⟨?_, HBr.out⟩
              rw [HRES.out]
              simp [finK, apart, bne, h5, h6, g1]
            | false =>
              go_wp2
              go_ret2
              refine ⟨?_, HBr.out⟩
              rw [HRES.out]
              simp [finK, apart, bne, h5, h6, g1]
          | false =>
            cases h7 : (b == 0) with
            | true =>
              cases g1 : (max a b == 3) with
              | true =>
                go_wp2
                go_ret2
                refine ⟨?_, HBr.out⟩
                rw [HRES.out]
                simp [finK, apart, bne, h5, h6, h7, g1]
              | false =>
                go_wp2
                go_ret2
                refine ⟨?_, HBr.out⟩
                rw [HRES.out]
                simp [finK, apart, bne, h5, h6, h7, g1]
            | false =>
              cases g1 : (max a b == 3) with
              | true =>
                go_wp2
                go_ret2
                refine ⟨?_, HBr.out⟩
                rw [HRES.out]
                simp [finK, apart, bne, h5, h6, h7, g1]
              | false =>
                go_wp2
                go_ret2
                refine ⟨?_, HBr.out⟩
                rw [HRES.out]
                simp [finK, apart, bne, h5, h6, h7, g1]
      ·
        cases h5 : (a == b) with
        | true =>
          cases g1 : (max a b == 3) with
          | true =>
            go_wp2
            go_ret2
            refine ⟨?_, HBr.out⟩
            rw [HRES.out]
            simp [finK, apart, bne, h5, g1]
          | false =>
            go_wp2
            go_ret2
            refine ⟨?_, HBr.out⟩
            rw [HRES.out]
            simp [finK, apart, bne, h5, g1]
        | false =>
          cases h6 : (a == 0) with
          | true =>
            cases g1 : (max a b == 3) with
            | true =>
              go_wp2
              go_ret2
              refine ⟨?_, HBr.out⟩
              rw [HRES.out]
              simp [finK, apart, bne, h5, h6, g1]
            | false =>
              go_wp2
              go_ret2
              refine ⟨?_, HBr.out⟩
              rw [HRES.out]
              simp [finK, apart, bne, h5, h6, g1]
          | false =>
            cases h7 : (b == 0) with
            | true =>
              cases g1 : (max a b == 3) with
              | true =>
                go_wp2
                go_ret2
                refine ⟨?_, HBr.out⟩
                rw [HRES.out]
                simp [finK, apart, bne, h5, h6, h7, g1]
              | false =>
                go_wp2
                go_ret2
                refine ⟨?_, HBr.out⟩
                rw [HRES.out]
                simp [finK, apart, bne, h5, h6, h7, g1]
            | false =>
              cases g1 : (max a b == 3) with
              | true =>
                go_wp2
                go_ret2
                refine ⟨?_, HBr.out⟩
                rw [HRES.out]
                simp [finK, apart, bne, h5, h6, h7, g1]
              | false =>
                go_wp2
                go_ret2
                refine ⟨?_, HBr.out⟩
                rw [HRES.out]
                simp [finK, apart, bne, h5, h6, h7, g1]
end Go.Proofs.YtefdfgmlmjnmlaaDoor.My
end

section
set_option linter.unusedSimpArgs false
set_option linter.unusedVariables false
namespace Go.Proofs.YtefdfgmlmjnmlaaDoor.My
open Go.RowKit Go.Proofs.YtefdfgmlmjnmlaaDoorW.PrintWords Go.Proofs.YtefdfgmlmjnmlaaDoor.Rf
open Go.Proofs.YtefdfgmlmjnmlaaDoorW.PrintLast Go.Proofs.YtefdfgmlmjnmlaaDoorW.PrintMore
set_option maxRecDepth 100000 in
theorem catch_panicking (g : Nat) (x n : Int) (older : List PanicEntry) (w : World) (hg : w.heap[g]? = some (.cells #[.int .i64 x] 36 (0, 0))) :
    CallsD Tryd.prog 89 #[.pointer (some ⟨g, 0, none⟩)] (.panicking ({ v := .iface 148 (.agg #[.int .i64 n]), recovered := false } :: older)) w fun e u' w' =>
      e = .returned (.tuple #[]) ∧ u' = .panicking ({ v := .iface 148 (.agg #[.int .i64 n]), recovered := true } :: older) ∧ w' = (w.alloc (.cells #[.int .i64 n] 148)).setCell ⟨g, 0, none⟩ (.int .i64 n) := by
  have hta : ∀ w, (Instr.typeAssert (.iface 148 (.agg #[.int .i64 n])) 20 148 true).run Tryd.prog w = .ok (.tuple #[.agg #[.int .i64 n], .bool true]) w := fun w => by kernel_rfl
  have hcn : (w.alloc (.cells #[.int .i64 n] 148)).cell? ⟨g, 0, none⟩ = some (.int .i64 x) := blk_cell (blk_alloc hg _) 0
  have hzn : (w.alloc (.cells #[.int .i64 n] 148)).frozen? ⟨g, 0, none⟩ = false := blk_frozen (blk_alloc hg _) 0
  refine callsD_of_wpS Tryd.func89 rfl fun c₀ cs hu => ?_
  apply wpS_seq
  apply wpS_region
  simp [wpOpsS, go_sem, recoverD, hu, Tryd.ntmps89, Exit.thenS]
  rw [show (#[Value.pointer (some ⟨g, 0, none⟩)] ++ (Array.replicate 14 undef).setIfInBounds 4 (Value.iface 148 (Value.agg #[Value.int IntKind.i64 n])) : Array Value) = #[.pointer (some ⟨g, 0, none⟩), undef, undef, undef, undef, .iface 148 (.agg #[.int .i64 n]), undef, undef, undef, undef, undef, undef, undef, undef, undef] from rfl]
  refine wpS_of_wp ?_
  go_wp2
  simp [bodyPostS, results, Tryd.results89]
theorem catch_idle (p : Addr) (w : World) :
    CallsD Tryd.prog 89 #[.pointer (some p)] .returning w fun e u' w' => e = .returned (.tuple #[]) ∧ u' = .returning ∧ w' = w := by
  refine callsD_of_wpS Tryd.func89 rfl fun c₀ cs hu => ?_
  apply wpS_seq
  apply wpS_region
  simp [wpOpsS, go_sem, recoverD, hu, Tryd.ntmps89, Exit.thenS]
  rw [show (#[Value.pointer (some p)] ++ (Array.replicate 14 undef).setIfInBounds 4 Value.nilIface : Array Value) = #[.pointer (some p), undef, undef, undef, undef, .nilIface, undef, undef, undef, undef, undef, undef, undef, undef, undef] from rfl]
  refine wpS_of_wp ?_
  go_wp2
  cases c₀
  simp_all [bodyPostS, results, Tryd.results89]
end Go.Proofs.YtefdfgmlmjnmlaaDoor.My
end

section
set_option linter.unusedSimpArgs false
set_option linter.unusedVariables false
namespace Go.Proofs.YtefdfgmlmjnmlaaDoor.My
open Go.RowKit Go.Proofs.YtefdfgmlmjnmlaaDoorW.PrintWords Go.Proofs.YtefdfgmlmjnmlaaDoor.Rf
open Go.Proofs.YtefdfgmlmjnmlaaDoorW.PrintLast Go.Proofs.YtefdfgmlmjnmlaaDoorW.PrintMore
def kindAll (cols : List S59) (e : S72) : Int × Int := if tooE e = true then (0, 3) else kindE cols e
structure Kind61Post (r : Int × Int) (w : World) (e : Ending) (w' : World) : Prop where
  out : e = .returned (.tuple #[.int .i64 r.1, .int .i64 r.2])
  below : Below w.heap.size w w'
theorem results_t36 {fn : Func} {p u : Tmp} (h : fn.results = #[.tmp u, .cell p 36]) (tmps : Array Value) (w : World) (g : Nat) (x : Int)
    (hp : tmps.getD p undef = .pointer (some ⟨g, 0, none⟩)) (hg : w.heap[g]? = some (.cells #[.int .i64 x] 36 (0, 0))) :
    (results fn tmps).run Tryd.prog w = .ok (.tuple #[tmps.getD u undef, .int .i64 x]) w := by
  have hp' : tmps[p]?.getD undef = .pointer (some ⟨g, 0, none⟩) := by simpa using hp
  have hc := blk_cell hg 0
  have hc' : w.cell? ⟨g, 0, none⟩ = some (.int .i64 x) := hc
  simp [results, h, hp', asAddr, loadVar, go_sem, hc', Tryd.underlying36]
set_option maxHeartbeats 4000000 in
set_option maxRecDepth 100000 in
theorem kind61_too (f0 f1 v0 v1 : Int) (v2 : ByteArray) (l : List S72) (A : Option Addr) (c : Nat) (cols : List S59) (B : Option Addr) (d : Nat) (w : World) (hr : Kd.C k72 w A l.length l) (hc : l.length ≤ c) (k n m : Nat) (hz : expr_size.f k f0 f1 v0 v1 v2 l = some ((n : Int), (m : Int))) (h1 : (decide ((24 : Int) < (n : Int)) || decide ((8 : Int) < (m : Int))) = true) :
    Calls Tryd.prog 61 #[.agg #[.int .i64 f0, .int .i64 f1, .int .i64 v0, .int .i64 v1, .string v2, .slice A l.length c], .slice B cols.length d] w (Kind61Post (0, 3) w) := by
  have b1 := below2 w (.cells #[.int .i64 f0, .int .i64 f1, .int .i64 v0, .int .i64 v1, .string v2, .slice A l.length c] 72) (.cells #[.int .i64 0] 36)
  have HB := Aside0.mk b1
  have HR := Aside0.mk (Kd.C_below hr b1)
  have HC := Aside0.mk hc
  have HZ := Aside0.mk hz
  have HK := Aside0.mk (blk_alloc (blk_new w (.cells #[.int .i64 f0, .int .i64 f1, .int .i64 v0, .int .i64 v1, .string v2, .slice A l.length c] 72)) (.cells #[.int .i64 0] 36))
  have HE := Aside0.mk (blk_new1 w (.cells #[.int .i64 f0, .int .i64 f1, .int .i64 v0, .int .i64 v1, .string v2, .slice A l.length c] 72) (.cells #[.int .i64 0] 36))
  clear hr b1 hz hc
  cases h2 : decide ((24 : Int) < (n : Int)) with
  | true =>
    go_enter_defers Tryd.func61, Tryd.ntmps61
    go_wp2_with (go_at_call 88; refine (expr_size.calls k f0 f1 v0 v1 v2 A c l n m _ HR.out HC.out HZ.out).mono ?_; rintro e w2 ⟨rfl, hb2⟩; have HE2 := Aside0.mk (blk_below HE.out hb2); have HK2 := Aside0.mk (blk_below HK.out hb2); have HB2 := Aside0.mk (below_step HB.out hb2);  have a0 := blk_cell HK2.out 0; have a1 := blk_cell HK2.out 1; have a2 := blk_cell HK2.out 2; have a3 := blk_cell HK2.out 3; have a4 := blk_cell HK2.out 4; have a5 := blk_cell HK2.out 5; have z0 := blk_cell HE2.out 0; have q0 := blk_frozen HE2.out 0)
    exact ⟨_, results_t36 rfl _ _ (w.heap.size + 1) 3 rfl (blk_put HE2.out 0 _ rfl), ⟨rfl, HB2.out.setCell (by simp) _⟩⟩
  | false =>
    have h3 : decide ((8 : Int) < (m : Int)) = true := by rw [h2] at h1; simpa using h1
    go_enter_defers Tryd.func61, Tryd.ntmps61
    go_wp2_with (go_at_call 88; refine (expr_size.calls k f0 f1 v0 v1 v2 A c l n m _ HR.out HC.out HZ.out).mono ?_; rintro e w2 ⟨rfl, hb2⟩; have HE2 := Aside0.mk (blk_below HE.out hb2); have HK2 := Aside0.mk (blk_below HK.out hb2); have HB2 := Aside0.mk (below_step HB.out hb2);  have a0 := blk_cell HK2.out 0; have a1 := blk_cell HK2.out 1; have a2 := blk_cell HK2.out 2; have a3 := blk_cell HK2.out 3; have a4 := blk_cell HK2.out 4; have a5 := blk_cell HK2.out 5; have z0 := blk_cell HE2.out 0; have q0 := blk_frozen HE2.out 0)
    exact ⟨_, results_t36 rfl _ _ (w.heap.size + 1) 3 rfl (blk_put HE2.out 0 _ rfl), ⟨rfl, HB2.out.setCell (by simp) _⟩⟩
theorem kind_err0 (cols : List S59) (e : S72) (h : (kindE cols e).2 ≠ 0) : (kindE cols e).1 = 0 := by
  rw [kindE_eq] at h ⊢
  unfold joinK at h ⊢
  split
  · rfl
  · rename_i hp
    rw [if_neg hp] at h
    split
    · rfl
    · rename_i hn
      rw [hn] at h
      dsimp only at h
      unfold finK at h ⊢
      repeat' split at h
      all_goals first | (exfalso; exact h rfl) | (simp_all; done) | skip
      all_goals (repeat' split; all_goals first | rfl | (exfalso; simp_all; done) | (simp_all; omega))
set_option maxHeartbeats 4000000 in
set_option maxRecDepth 100000 in
theorem kind61_go (f0 f1 v0 v1 : Int) (v2 : ByteArray) (l : List S72) (A : Option Addr) (c : Nat) (cols : List S59) (B : Option Addr) (d : Nat) (w : World) (hr : Kd.C k72 w A l.length l) (hc : l.length ≤ c) (k n m : Nat) (hz : expr_size.f k f0 f1 v0 v1 v2 l = some ((n : Int), (m : Int))) (hB : Kd.C k59 w B cols.length cols) (h1 : decide ((24 : Int) < (n : Int)) = false) (h2 : decide ((8 : Int) < (m : Int)) = false) (hok : OkE ⟨f0, f1, ⟨v0, v1, v2⟩, l⟩) :
    Calls Tryd.prog 61 #[.agg #[.int .i64 f0, .int .i64 f1, .int .i64 v0, .int .i64 v1, .string v2, .slice A l.length c], .slice B cols.length d] w (Kind61Post (kindE cols ⟨f0, f1, ⟨v0, v1, v2⟩, l⟩) w) := by
  have b1 := below2 w (.cells #[.int .i64 f0, .int .i64 f1, .int .i64 v0, .int .i64 v1, .string v2, .slice A l.length c] 72) (.cells #[.int .i64 0] 36)
  have HB := Aside0.mk b1
  have HR := Aside0.mk (Kd.C_below hr b1)
  have HC := Aside0.mk hc
  have HZ := Aside0.mk hz
  have HK := Aside0.mk (blk_alloc (blk_new w (.cells #[.int .i64 f0, .int .i64 f1, .int .i64 v0, .int .i64 v1, .string v2, .slice A l.length c] 72)) (.cells #[.int .i64 0] 36))
  have HE := Aside0.mk (blk_new1 w (.cells #[.int .i64 f0, .int .i64 f1, .int .i64 v0, .int .i64 v1, .string v2, .slice A l.length c] 72) (.cells #[.int .i64 0] 36))
  have HD := Aside0.mk (Kd.C_below hB b1)
  clear hr b1 hz hc
  have H90 := Aside0.mk (kind_calls cols hok)
  have h0 := kind_err0 cols ⟨f0, f1, ⟨v0, v1, v2⟩, l⟩
  obtain ⟨r, hr⟩ : ∃ r, kindE cols ⟨f0, f1, ⟨v0, v1, v2⟩, l⟩ = r := ⟨_, rfl⟩
  rw [hr] at H90 h0 ⊢
  obtain ⟨r1, r2⟩ := r
  by_cases hz0 : r2 = 0
  · subst hz0
    go_enter_defers Tryd.func61, Tryd.ntmps61
    go_wp2_with (first
      | (go_at_call 88; refine (expr_size.calls k f0 f1 v0 v1 v2 A c l n m _ HR.out HC.out HZ.out).mono ?_; rintro e w2 ⟨rfl, hb2⟩; have HE2 := Aside0.mk (blk_below HE.out hb2); have HK2 := Aside0.mk (blk_below HK.out hb2); have HB2 := Aside0.mk (below_step HB.out hb2); have HR2 := Aside0.mk (Kd.C_below HR.out hb2); have HD2 := Aside0.mk (Kd.C_below HD.out hb2); have a0 := blk_cell HK2.out 0; have a1 := blk_cell HK2.out 1; have a2 := blk_cell HK2.out 2; have a3 := blk_cell HK2.out 3; have a4 := blk_cell HK2.out 4; have a5 := blk_cell HK2.out 5; have z0 := blk_cell HE2.out 0; have q0 := blk_frozen HE2.out 0)
      | (go_at_call 90; refine (H90.out A c B d _ HR2.out HD2.out).mono ?_; rintro e w3 ⟨h6, _, hb3⟩; have h6 := h6 rfl; subst h6; have HE3 := Aside0.mk (blk_below HE2.out hb3); have HB3 := Aside0.mk (below_step HB2.out hb3); have z1 := blk_cell HE3.out 0; have q1 := blk_frozen HE3.out 0))
    refine leaves_cons (f := 89) (args := #[.pointer (some ⟨w.heap.size + 1, 0, none⟩)]) (by simp) (by simp [go_sem]) ?_
    refine (catch_idle ⟨w.heap.size + 1, 0, none⟩ _).mono ?_
    rintro e u' w'' ⟨rfl, rfl, rfl⟩
    exact ⟨_, results_t36 rfl _ _ (w.heap.size + 1) 0 rfl (blk_put HE3.out 0 _ rfl), ⟨rfl, HB3.out.setCell (by simp) _⟩⟩
  · have h0 := h0 hz0
    dsimp only at h0
    subst h0
    go_enter_defers Tryd.func61, Tryd.ntmps61
    go_wp2_with (first
      | (go_at_call 88; refine (expr_size.calls k f0 f1 v0 v1 v2 A c l n m _ HR.out HC.out HZ.out).mono ?_; rintro e w2 ⟨rfl, hb2⟩; have HE2 := Aside0.mk (blk_below HE.out hb2); have HK2 := Aside0.mk (blk_below HK.out hb2); have HB2 := Aside0.mk (below_step HB.out hb2); have HR2 := Aside0.mk (Kd.C_below HR.out hb2); have HD2 := Aside0.mk (Kd.C_below HD.out hb2); have a0 := blk_cell HK2.out 0; have a1 := blk_cell HK2.out 1; have a2 := blk_cell HK2.out 2; have a3 := blk_cell HK2.out 3; have a4 := blk_cell HK2.out 4; have a5 := blk_cell HK2.out 5; have z0 := blk_cell HE2.out 0; have q0 := blk_frozen HE2.out 0)
      | (go_at_call 90; refine (H90.out A c B d _ HR2.out HD2.out).mono ?_; rintro e w3 ⟨_, h6, hb3⟩; have h6 := h6 hz0; subst h6; have HE3 := Aside0.mk (blk_below HE2.out hb3); have HB3 := Aside0.mk (below_step HB2.out hb3)))
    refine leaves_cons (f := 89) (args := #[.pointer (some ⟨w.heap.size + 1, 0, none⟩)]) (by simp) (by simp [go_sem]) ?_
    refine (catch_panicking (w.heap.size + 1) 0 r2 [] _ HE3.out).mono ?_
    rintro e u' w'' ⟨rfl, rfl, rfl⟩
    exact ⟨_, results_t36 rfl _ _ (w.heap.size + 1) r2 rfl (blk_put (blk_alloc HE3.out _) 0 _ rfl), ⟨rfl, (below_alloc HB3.out _).setCell (by simp) _⟩⟩
end Go.Proofs.YtefdfgmlmjnmlaaDoor.My
end

section
set_option linter.unusedSimpArgs false
set_option linter.unusedVariables false
namespace Go.Proofs.YtefdfgmlmjnmlaaDoor.My
open Go.RowKit Go.Proofs.YtefdfgmlmjnmlaaDoorW.PrintWords Go.Proofs.YtefdfgmlmjnmlaaDoor.Rf
open Go.Proofs.YtefdfgmlmjnmlaaDoorW.PrintLast Go.Proofs.YtefdfgmlmjnmlaaDoorW.PrintMore
theorem kindR_calls (cols : List S59) {e : S72} (h : OkE e) : ∀ (A : Option Addr) (c : Nat) (B : Option Addr) (d : Nat) (w : World), Kd.C k72 w A e.f3.length e.f3 → Kd.C k59 w B cols.length cols →
    Calls Tryd.prog 91 #[.agg #[.int .i64 e.f0, .int .i64 e.f1, .int .i64 e.f2.f0, .int .i64 e.f2.f1, .string e.f2.f2, .slice A e.f3.length c], .slice B cols.length d] w (KindRPost (kindE cols e) w) := by
  induction h with
  | mk e hl _ ih =>
    obtain ⟨f0, f1, ⟨v0, v1, v2⟩, l⟩ := e
    dsimp only at hl ih ⊢
    intro A c B d w hr hB
    cases hp : (partsN f0 != (l.length : Int)) with
    | true => exact kindR_A f0 f1 v0 v1 v2 l A c cols B d w hr hB hp
    | false =>
      have hp' : partsN f0 = (l.length : Int) := by simpa using hp
      by_cases h2 : f0 = 2
      · subst h2
        have hl0 : l.length = 0 := by have : partsN 2 = 0 := rfl; omega
        cases hz : (v0 == 0 && (v1 == 0 && v2.toList.isEmpty)) with
        | false => exact kindR_C1 f1 v0 v1 v2 l A c cols B d w hr hB hp hz
        | true => exact kindR_C2 f1 v0 v1 v2 l A c cols B d w hr hB hp hz ⟨hl0⟩
      · have e2 : (f0 != 2) = true := by simpa using h2
        cases h3 : (f1 != 0) with
        | true => exact kindR_B f0 f1 v0 v1 v2 l A c cols B d w hr hB hp e2 h3
        | false =>
          by_cases h1 : f0 = 1
          · subst h1
            have hl0 : l.length = 0 := by have : partsN 1 = 0 := rfl; omega
            exact kindR_D f1 v0 v1 v2 l A c cols B d w hr hB hp h3 ⟨hl0⟩
          · have e1 : (f0 != 1) = true := by simpa using h1
            obtain ⟨hl2, hop⟩ := parts_op h1 h2 hp'
            cases hz : (v0 == 0 && (v1 == 0 && v2.toList.isEmpty)) with
            | false => exact kindR_E1 f0 f1 v0 v1 v2 l A c cols B d w hr hB hp e2 h3 e1 hz
            | true => exact kindR_E2 f0 f1 v0 v1 v2 l A c cols B d w hr hB hp e2 h3 e1 hz hl2 hop (fun x hx A c w hr hB => ih x hx A c B d w hr hB)
theorem kind61_calls (cols : List S59) (e : S72) (h : OkE e) (hb : cntE e < 4611686018427387904) (A : Option Addr) (c : Nat) (B : Option Addr) (d : Nat) (w : World) (hr : Kd.C k72 w A e.f3.length e.f3) (hc : e.f3.length ≤ c) (hB : Kd.C k59 w B cols.length cols) :
    Calls Tryd.prog 61 #[.agg #[.int .i64 e.f0, .int .i64 e.f1, .int .i64 e.f2.f0, .int .i64 e.f2.f1, .string e.f2.f2, .slice A e.f3.length c], .slice B cols.length d] w (Kind61Post (kindAll cols e) w) := by
  obtain ⟨n, m, ⟨k, hz⟩, hp⟩ := sizeP_ev h hb
  have ht := too_same hp
  have hz := hz k (Nat.le_refl _)
  have c1 : decide ((24 : Int) < (n : Int)) = decide (24 < n) := decide_eq_decide.2 (by omega)
  have c2 : decide ((8 : Int) < (m : Int)) = decide (8 < m) := decide_eq_decide.2 (by omega)
  obtain ⟨f0, f1, ⟨v0, v1, v2⟩, l⟩ := e
  dsimp only at hz hr hc ⊢
  unfold kindAll
  cases hto : tooE ⟨f0, f1, ⟨v0, v1, v2⟩, l⟩ with
  | true =>
    rw [hto] at ht
    rw [if_pos rfl]
    exact kind61_too f0 f1 v0 v1 v2 l A c cols B d w hr hc k n m hz (by rw [c1, c2]; exact ht)
  | false =>
    rw [hto] at ht
    rw [if_neg (by decide)]
    rw [Bool.or_eq_false_iff] at ht
    exact kind61_go f0 f1 v0 v1 v2 l A c cols B d w hr hc k n m hz hB (by rw [c1]; exact ht.1) (by rw [c2]; exact ht.2) h
set_option maxHeartbeats 4000000 in
set_option maxRecDepth 100000 in
theorem kind62_calls (cols : List S59) (e : S72) (h : OkE e) (hb : cntE e < 4611686018427387904) (A : Option Addr) (c : Nat) (B : Option Addr) (d : Nat) (w : World) (hr : Kd.C k72 w A e.f3.length e.f3) (hc : e.f3.length ≤ c) (hB : Kd.C k59 w B cols.length cols) :
    Calls Tryd.prog 62 #[.agg #[.int .i64 e.f0, .int .i64 e.f1, .int .i64 e.f2.f0, .int .i64 e.f2.f1, .string e.f2.f2, .slice A e.f3.length c], .slice B cols.length d] w (KindRPost (kindAll cols e) w) := by
  obtain ⟨k, hz⟩ := sizeR_ev h hb
  have hz := hz k (Nat.le_refl _)
  have H91 := Aside0.mk (kindR_calls cols h)
  obtain ⟨f0, f1, ⟨v0, v1, v2⟩, l⟩ := e
  dsimp only at hz hr hc H91 ⊢
  generalize hn : cntE ⟨f0, f1, ⟨v0, v1, v2⟩, l⟩ = n at hz
  generalize hm : depE ⟨f0, f1, ⟨v0, v1, v2⟩, l⟩ = m at hz
  have hto : tooE ⟨f0, f1, ⟨v0, v1, v2⟩, l⟩ = (decide (24 < n) || decide (8 < m)) := by unfold tooE; rw [hn, hm]
  have c1 : decide ((24 : Int) < (n : Int)) = decide (24 < n) := decide_eq_decide.2 (by omega)
  have c2 : decide ((8 : Int) < (m : Int)) = decide (8 < m) := decide_eq_decide.2 (by omega)
  have b1 := below1 w (.cells #[.int .i64 f0, .int .i64 f1, .int .i64 v0, .int .i64 v1, .string v2, .slice A l.length c] 72)
  have HB := Aside0.mk b1
  have HR := Aside0.mk (Kd.C_below hr b1)
  have HC := Aside0.mk hc
  have HZ := Aside0.mk hz
  have HD := Aside0.mk (Kd.C_below hB b1)
  have HK := Aside0.mk (blk_new w (.cells #[.int .i64 f0, .int .i64 f1, .int .i64 v0, .int .i64 v1, .string v2, .slice A l.length c] 72))
  unfold kindAll
  rw [hto]
  obtain ⟨r, hr⟩ : ∃ r, kindE cols ⟨f0, f1, ⟨v0, v1, v2⟩, l⟩ = r := ⟨_, rfl⟩
  rw [hr] at H91 ⊢
  clear hr hc hz hB b1 hn hm hto hb h
  cases g1 : decide (24 < n) with
  | true =>
    rw [g1] at c1
    go_enter Tryd.func62, Tryd.ntmps62
    go_wp2_with (go_at_call 79; refine (mortmainref08_Size.calls k f0 f1 v0 v1 v2 A c l n m _ HR.out HC.out HZ.out).mono ?_; rintro e w2 ⟨rfl, hb2⟩)
    go_ret2
    exact ⟨by simp, below_step HB.out hb2⟩
  | false =>
    rw [g1] at c1
    cases g2 : decide (8 < m) with
    | true =>
      rw [g2] at c2
      go_enter Tryd.func62, Tryd.ntmps62
      go_wp2_with (go_at_call 79; refine (mortmainref08_Size.calls k f0 f1 v0 v1 v2 A c l n m _ HR.out HC.out HZ.out).mono ?_; rintro e w2 ⟨rfl, hb2⟩)
      go_ret2
      exact ⟨by simp, below_step HB.out hb2⟩
    | false =>
      rw [g2] at c2
      go_enter Tryd.func62, Tryd.ntmps62
      go_wp2_with (first
        | (go_at_call 79; refine (mortmainref08_Size.calls k f0 f1 v0 v1 v2 A c l n m _ HR.out HC.out HZ.out).mono ?_; rintro e w2 ⟨rfl, hb2⟩; have HK2 := Aside0.mk (blk_below HK.out hb2); have HR2 := Aside0.mk (Kd.C_below HR.out hb2); have HD2 := Aside0.mk (Kd.C_below HD.out hb2); have HB2 := Aside0.mk (below_step HB.out hb2); have a0 := blk_cell HK2.out 0; have a1 := blk_cell HK2.out 1; have a2 := blk_cell HK2.out 2; have a3 := blk_cell HK2.out 3; have a4 := blk_cell HK2.out 4; have a5 := blk_cell HK2.out 5)
        | (go_at_call 91; refine (H91.out A c B d _ HR2.out HD2.out).mono ?_; rintro e w3 ⟨rfl, hb3⟩))
      go_ret2
      exact ⟨by simp, below_step HB2.out hb3⟩
end Go.Proofs.YtefdfgmlmjnmlaaDoor.My
end

section
set_option linter.unusedSimpArgs false
set_option linter.unusedVariables false
namespace Go.Proofs.YtefdfgmlmjnmlaaDoor.My
open Go.RowKit Go.Proofs.YtefdfgmlmjnmlaaDoorW.PrintWords Go.Proofs.YtefdfgmlmjnmlaaDoor.Rf
/-- What is wrong with a check. -/
def chkE (cols : List S59) (x : S72) : Int := if (kindAll cols x).2 ≠ 0 then (kindAll cols x).2 else if 1 < (kindAll cols x).1 then 9 else 0
def checksE (t : S45) : Int := (t.f3.find? (fun x => chkE t.f2 x != 0)).elim 0 (chkE t.f2)
theorem checks_hit {t : S45} {k : Nat} (hk : k < t.f3.length) (ha : ∀ j, j < k → chkE t.f2 (t.f3.getD j z72) = 0) (h : chkE t.f2 (t.f3.getD k z72) ≠ 0) : checksE t = chkE t.f2 (t.f3.getD k z72) := by
  have hg : ∀ j, (h : j < t.f3.length) → t.f3.getD j z72 = t.f3[j]'h := fun j h => by simp [List.getD, List.getElem?_eq_getElem h]
  have : t.f3.find? (fun x => chkE t.f2 x != 0) = some (t.f3.getD k z72) := by
    rw [List.find?_eq_some_iff_getElem]
    exact ⟨by simpa using h, k, hk, (hg k hk).symm, fun j hj => by rw [← hg j (by omega), ha j hj]; rfl⟩
  unfold checksE
  rw [this]
  rfl
theorem checks_none {t : S45} (ha : ∀ j, j < t.f3.length → chkE t.f2 (t.f3.getD j z72) = 0) : checksE t = 0 := by
  have : t.f3.find? (fun x => chkE t.f2 x != 0) = none := by
    rw [List.find?_eq_none]
    intro x hx
    obtain ⟨j, hj, rfl⟩ := List.getElem_of_mem hx
    have := ha j hj
    rw [show t.f3.getD j z72 = t.f3[j] by simp [List.getD, List.getElem?_eq_getElem hj]] at this
    simp [this]
  unfold checksE
  rw [this]
  rfl
/-- What is wrong with a table. -/
def goodE (t : S45) (ts : List S45) : Int :=
  if !isName t.f0 || (decide (t.f1 < 0) || (decide (8 ≤ t.f1) || decide (t.f2.length = 0))) then 4
  else if decide (6 < t.f2.length) || decide (4 < t.f3.length) then 3
  else if colsE t ts ≠ 0 then colsE t ts else checksE t
set_option maxHeartbeats 4000000 in
set_option maxRecDepth 100000 in
theorem good36_calls (t : S45) (A : Option Addr) (c : Nat) (A' : Option Addr) (c' : Nat) (v : Int) (ts : List S45) (B : Option Addr) (d : Nat) (B' : Option Addr) (n' d' : Nat) (w : World)
    (hr : Kd.C k59 w A t.f2.length t.f2) (hC3 : Kd.C k72 w A' t.f3.length t.f3) (hcn : ∀ x, x ∈ t.f3 → cntE x < 4611686018427387904) (hts : Kd.C k45 w B ts.length ts) (hT : Tabs w) (hs0 : t.f0.size ≤ 9223372036854775807) (hok : ∀ x, x ∈ t.f2 → x.f0.size ≤ 9223372036854775807) :
    Calls Tryd.prog 36 #[.agg #[.string t.f0, .int .i64 t.f1, .slice A t.f2.length c, .slice A' t.f3.length c'], .agg #[.int .i64 v, .slice B ts.length d, .slice B' n' d']] w (IntPost (goodE t ts) w) := by
  have b2 := below2 w (.cells #[.string t.f0, .int .i64 t.f1, .slice A t.f2.length c, .slice A' t.f3.length c'] 45) (.cells #[.int .i64 v, .slice B ts.length d, .slice B' n' d'] 25)
  have HB := Aside0.mk b2
  have HK := Aside0.mk (blk_alloc (blk_new w (.cells #[.string t.f0, .int .i64 t.f1, .slice A t.f2.length c, .slice A' t.f3.length c'] 45)) (.cells #[.int .i64 v, .slice B ts.length d, .slice B' n' d'] 25))
  have HL := Aside0.mk (blk_new1 w (.cells #[.string t.f0, .int .i64 t.f1, .slice A t.f2.length c, .slice A' t.f3.length c'] 45) (.cells #[.int .i64 v, .slice B ts.length d, .slice B' n' d'] 25))
  have HR := Aside0.mk (Kd.C_below hr b2)
  have HS := Aside0.mk (Kd.C_below hts b2)
  have HT := Aside0.mk (hT.below b2)
  have HO := Aside0.mk hok
  have hn := hr.2.1
  have HX := Aside0.mk (Kd.C_below hC3 b2)
  have HCN := Aside0.mk hcn
  clear b2 hr hts hT hok hC3 hcn
  cases hnm : isName t.f0 with
  | false =>
    go_enter Tryd.func36, Tryd.ntmps36
    go_wp2_with (first | (go_at_call 32; refine (name_calls t.f0 _ hs0 HT.out).mono ?_; rintro e wa ⟨rfl, hba⟩; rw [hnm]))
    go_ret
    exact ⟨by unfold goodE; rw [hnm]; rfl, below_step HB.out hba⟩
  | true =>
    by_cases g1 : t.f1 < 0
    · have q1 := decide_eq_true g1
      have hres : goodE t ts = 4 := by unfold goodE; rw [hnm]; simp [g1]
      have HRES := Aside0.mk hres
      clear hres
      go_enter Tryd.func36, Tryd.ntmps36
      go_wp2_with (first | (go_at_call 32; refine (name_calls t.f0 _ hs0 HT.out).mono ?_; rintro e wa ⟨rfl, hba⟩; rw [hnm]; have HKa := Aside0.mk (blk_below HK.out hba); have HLa := Aside0.mk (blk_below HL.out hba); have HBa := Aside0.mk (below_step HB.out hba); have a0 := blk_cell HKa.out 0; have a1 := blk_cell HKa.out 1; have a2 := blk_cell HKa.out 2; have a3 := blk_cell HKa.out 3))
      go_ret
      exact ⟨by rw [HRES.out]; rfl, HBa.out⟩
    · have q1 := decide_eq_false g1
      by_cases g2 : 8 ≤ t.f1
      · have q2 := decide_eq_true g2
        have hres : goodE t ts = 4 := by unfold goodE; rw [hnm]; simp [g2]
        have HRES := Aside0.mk hres
        clear hres
        go_enter Tryd.func36, Tryd.ntmps36
        go_wp2_with (first | (go_at_call 32; refine (name_calls t.f0 _ hs0 HT.out).mono ?_; rintro e wa ⟨rfl, hba⟩; rw [hnm]; have HKa := Aside0.mk (blk_below HK.out hba); have HLa := Aside0.mk (blk_below HL.out hba); have HBa := Aside0.mk (below_step HB.out hba); have a0 := blk_cell HKa.out 0; have a1 := blk_cell HKa.out 1; have a2 := blk_cell HKa.out 2; have a3 := blk_cell HKa.out 3))
        go_ret
        exact ⟨by rw [HRES.out]; rfl, HBa.out⟩
      · have q2 := decide_eq_false g2
        by_cases g3 : t.f2.length = 0
        · have q3 : ((t.f2.length : Int) == 0) = true := by simp [g3]
          have hres : goodE t ts = 4 := by unfold goodE; rw [hnm]; simp [g3]
          clear g3
          have HRES := Aside0.mk hres
          clear hres
          go_enter Tryd.func36, Tryd.ntmps36
          go_wp2_with (first | (go_at_call 32; refine (name_calls t.f0 _ hs0 HT.out).mono ?_; rintro e wa ⟨rfl, hba⟩; rw [hnm]; have HKa := Aside0.mk (blk_below HK.out hba); have HLa := Aside0.mk (blk_below HL.out hba); have HBa := Aside0.mk (below_step HB.out hba); have a0 := blk_cell HKa.out 0; have a1 := blk_cell HKa.out 1; have a2 := blk_cell HKa.out 2; have a3 := blk_cell HKa.out 3))
          go_ret
          exact ⟨by rw [HRES.out]; rfl, HBa.out⟩
        · have q3 : ((t.f2.length : Int) == 0) = false := by simp [g3]
          by_cases g4 : 6 < t.f2.length
          · have q4 : decide (6 < (t.f2.length : Int)) = true := decide_eq_true (by omega)
            have hres : goodE t ts = 3 := by unfold goodE; rw [hnm]; simp [g1, g2, g3, g4]
            have HRES := Aside0.mk hres
            clear hres
            go_enter Tryd.func36, Tryd.ntmps36
            go_wp2_with (first | (go_at_call 32; refine (name_calls t.f0 _ hs0 HT.out).mono ?_; rintro e wa ⟨rfl, hba⟩; rw [hnm]; have HKa := Aside0.mk (blk_below HK.out hba); have HLa := Aside0.mk (blk_below HL.out hba); have HBa := Aside0.mk (below_step HB.out hba); have a0 := blk_cell HKa.out 0; have a1 := blk_cell HKa.out 1; have a2 := blk_cell HKa.out 2; have a3 := blk_cell HKa.out 3))
            go_ret
            exact ⟨by rw [HRES.out]; rfl, HBa.out⟩
          · have q4 : decide (6 < (t.f2.length : Int)) = false := decide_eq_false (by omega)
            by_cases g5 : 4 < t.f3.length
            · have q5 : decide (4 < (t.f3.length : Int)) = true := decide_eq_true (by omega)
              have hres : goodE t ts = 3 := by unfold goodE; rw [hnm]; simp [g1, g2, g3, g4, g5]
              have HRES := Aside0.mk hres
              clear hres
              go_enter Tryd.func36, Tryd.ntmps36
              go_wp2_with (first | (go_at_call 32; refine (name_calls t.f0 _ hs0 HT.out).mono ?_; rintro e wa ⟨rfl, hba⟩; rw [hnm]; have HKa := Aside0.mk (blk_below HK.out hba); have HLa := Aside0.mk (blk_below HL.out hba); have HBa := Aside0.mk (below_step HB.out hba); have a0 := blk_cell HKa.out 0; have a1 := blk_cell HKa.out 1; have a2 := blk_cell HKa.out 2; have a3 := blk_cell HKa.out 3))
              go_ret
              exact ⟨by rw [HRES.out]; rfl, HBa.out⟩
            · have q5 : decide (4 < (t.f3.length : Int)) = false := decide_eq_false (by omega)
              have hres : goodE t ts = if colsE t ts ≠ 0 then colsE t ts else checksE t := by unfold goodE; rw [hnm]; simp [g1, g2, g3, g4, g5]
              have HRES := Aside0.mk hres
              clear hres
              have HBW : Aside0 (∀ wa : World, Below ((w.alloc (.cells #[.string t.f0, .int .i64 t.f1, .slice A t.f2.length c, .slice A' t.f3.length c'] 45)).alloc (.cells #[.int .i64 v, .slice B ts.length d, .slice B' n' d'] 25)).heap.size ((w.alloc (.cells #[.string t.f0, .int .i64 t.f1, .slice A t.f2.length c, .slice A' t.f3.length c'] 45)).alloc (.cells #[.int .i64 v, .slice B ts.length d, .slice B' n' d'] 25)) wa → True) := ⟨fun _ _ => trivial⟩
              go_enter Tryd.func36, Tryd.ntmps36
              go_wp2_with (first | (go_at_call 32; refine (name_calls t.f0 _ hs0 HT.out).mono ?_; rintro e wa ⟨rfl, hba⟩; rw [hnm]; have HKa := Aside0.mk (blk_below HK.out hba); have HLa := Aside0.mk (blk_below HL.out hba); have HBa := Aside0.mk (below_step HB.out hba); have a0 := blk_cell HKa.out 0; have a1 := blk_cell HKa.out 1; have a2 := blk_cell HKa.out 2; have a3 := blk_cell HKa.out 3))
              go_loopw [5, 6, 46] (fun _ _ t46 wr => ∃ k : Nat, t46 = .int .i64 k ∧ k ≤ t.f2.length ∧ Aside0 (∀ j, j < k → colE t j ts = 0) ∧ Aside0 (Below ((w.alloc (.cells #[.string t.f0, .int .i64 t.f1, .slice A t.f2.length c, .slice A' t.f3.length c'] 45)).alloc (.cells #[.int .i64 v, .slice B ts.length d, .slice B' n' d'] 25)).heap.size ((w.alloc (.cells #[.string t.f0, .int .i64 t.f1, .slice A t.f2.length c, .slice A' t.f3.length c'] 45)).alloc (.cells #[.int .i64 v, .slice B ts.length d, .slice B' n' d'] 25)) wr)) (fun _ _ t46 _ => t.f2.length - (intOf t46).toNat)
              case atStart => exact ⟨0, rfl, Nat.zero_le _, ⟨fun j hj => absurd hj (by omega)⟩, ⟨hba⟩⟩
              case round =>
                obtain ⟨k, rfl, hk, HA, HBr⟩ := hrel
                have HKr := Aside0.mk (blk_below HK.out HBr.out)
                have HLr := Aside0.mk (blk_below HL.out HBr.out)
                clear a0 a1 a2 a3
                have a0 := blk_cell HKr.out 0
                have a1 := blk_cell HKr.out 1
                have a2 := blk_cell HKr.out 2
                have a3 := blk_cell HKr.out 3
                have b0 := blk_cell HLr.out 0
                have b1 := blk_cell HLr.out 1
                have b2 := blk_cell HLr.out 2
                have HRr := Aside0.mk (Kd.C_below HR.out HBr.out)
                have HSr := Aside0.mk (Kd.C_below HS.out HBr.out)
                have HTr := Aside0.mk (HT.out.below HBr.out)
                by_cases hlt : k < t.f2.length
                · have hi1 : (k : Int) < (t.f2.length : Int) := by omega
                  by_cases hce0 : colE t k ts = 0
                  · have hce := hce0
                    have hall : ∀ j, j < k + 1 → colE t j ts = 0 := fun j hj => by
                      rcases Nat.lt_or_ge j k with h | h
                      · exact HA.out j h
                      · obtain rfl : j = k := by omega
                        exact hce0
                    have HALL := Aside0.mk hall
                    clear hall hce0
                    go_wp2_with (first | (go_at_call 60; refine (column_calls t A c A' c' k v ts B d B' n' d' _ HRr.out HSr.out HTr.out (by omega) HO.out).mono ?_; rintro e wc ⟨rfl, hbc⟩; rw [hce]))
                    go_roundw
                    case rel => exact ⟨k + 1, by go_num, by omega, HALL, ⟨below_step HBr.out hbc⟩⟩
                    case measure => simp [intOf]; omega
                  · have hfin := colsE_hit hlt HA.out hce0
                    have HFIN := Aside0.mk hfin
                    generalize hce : colE t k ts = ce at hfin hce0
                    have HCE := Aside0.mk hce
                    clear hfin
                    have q6 : (ce != 0) = true := by simpa using hce0
                    go_wp2_with (first | (go_at_call 60; refine (column_calls t A c A' c' k v ts B d B' n' d' _ HRr.out HSr.out HTr.out (by omega) HO.out).mono ?_; rintro e wc ⟨rfl, hbc⟩; rw [hce]))
                    go_ret
                    exact ⟨by rw [HRES.out, HFIN.out, HCE.out, if_pos (by simpa using q6)]; rfl, below_step HB.out (below_step HBr.out hbc)⟩
                · have hfin := colsE_none (t := t) (ts := ts) (fun j hj => HA.out j (by omega))
                  have HFIN := Aside0.mk hfin
                  clear hfin
                  have hkk : k = t.f2.length := by omega
                  subst hkk
                  have hres2 : goodE t ts = checksE t := by rw [HRES.out, HFIN.out, if_neg (by decide)]
                  have HRES2 := Aside0.mk hres2
                  have HXr := Aside0.mk (Kd.C_below HX.out HBr.out)
                  clear hres2 HA
                  go_wp2
                  go_loopw [8, 9, 10, 60] (fun _ _ _ t60 w2 => ∃ k : Nat, t60 = .int .i64 k ∧ k ≤ t.f3.length ∧ Aside0 (∀ j, j < k → chkE t.f2 (t.f3.getD j z72) = 0) ∧ Aside0 (Below wr.heap.size wr w2)) (fun _ _ _ t60 _ => t.f3.length - (intOf t60).toNat)
                  case atStart => exact ⟨0, rfl, Nat.zero_le _, ⟨fun j hj => absurd hj (by omega)⟩, ⟨Below.refl _ _⟩⟩
                  case round =>
                    obtain ⟨k, rfl, hk, HA, HBq⟩ := hrel
                    have HKq := Aside0.mk (blk_below HKr.out HBq.out)
                    clear a0 a1 a2 a3 b0 b1 b2
                    have a0 := blk_cell HKq.out 0
                    have a1 := blk_cell HKq.out 1
                    have a2 := blk_cell HKq.out 2
                    have a3 := blk_cell HKq.out 3
                    have gk := blk_lt HKq.out
                    by_cases hlt : k < t.f3.length
                    · obtain ⟨ad, A5, c5, e, hc0, hc1, hc2, hc3, hc4, hc5, hl5, hC5⟩ := at_T72 HXr.out (k : Int) (by omega) (by omega)
                      subst e
                      simp only [Int.toNat_natCast, rd_T72] at hc0 hc1 hc2 hc3 hc4 hc5 hl5 hC5
                      have hmem := mem_getD (z := z72) hlt
                      have hokx : OkE (t.f3.getD k z72) := by obtain ⟨c, hc⟩ := C_each HXr.out hmem; exact okE_of hc
                      have hcx := HCN.out _ hmem
                      generalize hx : t.f3.getD k z72 = x at hc0 hc1 hc2 hc3 hc4 hc5 hl5 hC5 hokx hcx
                      have HXX := Aside0.mk hx
                      have d0 := cell_now HBq.out hc0
                      have d1 := cell_now HBq.out hc1
                      have d2 := cell_now HBq.out hc2
                      have d3 := cell_now HBq.out hc3
                      have d4 := cell_now HBq.out hc4
                      have d5 := cell_now HBq.out hc5
                      have HC5 := Aside0.mk (Kd.C_alloc (Kd.C_below hC5 HBq.out) (.cells #[.int .i64 x.f0, .int .i64 x.f1, .int .i64 x.f2.f0, .int .i64 x.f2.f1, .string x.f2.f2, .slice A5 x.f3.length c5] 72))
                      have HRq := Aside0.mk (Kd.C_alloc (Kd.C_below HRr.out HBq.out) (.cells #[.int .i64 x.f0, .int .i64 x.f1, .int .i64 x.f2.f0, .int .i64 x.f2.f1, .string x.f2.f2, .slice A5 x.f3.length c5] 72))
                      have HL5 := Aside0.mk hl5
                      have HBx := Aside0.mk (below_alloc HBq.out (.cells #[.int .i64 x.f0, .int .i64 x.f1, .int .i64 x.f2.f0, .int .i64 x.f2.f1, .string x.f2.f2, .slice A5 x.f3.length c5] 72))
                      have hj0 : (0 : Int) ≤ (k : Int) := by omega
                      have hj1 : (k : Int) < (t.f3.length : Int) := by omega
                      have hch : chkE t.f2 x = if (kindAll t.f2 x).2 ≠ 0 then (kindAll t.f2 x).2 else if 1 < (kindAll t.f2 x).1 then 9 else 0 := rfl
                      have H61 := Aside0.mk (kind61_calls t.f2 x hokx hcx)
                      obtain ⟨r, hr⟩ : ∃ r, kindAll t.f2 x = r := ⟨_, rfl⟩
                      rw [hr] at hch H61
                      obtain ⟨r1, r2⟩ := r
                      dsimp only at hch
                      clear hc0 hc1 hc2 hc3 hc4 hc5 hl5 hC5 hx hmem hokx hcx hr
                      by_cases hr2 : r2 = 0
                      · subst hr2
                        rw [if_neg (by simp)] at hch
                        by_cases hr1 : 1 < r1
                        · have q7 : decide (1 < r1) = true := decide_eq_true hr1
                          rw [if_pos hr1] at hch
                          have hfin2 := checks_hit hlt HA.out (by rw [HXX.out, hch]; decide)
                          rw [HXX.out, hch] at hfin2
                          have HF2 := Aside0.mk hfin2
                          clear hfin2 hch
                          go_wp2_with (go_at_call 61; refine (H61.out A5 c5 A c _ HC5.out HL5.out HRq.out).mono ?_; rintro e wd ⟨rfl, hbd⟩)
                          go_ret
                          exact ⟨by rw [HRES2.out, HF2.out]; rfl, below_step HB.out (below_step HBr.out (below_step HBx.out hbd))⟩
                        · have q7 : decide (1 < r1) = false := decide_eq_false hr1
                          rw [if_neg hr1] at hch
                          have hall : ∀ j, j < k + 1 → chkE t.f2 (t.f3.getD j z72) = 0 := fun j hj => by
                            rcases Nat.lt_or_ge j k with h | h
                            · exact HA.out j h
                            · obtain rfl : j = k := by omega
                              rw [HXX.out]; exact hch
                          have HALL := Aside0.mk hall
                          clear hall hch
                          go_wp2_with (go_at_call 61; refine (H61.out A5 c5 A c _ HC5.out HL5.out HRq.out).mono ?_; rintro e wd ⟨rfl, hbd⟩)
                          go_roundw
                          case rel => exact ⟨k + 1, by go_num, by omega, HALL, ⟨below_step HBx.out hbd⟩⟩
                          case measure => simp [intOf]; omega
                      · have q7 : (r2 != 0) = true := by simpa using hr2
                        rw [if_pos hr2] at hch
                        have hfin2 := checks_hit hlt HA.out (by rw [HXX.out, hch]; exact hr2)
                        rw [HXX.out, hch] at hfin2
                        have HF2 := Aside0.mk hfin2
                        clear hfin2 hch
                        go_wp2_with (go_at_call 61; refine (H61.out A5 c5 A c _ HC5.out HL5.out HRq.out).mono ?_; rintro e wd ⟨rfl, hbd⟩)
                        go_ret
                        exact ⟨by rw [HRES2.out, HF2.out]; rfl, below_step HB.out (below_step HBr.out (below_step HBx.out hbd))⟩
                    · have hfin2 := checks_none (t := t) (fun j hj => HA.out j (by omega))
                      have HF2 := Aside0.mk hfin2
                      clear hfin2
                      have hkk : k = t.f3.length := by omega
                      subst hkk
                      go_wp2
                      go_ret
                      exact ⟨by rw [HRES2.out, HF2.out]; rfl, below_step HB.out (below_step HBr.out HBq.out)⟩
end Go.Proofs.YtefdfgmlmjnmlaaDoor.My
end

section
set_option linter.unusedVariables false
set_option linter.unusedSimpArgs false
namespace Go.Proofs.YtefdfgmlmjnmlaaDoor.Rf
open Go.RowKit Go.Proofs.YtefdfgmlmjnmlaaDoorW.PrintWords Go.Proofs.YtefdfgmlmjnmlaaDoorW.PrintLast Go.Proofs.YtefdfgmlmjnmlaaDoorW.PrintMore
attribute [local go_sem] max2_int max_two
def mortmainref09_Place.l0 : Nat → ByteArray → List (S59) → Int → Int → Option (Int)
  | 0, _, _, _, _ => none
  | k + 1, x1, x8, x9, x10 => if x10 < x9 then (if 0 ≤ x10 then (if x10 < (x8.length : Int) then (if ((rd_T59 x8 x10).f0).toList = x1.toList then (some x10) else (mortmainref09_Place.l0 k x1 x8 x9 (wrap64 (x10 + 1)))) else (none)) else (none)) else (some (-1))
def mortmainref09_Place.f (k : Nat) (a0_0 : ByteArray) (a0_1 : Int) (l0_2 : List (S59)) (l0_3 : List (S72)) (a1 : ByteArray) : Option (Int) := mortmainref09_Place.l0 k a1 l0_2 (l0_2.length : Int) 0
theorem mortmainref09_Place.mono_l : ∀ k, (∀ y0 y1 y2 y3, LeO (mortmainref09_Place.l0 k y0 y1 y2 y3) (mortmainref09_Place.l0 (k + 1) y0 y1 y2 y3))
  | 0 => fun _ _ _ _ r h => by simp [mortmainref09_Place.l0] at h
  | k + 1 => by
    have ih0 := mortmainref09_Place.mono_l k
    · intro y0 y1 y2 y3
      unfold mortmainref09_Place.l0
      repeat' first
      | (with_reducible exact ih0 _ _ _ _)
      | (with_reducible exact LeO.refl _)
      | (with_reducible exact LeO.none _)
      | (with_reducible refine LeO.ite ?_ ?_)
      | (with_reducible refine LeO.bind ?_ (fun _ => ?_))
      | exact ih0 _ _ _ _
      | exact LeO.none _
      | refine LeO.ite ?_ ?_
      | refine LeO.bind ?_ (fun _ => ?_)
theorem mortmainref09_Place.mono : ∀ a0 a1 a2 a3 a4 k, LeO (mortmainref09_Place.f k a0 a1 a2 a3 a4) (mortmainref09_Place.f (k + 1) a0 a1 a2 a3 a4) := by
  intro a0 a1 a2 a3 a4 k
  have ih0 := mortmainref09_Place.mono_l k
  unfold mortmainref09_Place.f
  repeat' first
      | (with_reducible exact ih0 _ _ _ _)
      | (with_reducible exact LeO.refl _)
      | (with_reducible exact LeO.none _)
      | (with_reducible refine LeO.ite ?_ ?_)
      | (with_reducible refine LeO.bind ?_ (fun _ => ?_))
      | exact ih0 _ _ _ _
      | exact LeO.none _
      | refine LeO.ite ?_ ?_
      | refine LeO.bind ?_ (fun _ => ?_)
set_option maxHeartbeats 8000000 in
set_option maxRecDepth 100000 in
theorem mortmainref09_Place.calls (k : Nat) (a0_0 : ByteArray) (a0_1 : Int) (A0_2 : Option Addr) (c0_2 : Nat) (l0_2 : List (S59)) (A0_3 : Option Addr) (c0_3 : Nat) (l0_3 : List (S72)) (a1 : ByteArray) (r : Int) (w : World) (hr0_2 : Kd.C k59 w A0_2 l0_2.length l0_2) (hc0_2 : l0_2.length ≤ c0_2) (hr0_3 : Kd.C k72 w A0_3 l0_3.length l0_3) (hc0_3 : l0_3.length ≤ c0_3) (h : mortmainref09_Place.f k a0_0 a0_1 l0_2 l0_3 a1 = some r) :
    Calls Tryd.prog 35 #[.agg #[.string a0_0, .int .i64 a0_1, .slice A0_2 l0_2.length c0_2, .slice A0_3 l0_3.length c0_3], .string a1] w fun e w' => e = .returned (.int .i64 r) ∧ Below w.heap.size w w' := by
  have hu45 := Tryd.underlying45
  have hu59 := Tryd.underlying59
  have HR0_2 := Aside0.mk hr0_2
  have HC0_2 := Aside0.mk hc0_2
  clear hr0_2 hc0_2
  have HR0_3 := Aside0.mk hr0_3
  have HC0_3 := Aside0.mk hc0_3
  clear hr0_3 hc0_3
  have HB := Aside0.mk (Below.refl w.heap.size w)
  have H : (mortmainref09_Place.l0 k a1 l0_2 (l0_2.length : Int) 0) = some r := h
  clear h
  have H' := Aside0.mk H
  clear H
  go_enter Tryd.func35, Tryd.ntmps35
  go_wp2_with (first | ((with_reducible refine gate_dst (N := 2) rfl ?_); refine box_event ?hg (N := 2) ?hd (cs := #[.string a0_0, .int .i64 a0_1, .slice A0_2 l0_2.length c0_2, .slice A0_3 l0_3.length c0_3]) (t := 45) ?hr ?_; (case hd => rfl); (case hg => rfl); (case hr => first | (go_simp; done) | (go_simp; rfl)); intro gb216 hg w3 hbox hb; have n0_ := Aside0.mk (below_step (by repeat (first | (with_reducible first | exact HB.out | apply below_alloc | apply pw_below_drewN | apply below_drew1) | exact HB.out)) hb); have n1_ := Aside0.mk (hbox); have n2_ := Aside0.mk ((by rw [hg]; exact (below_size (by repeat (first | (with_reducible first | exact HB.out | apply below_alloc | apply pw_below_drewN | apply below_drew1) | exact HB.out))) : w.heap.size ≤ gb216)); have n3_ := Aside0.mk ((by rw [hg]; exact (below_size (by repeat (first | (with_reducible first | exact HB.out | apply below_alloc | apply pw_below_drewN | apply below_drew1) | exact HB.out))) : w.heap.size ≤ gb216)); clear HB; have HB := n0_; have BK216 := n1_; have GW216 := n2_; have GE216 := n3_; clear n0_ n1_ n2_ n3_; clear hb hbox hg; have hcz4_0 : w3.cell? ⟨gb216, 0, none⟩ = some (.string a0_0) := (blk_cell BK216.out 0).trans rfl; have hcz4_1 : w3.cell? ⟨gb216, 1, none⟩ = some (.int .i64 a0_1) := (blk_cell BK216.out 1).trans rfl; have hcz4_2 : w3.cell? ⟨gb216, 2, none⟩ = some (.slice A0_2 l0_2.length c0_2) := (blk_cell BK216.out 2).trans rfl; have hcz4_3 : w3.cell? ⟨gb216, 3, none⟩ = some (.slice A0_3 l0_3.length c0_3) := (blk_cell BK216.out 3).trans rfl; have hfz4_0 := blk_frozen BK216.out 0; have hfz4_1 := blk_frozen BK216.out 1; have hfz4_2 := blk_frozen BK216.out 2; have hfz4_3 := blk_frozen BK216.out 3))
  go_loopg [10] k (fun kq v10 w' => ∃ (x10_1 : Int), v10 = .int .i64 x10_1 ∧ Aside0 (mortmainref09_Place.l0 kq a1 l0_2 (l0_2.length : Int) x10_1 = some r) ∧ Aside0 (kq ≤ k) ∧ Aside0 (w'.heap[gb216]? = some (.cells #[.string a0_0, .int .i64 a0_1, (.slice A0_2 l0_2.length c0_2), (.slice A0_3 l0_3.length c0_3)] 45 (0, 0))) ∧ Aside0 (Below w.heap.size w w'))
  case atStart => exact ⟨(0), (by first | rfl | (simp; done) | (simp [*]; done)), H', ⟨Nat.le_refl _⟩, ⟨by (with_reducible repeat (first | refine blk_drewN ?_ _ | refine blk_drew ?_ | refine blk_alloc ?_ _)); exact BK216.out⟩, ⟨by repeat (first | (with_reducible first | exact HB.out | apply below_alloc | apply pw_below_drewN | apply below_drew1 | refine below_set ?_ GE216.out) | exact HB.out)⟩⟩
  case round =>
    clear H'
    try clear p2
    try clear c3
    try clear hcz4_0
    try clear hcz4_1
    try clear hcz4_2
    try clear hcz4_3
    try clear hfz4_0
    try clear hfz4_1
    try clear hfz4_2
    try clear hfz4_3
    obtain ⟨x10_1, rfl, HA, HK1, BK216, HB⟩ := hrel
    cases gk with
    | zero => exact absurd HA.out (by simp [mortmainref09_Place.l0])
    | succ k1 =>
      have H := HA.out
      clear HA
      simp only [mortmainref09_Place.l0] at H
      by_cases c5 : x10_1 < (l0_2.length : Int)
      · rw [if_pos c5] at H
        have c5b0 : decide (x10_1 < (l0_2.length : Int)) = true := decide_eq_true c5
        clear c5
        by_cases c6 : 0 ≤ x10_1
        · rw [if_pos c6] at H
          have c6b0 : decide (0 ≤ x10_1) = true := decide_eq_true c6
          clear c6
          by_cases c7 : x10_1 < (l0_2.length : Int)
          · rw [if_pos c7] at H
            have c7b0 : decide (x10_1 < (l0_2.length : Int)) = true := decide_eq_true c7
            clear c7
            by_cases c8 : ((rd_T59 l0_2 x10_1).f0).toList = a1.toList
            · rw [if_pos c8] at H
              have c8b0 : (((rd_T59 l0_2 x10_1).f0).toList == a1.toList) = true := beq_iff_eq.mpr c8
              have c8b1 : (((rd_T59 l0_2 x10_1).f0).toList != a1.toList) = false := bne_eq_false_iff_eq.mpr c8
              clear c8
              obtain rfl := Option.some.inj H
              have p217 : 0 ≤ (x10_1 : Int) := of_decide_eq_true (by first | (with_reducible assumption) | assumption)
              have q217 : x10_1 < (l0_2.length : Int) := of_decide_eq_true (by first | (with_reducible assumption) | assumption)
              obtain ⟨ad217, e217, hx217_0, hx217_1, hx217_2, hx217_3, hx217_4, hx217_5⟩ := at_T59 HR0_2.out x10_1 p217 q217
              cases e217
              replace hx217_0 := (HB.out.cell (World.block_lt_of_cell? w _ hx217_0)).trans hx217_0
              replace hx217_1 := (HB.out.cell (World.block_lt_of_cell? w _ hx217_1)).trans hx217_1
              replace hx217_2 := (HB.out.cell (World.block_lt_of_cell? w _ hx217_2)).trans hx217_2
              replace hx217_3 := (HB.out.cell (World.block_lt_of_cell? w _ hx217_3)).trans hx217_3
              replace hx217_4 := (HB.out.cell (World.block_lt_of_cell? w _ hx217_4)).trans hx217_4
              replace hx217_5 := (HB.out.cell (World.block_lt_of_cell? w _ hx217_5)).trans hx217_5
              replace p217 := eq_true p217
              replace q217 := eq_true q217
              go_wp2_with (first | ((with_reducible refine gate_dst (N := 6) rfl ?_); refine box_event ?hg (N := 6) ?hd (cs := #[.string (⟨#[]⟩ : ByteArray), .int .i64 0, .bool false, .bool false, .string (⟨#[]⟩ : ByteArray), .int .i64 0]) (t := 59) ?hr ?_; (case hd => rfl); (case hg => rfl); (case hr => first | (go_simp; done) | (go_simp; rfl)); intro gb218 hg w9 hbox hb; have n0_ := Aside0.mk (blk_below (g := gb216) (o := .cells #[.string a0_0, .int .i64 a0_1, .slice (some ad217) l0_2.length c0_2, .slice A0_3 l0_3.length c0_3] 45 (0, 0)) (by (with_reducible repeat (first | refine blk_drewN ?_ _ | refine blk_drew ?_ | refine blk_alloc ?_ _)); exact BK216.out) hb); have n1_ := Aside0.mk (below_step (by repeat (first | (with_reducible first | exact HB.out | apply below_alloc | apply pw_below_drewN | apply below_drew1 | refine below_set ?_ GE216.out) | exact HB.out)) hb); have n2_ := Aside0.mk (hbox); have n3_ := Aside0.mk ((by rw [hg]; exact (below_size (by repeat (first | (with_reducible first | exact HB.out | apply below_alloc | apply pw_below_drewN | apply below_drew1 | refine below_set ?_ GE216.out) | exact HB.out))) : w.heap.size ≤ gb218)); have n4_ := Aside0.mk ((by rw [hg]; exact (below_size (by repeat (first | (with_reducible first | exact HB.out | apply below_alloc | apply pw_below_drewN | apply below_drew1 | refine below_set ?_ GE216.out) | exact HB.out))) : w.heap.size ≤ gb218)); have n5_ := Aside0.mk ((by rw [hg]; exact Nat.ne_of_lt (blk_lt (g := gb216) (o := .cells #[.string a0_0, .int .i64 a0_1, .slice (some ad217) l0_2.length c0_2, .slice A0_3 l0_3.length c0_3] 45 (0, 0)) (by (with_reducible repeat (first | refine blk_drewN ?_ _ | refine blk_drew ?_ | refine blk_alloc ?_ _)); exact BK216.out)) : gb216 ≠ gb218)); have n6_ := Aside0.mk ((by rw [hg]; exact Nat.ne_of_gt (blk_lt (g := gb216) (o := .cells #[.string a0_0, .int .i64 a0_1, .slice (some ad217) l0_2.length c0_2, .slice A0_3 l0_3.length c0_3] 45 (0, 0)) (by (with_reducible repeat (first | refine blk_drewN ?_ _ | refine blk_drew ?_ | refine blk_alloc ?_ _)); exact BK216.out)) : gb218 ≠ gb216)); clear BK216; clear HB; have BK216 := n0_; have HB := n1_; have BK218 := n2_; have GW218 := n3_; have GE218 := n4_; have NB216_218 := n5_; have NB218_216 := n6_; clear n0_ n1_ n2_ n3_ n4_ n5_ n6_; clear hb hbox hg; have hnb10 := NB218_216.out; have hnc10 := NB216_218.out; have hcz11_0 : w9.cell? ⟨gb218, 0, none⟩ = some (.string (⟨#[]⟩ : ByteArray)) := (blk_cell BK218.out 0).trans rfl; have hcz11_1 : w9.cell? ⟨gb218, 1, none⟩ = some (.int .i64 0) := (blk_cell BK218.out 1).trans rfl; have hcz11_2 : w9.cell? ⟨gb218, 2, none⟩ = some (.bool false) := (blk_cell BK218.out 2).trans rfl; have hcz11_3 : w9.cell? ⟨gb218, 3, none⟩ = some (.bool false) := (blk_cell BK218.out 3).trans rfl; have hcz11_4 : w9.cell? ⟨gb218, 4, none⟩ = some (.string (⟨#[]⟩ : ByteArray)) := (blk_cell BK218.out 4).trans rfl; have hcz11_5 : w9.cell? ⟨gb218, 5, none⟩ = some (.int .i64 0) := (blk_cell BK218.out 5).trans rfl; have hfz11_0 := blk_frozen BK218.out 0; have hfz11_1 := blk_frozen BK218.out 1; have hfz11_2 := blk_frozen BK218.out 2; have hfz11_3 := blk_frozen BK218.out 3; have hfz11_4 := blk_frozen BK218.out 4; have hfz11_5 := blk_frozen BK218.out 5))
              go_ret
              exact ⟨by first | rfl | (simp [errW_none, errW_some] <;> rfl) | (simp [*, errW_none, errW_some] <;> rfl), by repeat (first | (with_reducible first | exact HB.out | apply below_alloc | apply pw_below_drewN | apply below_drew1 | refine below_set ?_ GE216.out | refine below_set ?_ GE218.out) | exact HB.out)⟩
            · rw [if_neg c8] at H
              have c8b0 : (((rd_T59 l0_2 x10_1).f0).toList == a1.toList) = false := beq_eq_false_iff_ne.mpr c8
              have c8b1 : (((rd_T59 l0_2 x10_1).f0).toList != a1.toList) = true := bne_iff_ne.mpr c8
              have H' := Aside0.mk H
              clear H
              have p217 : 0 ≤ (x10_1 : Int) := of_decide_eq_true (by first | (with_reducible assumption) | assumption)
              have q217 : x10_1 < (l0_2.length : Int) := of_decide_eq_true (by first | (with_reducible assumption) | assumption)
              obtain ⟨ad217, e217, hx217_0, hx217_1, hx217_2, hx217_3, hx217_4, hx217_5⟩ := at_T59 HR0_2.out x10_1 p217 q217
              cases e217
              replace hx217_0 := (HB.out.cell (World.block_lt_of_cell? w _ hx217_0)).trans hx217_0
              replace hx217_1 := (HB.out.cell (World.block_lt_of_cell? w _ hx217_1)).trans hx217_1
              replace hx217_2 := (HB.out.cell (World.block_lt_of_cell? w _ hx217_2)).trans hx217_2
              replace hx217_3 := (HB.out.cell (World.block_lt_of_cell? w _ hx217_3)).trans hx217_3
              replace hx217_4 := (HB.out.cell (World.block_lt_of_cell? w _ hx217_4)).trans hx217_4
              replace hx217_5 := (HB.out.cell (World.block_lt_of_cell? w _ hx217_5)).trans hx217_5
              replace p217 := eq_true p217
              replace q217 := eq_true q217
              go_wp2_with (first | ((with_reducible refine gate_dst (N := 6) rfl ?_); refine box_event ?hg (N := 6) ?hd (cs := #[.string (⟨#[]⟩ : ByteArray), .int .i64 0, .bool false, .bool false, .string (⟨#[]⟩ : ByteArray), .int .i64 0]) (t := 59) ?hr ?_; (case hd => rfl); (case hg => rfl); (case hr => first | (go_simp; done) | (go_simp; rfl)); intro gb218 hg w12 hbox hb; have n0_ := Aside0.mk (blk_below (g := gb216) (o := .cells #[.string a0_0, .int .i64 a0_1, .slice (some ad217) l0_2.length c0_2, .slice A0_3 l0_3.length c0_3] 45 (0, 0)) (by (with_reducible repeat (first | refine blk_drewN ?_ _ | refine blk_drew ?_ | refine blk_alloc ?_ _)); exact BK216.out) hb); have n1_ := Aside0.mk (below_step (by repeat (first | (with_reducible first | exact HB.out | apply below_alloc | apply pw_below_drewN | apply below_drew1 | refine below_set ?_ GE216.out) | exact HB.out)) hb); have n2_ := Aside0.mk (hbox); have n3_ := Aside0.mk ((by rw [hg]; exact (below_size (by repeat (first | (with_reducible first | exact HB.out | apply below_alloc | apply pw_below_drewN | apply below_drew1 | refine below_set ?_ GE216.out) | exact HB.out))) : w.heap.size ≤ gb218)); have n4_ := Aside0.mk ((by rw [hg]; exact (below_size (by repeat (first | (with_reducible first | exact HB.out | apply below_alloc | apply pw_below_drewN | apply below_drew1 | refine below_set ?_ GE216.out) | exact HB.out))) : w.heap.size ≤ gb218)); have n5_ := Aside0.mk ((by rw [hg]; exact Nat.ne_of_lt (blk_lt (g := gb216) (o := .cells #[.string a0_0, .int .i64 a0_1, .slice (some ad217) l0_2.length c0_2, .slice A0_3 l0_3.length c0_3] 45 (0, 0)) (by (with_reducible repeat (first | refine blk_drewN ?_ _ | refine blk_drew ?_ | refine blk_alloc ?_ _)); exact BK216.out)) : gb216 ≠ gb218)); have n6_ := Aside0.mk ((by rw [hg]; exact Nat.ne_of_gt (blk_lt (g := gb216) (o := .cells #[.string a0_0, .int .i64 a0_1, .slice (some ad217) l0_2.length c0_2, .slice A0_3 l0_3.length c0_3] 45 (0, 0)) (by (with_reducible repeat (first | refine blk_drewN ?_ _ | refine blk_drew ?_ | refine blk_alloc ?_ _)); exact BK216.out)) : gb218 ≠ gb216)); clear BK216; clear HB; have BK216 := n0_; have HB := n1_; have BK218 := n2_; have GW218 := n3_; have GE218 := n4_; have NB216_218 := n5_; have NB218_216 := n6_; clear n0_ n1_ n2_ n3_ n4_ n5_ n6_; clear hb hbox hg; have hnb13 := NB218_216.out; have hnc13 := NB216_218.out; have hcz14_0 : w12.cell? ⟨gb218, 0, none⟩ = some (.string (⟨#[]⟩ : ByteArray)) := (blk_cell BK218.out 0).trans rfl; have hcz14_1 : w12.cell? ⟨gb218, 1, none⟩ = some (.int .i64 0) := (blk_cell BK218.out 1).trans rfl; have hcz14_2 : w12.cell? ⟨gb218, 2, none⟩ = some (.bool false) := (blk_cell BK218.out 2).trans rfl; have hcz14_3 : w12.cell? ⟨gb218, 3, none⟩ = some (.bool false) := (blk_cell BK218.out 3).trans rfl; have hcz14_4 : w12.cell? ⟨gb218, 4, none⟩ = some (.string (⟨#[]⟩ : ByteArray)) := (blk_cell BK218.out 4).trans rfl; have hcz14_5 : w12.cell? ⟨gb218, 5, none⟩ = some (.int .i64 0) := (blk_cell BK218.out 5).trans rfl; have hfz14_0 := blk_frozen BK218.out 0; have hfz14_1 := blk_frozen BK218.out 1; have hfz14_2 := blk_frozen BK218.out 2; have hfz14_3 := blk_frozen BK218.out 3; have hfz14_4 := blk_frozen BK218.out 4; have hfz14_5 := blk_frozen BK218.out 5))
              go_roundg k1
              case measure => have := HK1.out; omega
              case rel => exact ⟨(wrap64 (x10_1 + 1)), (by first | rfl | (simp; done) | (simp [*]; done)), H', ⟨by have := HK1.out; omega⟩, ⟨by (with_reducible repeat (first | refine blk_drewN ?_ _ | refine blk_drew ?_ | refine blk_alloc ?_ _)); refine blk_far ?_ NB216_218.out _; (with_reducible repeat (first | refine blk_drewN ?_ _ | refine blk_drew ?_ | refine blk_alloc ?_ _)); refine blk_far ?_ NB216_218.out _; (with_reducible repeat (first | refine blk_drewN ?_ _ | refine blk_drew ?_ | refine blk_alloc ?_ _)); refine blk_far ?_ NB216_218.out _; (with_reducible repeat (first | refine blk_drewN ?_ _ | refine blk_drew ?_ | refine blk_alloc ?_ _)); refine blk_far ?_ NB216_218.out _; (with_reducible repeat (first | refine blk_drewN ?_ _ | refine blk_drew ?_ | refine blk_alloc ?_ _)); refine blk_far ?_ NB216_218.out _; (with_reducible repeat (first | refine blk_drewN ?_ _ | refine blk_drew ?_ | refine blk_alloc ?_ _)); refine blk_far ?_ NB216_218.out _; (with_reducible repeat (first | refine blk_drewN ?_ _ | refine blk_drew ?_ | refine blk_alloc ?_ _)); exact BK216.out⟩, ⟨by repeat (first | (with_reducible first | exact HB.out | apply below_alloc | apply pw_below_drewN | apply below_drew1 | refine below_set ?_ GE216.out | refine below_set ?_ GE218.out) | exact HB.out)⟩⟩
          · rw [if_neg c7] at H
            exact absurd H (by simp)
        · rw [if_neg c6] at H
          exact absurd H (by simp)
      · rw [if_neg c5] at H
        have c5b0 : decide (x10_1 < (l0_2.length : Int)) = false := decide_eq_false c5
        clear c5
        obtain rfl := Option.some.inj H
        go_wp2
        go_ret
        exact ⟨by first | rfl | (simp [errW_none, errW_some] <;> rfl) | (simp [*, errW_none, errW_some] <;> rfl), by repeat (first | (with_reducible first | exact HB.out | apply below_alloc | apply pw_below_drewN | apply below_drew1 | refine below_set ?_ GE216.out) | exact HB.out)⟩
end Go.Proofs.YtefdfgmlmjnmlaaDoor.Rf
end

section
namespace Go.Proofs.YtefdfgmlmjnmlaaDoor.My
open Go.RowKit Go.Proofs.YtefdfgmlmjnmlaaDoorW.PrintWords Go.Proofs.YtefdfgmlmjnmlaaDoor.Rf
theorem place_l0 (l : List S59) (nm : ByteArray) (hl : l.length ≤ 9223372036854775807) : ∀ d i k, i + d = l.length → d < k → (∀ j, j < i → isC nm (l.getD j z59) = false) →
    mortmainref09_Place.l0 k nm l (l.length : Int) (i : Int) = some (placeC l nm) := by
  intro d
  induction d with
  | zero =>
    intro i k hi hk ha
    obtain ⟨k, rfl⟩ : ∃ m, k = m + 1 := ⟨k - 1, by omega⟩
    simp only [mortmainref09_Place.l0]
    rw [if_neg (by omega)]
    congr 1
    exact (idx_none _ l z59 (fun j hj => ha j (by omega))).symm
  | succ d ih =>
    intro i k hi hk ha
    obtain ⟨k, rfl⟩ : ∃ m, k = m + 1 := ⟨k - 1, by omega⟩
    have hlt : i < l.length := by omega
    simp only [mortmainref09_Place.l0]
    rw [if_pos (by omega), if_pos (by omega), if_pos (by omega), wrap_next hlt hl, rd59_nat]
    by_cases e : (l.getD i z59).f0.toList = nm.toList
    · rw [if_pos e]
      congr 1
      exact (idx_hit _ l z59 i hlt ha (by simp only [isC]; rw [e]; simp)).symm
    · rw [if_neg e]
      refine ih (i + 1) k (by omega) (by omega) (fun j hj => ?_)
      rcases Nat.lt_or_ge j i with h | h
      · exact ha j h
      · obtain rfl : j = i := by omega
        simp only [isC]; exact beq_eq_false_iff_ne.2 e
theorem place_ev (a : ByteArray) (b : Int) (l : List S59) (ck : List S72) (nm : ByteArray) (hl : l.length ≤ 9223372036854775807) : Ev (fun k => mortmainref09_Place.f k a b l ck nm) (placeC l nm) :=
  Ev.of (k := l.length + 1) (fun k => mortmainref09_Place.mono _ _ _ _ _ _) (place_l0 l nm hl l.length 0 (l.length + 1) (by omega) (by omega) (fun j hj => absurd hj (by omega)))
theorem place_le (l : List S59) (i : Nat) (h : i < l.length) : placeC l (l.getD i z59).f0 ≤ (i : Int) := by
  have h1 : isC (l.getD i z59).f0 (l.getD i z59) = true := by simp [isC]
  have h2 : l.findIdx (isC (l.getD i z59).f0) ≤ i := by
    apply Nat.le_of_not_lt
    intro hlt
    have := List.not_of_lt_findIdx hlt
    rw [show l[i] = l.getD i z59 by simp [List.getD, List.getElem?_eq_getElem h]] at this
    rw [h1] at this
    cases this
  unfold placeC idx
  split <;> omega
end Go.Proofs.YtefdfgmlmjnmlaaDoor.My
end
