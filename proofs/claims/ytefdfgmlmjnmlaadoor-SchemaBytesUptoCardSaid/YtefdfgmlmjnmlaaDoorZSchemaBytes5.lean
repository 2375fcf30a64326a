/- Lemmas for the law SchemaBytes: what the functions that it reaches compute, with those words of the kit's print that they use. No condition. Joined out of this session's smaller texts (part 5 of 7). -/
import Derived.Test.YtefdfgmlmjnmlaaDoorZSchemaBytes2
import Derived.Test.YtefdfgmlmjnmlaaDoorZSchemaBytes3
import Derived.Test.YtefdfgmlmjnmlaaDoorZSchemaBytes4
section
set_option linter.unusedVariables false
set_option linter.unusedSimpArgs false
namespace Go.Proofs.YtefdfgmlmjnmlaaDoor.Rf
open Go.RowKit Go.Proofs.YtefdfgmlmjnmlaaDoorW.PrintWords Go.Proofs.YtefdfgmlmjnmlaaDoorW.PrintLast Go.Proofs.YtefdfgmlmjnmlaaDoorW.PrintMore
attribute [local go_sem] jCg jCo
mutual
def jBb.l0 : Nat → Int → Int → ByteArray → Int → Bool → ByteArray → Int → List (S59) → Option (ByteArray × Int × (List (S59)) × (List (S72)) × ByteArray × Int × Bool)
 | 0, _, _, _, _, _, _, _, _ => none
 | k + 1, x12, x13, x1000, x1001, x1002, x236000, x236001, x236002 => if x13 < x12 then ((jBr.f k x1000 x1001 x1002).bind fun bt249 => ((jBr.f k bt249.2.1 bt249.2.2.1 bt249.2.2.2).bind fun bt253 => ((jAm.f k bt253.2.1 bt253.2.2.1 bt253.2.2.2).bind fun bt257 => ((jAm.f k bt257.2.1 bt257.2.2.1 bt257.2.2.2).bind fun bt261 => ((jBz.f k bt261.2.1 bt261.2.2.1 bt261.2.2.2).bind fun bt265 => ((jBz.f k bt265.2.1 bt265.2.2.1 bt265.2.2.2).bind fun bt269 => (if x236002.length < 2513169434916 then (jBb.l0 k x12 (wrap64 (x13 + 1)) bt269.2.1 bt269.2.2.1 bt269.2.2.2 x236000 x236001 (x236002 ++ [(⟨bt249.1, bt257.1, bt265.1, bt269.1, bt253.1, bt261.1⟩ : S59)])) else (none)))))))) else ((jBk.f k x1000 x1001 x1002 4).bind fun bt276 => (jBb.l1 k bt276.1 0 bt276.2.1 bt276.2.2.1 bt276.2.2.2 x236000 x236001 x236002 ([] : List (S72))))
def jBb.l1 : Nat → Int → Int → ByteArray → Int → Bool → ByteArray → Int → List (S59) → List (S72) → Option (ByteArray × Int × (List (S59)) × (List (S72)) × ByteArray × Int × Bool)
 | 0, _, _, _, _, _, _, _, _, _ => none
 | k + 1, x41, x42, x1000, x1001, x1002, x236000, x236001, x236002, x236003 => if x42 < x41 then ((jBi.f k x1000 x1001 x1002 8).bind fun bt280 => (if x236003.length < 1954687338268 then (jBb.l1 k x41 (wrap64 (x42 + 1)) bt280.2.2.2.2.2.2.1 bt280.2.2.2.2.2.2.2.1 bt280.2.2.2.2.2.2.2.2 x236000 x236001 x236002 (x236003 ++ [(⟨bt280.1, bt280.2.1, (⟨bt280.2.2.1, bt280.2.2.2.1, bt280.2.2.2.2.1⟩ : S70), bt280.2.2.2.2.2.1⟩ : S72)])) else (none))) else (some (x236000, x236001, x236002, x236003, x1000, x1001, x1002))
end
def jBb.f (k : Nat) (s0_0 : ByteArray) (s0_1 : Int) (s0_2 : Bool) : Option (ByteArray × Int × (List (S59)) × (List (S72)) × ByteArray × Int × Bool) := (jBr.f k s0_0 s0_1 s0_2).bind fun bt236 => ((jAm.f k bt236.2.1 bt236.2.2.1 bt236.2.2.2).bind fun bt240 => ((jBk.f k bt240.2.1 bt240.2.2.1 bt240.2.2.2 6).bind fun bt244 => (jBb.l0 k bt244.1 0 bt244.2.1 bt244.2.2.1 bt244.2.2.2 bt236.1 bt240.1 ([] : List (S59)))))
def jBb.T17 : Bool × List (List Nat × List Nat) := (true, [([], []), ([0], [0]), ([], []), ([2], [2]), ([3], [3]), ([1, 4, 3], [1, 4]), ([0, 1, 2, 3, 4, 5], []), ([6, 5, 5, 0, 1, 2, 3, 4, 5], [5, 6])])
def jBb.B17 : List Nat := [0, 1, 0, 4, 12, 31, 63, 127]
theorem jBb.tab17 : rtab .any (opsOf Tryd.f67 17) = jBb.T17 := by kernel_rfl
theorem jBb.bits17 : jDq jBb.T17.2 jBb.B17 = true := by kernel_rfl
set_option maxHeartbeats 8000000 in
set_option maxRecDepth 100000 in
theorem jBb.calls (k : Nat) (g : Nat) (s0_0 : ByteArray) (s0_1 : Int) (s0_2 : Bool) (r1 : ByteArray) (r2 : Int) (r3 : List (S59)) (r4 : List (S72)) (r5 : ByteArray) (r6 : Int) (r7 : Bool) (w0 w : World) (hI : jAc w0 w g s0_0 s0_1 s0_2) (hB : Below w0.heap.size w0 w) (h : jBb.f k s0_0 s0_1 s0_2 = some (r1, r2, r3, r4, r5, r6, r7)) :
  Calls Tryd.prog 67 #[.pointer (some ⟨g, 0, none⟩)] w fun e w' => ∃ v2_ v3_ : Value, e = .returned (.agg #[.string r1, .int .i64 r2, v2_, v3_]) ∧ Kd.R k59 59 w' w.heap.size (fun _ => True) v2_ r3 ∧ Kd.R k72 72 w' w.heap.size (fun _ => True) v3_ r4 ∧ jAc w0 w' g r5 r6 r7 ∧ Below w0.heap.size w0 w' ∧ jAn w w' g none := by
 have hu45 := Tryd.underlying45
 have hu59 := Tryd.underlying59
 have HI0 := jAa.mk hI
 have HK := jAa.mk (jAn.refl w g none)
 have HL := jAa.mk hB.size
 clear hI
 have HW0 := jAa.mk hB.size
 have HB := jAa.mk hB
 clear hB
 have H : ((jBr.f k s0_0 s0_1 s0_2).bind fun bt236 => ((jAm.f k bt236.2.1 bt236.2.2.1 bt236.2.2.2).bind fun bt240 => ((jBk.f k bt240.2.1 bt240.2.2.1 bt240.2.2.2 6).bind fun bt244 => (jBb.l0 k bt244.1 0 bt244.2.1 bt244.2.2.1 bt244.2.2.2 bt236.1 bt240.1 ([] : List (S59)))))) = some (r1, r2, r3, r4, r5, r6, r7) := h
 clear h
 replace H := Option.bind_eq_some_iff.mp H
 obtain ⟨⟨t236, t237, t238, t239⟩, A20, H⟩ := H
 replace H : ((jAm.f k t237 t238 t239).bind fun bt240 => ((jBk.f k bt240.2.1 bt240.2.2.1 bt240.2.2.2 6).bind fun bt244 => (jBb.l0 k bt244.1 0 bt244.2.1 bt244.2.2.1 bt244.2.2.2 t236 bt240.1 ([] : List (S59))))) = some (r1, r2, r3, r4, r5, r6, r7) := H
 have A2 := jAa.mk A20
 clear A20
 replace H := Option.bind_eq_some_iff.mp H
 obtain ⟨⟨t240, t241, t242, t243⟩, A30, H⟩ := H
 replace H : ((jBk.f k t241 t242 t243 6).bind fun bt244 => (jBb.l0 k bt244.1 0 bt244.2.1 bt244.2.2.1 bt244.2.2.2 t236 t240 ([] : List (S59)))) = some (r1, r2, r3, r4, r5, r6, r7) := H
 have A3 := jAa.mk A30
 clear A30
 replace H := Option.bind_eq_some_iff.mp H
 obtain ⟨⟨t244, t245, t246, t247⟩, A40, H⟩ := H
 replace H : (jBb.l0 k t244 0 t245 t246 t247 t236 t240 ([] : List (S59))) = some (r1, r2, r3, r4, r5, r6, r7) := H
 have A4 := jAa.mk A40
 clear A40
 have H' := jAa.mk H
 clear H
 go_enter Tryd.func67, Tryd.ntmps67
 go_wp2_with (first | ((with_reducible refine jCa (N := 2) rfl ?_); refine jBv ?hg (N := 2) ?hd (cs := #[.string (⟨#[]⟩ : ByteArray), .int .i64 0, .slice none 0 0, .slice none 0 0]) (t := 45) ?hr ?_; (case hd => rfl); (case hg => rfl); (case hr => first | (go_simp; done) | (go_simp; rfl)); intro gb234 hg w5 hbox hb; have n0_ := jAa.mk (jAc.below (by repeat (first | (with_reducible first | exact HI0.out | apply jAc.alloc | apply jAc.drewN | apply jAc.drew | apply jAc.set_0 | apply jAc.set_1 | apply jAc.set_2) | exact HI0.out)) hb); have n1_ := jAa.mk (jAn.trans (by repeat (first | (with_reducible first | exact HK.out | apply jAn.set_ | apply jAs | apply jAw | apply jAt) | exact HK.out)) (jAn.of_below hb g none) (.inl rfl)); have n2_ := jAa.mk (jAu (by repeat (first | (with_reducible first | exact HB.out | apply jAj | apply jAd | apply jAk | refine jAh ?_ (jAc.ge HI0.out)) | exact HB.out)) hb); have n3_ := jAa.mk (hbox); have n4_ := jAa.mk ((by rw [hg]; exact (jCh (w := w) (g := g) (row := none) (by repeat (first | (with_reducible first | exact HK.out | apply jAn.set_ | apply jAs | apply jAw | apply jAt) | exact HK.out))) : w.heap.size ≤ gb234)); have n5_ := jAa.mk ((Nat.le_trans HW0.out (by rw [hg]; exact (jCh (w := w) (g := g) (row := none) (by repeat (first | (with_reducible first | exact HK.out | apply jAn.set_ | apply jAs | apply jAw | apply jAt) | exact HK.out))) : w.heap.size ≤ gb234) : w0.heap.size ≤ gb234)); have n6_ := jAa.mk ((by rw [hg]; exact Nat.ne_of_lt (jAc.lt (show jAc w0 _ g s0_0 s0_1 s0_2 from by repeat (first | (with_reducible first | exact HI0.out | apply jAc.alloc | apply jAc.drewN | apply jAc.drew | apply jAc.set_0 | apply jAc.set_1 | apply jAc.set_2) | exact HI0.out))) : g ≠ gb234)); have n7_ := jAa.mk ((by rw [hg]; exact Nat.ne_of_gt (jAc.lt (show jAc w0 _ g s0_0 s0_1 s0_2 from by repeat (first | (with_reducible first | exact HI0.out | apply jAc.alloc | apply jAc.drewN | apply jAc.drew | apply jAc.set_0 | apply jAc.set_1 | apply jAc.set_2) | exact HI0.out))) : gb234 ≠ g)); clear HI0; clear HK; clear HB; have HI0 := n0_; have HK := n1_; have HB := n2_; have BK234 := n3_; have GW234 := n4_; have GE234 := n5_; have NB0_234 := n6_; have NB234_0 := n7_; clear n0_ n1_ n2_ n3_ n4_ n5_ n6_ n7_; clear hb hbox hg) | ((with_reducible refine jCa (N := 3) rfl ?_); refine jBv ?hg (N := 3) ?hd (cs := #[.string (⟨#[]⟩ : ByteArray), .int .i64 0, .slice none 0 0, .slice none 0 0]) (t := 45) ?hr ?_; (case hd => rfl); (case hg => rfl); (case hr => first | (go_simp; done) | (go_simp; rfl)); intro gb235 hg w6 hbox hb; have n0_ := jAa.mk (jAc.below (by repeat (first | (with_reducible first | exact HI0.out | apply jAc.alloc | apply jAc.drewN | apply jAc.drew | apply jAc.set_0 | apply jAc.set_1 | apply jAc.set_2 | refine jAc.far ?_ NB0_234.out _) | exact HI0.out)) hb); have n1_ := jAa.mk (jAp (g := gb234) (o := .cells #[.string (⟨#[]⟩ : ByteArray), .int .i64 0, .slice none 0 0, .slice none 0 0] 45 (0, 0)) (by (with_reducible repeat (first | refine jAf ?_ _ | refine jAi ?_ | refine jAe ?_ _)); exact BK234.out) hb); have n2_ := jAa.mk (jAn.trans (by repeat (first | (with_reducible first | exact HK.out | apply jAn.set_ | apply jAs | apply jAw | apply jAt | refine jBh ?_ GW234.out _) | exact HK.out)) (jAn.of_below hb g none) (.inl rfl)); have n3_ := jAa.mk (jAu (by repeat (first | (with_reducible first | exact HB.out | apply jAj | apply jAd | apply jAk | refine jAh ?_ (jAc.ge HI0.out) | refine jAh ?_ GE234.out) | exact HB.out)) hb); have n4_ := jAa.mk (hbox); have n5_ := jAa.mk ((by rw [hg]; exact (jCh (w := w) (g := g) (row := none) (by repeat (first | (with_reducible first | exact HK.out | apply jAn.set_ | apply jAs | apply jAw | apply jAt | refine jBh ?_ GW234.out _) | exact HK.out))) : w.heap.size ≤ gb235)); have n6_ := jAa.mk ((Nat.le_trans HW0.out (by rw [hg]; exact (jCh (w := w) (g := g) (row := none) (by repeat (first | (with_reducible first | exact HK.out | apply jAn.set_ | apply jAs | apply jAw | apply jAt | refine jBh ?_ GW234.out _) | exact HK.out))) : w.heap.size ≤ gb235) : w0.heap.size ≤ gb235)); have n7_ := jAa.mk ((by rw [hg]; exact Nat.ne_of_lt (jBu (g := gb234) (o := .cells #[.string (⟨#[]⟩ : ByteArray), .int .i64 0, .slice none 0 0, .slice none 0 0] 45 (0, 0)) (by (with_reducible repeat (first | refine jAf ?_ _ | refine jAi ?_ | refine jAe ?_ _)); exact BK234.out)) : gb234 ≠ gb235)); have n8_ := jAa.mk ((by rw [hg]; exact Nat.ne_of_gt (jBu (g := gb234) (o := .cells #[.string (⟨#[]⟩ : ByteArray), .int .i64 0, .slice none 0 0, .slice none 0 0] 45 (0, 0)) (by (with_reducible repeat (first | refine jAf ?_ _ | refine jAi ?_ | refine jAe ?_ _)); exact BK234.out)) : gb235 ≠ gb234)); have n9_ := jAa.mk ((by rw [hg]; exact Nat.ne_of_lt (jAc.lt (show jAc w0 _ g s0_0 s0_1 s0_2 from by repeat (first | (with_reducible first | exact HI0.out | apply jAc.alloc | apply jAc.drewN | apply jAc.drew | apply jAc.set_0 | apply jAc.set_1 | apply jAc.set_2 | refine jAc.far ?_ NB0_234.out _) | exact HI0.out))) : g ≠ gb235)); have n10_ := jAa.mk ((by rw [hg]; exact Nat.ne_of_gt (jAc.lt (show jAc w0 _ g s0_0 s0_1 s0_2 from by repeat (first | (with_reducible first | exact HI0.out | apply jAc.alloc | apply jAc.drewN | apply jAc.drew | apply jAc.set_0 | apply jAc.set_1 | apply jAc.set_2 | refine jAc.far ?_ NB0_234.out _) | exact HI0.out))) : gb235 ≠ g)); clear HI0; clear BK234; clear HK; clear HB; have HI0 := n0_; have BK234 := n1_; have HK := n2_; have HB := n3_; have BK235 := n4_; have GW235 := n5_; have GE235 := n6_; have NB234_235 := n7_; have NB235_234 := n8_; have NB0_235 := n9_; have NB235_0 := n10_; clear n0_ n1_ n2_ n3_ n4_ n5_ n6_ n7_ n8_ n9_ n10_; clear hb hbox hg) | ((with_reducible refine jBl (f := 68) rfl ?_); refine jCe (some 6) rfl rfl Tryd.func68 (by kernel_rfl) rfl #[.pointer (some ⟨g, 0, none⟩)] rfl (by (try simp only [List.map_toArray, List.map_cons, List.map_nil]); first | done | rfl | (simp only [List.length_drop, List.length_take]; rfl)) ?_; (with_reducible refine (jBr.calls k g s0_0 s0_1 s0_2 t236 t237 t238 t239 w0 _ ?side1 ?side2 A2.out).mono ?_); (case side1 => repeat (first | (with_reducible first | exact HI0.out | apply jAc.alloc | apply jAc.drewN | apply jAc.drew | apply jAc.set_0 | apply jAc.set_1 | apply jAc.set_2 | refine jAc.far ?_ NB0_234.out _ | refine jAc.far ?_ NB0_235.out _) | exact HI0.out)); (case side2 => repeat (first | (with_reducible first | exact HB.out | apply jAj | apply jAd | apply jAk | refine jAh ?_ (jAc.ge HI0.out) | refine jAh ?_ GE234.out | refine jAh ?_ GE235.out) | exact HB.out)); rintro e w7 ⟨rfl, hi, hb, hk⟩; refine ⟨_, rfl, ?_⟩; have n0_ := jAa.mk (jAn.blk hk (g' := gb234) (o := .cells #[.string (⟨#[]⟩ : ByteArray), .int .i64 0, .slice none 0 0, .slice none 0 0] 45 (0, 0)) (by (with_reducible repeat (first | refine jAf ?_ _ | refine jAi ?_ | refine jAe ?_ _)); exact BK234.out) NB234_0.out (by simp)); have n1_ := jAa.mk (jAn.blk hk (g' := gb235) (o := .cells #[.string (⟨#[]⟩ : ByteArray), .int .i64 0, .slice none 0 0, .slice none 0 0] 45 (0, 0)) (by (with_reducible repeat (first | refine jAf ?_ _ | refine jAi ?_ | refine jAe ?_ _)); exact BK235.out) NB235_0.out (by simp)); have n2_ := jAa.mk (jAn.trans (by repeat (first | (with_reducible first | exact HK.out | apply jAn.set_ | apply jAs | apply jAw | apply jAt | refine jBh ?_ GW234.out _ | refine jBh ?_ GW235.out _) | exact HK.out)) hk (.inl rfl)); have n3_ := jAa.mk (hb); have n4_ := jAa.mk (hi); clear BK234; clear BK235; clear HK; clear HB; clear HI0; have BK234 := n0_; have BK235 := n1_; have HK := n2_; have HB := n3_; have HI0 := n4_; clear n0_ n1_ n2_ n3_ n4_; (try clear hb); (try clear hb2); (try clear hk); (try clear hi); have hnb8 := NB235_234.out; have hnc8 := NB234_235.out; have hnb9 := NB235_0.out; have hnc9 := NB0_235.out; have hcz10_0 : w7.cell? ⟨gb235, 0, none⟩ = some (.string (⟨#[]⟩ : ByteArray)) := (jAb BK235.out 0).trans rfl; have hcz10_1 : w7.cell? ⟨gb235, 1, none⟩ = some (.int .i64 0) := (jAb BK235.out 1).trans rfl; have hcz10_2 : w7.cell? ⟨gb235, 2, none⟩ = some (.slice none 0 0) := (jAb BK235.out 2).trans rfl; have hcz10_3 : w7.cell? ⟨gb235, 3, none⟩ = some (.slice none 0 0) := (jAb BK235.out 3).trans rfl; have hfz10_0 := jAg BK235.out 0; have hfz10_1 := jAg BK235.out 1; have hfz10_2 := jAg BK235.out 2; have hfz10_3 := jAg BK235.out 3) | ((with_reducible refine jBl (f := 65) rfl ?_); refine jCe (some 9) rfl rfl Tryd.func65 (by kernel_rfl) rfl #[.pointer (some ⟨g, 0, none⟩)] rfl (by (try simp only [List.map_toArray, List.map_cons, List.map_nil]); first | done | rfl | (simp only [List.length_drop, List.length_take]; rfl)) ?_; (with_reducible refine (jAm.calls k g t237 t238 t239 t240 t241 t242 t243 w0 _ ?side1 ?side2 A3.out).mono ?_); (case side1 => repeat (first | (with_reducible first | exact HI0.out | apply jAc.alloc | apply jAc.drewN | apply jAc.drew | apply jAc.set_0 | apply jAc.set_1 | apply jAc.set_2 | refine jAc.far ?_ NB0_234.out _ | refine jAc.far ?_ NB0_235.out _) | exact HI0.out)); (case side2 => repeat (first | (with_reducible first | exact HB.out | apply jAj | apply jAd | apply jAk | refine jAh ?_ (jAc.ge HI0.out) | refine jAh ?_ GE234.out | refine jAh ?_ GE235.out) | exact HB.out)); rintro e w11 ⟨rfl, hi, hb, hk⟩; refine ⟨_, rfl, ?_⟩; have n0_ := jAa.mk (jAn.blk hk (g' := gb234) (o := .cells #[.string (⟨#[]⟩ : ByteArray), .int .i64 0, .slice none 0 0, .slice none 0 0] 45 (0, 0)) (by (with_reducible repeat (first | refine jAf ?_ _ | refine jAi ?_ | refine jAe ?_ _)); refine jBa ?_ NB234_235.out _; (with_reducible repeat (first | refine jAf ?_ _ | refine jAi ?_ | refine jAe ?_ _)); exact BK234.out) NB234_0.out (by simp)); have n1_ := jAa.mk (jAn.blk hk (g' := gb235) (o := .cells #[.string t236, .int .i64 0, .slice none 0 0, .slice none 0 0] 45 (0, 0)) (by (with_reducible repeat (first | refine jAf ?_ _ | refine jAi ?_ | refine jAe ?_ _)); refine jBf (cs := #[.string (⟨#[]⟩ : ByteArray), .int .i64 0, .slice none 0 0, .slice none 0 0]) ?_ 0 _ rfl; (with_reducible repeat (first | refine jAf ?_ _ | refine jAi ?_ | refine jAe ?_ _)); exact BK235.out) NB235_0.out (by simp)); have n2_ := jAa.mk (jAn.trans (by repeat (first | (with_reducible first | exact HK.out | apply jAn.set_ | apply jAs | apply jAw | apply jAt | refine jBh ?_ GW234.out _ | refine jBh ?_ GW235.out _) | exact HK.out)) hk (.inl rfl)); have n3_ := jAa.mk (hb); have n4_ := jAa.mk (hi); clear BK234; clear BK235; clear HK; clear HB; clear HI0; have BK234 := n0_; have BK235 := n1_; have HK := n2_; have HB := n3_; have HI0 := n4_; clear n0_ n1_ n2_ n3_ n4_; (try clear hb); (try clear hb2); (try clear hk); (try clear hi); have hcz12_0 : w11.cell? ⟨gb235, 0, none⟩ = some (.string t236) := (jAb BK235.out 0).trans rfl; have hcz12_1 : w11.cell? ⟨gb235, 1, none⟩ = some (.int .i64 0) := (jAb BK235.out 1).trans rfl; have hcz12_2 : w11.cell? ⟨gb235, 2, none⟩ = some (.slice none 0 0) := (jAb BK235.out 2).trans rfl; have hcz12_3 : w11.cell? ⟨gb235, 3, none⟩ = some (.slice none 0 0) := (jAb BK235.out 3).trans rfl; have hfz12_0 := jAg BK235.out 0; have hfz12_1 := jAg BK235.out 1; have hfz12_2 := jAg BK235.out 2; have hfz12_3 := jAg BK235.out 3) | ((with_reducible refine jBl (f := 66) rfl ?_); refine jCe (some 12) rfl rfl Tryd.func66 (by kernel_rfl) rfl #[.pointer (some ⟨g, 0, none⟩), .int .i64 6] rfl (by (try simp only [List.map_toArray, List.map_cons, List.map_nil]); first | done | rfl | (simp only [List.length_drop, List.length_take]; rfl)) ?_; (with_reducible refine (jBk.calls k g t241 t242 t243 6 t244 t245 t246 t247 w0 _ ?side1 ?side2 A4.out).mono ?_); (case side1 => repeat (first | (with_reducible first | exact HI0.out | apply jAc.alloc | apply jAc.drewN | apply jAc.drew | apply jAc.set_0 | apply jAc.set_1 | apply jAc.set_2 | refine jAc.far ?_ NB0_234.out _ | refine jAc.far ?_ NB0_235.out _) | exact HI0.out)); (case side2 => repeat (first | (with_reducible first | exact HB.out | apply jAj | apply jAd | apply jAk | refine jAh ?_ (jAc.ge HI0.out) | refine jAh ?_ GE234.out | refine jAh ?_ GE235.out) | exact HB.out)); rintro e w13 ⟨rfl, hi, hb, hk⟩; refine ⟨_, rfl, ?_⟩; have n0_ := jAa.mk (jAn.blk hk (g' := gb234) (o := .cells #[.string (⟨#[]⟩ : ByteArray), .int .i64 0, .slice none 0 0, .slice none 0 0] 45 (0, 0)) (by (with_reducible repeat (first | refine jAf ?_ _ | refine jAi ?_ | refine jAe ?_ _)); refine jBa ?_ NB234_235.out _; (with_reducible repeat (first | refine jAf ?_ _ | refine jAi ?_ | refine jAe ?_ _)); exact BK234.out) NB234_0.out (by simp)); have n1_ := jAa.mk (jAn.blk hk (g' := gb235) (o := .cells #[.string t236, .int .i64 t240, .slice none 0 0, .slice none 0 0] 45 (0, 0)) (by (with_reducible repeat (first | refine jAf ?_ _ | refine jAi ?_ | refine jAe ?_ _)); refine jBf (cs := #[.string t236, .int .i64 0, .slice none 0 0, .slice none 0 0]) ?_ 1 _ rfl; (with_reducible repeat (first | refine jAf ?_ _ | refine jAi ?_ | refine jAe ?_ _)); exact BK235.out) NB235_0.out (by simp)); have n2_ := jAa.mk (jAn.trans (by repeat (first | (with_reducible first | exact HK.out | apply jAn.set_ | apply jAs | apply jAw | apply jAt | refine jBh ?_ GW234.out _ | refine jBh ?_ GW235.out _) | exact HK.out)) hk (.inl rfl)); have n3_ := jAa.mk (hb); have n4_ := jAa.mk (hi); clear BK234; clear BK235; clear HK; clear HB; clear HI0; have BK234 := n0_; have BK235 := n1_; have HK := n2_; have HB := n3_; have HI0 := n4_; clear n0_ n1_ n2_ n3_ n4_; (try clear hb); (try clear hb2); (try clear hk); (try clear hi)))
 go_loopg [13] k (fun kq v13 w' => ∃ (x13_1 : Int) (x1000_1 : ByteArray) (x1001_1 : Int) (x1002_1 : Bool) (x236002_1 : List (S59)) (u236002 : Value), v13 = .int .i64 x13_1 ∧ jAa (jBb.l0 kq t244 x13_1 x1000_1 x1001_1 x1002_1 t236 t240 x236002_1 = some (r1, r2, r3, r4, r5, r6, r7)) ∧ jAa (kq ≤ k) ∧ jAa (Kd.R k59 59 w' w.heap.size (fun _ => True) u236002 x236002_1) ∧ jAa (w'.heap[gb234]? = some (.cells #[.string (⟨#[]⟩ : ByteArray), .int .i64 0, (.slice none 0 0), (.slice none 0 0)] 45 (0, 0))) ∧ jAa (w'.heap[gb235]? = some (.cells #[.string t236, .int .i64 t240, u236002, (.slice none 0 0)] 45 (0, 0))) ∧ jAa (jAc w0 w' g x1000_1 x1001_1 x1002_1) ∧ jAa (jAn w w' g none) ∧ jAa (Below w0.heap.size w0 w'))
 case atStart => exact ⟨(0), (t245), (t246), (t247), (([] : List (S59))), (.slice none 0 0), (by first | rfl | (simp; done) | (simp [*]; done)), H', ⟨Nat.le_refl _⟩, ⟨by first | exact Kd.R_nil _ _ _ _ _ | exact Kd.N_nil _ _ _ _ _ | exact Kd.V_nil _ _ _ _ _ | exact Kd.Q_nil _ _ _ _ _ | exact Kd.S_nil _ _ _ _ _⟩, ⟨by (with_reducible repeat (first | refine jAf ?_ _ | refine jAi ?_ | refine jAe ?_ _)); exact BK234.out⟩, ⟨by (with_reducible repeat (first | refine jAf ?_ _ | refine jAi ?_ | refine jAe ?_ _)); exact BK235.out⟩, ⟨by repeat (first | (with_reducible first | exact HI0.out | apply jAc.alloc | apply jAc.drewN | apply jAc.drew | apply jAc.set_0 | apply jAc.set_1 | apply jAc.set_2 | refine jAc.far ?_ NB0_234.out _ | refine jAc.far ?_ NB0_235.out _) | exact HI0.out)⟩, ⟨by repeat (first | (with_reducible first | exact HK.out | apply jAn.set_ | apply jAs | apply jAw | apply jAt | refine jBh ?_ GW234.out _ | refine jBh ?_ GW235.out _) | exact HK.out)⟩, ⟨by repeat (first | (with_reducible first | exact HB.out | apply jAj | apply jAd | apply jAk | refine jAh ?_ (jAc.ge HI0.out) | refine jAh ?_ GE234.out | refine jAh ?_ GE235.out) | exact HB.out)⟩⟩
 case round =>
  clear H'
  try clear p2
  try clear c6
  try clear c8
  try clear c9
  try clear hcz10_0
  try clear hcz10_1
  try clear hcz10_2
  try clear hcz10_3
  try clear hcz12_0
  try clear hcz12_1
  try clear hcz12_2
  try clear hcz12_3
  try clear hfz10_0
  try clear hfz10_1
  try clear hfz10_2
  try clear hfz10_3
  try clear hfz12_0
  try clear hfz12_1
  try clear hfz12_2
  try clear hfz12_3
  obtain ⟨x13_1, x1000_1, x1001_1, x1002_1, x236002_1, u236002, rfl, HA, HK1, HO_236002, BK234, BK235, HI0, HK, HB⟩ := hrel
  cases gk with
  | zero => exact absurd HA.out (by simp [jBb.l0])
  | succ k1 =>
   have H := HA.out
   clear HA
   simp only [jBb.l0] at H
   by_cases c14 : x13_1 < t244
   ·rw [if_pos c14] at H
    have c14b0 : decide (x13_1 < t244) = true := decide_eq_true c14
    clear c14
    replace H := Option.bind_eq_some_iff.mp H
    obtain ⟨⟨t249, t250, t251, t252⟩, A150, H⟩ := H
    replace H : ((jBr.f k1 t250 t251 t252).bind fun bt253 => ((jAm.f k1 bt253.2.1 bt253.2.2.1 bt253.2.2.2).bind fun bt257 => ((jAm.f k1 bt257.2.1 bt257.2.2.1 bt257.2.2.2).bind fun bt261 => ((jBz.f k1 bt261.2.1 bt261.2.2.1 bt261.2.2.2).bind fun bt265 => ((jBz.f k1 bt265.2.1 bt265.2.2.1 bt265.2.2.2).bind fun bt269 => (if x236002_1.length < 2513169434916 then (jBb.l0 k1 t244 (wrap64 (x13_1 + 1)) bt269.2.1 bt269.2.2.1 bt269.2.2.2 t236 t240 (x236002_1 ++ [(⟨t249, bt257.1, bt265.1, bt269.1, bt253.1, bt261.1⟩ : S59)])) else (none))))))) = some (r1, r2, r3, r4, r5, r6, r7) := H
    have A15 := jAa.mk A150
    clear A150
    replace H := Option.bind_eq_some_iff.mp H
    obtain ⟨⟨t253, t254, t255, t256⟩, A160, H⟩ := H
    replace H : ((jAm.f k1 t254 t255 t256).bind fun bt257 => ((jAm.f k1 bt257.2.1 bt257.2.2.1 bt257.2.2.2).bind fun bt261 => ((jBz.f k1 bt261.2.1 bt261.2.2.1 bt261.2.2.2).bind fun bt265 => ((jBz.f k1 bt265.2.1 bt265.2.2.1 bt265.2.2.2).bind fun bt269 => (if x236002_1.length < 2513169434916 then (jBb.l0 k1 t244 (wrap64 (x13_1 + 1)) bt269.2.1 bt269.2.2.1 bt269.2.2.2 t236 t240 (x236002_1 ++ [(⟨t249, bt257.1, bt265.1, bt269.1, t253, bt261.1⟩ : S59)])) else (none)))))) = some (r1, r2, r3, r4, r5, r6, r7) := H
    have A16 := jAa.mk A160
    clear A160
    replace H := Option.bind_eq_some_iff.mp H
    obtain ⟨⟨t257, t258, t259, t260⟩, A170, H⟩ := H
    replace H : ((jAm.f k1 t258 t259 t260).bind fun bt261 => ((jBz.f k1 bt261.2.1 bt261.2.2.1 bt261.2.2.2).bind fun bt265 => ((jBz.f k1 bt265.2.1 bt265.2.2.1 bt265.2.2.2).bind fun bt269 => (if x236002_1.length < 2513169434916 then (jBb.l0 k1 t244 (wrap64 (x13_1 + 1)) bt269.2.1 bt269.2.2.1 bt269.2.2.2 t236 t240 (x236002_1 ++ [(⟨t249, t257, bt265.1, bt269.1, t253, bt261.1⟩ : S59)])) else (none))))) = some (r1, r2, r3, r4, r5, r6, r7) := H
    have A17 := jAa.mk A170
    clear A170
    replace H := Option.bind_eq_some_iff.mp H
    obtain ⟨⟨t261, t262, t263, t264⟩, A180, H⟩ := H
    replace H : ((jBz.f k1 t262 t263 t264).bind fun bt265 => ((jBz.f k1 bt265.2.1 bt265.2.2.1 bt265.2.2.2).bind fun bt269 => (if x236002_1.length < 2513169434916 then (jBb.l0 k1 t244 (wrap64 (x13_1 + 1)) bt269.2.1 bt269.2.2.1 bt269.2.2.2 t236 t240 (x236002_1 ++ [(⟨t249, t257, bt265.1, bt269.1, t253, t261⟩ : S59)])) else (none)))) = some (r1, r2, r3, r4, r5, r6, r7) := H
    have A18 := jAa.mk A180
    clear A180
    replace H := Option.bind_eq_some_iff.mp H
    obtain ⟨⟨t265, t266, t267, t268⟩, A190, H⟩ := H
    replace H : ((jBz.f k1 t266 t267 t268).bind fun bt269 => (if x236002_1.length < 2513169434916 then (jBb.l0 k1 t244 (wrap64 (x13_1 + 1)) bt269.2.1 bt269.2.2.1 bt269.2.2.2 t236 t240 (x236002_1 ++ [(⟨t249, t257, t265, bt269.1, t253, t261⟩ : S59)])) else (none))) = some (r1, r2, r3, r4, r5, r6, r7) := H
    have A19 := jAa.mk A190
    clear A190
    replace H := Option.bind_eq_some_iff.mp H
    obtain ⟨⟨t269, t270, t271, t272⟩, A200, H⟩ := H
    replace H : (if x236002_1.length < 2513169434916 then (jBb.l0 k1 t244 (wrap64 (x13_1 + 1)) t270 t271 t272 t236 t240 (x236002_1 ++ [(⟨t249, t257, t265, t269, t253, t261⟩ : S59)])) else (none)) = some (r1, r2, r3, r4, r5, r6, r7) := H
    have A20 := jAa.mk A200
    clear A200
    by_cases c21 : x236002_1.length < 2513169434916
    ·rw [if_pos c21] at H
     have LMc21 := jAa.mk c21
     clear c21
     obtain ⟨y273, hy273⟩ : ∃ y_ : List (S59), y_ = (x236002_1 ++ [(⟨t249, t257, t265, t269, t253, t261⟩ : S59)]) := ⟨_, rfl⟩
     replace H : (jBb.l0 k1 t244 (wrap64 (x13_1 + 1)) t270 t271 t272 t236 t240 y273) = some (r1, r2, r3, r4, r5, r6, r7) := by first | (rw [hy273]; with_reducible exact H) | (have H2_ := (Option.bind_some _ _).symm.trans H; rw [hy273]; with_reducible exact H2_) | (have H2_ := (Option.bind_some _ _).symm.trans H; with_reducible exact H2_) | with_reducible exact H | (rw [hy273]; exact H) | exact H
     have Ny273 := jAa.mk hy273
     clear hy273
     have H' := jAa.mk H
     clear H
     go_wp2_with (first | ((with_reducible refine jCa (N := 4) rfl ?_); refine jBv ?hg (N := 4) ?hd (cs := #[.string (⟨#[]⟩ : ByteArray), .int .i64 0, .bool false, .bool false, .string (⟨#[]⟩ : ByteArray), .int .i64 0]) (t := 59) ?hr ?_; (case hd => rfl); (case hg => rfl); (case hr => first | (go_simp; done) | (go_simp; rfl)); intro gb248 hg w22 hbox hb; have n0_ := jAa.mk (Kd.R_below (Kd.R_elderB (by (with_reducible repeat (first | apply Kd.R_alloc | apply Kd.R_drewN | apply Kd.R_drew)); exact HO_236002.out) gb248 (Nat.le_of_eq hg.symm)) hb); have n1_ := jAa.mk (jAp (g := gb234) (o := .cells #[.string (⟨#[]⟩ : ByteArray), .int .i64 0, .slice none 0 0, .slice none 0 0] 45 (0, 0)) (by (with_reducible repeat (first | refine jAf ?_ _ | refine jAi ?_ | refine jAe ?_ _)); exact BK234.out) hb); have n2_ := jAa.mk (jAp (g := gb235) (o := .cells #[.string t236, .int .i64 t240, u236002, .slice none 0 0] 45 (0, 0)) (by (with_reducible repeat (first | refine jAf ?_ _ | refine jAi ?_ | refine jAe ?_ _)); exact BK235.out) hb); have n3_ := jAa.mk (jAc.below (by repeat (first | (with_reducible first | exact HI0.out | apply jAc.alloc | apply jAc.drewN | apply jAc.drew | apply jAc.set_0 | apply jAc.set_1 | apply jAc.set_2 | refine jAc.far ?_ NB0_234.out _ | refine jAc.far ?_ NB0_235.out _) | exact HI0.out)) hb); have n4_ := jAa.mk (jAn.trans (by repeat (first | (with_reducible first | exact HK.out | apply jAn.set_ | apply jAs | apply jAw | apply jAt | refine jBh ?_ GW234.out _ | refine jBh ?_ GW235.out _) | exact HK.out)) (jAn.of_below hb g none) (.inl rfl)); have n5_ := jAa.mk (jAu (by repeat (first | (with_reducible first | exact HB.out | apply jAj | apply jAd | apply jAk | refine jAh ?_ (jAc.ge HI0.out) | refine jAh ?_ GE234.out | refine jAh ?_ GE235.out) | exact HB.out)) hb); have n6_ := jAa.mk (hbox); have n7_ := jAa.mk ((by rw [hg]; exact (jCh (w := w) (g := g) (row := none) (by repeat (first | (with_reducible first | exact HK.out | apply jAn.set_ | apply jAs | apply jAw | apply jAt | refine jBh ?_ GW234.out _ | refine jBh ?_ GW235.out _) | exact HK.out))) : w.heap.size ≤ gb248)); have n8_ := jAa.mk ((Nat.le_trans HW0.out (by rw [hg]; exact (jCh (w := w) (g := g) (row := none) (by repeat (first | (with_reducible first | exact HK.out | apply jAn.set_ | apply jAs | apply jAw | apply jAt | refine jBh ?_ GW234.out _ | refine jBh ?_ GW235.out _) | exact HK.out))) : w.heap.size ≤ gb248) : w0.heap.size ≤ gb248)); have n9_ := jAa.mk ((by rw [hg]; exact Nat.ne_of_lt (jBu (g := gb234) (o := .cells #[.string (⟨#[]⟩ : ByteArray), .int .i64 0, .slice none 0 0, .slice none 0 0] 45 (0, 0)) (by (with_reducible repeat (first | refine jAf ?_ _ | refine jAi ?_ | refine jAe ?_ _)); exact BK234.out)) : gb234 ≠ gb248)); have n10_ := jAa.mk ((by rw [hg]; exact Nat.ne_of_gt (jBu (g := gb234) (o := .cells #[.string (⟨#[]⟩ : ByteArray), .int .i64 0, .slice none 0 0, .slice none 0 0] 45 (0, 0)) (by (with_reducible repeat (first | refine jAf ?_ _ | refine jAi ?_ | refine jAe ?_ _)); exact BK234.out)) : gb248 ≠ gb234)); have n11_ := jAa.mk ((by rw [hg]; exact Nat.ne_of_lt (jBu (g := gb235) (o := .cells #[.string t236, .int .i64 t240, u236002, .slice none 0 0] 45 (0, 0)) (by (with_reducible repeat (first | refine jAf ?_ _ | refine jAi ?_ | refine jAe ?_ _)); exact BK235.out)) : gb235 ≠ gb248)); have n12_ := jAa.mk ((by rw [hg]; exact Nat.ne_of_gt (jBu (g := gb235) (o := .cells #[.string t236, .int .i64 t240, u236002, .slice none 0 0] 45 (0, 0)) (by (with_reducible repeat (first | refine jAf ?_ _ | refine jAi ?_ | refine jAe ?_ _)); exact BK235.out)) : gb248 ≠ gb235)); have n13_ := jAa.mk ((by rw [hg]; exact Nat.ne_of_lt (jAc.lt (show jAc w0 _ g x1000_1 x1001_1 x1002_1 from by repeat (first | (with_reducible first | exact HI0.out | apply jAc.alloc | apply jAc.drewN | apply jAc.drew | apply jAc.set_0 | apply jAc.set_1 | apply jAc.set_2 | refine jAc.far ?_ NB0_234.out _ | refine jAc.far ?_ NB0_235.out _) | exact HI0.out))) : g ≠ gb248)); have n14_ := jAa.mk ((by rw [hg]; exact Nat.ne_of_gt (jAc.lt (show jAc w0 _ g x1000_1 x1001_1 x1002_1 from by repeat (first | (with_reducible first | exact HI0.out | apply jAc.alloc | apply jAc.drewN | apply jAc.drew | apply jAc.set_0 | apply jAc.set_1 | apply jAc.set_2 | refine jAc.far ?_ NB0_234.out _ | refine jAc.far ?_ NB0_235.out _) | exact HI0.out))) : gb248 ≠ g)); clear HO_236002; clear BK234; clear BK235; clear HI0; clear HK; clear HB; have HO_236002 := n0_; have BK234 := n1_; have BK235 := n2_; have HI0 := n3_; have HK := n4_; have HB := n5_; have BK248 := n6_; have GW248 := n7_; have GE248 := n8_; have NB234_248 := n9_; have NB248_234 := n10_; have NB235_248 := n11_; have NB248_235 := n12_; have NB0_248 := n13_; have NB248_0 := n14_; clear n0_ n1_ n2_ n3_ n4_ n5_ n6_ n7_ n8_ n9_ n10_ n11_ n12_ n13_ n14_; clear hb hbox hg) | ((with_reducible refine jBl (f := 68) rfl ?_); refine jCe (some 16) rfl rfl Tryd.func68 (by kernel_rfl) rfl #[.pointer (some ⟨g, 0, none⟩)] rfl (by (try simp only [List.map_toArray, List.map_cons, List.map_nil]); first | done | rfl | (simp only [List.length_drop, List.length_take]; rfl)) ?_; (with_reducible refine (jBr.calls k1 g x1000_1 x1001_1 x1002_1 t249 t250 t251 t252 w0 _ ?side1 ?side2 A15.out).mono ?_); (case side1 => repeat (first | (with_reducible first | exact HI0.out | apply jAc.alloc | apply jAc.drewN | apply jAc.drew | apply jAc.set_0 | apply jAc.set_1 | apply jAc.set_2 | refine jAc.far ?_ NB0_234.out _ | refine jAc.far ?_ NB0_235.out _ | refine jAc.far ?_ NB0_248.out _) | exact HI0.out)); (case side2 => repeat (first | (with_reducible first | exact HB.out | apply jAj | apply jAd | apply jAk | refine jAh ?_ (jAc.ge HI0.out) | refine jAh ?_ GE234.out | refine jAh ?_ GE235.out | refine jAh ?_ GE248.out) | exact HB.out)); rintro e w23 ⟨rfl, hi, hb, hk⟩; refine ⟨_, rfl, ?_⟩; have n0_ := jAa.mk (Kd.R_mono (Kd.R_keep (jAc.apart (show jAc w0 _ g x1000_1 x1001_1 x1002_1 from by repeat (first | (with_reducible first | exact HI0.out | apply jAc.alloc | apply jAc.drewN | apply jAc.drew | apply jAc.set_0 | apply jAc.set_1 | apply jAc.set_2 | refine jAc.far ?_ NB0_234.out _ | refine jAc.far ?_ NB0_235.out _ | refine jAc.far ?_ NB0_248.out _) | exact HI0.out)) (by (with_reducible repeat (first | apply Kd.R_alloc | apply Kd.R_drewN | apply Kd.R_drew)); exact HO_236002.out) (by decide)) hk (fun _ h => h.2)) (fun _ h => h.1)); have n1_ := jAa.mk (jAn.blk hk (g' := gb234) (o := .cells #[.string (⟨#[]⟩ : ByteArray), .int .i64 0, .slice none 0 0, .slice none 0 0] 45 (0, 0)) (by (with_reducible repeat (first | refine jAf ?_ _ | refine jAi ?_ | refine jAe ?_ _)); exact BK234.out) NB234_0.out (by simp)); have n2_ := jAa.mk (jAn.blk hk (g' := gb235) (o := .cells #[.string t236, .int .i64 t240, u236002, .slice none 0 0] 45 (0, 0)) (by (with_reducible repeat (first | refine jAf ?_ _ | refine jAi ?_ | refine jAe ?_ _)); exact BK235.out) NB235_0.out (by simp)); have n3_ := jAa.mk (jAn.blk hk (g' := gb248) (o := .cells #[.string (⟨#[]⟩ : ByteArray), .int .i64 0, .bool false, .bool false, .string (⟨#[]⟩ : ByteArray), .int .i64 0] 59 (0, 0)) (by (with_reducible repeat (first | refine jAf ?_ _ | refine jAi ?_ | refine jAe ?_ _)); exact BK248.out) NB248_0.out (by simp)); have n4_ := jAa.mk (jAn.trans (by repeat (first | (with_reducible first | exact HK.out | apply jAn.set_ | apply jAs | apply jAw | apply jAt | refine jBh ?_ GW234.out _ | refine jBh ?_ GW235.out _ | refine jBh ?_ GW248.out _) | exact HK.out)) hk (.inl rfl)); have n5_ := jAa.mk (hb); have n6_ := jAa.mk (hi); clear HO_236002; clear BK234; clear BK235; clear BK248; clear HK; clear HB; clear HI0; have HO_236002 := n0_; have BK234 := n1_; have BK235 := n2_; have BK248 := n3_; have HK := n4_; have HB := n5_; have HI0 := n6_; clear n0_ n1_ n2_ n3_ n4_ n5_ n6_; (try clear hb); (try clear hb2); (try clear hk); (try clear hi); have hnb24 := NB248_234.out; have hnc24 := NB234_248.out; have hnb25 := NB248_235.out; have hnc25 := NB235_248.out; have hnb26 := NB248_0.out; have hnc26 := NB0_248.out; have hcz27_0 : w23.cell? ⟨gb248, 0, none⟩ = some (.string (⟨#[]⟩ : ByteArray)) := (jAb BK248.out 0).trans rfl; have hcz27_1 : w23.cell? ⟨gb248, 1, none⟩ = some (.int .i64 0) := (jAb BK248.out 1).trans rfl; have hcz27_2 : w23.cell? ⟨gb248, 2, none⟩ = some (.bool false) := (jAb BK248.out 2).trans rfl; have hcz27_3 : w23.cell? ⟨gb248, 3, none⟩ = some (.bool false) := (jAb BK248.out 3).trans rfl; have hcz27_4 : w23.cell? ⟨gb248, 4, none⟩ = some (.string (⟨#[]⟩ : ByteArray)) := (jAb BK248.out 4).trans rfl; have hcz27_5 : w23.cell? ⟨gb248, 5, none⟩ = some (.int .i64 0) := (jAb BK248.out 5).trans rfl; have hfz27_0 := jAg BK248.out 0; have hfz27_1 := jAg BK248.out 1; have hfz27_2 := jAg BK248.out 2; have hfz27_3 := jAg BK248.out 3; have hfz27_4 := jAg BK248.out 4; have hfz27_5 := jAg BK248.out 5) | ((with_reducible refine jBl (f := 68) rfl ?_); refine jCe (some 19) rfl rfl Tryd.func68 (by kernel_rfl) rfl #[.pointer (some ⟨g, 0, none⟩)] rfl (by (try simp only [List.map_toArray, List.map_cons, List.map_nil]); first | done | rfl | (simp only [List.length_drop, List.length_take]; rfl)) ?_; (with_reducible refine (jBr.calls k1 g t250 t251 t252 t253 t254 t255 t256 w0 _ ?side1 ?side2 A16.out).mono ?_); (case side1 => repeat (first | (with_reducible first | exact HI0.out | apply jAc.alloc | apply jAc.drewN | apply jAc.drew | apply jAc.set_0 | apply jAc.set_1 | apply jAc.set_2 | refine jAc.far ?_ NB0_234.out _ | refine jAc.far ?_ NB0_235.out _ | refine jAc.far ?_ NB0_248.out _) | exact HI0.out)); (case side2 => repeat (first | (with_reducible first | exact HB.out | apply jAj | apply jAd | apply jAk | refine jAh ?_ (jAc.ge HI0.out) | refine jAh ?_ GE234.out | refine jAh ?_ GE235.out | refine jAh ?_ GE248.out) | exact HB.out)); rintro e w28 ⟨rfl, hi, hb, hk⟩; refine ⟨_, rfl, ?_⟩; have n0_ := jAa.mk (Kd.R_mono (Kd.R_keep (jAc.apart (show jAc w0 _ g t250 t251 t252 from by repeat (first | (with_reducible first | exact HI0.out | apply jAc.alloc | apply jAc.drewN | apply jAc.drew | apply jAc.set_0 | apply jAc.set_1 | apply jAc.set_2 | refine jAc.far ?_ NB0_234.out _ | refine jAc.far ?_ NB0_235.out _ | refine jAc.far ?_ NB0_248.out _) | exact HI0.out)) (by (with_reducible repeat (first | apply Kd.R_alloc | apply Kd.R_drewN | apply Kd.R_drew)); exact (Kd.R_mono (Kd.R_far (p := ⟨gb248, 0, none⟩) (Kd.R_mono HO_236002.out (fun k_ hk => (⟨hk, hk.2⟩ : _ ∧ k_ ≠ gb248))) (fun _ hk => hk.2) (.string t249)) (fun _ h_ => h_.1))) (by decide)) hk (fun _ h => h.2)) (fun _ h => h.1)); have n1_ := jAa.mk (jAn.blk hk (g' := gb234) (o := .cells #[.string (⟨#[]⟩ : ByteArray), .int .i64 0, .slice none 0 0, .slice none 0 0] 45 (0, 0)) (by (with_reducible repeat (first | refine jAf ?_ _ | refine jAi ?_ | refine jAe ?_ _)); refine jBa ?_ NB234_248.out _; (with_reducible repeat (first | refine jAf ?_ _ | refine jAi ?_ | refine jAe ?_ _)); exact BK234.out) NB234_0.out (by simp)); have n2_ := jAa.mk (jAn.blk hk (g' := gb235) (o := .cells #[.string t236, .int .i64 t240, u236002, .slice none 0 0] 45 (0, 0)) (by (with_reducible repeat (first | refine jAf ?_ _ | refine jAi ?_ | refine jAe ?_ _)); refine jBa ?_ NB235_248.out _; (with_reducible repeat (first | refine jAf ?_ _ | refine jAi ?_ | refine jAe ?_ _)); exact BK235.out) NB235_0.out (by simp)); have n3_ := jAa.mk (jAn.blk hk (g' := gb248) (o := .cells #[.string t249, .int .i64 0, .bool false, .bool false, .string (⟨#[]⟩ : ByteArray), .int .i64 0] 59 (0, 0)) (by (with_reducible repeat (first | refine jAf ?_ _ | refine jAi ?_ | refine jAe ?_ _)); refine jBf (cs := #[.string (⟨#[]⟩ : ByteArray), .int .i64 0, .bool false, .bool false, .string (⟨#[]⟩ : ByteArray), .int .i64 0]) ?_ 0 _ rfl; (with_reducible repeat (first | refine jAf ?_ _ | refine jAi ?_ | refine jAe ?_ _)); exact BK248.out) NB248_0.out (by simp)); have n4_ := jAa.mk (jAn.trans (by repeat (first | (with_reducible first | exact HK.out | apply jAn.set_ | apply jAs | apply jAw | apply jAt | refine jBh ?_ GW234.out _ | refine jBh ?_ GW235.out _ | refine jBh ?_ GW248.out _) | exact HK.out)) hk (.inl rfl)); have n5_ := jAa.mk (hb); have n6_ := jAa.mk (hi); clear HO_236002; clear BK234; clear BK235; clear BK248; clear HK; clear HB; clear HI0; have HO_236002 := n0_; have BK234 := n1_; have BK235 := n2_; have BK248 := n3_; have HK := n4_; have HB := n5_; have HI0 := n6_; clear n0_ n1_ n2_ n3_ n4_ n5_ n6_; (try clear hb); (try clear hb2); (try clear hk); (try clear hi); have hcz29_0 : w28.cell? ⟨gb248, 0, none⟩ = some (.string t249) := (jAb BK248.out 0).trans rfl; have hcz29_1 : w28.cell? ⟨gb248, 1, none⟩ = some (.int .i64 0) := (jAb BK248.out 1).trans rfl; have hcz29_2 : w28.cell? ⟨gb248, 2, none⟩ = some (.bool false) := (jAb BK248.out 2).trans rfl; have hcz29_3 : w28.cell? ⟨gb248, 3, none⟩ = some (.bool false) := (jAb BK248.out 3).trans rfl; have hcz29_4 : w28.cell? ⟨gb248, 4, none⟩ = some (.string (⟨#[]⟩ : ByteArray)) := (jAb BK248.out 4).trans rfl; have hcz29_5 : w28.cell? ⟨gb248, 5, none⟩ = some (.int .i64 0) := (jAb BK248.out 5).trans rfl; have hfz29_0 := jAg BK248.out 0; have hfz29_1 := jAg BK248.out 1; have hfz29_2 := jAg BK248.out 2; have hfz29_3 := jAg BK248.out 3; have hfz29_4 := jAg BK248.out 4; have hfz29_5 := jAg BK248.out 5) | ((with_reducible refine jBl (f := 65) rfl ?_); refine jCe (some 22) rfl rfl Tryd.func65 (by kernel_rfl) rfl #[.pointer (some ⟨g, 0, none⟩)] rfl (by (try simp only [List.map_toArray, List.map_cons, List.map_nil]); first | done | rfl | (simp only [List.length_drop, List.length_take]; rfl)) ?_; (with_reducible refine (jAm.calls k1 g t254 t255 t256 t257 t258 t259 t260 w0 _ ?side1 ?side2 A17.out).mono ?_); (case side1 => repeat (first | (with_reducible first | exact HI0.out | apply jAc.alloc | apply jAc.drewN | apply jAc.drew | apply jAc.set_0 | apply jAc.set_1 | apply jAc.set_2 | refine jAc.far ?_ NB0_234.out _ | refine jAc.far ?_ NB0_235.out _ | refine jAc.far ?_ NB0_248.out _) | exact HI0.out)); (case side2 => repeat (first | (with_reducible first | exact HB.out | apply jAj | apply jAd | apply jAk | refine jAh ?_ (jAc.ge HI0.out) | refine jAh ?_ GE234.out | refine jAh ?_ GE235.out | refine jAh ?_ GE248.out) | exact HB.out)); rintro e w30 ⟨rfl, hi, hb, hk⟩; refine ⟨_, rfl, ?_⟩; have n0_ := jAa.mk (Kd.R_mono (Kd.R_keep (jAc.apart (show jAc w0 _ g t254 t255 t256 from by repeat (first | (with_reducible first | exact HI0.out | apply jAc.alloc | apply jAc.drewN | apply jAc.drew | apply jAc.set_0 | apply jAc.set_1 | apply jAc.set_2 | refine jAc.far ?_ NB0_234.out _ | refine jAc.far ?_ NB0_235.out _ | refine jAc.far ?_ NB0_248.out _) | exact HI0.out)) (by (with_reducible repeat (first | apply Kd.R_alloc | apply Kd.R_drewN | apply Kd.R_drew)); exact (Kd.R_mono (Kd.R_far (p := ⟨gb248, 4, none⟩) (Kd.R_mono HO_236002.out (fun k_ hk => (⟨hk, hk.2⟩ : _ ∧ k_ ≠ gb248))) (fun _ hk => hk.2) (.string t253)) (fun _ h_ => h_.1))) (by decide)) hk (fun _ h => h.2)) (fun _ h => h.1)); have n1_ := jAa.mk (jAn.blk hk (g' := gb234) (o := .cells #[.string (⟨#[]⟩ : ByteArray), .int .i64 0, .slice none 0 0, .slice none 0 0] 45 (0, 0)) (by (with_reducible repeat (first | refine jAf ?_ _ | refine jAi ?_ | refine jAe ?_ _)); refine jBa ?_ NB234_248.out _; (with_reducible repeat (first | refine jAf ?_ _ | refine jAi ?_ | refine jAe ?_ _)); exact BK234.out) NB234_0.out (by simp)); have n2_ := jAa.mk (jAn.blk hk (g' := gb235) (o := .cells #[.string t236, .int .i64 t240, u236002, .slice none 0 0] 45 (0, 0)) (by (with_reducible repeat (first | refine jAf ?_ _ | refine jAi ?_ | refine jAe ?_ _)); refine jBa ?_ NB235_248.out _; (with_reducible repeat (first | refine jAf ?_ _ | refine jAi ?_ | refine jAe ?_ _)); exact BK235.out) NB235_0.out (by simp)); have n3_ := jAa.mk (jAn.blk hk (g' := gb248) (o := .cells #[.string t249, .int .i64 0, .bool false, .bool false, .string t253, .int .i64 0] 59 (0, 0)) (by (with_reducible repeat (first | refine jAf ?_ _ | refine jAi ?_ | refine jAe ?_ _)); refine jBf (cs := #[.string t249, .int .i64 0, .bool false, .bool false, .string (⟨#[]⟩ : ByteArray), .int .i64 0]) ?_ 4 _ rfl; (with_reducible repeat (first | refine jAf ?_ _ | refine jAi ?_ | refine jAe ?_ _)); exact BK248.out) NB248_0.out (by simp)); have n4_ := jAa.mk (jAn.trans (by repeat (first | (with_reducible first | exact HK.out | apply jAn.set_ | apply jAs | apply jAw | apply jAt | refine jBh ?_ GW234.out _ | refine jBh ?_ GW235.out _ | refine jBh ?_ GW248.out _) | exact HK.out)) hk (.inl rfl)); have n5_ := jAa.mk (hb); have n6_ := jAa.mk (hi); clear HO_236002; clear BK234; clear BK235; clear BK248; clear HK; clear HB; clear HI0; have HO_236002 := n0_; have BK234 := n1_; have BK235 := n2_; have BK248 := n3_; have HK := n4_; have HB := n5_; have HI0 := n6_; clear n0_ n1_ n2_ n3_ n4_ n5_ n6_; (try clear hb); (try clear hb2); (try clear hk); (try clear hi); have hcz31_0 : w30.cell? ⟨gb248, 0, none⟩ = some (.string t249) := (jAb BK248.out 0).trans rfl; have hcz31_1 : w30.cell? ⟨gb248, 1, none⟩ = some (.int .i64 0) := (jAb BK248.out 1).trans rfl; have hcz31_2 : w30.cell? ⟨gb248, 2, none⟩ = some (.bool false) := (jAb BK248.out 2).trans rfl; have hcz31_3 : w30.cell? ⟨gb248, 3, none⟩ = some (.bool false) := (jAb BK248.out 3).trans rfl; have hcz31_4 : w30.cell? ⟨gb248, 4, none⟩ = some (.string t253) := (jAb BK248.out 4).trans rfl; have hcz31_5 : w30.cell? ⟨gb248, 5, none⟩ = some (.int .i64 0) := (jAb BK248.out 5).trans rfl; have hfz31_0 := jAg BK248.out 0; have hfz31_1 := jAg BK248.out 1; have hfz31_2 := jAg BK248.out 2; have hfz31_3 := jAg BK248.out 3; have hfz31_4 := jAg BK248.out 4; have hfz31_5 := jAg BK248.out 5) | ((with_reducible refine jBl (f := 65) rfl ?_); refine jCe (some 25) rfl rfl Tryd.func65 (by kernel_rfl) rfl #[.pointer (some ⟨g, 0, none⟩)] rfl (by (try simp only [List.map_toArray, List.map_cons, List.map_nil]); first | done | rfl | (simp only [List.length_drop, List.length_take]; rfl)) ?_; (with_reducible refine (jAm.calls k1 g t258 t259 t260 t261 t262 t263 t264 w0 _ ?side1 ?side2 A18.out).mono ?_); (case side1 => repeat (first | (with_reducible first | exact HI0.out | apply jAc.alloc | apply jAc.drewN | apply jAc.drew | apply jAc.set_0 | apply jAc.set_1 | apply jAc.set_2 | refine jAc.far ?_ NB0_234.out _ | refine jAc.far ?_ NB0_235.out _ | refine jAc.far ?_ NB0_248.out _) | exact HI0.out)); (case side2 => repeat (first | (with_reducible first | exact HB.out | apply jAj | apply jAd | apply jAk | refine jAh ?_ (jAc.ge HI0.out) | refine jAh ?_ GE234.out | refine jAh ?_ GE235.out | refine jAh ?_ GE248.out) | exact HB.out)); rintro e w32 ⟨rfl, hi, hb, hk⟩; refine ⟨_, rfl, ?_⟩; have n0_ := jAa.mk (Kd.R_mono (Kd.R_keep (jAc.apart (show jAc w0 _ g t258 t259 t260 from by repeat (first | (with_reducible first | exact HI0.out | apply jAc.alloc | apply jAc.drewN | apply jAc.drew | apply jAc.set_0 | apply jAc.set_1 | apply jAc.set_2 | refine jAc.far ?_ NB0_234.out _ | refine jAc.far ?_ NB0_235.out _ | refine jAc.far ?_ NB0_248.out _) | exact HI0.out)) (by (with_reducible repeat (first | apply Kd.R_alloc | apply Kd.R_drewN | apply Kd.R_drew)); exact (Kd.R_mono (Kd.R_far (p := ⟨gb248, 1, none⟩) (Kd.R_mono HO_236002.out (fun k_ hk => (⟨hk, hk.2⟩ : _ ∧ k_ ≠ gb248))) (fun _ hk => hk.2) (.int .i64 t257)) (fun _ h_ => h_.1))) (by decide)) hk (fun _ h => h.2)) (fun _ h => h.1)); have n1_ := jAa.mk (jAn.blk hk (g' := gb234) (o := .cells #[.string (⟨#[]⟩ : ByteArray), .int .i64 0, .slice none 0 0, .slice none 0 0] 45 (0, 0)) (by (with_reducible repeat (first | refine jAf ?_ _ | refine jAi ?_ | refine jAe ?_ _)); refine jBa ?_ NB234_248.out _; (with_reducible repeat (first | refine jAf ?_ _ | refine jAi ?_ | refine jAe ?_ _)); exact BK234.out) NB234_0.out (by simp)); have n2_ := jAa.mk (jAn.blk hk (g' := gb235) (o := .cells #[.string t236, .int .i64 t240, u236002, .slice none 0 0] 45 (0, 0)) (by (with_reducible repeat (first | refine jAf ?_ _ | refine jAi ?_ | refine jAe ?_ _)); refine jBa ?_ NB235_248.out _; (with_reducible repeat (first | refine jAf ?_ _ | refine jAi ?_ | refine jAe ?_ _)); exact BK235.out) NB235_0.out (by simp)); have n3_ := jAa.mk (jAn.blk hk (g' := gb248) (o := .cells #[.string t249, .int .i64 t257, .bool false, .bool false, .string t253, .int .i64 0] 59 (0, 0)) (by (with_reducible repeat (first | refine jAf ?_ _ | refine jAi ?_ | refine jAe ?_ _)); refine jBf (cs := #[.string t249, .int .i64 0, .bool false, .bool false, .string t253, .int .i64 0]) ?_ 1 _ rfl; (with_reducible repeat (first | refine jAf ?_ _ | refine jAi ?_ | refine jAe ?_ _)); exact BK248.out) NB248_0.out (by simp)); have n4_ := jAa.mk (jAn.trans (by repeat (first | (with_reducible first | exact HK.out | apply jAn.set_ | apply jAs | apply jAw | apply jAt | refine jBh ?_ GW234.out _ | refine jBh ?_ GW235.out _ | refine jBh ?_ GW248.out _) | exact HK.out)) hk (.inl rfl)); have n5_ := jAa.mk (hb); have n6_ := jAa.mk (hi); clear HO_236002; clear BK234; clear BK235; clear BK248; clear HK; clear HB; clear HI0; have HO_236002 := n0_; have BK234 := n1_; have BK235 := n2_; have BK248 := n3_; have HK := n4_; have HB := n5_; have HI0 := n6_; clear n0_ n1_ n2_ n3_ n4_ n5_ n6_; (try clear hb); (try clear hb2); (try clear hk); (try clear hi); have hcz33_0 : w32.cell? ⟨gb248, 0, none⟩ = some (.string t249) := (jAb BK248.out 0).trans rfl; have hcz33_1 : w32.cell? ⟨gb248, 1, none⟩ = some (.int .i64 t257) := (jAb BK248.out 1).trans rfl; have hcz33_2 : w32.cell? ⟨gb248, 2, none⟩ = some (.bool false) := (jAb BK248.out 2).trans rfl; have hcz33_3 : w32.cell? ⟨gb248, 3, none⟩ = some (.bool false) := (jAb BK248.out 3).trans rfl; have hcz33_4 : w32.cell? ⟨gb248, 4, none⟩ = some (.string t253) := (jAb BK248.out 4).trans rfl; have hcz33_5 : w32.cell? ⟨gb248, 5, none⟩ = some (.int .i64 0) := (jAb BK248.out 5).trans rfl; have hfz33_0 := jAg BK248.out 0; have hfz33_1 := jAg BK248.out 1; have hfz33_2 := jAg BK248.out 2; have hfz33_3 := jAg BK248.out 3; have hfz33_4 := jAg BK248.out 4; have hfz33_5 := jAg BK248.out 5) | ((with_reducible refine jBl (f := 96) rfl ?_); refine jCe (some 28) rfl rfl Tryd.func96 (by kernel_rfl) rfl #[.pointer (some ⟨g, 0, none⟩)] rfl (by (try simp only [List.map_toArray, List.map_cons, List.map_nil]); first | done | rfl | (simp only [List.length_drop, List.length_take]; rfl)) ?_; (with_reducible refine (jBz.calls k1 g t262 t263 t264 t265 t266 t267 t268 w0 _ ?side1 ?side2 A19.out).mono ?_); (case side1 => repeat (first | (with_reducible first | exact HI0.out | apply jAc.alloc | apply jAc.drewN | apply jAc.drew | apply jAc.set_0 | apply jAc.set_1 | apply jAc.set_2 | refine jAc.far ?_ NB0_234.out _ | refine jAc.far ?_ NB0_235.out _ | refine jAc.far ?_ NB0_248.out _) | exact HI0.out)); (case side2 => repeat (first | (with_reducible first | exact HB.out | apply jAj | apply jAd | apply jAk | refine jAh ?_ (jAc.ge HI0.out) | refine jAh ?_ GE234.out | refine jAh ?_ GE235.out | refine jAh ?_ GE248.out) | exact HB.out)); rintro e w34 ⟨rfl, hi, hb, hk⟩; refine ⟨_, rfl, ?_⟩; have n0_ := jAa.mk (Kd.R_mono (Kd.R_keep (jAc.apart (show jAc w0 _ g t262 t263 t264 from by repeat (first | (with_reducible first | exact HI0.out | apply jAc.alloc | apply jAc.drewN | apply jAc.drew | apply jAc.set_0 | apply jAc.set_1 | apply jAc.set_2 | refine jAc.far ?_ NB0_234.out _ | refine jAc.far ?_ NB0_235.out _ | refine jAc.far ?_ NB0_248.out _) | exact HI0.out)) (by (with_reducible repeat (first | apply Kd.R_alloc | apply Kd.R_drewN | apply Kd.R_drew)); exact (Kd.R_mono (Kd.R_far (p := ⟨gb248, 5, none⟩) (Kd.R_mono HO_236002.out (fun k_ hk => (⟨hk, hk.2⟩ : _ ∧ k_ ≠ gb248))) (fun _ hk => hk.2) (.int .i64 t261)) (fun _ h_ => h_.1))) (by decide)) hk (fun _ h => h.2)) (fun _ h => h.1)); have n1_ := jAa.mk (jAn.blk hk (g' := gb234) (o := .cells #[.string (⟨#[]⟩ : ByteArray), .int .i64 0, .slice none 0 0, .slice none 0 0] 45 (0, 0)) (by (with_reducible repeat (first | refine jAf ?_ _ | refine jAi ?_ | refine jAe ?_ _)); refine jBa ?_ NB234_248.out _; (with_reducible repeat (first | refine jAf ?_ _ | refine jAi ?_ | refine jAe ?_ _)); exact BK234.out) NB234_0.out (by simp)); have n2_ := jAa.mk (jAn.blk hk (g' := gb235) (o := .cells #[.string t236, .int .i64 t240, u236002, .slice none 0 0] 45 (0, 0)) (by (with_reducible repeat (first | refine jAf ?_ _ | refine jAi ?_ | refine jAe ?_ _)); refine jBa ?_ NB235_248.out _; (with_reducible repeat (first | refine jAf ?_ _ | refine jAi ?_ | refine jAe ?_ _)); exact BK235.out) NB235_0.out (by simp)); have n3_ := jAa.mk (jAn.blk hk (g' := gb248) (o := .cells #[.string t249, .int .i64 t257, .bool false, .bool false, .string t253, .int .i64 t261] 59 (0, 0)) (by (with_reducible repeat (first | refine jAf ?_ _ | refine jAi ?_ | refine jAe ?_ _)); refine jBf (cs := #[.string t249, .int .i64 t257, .bool false, .bool false, .string t253, .int .i64 0]) ?_ 5 _ rfl; (with_reducible repeat (first | refine jAf ?_ _ | refine jAi ?_ | refine jAe ?_ _)); exact BK248.out) NB248_0.out (by simp)); have n4_ := jAa.mk (jAn.trans (by repeat (first | (with_reducible first | exact HK.out | apply jAn.set_ | apply jAs | apply jAw | apply jAt | refine jBh ?_ GW234.out _ | refine jBh ?_ GW235.out _ | refine jBh ?_ GW248.out _) | exact HK.out)) hk (.inl rfl)); have n5_ := jAa.mk (hb); have n6_ := jAa.mk (hi); clear HO_236002; clear BK234; clear BK235; clear BK248; clear HK; clear HB; clear HI0; have HO_236002 := n0_; have BK234 := n1_; have BK235 := n2_; have BK248 := n3_; have HK := n4_; have HB := n5_; have HI0 := n6_; clear n0_ n1_ n2_ n3_ n4_ n5_ n6_; (try clear hb); (try clear hb2); (try clear hk); (try clear hi); have hcz35_0 : w34.cell? ⟨gb248, 0, none⟩ = some (.string t249) := (jAb BK248.out 0).trans rfl; have hcz35_1 : w34.cell? ⟨gb248, 1, none⟩ = some (.int .i64 t257) := (jAb BK248.out 1).trans rfl; have hcz35_2 : w34.cell? ⟨gb248, 2, none⟩ = some (.bool false) := (jAb BK248.out 2).trans rfl; have hcz35_3 : w34.cell? ⟨gb248, 3, none⟩ = some (.bool false) := (jAb BK248.out 3).trans rfl; have hcz35_4 : w34.cell? ⟨gb248, 4, none⟩ = some (.string t253) := (jAb BK248.out 4).trans rfl; have hcz35_5 : w34.cell? ⟨gb248, 5, none⟩ = some (.int .i64 t261) := (jAb BK248.out 5).trans rfl; have hfz35_0 := jAg BK248.out 0; have hfz35_1 := jAg BK248.out 1; have hfz35_2 := jAg BK248.out 2; have hfz35_3 := jAg BK248.out 3; have hfz35_4 := jAg BK248.out 4; have hfz35_5 := jAg BK248.out 5) | ((with_reducible refine jBl (f := 96) rfl ?_); refine jCe (some 31) rfl rfl Tryd.func96 (by kernel_rfl) rfl #[.pointer (some ⟨g, 0, none⟩)] rfl (by (try simp only [List.map_toArray, List.map_cons, List.map_nil]); first | done | rfl | (simp only [List.length_drop, List.length_take]; rfl)) ?_; (with_reducible refine (jBz.calls k1 g t266 t267 t268 t269 t270 t271 t272 w0 _ ?side1 ?side2 A20.out).mono ?_); (case side1 => repeat (first | (with_reducible first | exact HI0.out | apply jAc.alloc | apply jAc.drewN | apply jAc.drew | apply jAc.set_0 | apply jAc.set_1 | apply jAc.set_2 | refine jAc.far ?_ NB0_234.out _ | refine jAc.far ?_ NB0_235.out _ | refine jAc.far ?_ NB0_248.out _) | exact HI0.out)); (case side2 => repeat (first | (with_reducible first | exact HB.out | apply jAj | apply jAd | apply jAk | refine jAh ?_ (jAc.ge HI0.out) | refine jAh ?_ GE234.out | refine jAh ?_ GE235.out | refine jAh ?_ GE248.out) | exact HB.out)); rintro e w36 ⟨rfl, hi, hb, hk⟩; refine ⟨_, rfl, ?_⟩; have n0_ := jAa.mk (Kd.R_mono (Kd.R_keep (jAc.apart (show jAc w0 _ g t266 t267 t268 from by repeat (first | (with_reducible first | exact HI0.out | apply jAc.alloc | apply jAc.drewN | apply jAc.drew | apply jAc.set_0 | apply jAc.set_1 | apply jAc.set_2 | refine jAc.far ?_ NB0_234.out _ | refine jAc.far ?_ NB0_235.out _ | refine jAc.far ?_ NB0_248.out _) | exact HI0.out)) (by (with_reducible repeat (first | apply Kd.R_alloc | apply Kd.R_drewN | apply Kd.R_drew)); exact (Kd.R_mono (Kd.R_far (p := ⟨gb248, 2, none⟩) (Kd.R_mono HO_236002.out (fun k_ hk => (⟨hk, hk.2⟩ : _ ∧ k_ ≠ gb248))) (fun _ hk => hk.2) (.bool t265)) (fun _ h_ => h_.1))) (by decide)) hk (fun _ h => h.2)) (fun _ h => h.1)); have n1_ := jAa.mk (jAn.blk hk (g' := gb234) (o := .cells #[.string (⟨#[]⟩ : ByteArray), .int .i64 0, .slice none 0 0, .slice none 0 0] 45 (0, 0)) (by (with_reducible repeat (first | refine jAf ?_ _ | refine jAi ?_ | refine jAe ?_ _)); refine jBa ?_ NB234_248.out _; (with_reducible repeat (first | refine jAf ?_ _ | refine jAi ?_ | refine jAe ?_ _)); exact BK234.out) NB234_0.out (by simp)); have n2_ := jAa.mk (jAn.blk hk (g' := gb235) (o := .cells #[.string t236, .int .i64 t240, u236002, .slice none 0 0] 45 (0, 0)) (by (with_reducible repeat (first | refine jAf ?_ _ | refine jAi ?_ | refine jAe ?_ _)); refine jBa ?_ NB235_248.out _; (with_reducible repeat (first | refine jAf ?_ _ | refine jAi ?_ | refine jAe ?_ _)); exact BK235.out) NB235_0.out (by simp)); have n3_ := jAa.mk (jAn.blk hk (g' := gb248) (o := .cells #[.string t249, .int .i64 t257, .bool t265, .bool false, .string t253, .int .i64 t261] 59 (0, 0)) (by (with_reducible repeat (first | refine jAf ?_ _ | refine jAi ?_ | refine jAe ?_ _)); refine jBf (cs := #[.string t249, .int .i64 t257, .bool false, .bool false, .string t253, .int .i64 t261]) ?_ 2 _ rfl; (with_reducible repeat (first | refine jAf ?_ _ | refine jAi ?_ | refine jAe ?_ _)); exact BK248.out) NB248_0.out (by simp)); have n4_ := jAa.mk (jAn.trans (by repeat (first | (with_reducible first | exact HK.out | apply jAn.set_ | apply jAs | apply jAw | apply jAt | refine jBh ?_ GW234.out _ | refine jBh ?_ GW235.out _ | refine jBh ?_ GW248.out _) | exact HK.out)) hk (.inl rfl)); have n5_ := jAa.mk (hb); have n6_ := jAa.mk (hi); clear HO_236002; clear BK234; clear BK235; clear BK248; clear HK; clear HB; clear HI0; have HO_236002 := n0_; have BK234 := n1_; have BK235 := n2_; have BK248 := n3_; have HK := n4_; have HB := n5_; have HI0 := n6_; clear n0_ n1_ n2_ n3_ n4_ n5_ n6_; (try clear hb); (try clear hb2); (try clear hk); (try clear hi); have hcz37_0 : w36.cell? ⟨gb248, 0, none⟩ = some (.string t249) := (jAb BK248.out 0).trans rfl; have hcz37_1 : w36.cell? ⟨gb248, 1, none⟩ = some (.int .i64 t257) := (jAb BK248.out 1).trans rfl; have hcz37_2 : w36.cell? ⟨gb248, 2, none⟩ = some (.bool t265) := (jAb BK248.out 2).trans rfl; have hcz37_3 : w36.cell? ⟨gb248, 3, none⟩ = some (.bool false) := (jAb BK248.out 3).trans rfl; have hcz37_4 : w36.cell? ⟨gb248, 4, none⟩ = some (.string t253) := (jAb BK248.out 4).trans rfl; have hcz37_5 : w36.cell? ⟨gb248, 5, none⟩ = some (.int .i64 t261) := (jAb BK248.out 5).trans rfl; have hfz37_0 := jAg BK248.out 0; have hfz37_1 := jAg BK248.out 1; have hfz37_2 := jAg BK248.out 2; have hfz37_3 := jAg BK248.out 3; have hfz37_4 := jAg BK248.out 4; have hfz37_5 := jAg BK248.out 5; have hnb38 := NB235_234.out; have hnc38 := NB234_235.out; have hnb39 := NB235_0.out; have hnc39 := NB0_235.out; have hcz40_0 : w36.cell? ⟨gb235, 0, none⟩ = some (.string t236) := (jAb BK235.out 0).trans rfl; have hcz40_1 : w36.cell? ⟨gb235, 1, none⟩ = some (.int .i64 t240) := (jAb BK235.out 1).trans rfl; have hcz40_2 : w36.cell? ⟨gb235, 2, none⟩ = some (u236002) := (jAb BK235.out 2).trans rfl; have hcz40_3 : w36.cell? ⟨gb235, 3, none⟩ = some (.slice none 0 0) := (jAb BK235.out 3).trans rfl; have hfz40_0 := jAg BK235.out 0; have hfz40_1 := jAg BK235.out 1; have hfz40_2 := jAg BK235.out 2; have hfz40_3 := jAg BK235.out 3) | ((with_reducible refine jGe (b := .append) (xs := #[.tmp 34, .tmp 36]) rfl ?_); at_builtin; refine Kd.R_append k59 w.heap.size rfl (.tmp 34) (.tmp 36) 42 59 (.agg #[(.string ⟨#[]⟩), (.int .i64 0), (.bool false), (.bool false), (.string ⟨#[]⟩), (.int .i64 0)]) 56 rfl Tryd.underlying42 info59 rfl (by decide) (by omega) u236002 x236002_1 (⟨t249, t257, t265, t269, t253, t261⟩ : S59) [.string t249, .int .i64 t257, .bool t265, .bool t269, .string t253, .int .i64 t261] (fun k_ => k_ ≠ gb248) (fun _ => False) rfl (by first | (go_simp; done) | (go_simp; rfl)) ?aP (fun _ hk => hk.elim) ?aF ?aO (Below.refl _ _) ?aS ?aL ?_; (case aP => exact k59_mkM _ _ _ (⟨t249, t257, t265, t269, t253, t261⟩ : S59)); (case aF => exact (fun k_ hk => Kd.freshB (g := gb248) (o := .cells #[.string t249, .int .i64 t257, .bool t265, .bool t269, .string t253, .int .i64 t261] 59 (0, 0)) (by (with_reducible repeat (first | refine jAf ?_ _ | refine jAi ?_ | refine jAe ?_ _)); refine jBf (cs := #[.string t249, .int .i64 t257, .bool t265, .bool false, .string t253, .int .i64 t261]) ?_ 3 _ rfl; (with_reducible repeat (first | refine jAf ?_ _ | refine jAi ?_ | refine jAe ?_ _)); exact BK248.out) k_ hk)); (case aO => exact (by (with_reducible repeat (first | apply Kd.R_alloc | apply Kd.R_drewN | apply Kd.R_drew)); exact Kd.R_mono (Kd.R_far (p := ⟨gb248, 3, none⟩) (Kd.R_mono HO_236002.out (fun k_ hk => (⟨hk, hk.2⟩ : _ ∧ k_ ≠ gb248))) (fun _ hk => hk.2) (.bool t269)) (fun _ hk => hk.1.2))); (case aS => exact (jCh (w := w) (g := g) (row := none) (by repeat (first | (with_reducible first | exact HK.out | apply jAn.set_ | apply jAs | apply jAw | apply jAt | refine jBh ?_ GW234.out _ | refine jBh ?_ GW235.out _ | refine jBh ?_ GW248.out _) | exact HK.out)))); (case aL => have := LMc21.out; omega); intro v274 w41 ho hb hg hat; rw [← Ny273.out] at ho; have n0_ := jAa.mk (jCz (g := gb234) (o := .cells #[.string (⟨#[]⟩ : ByteArray), .int .i64 0, .slice none 0 0, .slice none 0 0] 45 (0, 0)) (by (with_reducible repeat (first | refine jAf ?_ _ | refine jAi ?_ | refine jAe ?_ _)); refine jBa ?_ NB234_248.out _; (with_reducible repeat (first | refine jAf ?_ _ | refine jAi ?_ | refine jAe ?_ _)); exact BK234.out) hg (Kd.R_ne HO_236002.out BK234.out (by decide))); have n1_ := jAa.mk (jCz (g := gb235) (o := .cells #[.string t236, .int .i64 t240, u236002, .slice none 0 0] 45 (0, 0)) (by (with_reducible repeat (first | refine jAf ?_ _ | refine jAi ?_ | refine jAe ?_ _)); refine jBa ?_ NB235_248.out _; (with_reducible repeat (first | refine jAf ?_ _ | refine jAi ?_ | refine jAe ?_ _)); exact BK235.out) hg (Kd.R_ne HO_236002.out BK235.out (by decide))); have n2_ := jAa.mk (jAc.grown (show jAc w0 (w36.setCell ⟨gb248, 3, none⟩ (.bool t269)) g t270 t271 t272 from jAc.far HI0.out NB0_248.out _) hg (jAc.own_ne HI0.out HO_236002.out (by decide))); have n3_ := jAa.mk (jCz (g := gb248) (o := .cells #[.string t249, .int .i64 t257, .bool t265, .bool t269, .string t253, .int .i64 t261] 59 (0, 0)) (by (with_reducible repeat (first | refine jAf ?_ _ | refine jAi ?_ | refine jAe ?_ _)); refine jBf (cs := #[.string t249, .int .i64 t257, .bool t265, .bool false, .string t253, .int .i64 t261]) ?_ 3 _ rfl; (with_reducible repeat (first | refine jAf ?_ _ | refine jAi ?_ | refine jAe ?_ _)); exact BK248.out) hg (Kd.R_away HO_236002.out (fun _ hk => hk.2))); have n4_ := jAa.mk (jEp (by repeat (first | (with_reducible first | exact HB.out | apply jAj | apply jAd | apply jAk | refine jAh ?_ (jAc.ge HI0.out) | refine jAh ?_ GE234.out | refine jAh ?_ GE235.out | refine jAh ?_ GE248.out) | exact HB.out)) HL.out hb); have n5_ := jAa.mk (jAn.trans (by repeat (first | (with_reducible first | exact HK.out | apply jAn.set_ | apply jAs | apply jAw | apply jAt | refine jBh ?_ GW234.out _ | refine jBh ?_ GW235.out _ | refine jBh ?_ GW248.out _) | exact HK.out)) (jAn.of_grown hg g) (Kd.R_base2 HO_236002.out)); have n6_ := jAa.mk (ho); clear BK234; clear BK235; clear HI0; clear BK248; clear HB; clear HK; clear HO_236002; have BK234 := n0_; have BK235 := n1_; have HI0 := n2_; have BK248 := n3_; have HB := n4_; have HK := n5_; have HO275 := n6_; clear n0_ n1_ n2_ n3_ n4_ n5_ n6_; clear ho hb hg hat; obtain ⟨Ao42, co42, eo42⟩ := Kd.R_slice HO275.out; subst eo42; have hcz43_0 : w41.cell? ⟨gb235, 0, none⟩ = some (.string t236) := (jAb BK235.out 0).trans rfl; have hcz43_1 : w41.cell? ⟨gb235, 1, none⟩ = some (.int .i64 t240) := (jAb BK235.out 1).trans rfl; have hcz43_2 : w41.cell? ⟨gb235, 2, none⟩ = some (u236002) := (jAb BK235.out 2).trans rfl; have hcz43_3 : w41.cell? ⟨gb235, 3, none⟩ = some (.slice none 0 0) := (jAb BK235.out 3).trans rfl; have hfz43_0 := jAg BK235.out 0; have hfz43_1 := jAg BK235.out 1; have hfz43_2 := jAg BK235.out 2; have hfz43_3 := jAg BK235.out 3))
     go_roundg k1
     case measure => have := HK1.out; omega
     case rel => exact ⟨(wrap64 (x13_1 + 1)), (t270), (t271), (t272), (y273), (.slice Ao42 y273.length co42), (by first | rfl | (simp; done) | (simp [*]; done)), H', ⟨by have := HK1.out; omega⟩, ⟨by (with_reducible repeat (first | apply Kd.R_alloc | apply Kd.R_drewN | apply Kd.R_drew)); exact Kd.R_mono (Kd.R_far (p := ⟨gb235, 2, none⟩) (Kd.R_types HO275.out BK235.out (by decide)) (fun _ hk => hk.2) (.slice Ao42 y273.length co42)) (fun _ hk => trivial)⟩, ⟨by (with_reducible repeat (first | refine jAf ?_ _ | refine jAi ?_ | refine jAe ?_ _)); refine jBa ?_ NB234_235.out _; (with_reducible repeat (first | refine jAf ?_ _ | refine jAi ?_ | refine jAe ?_ _)); exact BK234.out⟩, ⟨by (with_reducible repeat (first | refine jAf ?_ _ | refine jAi ?_ | refine jAe ?_ _)); refine jBf (cs := #[.string t236, .int .i64 t240, u236002, .slice none 0 0]) ?_ 2 _ rfl; (with_reducible repeat (first | refine jAf ?_ _ | refine jAi ?_ | refine jAe ?_ _)); exact BK235.out⟩, ⟨by repeat (first | (with_reducible first | exact HI0.out | apply jAc.alloc | apply jAc.drewN | apply jAc.drew | apply jAc.set_0 | apply jAc.set_1 | apply jAc.set_2 | refine jAc.far ?_ NB0_234.out _ | refine jAc.far ?_ NB0_235.out _ | refine jAc.far ?_ NB0_248.out _) | exact HI0.out)⟩, ⟨by repeat (first | (with_reducible first | exact HK.out | apply jAn.set_ | apply jAs | apply jAw | apply jAt | refine jBh ?_ GW234.out _ | refine jBh ?_ GW235.out _ | refine jBh ?_ GW248.out _) | exact HK.out)⟩, ⟨by repeat (first | (with_reducible first | exact HB.out | apply jAj | apply jAd | apply jAk | refine jAh ?_ (jAc.ge HI0.out) | refine jAh ?_ GE234.out | refine jAh ?_ GE235.out | refine jAh ?_ GE248.out) | exact HB.out)⟩⟩
    ·rw [if_neg c21] at H
     exact absurd H (by simp)
   ·rw [if_neg c14] at H
    have c14b0 : decide (x13_1 < t244) = false := decide_eq_false c14
    clear c14
    replace H := Option.bind_eq_some_iff.mp H
    obtain ⟨⟨t276, t277, t278, t279⟩, A440, H⟩ := H
    replace H : (jBb.l1 k1 t276 0 t277 t278 t279 t236 t240 x236002_1 ([] : List (S72))) = some (r1, r2, r3, r4, r5, r6, r7) := H
    have A44 := jAa.mk A440
    clear A440
    have H' := jAa.mk H
    clear H
    go_wp2_with (first | ((with_reducible refine jBl (f := 66) rfl ?_); refine jCe (some 41) rfl rfl Tryd.func66 (by kernel_rfl) rfl #[.pointer (some ⟨g, 0, none⟩), .int .i64 4] rfl (by (try simp only [List.map_toArray, List.map_cons, List.map_nil]); first | done | rfl | (simp only [List.length_drop, List.length_take]; rfl)) ?_; (with_reducible refine (jBk.calls k1 g x1000_1 x1001_1 x1002_1 4 t276 t277 t278 t279 w0 _ ?side1 ?side2 A44.out).mono ?_); (case side1 => repeat (first | (with_reducible first | exact HI0.out | apply jAc.alloc | apply jAc.drewN | apply jAc.drew | apply jAc.set_0 | apply jAc.set_1 | apply jAc.set_2 | refine jAc.far ?_ NB0_234.out _ | refine jAc.far ?_ NB0_235.out _) | exact HI0.out)); (case side2 => repeat (first | (with_reducible first | exact HB.out | apply jAj | apply jAd | apply jAk | refine jAh ?_ (jAc.ge HI0.out) | refine jAh ?_ GE234.out | refine jAh ?_ GE235.out) | exact HB.out)); rintro e w45 ⟨rfl, hi, hb, hk⟩; refine ⟨_, rfl, ?_⟩; have n0_ := jAa.mk (Kd.R_mono (Kd.R_keep (jAc.apart (show jAc w0 _ g x1000_1 x1001_1 x1002_1 from by repeat (first | (with_reducible first | exact HI0.out | apply jAc.alloc | apply jAc.drewN | apply jAc.drew | apply jAc.set_0 | apply jAc.set_1 | apply jAc.set_2 | refine jAc.far ?_ NB0_234.out _ | refine jAc.far ?_ NB0_235.out _) | exact HI0.out)) (by (with_reducible repeat (first | apply Kd.R_alloc | apply Kd.R_drewN | apply Kd.R_drew)); exact HO_236002.out) (by decide)) hk (fun _ h => h.2)) (fun _ h => h.1)); have n1_ := jAa.mk (jAn.blk hk (g' := gb234) (o := .cells #[.string (⟨#[]⟩ : ByteArray), .int .i64 0, .slice none 0 0, .slice none 0 0] 45 (0, 0)) (by (with_reducible repeat (first | refine jAf ?_ _ | refine jAi ?_ | refine jAe ?_ _)); exact BK234.out) NB234_0.out (by simp)); have n2_ := jAa.mk (jAn.blk hk (g' := gb235) (o := .cells #[.string t236, .int .i64 t240, u236002, .slice none 0 0] 45 (0, 0)) (by (with_reducible repeat (first | refine jAf ?_ _ | refine jAi ?_ | refine jAe ?_ _)); exact BK235.out) NB235_0.out (by simp)); have n3_ := jAa.mk (jAn.trans (by repeat (first | (with_reducible first | exact HK.out | apply jAn.set_ | apply jAs | apply jAw | apply jAt | refine jBh ?_ GW234.out _ | refine jBh ?_ GW235.out _) | exact HK.out)) hk (.inl rfl)); have n4_ := jAa.mk (hb); have n5_ := jAa.mk (hi); clear HO_236002; clear BK234; clear BK235; clear HK; clear HB; clear HI0; have HO_236002 := n0_; have BK234 := n1_; have BK235 := n2_; have HK := n3_; have HB := n4_; have HI0 := n5_; clear n0_ n1_ n2_ n3_ n4_ n5_; (try clear hb); (try clear hb2); (try clear hk); (try clear hi)))
    go_loopg [42] k1 (fun kq v42 w' => ∃ (x42_2 : Int) (x1000_2 : ByteArray) (x1001_2 : Int) (x1002_2 : Bool) (x236003_2 : List (S72)) (u236003 : Value), v42 = .int .i64 x42_2 ∧ jAa (jBb.l1 kq t276 x42_2 x1000_2 x1001_2 x1002_2 t236 t240 x236002_1 x236003_2 = some (r1, r2, r3, r4, r5, r6, r7)) ∧ jAa (kq ≤ k1) ∧ jAa (Kd.R k59 59 w' w.heap.size (fun _ => True) u236002 x236002_1) ∧ jAa (Kd.R k72 72 w' w.heap.size (fun _ => True) u236003 x236003_2) ∧ jAa (w'.heap[gb234]? = some (.cells #[.string (⟨#[]⟩ : ByteArray), .int .i64 0, (.slice none 0 0), (.slice none 0 0)] 45 (0, 0))) ∧ jAa (w'.heap[gb235]? = some (.cells #[.string t236, .int .i64 t240, u236002, u236003] 45 (0, 0))) ∧ jAa (jAc w0 w' g x1000_2 x1001_2 x1002_2) ∧ jAa (jAn w w' g none) ∧ jAa (Below w0.heap.size w0 w'))
    case atStart => exact ⟨(0), (t277), (t278), (t279), (([] : List (S72))), (.slice none 0 0), (by first | rfl | (simp; done) | (simp [*]; done)), H', ⟨Nat.le_refl _⟩, ⟨by (with_reducible repeat (first | apply Kd.R_alloc | apply Kd.R_drewN | apply Kd.R_drew)); exact HO_236002.out⟩, ⟨by first | exact Kd.R_nil _ _ _ _ _ | exact Kd.N_nil _ _ _ _ _ | exact Kd.V_nil _ _ _ _ _ | exact Kd.Q_nil _ _ _ _ _ | exact Kd.S_nil _ _ _ _ _⟩, ⟨by (with_reducible repeat (first | refine jAf ?_ _ | refine jAi ?_ | refine jAe ?_ _)); exact BK234.out⟩, ⟨by (with_reducible repeat (first | refine jAf ?_ _ | refine jAi ?_ | refine jAe ?_ _)); exact BK235.out⟩, ⟨by repeat (first | (with_reducible first | exact HI0.out | apply jAc.alloc | apply jAc.drewN | apply jAc.drew | apply jAc.set_0 | apply jAc.set_1 | apply jAc.set_2 | refine jAc.far ?_ NB0_234.out _ | refine jAc.far ?_ NB0_235.out _) | exact HI0.out)⟩, ⟨by repeat (first | (with_reducible first | exact HK.out | apply jAn.set_ | apply jAs | apply jAw | apply jAt | refine jBh ?_ GW234.out _ | refine jBh ?_ GW235.out _) | exact HK.out)⟩, ⟨by repeat (first | (with_reducible first | exact HB.out | apply jAj | apply jAd | apply jAk | refine jAh ?_ (jAc.ge HI0.out) | refine jAh ?_ GE234.out | refine jAh ?_ GE235.out) | exact HB.out)⟩⟩
    case round =>
     clear H'
     try clear c1
     try clear c2
     try clear p2
     try clear c3
     try clear c6
     try clear p6
     try clear c8
     try clear c9
     try clear c14
     try clear c14b0
     try clear c21
     try clear c24
     try clear c25
     try clear c26
     try clear c38
     try clear c39
     try clear hcz10_0
     try clear hcz10_1
     try clear hcz10_2
     try clear hcz10_3
     try clear hcz12_0
     try clear hcz12_1
     try clear hcz12_2
     try clear hcz12_3
     try clear hcz27_0
     try clear hcz27_1
     try clear hcz27_2
     try clear hcz27_3
     try clear hcz27_4
     try clear hcz27_5
     try clear hcz29_0
     try clear hcz29_1
     try clear hcz29_2
     try clear hcz29_3
     try clear hcz29_4
     try clear hcz29_5
     try clear hcz31_0
     try clear hcz31_1
     try clear hcz31_2
     try clear hcz31_3
     try clear hcz31_4
     try clear hcz31_5
     try clear hcz33_0
     try clear hcz33_1
     try clear hcz33_2
     try clear hcz33_3
     try clear hcz33_4
     try clear hcz33_5
     try clear hcz35_0
     try clear hcz35_1
     try clear hcz35_2
     try clear hcz35_3
     try clear hcz35_4
     try clear hcz35_5
     try clear hcz37_0
     try clear hcz37_1
     try clear hcz37_2
     try clear hcz37_3
     try clear hcz37_4
     try clear hcz37_5
     try clear hcz40_0
     try clear hcz40_1
     try clear hcz40_2
     try clear hcz40_3
     try clear hcz43_0
     try clear hcz43_1
     try clear hcz43_2
     try clear hcz43_3
     try clear hfz10_0
     try clear hfz10_1
     try clear hfz10_2
     try clear hfz10_3
     try clear hfz12_0
     try clear hfz12_1
     try clear hfz12_2
     try clear hfz12_3
     try clear hfz27_0
     try clear hfz27_1
     try clear hfz27_2
     try clear hfz27_3
     try clear hfz27_4
     try clear hfz27_5
     try clear hfz29_0
     try clear hfz29_1
     try clear hfz29_2
     try clear hfz29_3
     try clear hfz29_4
     try clear hfz29_5
     try clear hfz31_0
     try clear hfz31_1
     try clear hfz31_2
     try clear hfz31_3
     try clear hfz31_4
     try clear hfz31_5
     try clear hfz33_0
     try clear hfz33_1
     try clear hfz33_2
     try clear hfz33_3
     try clear hfz33_4
     try clear hfz33_5
     try clear hfz35_0
     try clear hfz35_1
     try clear hfz35_2
     try clear hfz35_3
     try clear hfz35_4
     try clear hfz35_5
     try clear hfz37_0
     try clear hfz37_1
     try clear hfz37_2
     try clear hfz37_3
     try clear hfz37_4
     try clear hfz37_5
     try clear hfz40_0
     try clear hfz40_1
     try clear hfz40_2
     try clear hfz40_3
     try clear hfz43_0
     try clear hfz43_1
     try clear hfz43_2
     try clear hfz43_3
     try clear p2
     obtain ⟨x42_2, x1000_2, x1001_2, x1002_2, x236003_2, u236003, rfl, HA, HK2, HO_236002, HO_236003, BK234, BK235, HI0, HK, HB⟩ := hrel
     cases gk with
     | zero => exact absurd HA.out (by simp [jBb.l1])
     | succ k2 =>
      have H := HA.out
      clear HA
      simp only [jBb.l1] at H
      by_cases c46 : x42_2 < t276
      ·rw [if_pos c46] at H
       have c46b0 : decide (x42_2 < t276) = true := decide_eq_true c46
       clear c46
       replace H := Option.bind_eq_some_iff.mp H
       obtain ⟨⟨t280, t281, t282, t283, t284, t285, t288, t289, t290⟩, A470, H⟩ := H
       replace H : (if x236003_2.length < 1954687338268 then (jBb.l1 k2 t276 (wrap64 (x42_2 + 1)) t288 t289 t290 t236 t240 x236002_1 (x236003_2 ++ [(⟨t280, t281, (⟨t282, t283, t284⟩ : S70), t285⟩ : S72)])) else (none)) = some (r1, r2, r3, r4, r5, r6, r7) := H
       have A47 := jAa.mk A470
       clear A470
       by_cases c48 : x236003_2.length < 1954687338268
       ·rw [if_pos c48] at H
        have LMc48 := jAa.mk c48
        clear c48
        obtain ⟨y291, hy291⟩ : ∃ y_ : List (S72), y_ = (x236003_2 ++ [(⟨t280, t281, (⟨t282, t283, t284⟩ : S70), t285⟩ : S72)]) := ⟨_, rfl⟩
        replace H : (jBb.l1 k2 t276 (wrap64 (x42_2 + 1)) t288 t289 t290 t236 t240 x236002_1 y291) = some (r1, r2, r3, r4, r5, r6, r7) := by first | (rw [hy291]; with_reducible exact H) | (have H2_ := (Option.bind_some _ _).symm.trans H; rw [hy291]; with_reducible exact H2_) | (have H2_ := (Option.bind_some _ _).symm.trans H; with_reducible exact H2_) | with_reducible exact H | (rw [hy291]; exact H) | exact H
        have Ny291 := jAa.mk hy291
        clear hy291
        have H' := jAa.mk H
        clear H
        try go_wp2
        have n0_ := jAa.mk (Kd.R_drew HO_236002.out)
        have n1_ := jAa.mk (Kd.R_drew HO_236003.out)
        have n2_ := jAa.mk (jAi BK234.out)
        have n3_ := jAa.mk (jAi BK235.out)
        have n4_ := jAa.mk (jAc.drew HI0.out)
        have n5_ := jAa.mk (jAw HK.out)
        have n6_ := jAa.mk (jAk HB.out)
        clear HO_236002
        clear HO_236003
        clear BK234
        clear BK235
        clear HI0
        clear HK
        clear HB
        have HO_236002 := n0_
        have HO_236003 := n1_
        have BK234 := n2_
        have BK235 := n3_
        have HI0 := n4_
        have HK := n5_
        have HB := n6_
        clear n0_ n1_ n2_ n3_ n4_ n5_ n6_
        refine jDz (n := 8) (S := fun w' => w'.cell? ⟨gb235, 0, none⟩ = some (.string t236) ∧ w'.cell? ⟨gb235, 1, none⟩ = some (.int .i64 t240) ∧ w'.cell? ⟨gb235, 2, none⟩ = some (u236002) ∧ w'.cell? ⟨gb235, 3, none⟩ = some (u236003)) (ds := [7]) #[false, false, false, false, false, false, false, false] (by kernel_rfl) rfl rfl ⟨(jAb BK235.out 0).trans rfl, (jAb BK235.out 1).trans rfl, (jAb BK235.out 2).trans rfl, (jAb BK235.out 3).trans rfl⟩ (fun hHeld => ?_); refine jDl jBb.tab17 jBb.bits17 (fun HT_ HW_ => ?_)
        generalize wr.drew = w49 at HO_236002 HO_236003 BK234 BK235 HI0 HK HB hHeld ⊢
        refine pure_ (i := 0) (N := some 44) (v := ?_) (a' := ?_) #[true, false, false, false, false, false, false, false] rfl rfl (jCc HT_.out (by kernel_rfl)) (fun _ _ _ h => h) (Or.inl ⟨by rfl, ?_⟩) ?_ ?_
        rotate_left
        ·intro w'
         go_simp
         with_reducible rfl
        rotate_left
        ·simp only [Act.put, List.setIfInBounds_toArray, List.set_cons_zero, List.set_cons_succ, i64_w, i32_w]
         rfl
        refine pure_ (i := 2) (N := some 46) (v := ?_) (a' := ?_) #[true, false, true, false, false, false, false, false] rfl rfl (jCc HT_.out (by kernel_rfl)) (fun _ _ _ h => h) (Or.inl ⟨by rfl, ?_⟩) ?_ ?_
        rotate_left
        ·intro w'
         go_simp
         with_reducible rfl
        rotate_left
        ·simp only [Act.put, List.setIfInBounds_toArray, List.set_cons_zero, List.set_cons_succ, i64_w, i32_w]
         rfl
        refine take_ (i := 1) (N := some 45) (v := ?_) (a' := ?_) #[true, true, true, false, false, false, false, false] rfl rfl (jCm HT_.out HW_.out (by kernel_rfl)) (fun _ _ _ h => h) (Or.inl ⟨by rfl, ?_⟩) hHeld ?_ ?_
        rotate_left
        ·rintro w' ⟨s0, s1, s2, s3⟩
         go_simp
         with_reducible rfl
        rotate_left
        ·simp only [Act.put, List.setIfInBounds_toArray, List.set_cons_zero, List.set_cons_succ, i64_w, i32_w]
         rfl
        refine one_ (i := 3) (N := some 47) #[true, true, true, true, false, false, false, false] rfl rfl (jCu HT_.out (by kernel_rfl)) (by decide) (fun K hK => ?_)
        refine goes_ Tryd.func97 (by kernel_rfl) rfl #[.pointer (some ⟨g, 0, none⟩), .int .i64 8] (by rfl) rfl rfl (by (try simp only [List.map_toArray, List.map_cons, List.map_nil]); first | done | rfl | (simp only [List.length_drop, List.length_take]; rfl)) ?_
        with_reducible refine (jBi.calls k2 g x1000_2 x1001_2 x1002_2 8 t280 t281 t282 t283 t284 t285 t288 t289 t290 w0 _ ?side1 ?side2 A47.out).mono ?_
        (case side1 => repeat (first | (with_reducible first | exact HI0.out | apply jAc.alloc | apply jAc.drewN | apply jAc.drew | apply jAc.set_0 | apply jAc.set_1 | apply jAc.set_2 | refine jAc.far ?_ NB0_234.out _ | refine jAc.far ?_ NB0_235.out _) | exact HI0.out))
        (case side2 => repeat (first | (with_reducible first | exact HB.out | apply jAj | apply jAd | apply jAk | refine jAh ?_ (jAc.ge HI0.out) | refine jAh ?_ GE234.out | refine jAh ?_ GE235.out) | exact HB.out))
        rintro e w50 ⟨v286, rfl, ho0, hi, hb, hk⟩
        refine ⟨_, rfl, ?_⟩
        have n0_ := jAa.mk (Kd.R_mono (Kd.R_keep (jAc.apart (show jAc w0 _ g x1000_2 x1001_2 x1002_2 from by repeat (first | (with_reducible first | exact HI0.out | apply jAc.alloc | apply jAc.drewN | apply jAc.drew | apply jAc.set_0 | apply jAc.set_1 | apply jAc.set_2 | refine jAc.far ?_ NB0_234.out _ | refine jAc.far ?_ NB0_235.out _) | exact HI0.out)) (by (with_reducible repeat (first | apply Kd.R_alloc | apply Kd.R_drewN | apply Kd.R_drew)); exact HO_236002.out) (by decide)) hk (fun _ h => h.2)) (fun _ h => h.1))
        have n1_ := jAa.mk (Kd.R_mono (Kd.R_told (Kd.R_oldK (jAc.apart (show jAc w0 _ g x1000_2 x1001_2 x1002_2 from by repeat (first | (with_reducible first | exact HI0.out | apply jAc.alloc | apply jAc.drewN | apply jAc.drew | apply jAc.set_0 | apply jAc.set_1 | apply jAc.set_2 | refine jAc.far ?_ NB0_234.out _ | refine jAc.far ?_ NB0_235.out _) | exact HI0.out)) (by (with_reducible repeat (first | apply Kd.R_alloc | apply Kd.R_drewN | apply Kd.R_drew)); exact HO_236003.out) (by decide)) hk) (Kd.R_base ho0)) (fun _ h_ => h_.1))
        have n2_ := jAa.mk (jAn.blk hk (g' := gb234) (o := .cells #[.string (⟨#[]⟩ : ByteArray), .int .i64 0, .slice none 0 0, .slice none 0 0] 45 (0, 0)) (by (with_reducible repeat (first | refine jAf ?_ _ | refine jAi ?_ | refine jAe ?_ _)); exact BK234.out) NB234_0.out (by simp))
        have n3_ := jAa.mk (jAn.blk hk (g' := gb235) (o := .cells #[.string t236, .int .i64 t240, u236002, u236003] 45 (0, 0)) (by (with_reducible repeat (first | refine jAf ?_ _ | refine jAi ?_ | refine jAe ?_ _)); exact BK235.out) NB235_0.out (by simp))
        have n4_ := jAa.mk (Kd.R_lower (Kd.R_new' ho0 (Kd.R_lt (by (with_reducible repeat (first | apply Kd.R_alloc | apply Kd.R_drewN | apply Kd.R_drew)); exact HO_236003.out))) (jCh (w := w) (g := g) (row := none) (by repeat (first | (with_reducible first | exact HK.out | apply jAn.set_ | apply jAs | apply jAw | apply jAt | refine jBh ?_ GW234.out _ | refine jBh ?_ GW235.out _) | exact HK.out))))
        have n5_ := jAa.mk (jAn.trans (by repeat (first | (with_reducible first | exact HK.out | apply jAn.set_ | apply jAs | apply jAw | apply jAt | refine jBh ?_ GW234.out _ | refine jBh ?_ GW235.out _) | exact HK.out)) hk (.inl rfl))
        have n6_ := jAa.mk (hb)
        have n7_ := jAa.mk (hi)
        clear HO_236002
        clear HO_236003
        clear BK234
        clear BK235
        clear HK
        clear HB
        clear HI0
        have HO_236002 := n0_
        have HO_236003 := n1_
        have BK234 := n2_
        have BK235 := n3_
        have HO287 := n4_
        have HK := n5_
        have HB := n6_
        have HI0 := n7_
        clear n0_ n1_ n2_ n3_ n4_ n5_ n6_ n7_
        (try clear hb)
        (try clear hb2)
        (try clear hk)
        (try clear hi)
        (try clear ho0)
        obtain ⟨Ao52, co52, eo52⟩ := Kd.R_slice HO287.out
        (first | subst eo52 | (injection eo52 with f1_ f2_ f3_; have f4_ := f1_.symm; have f5_ := f3_.symm; clear f1_ f2_ f3_; subst f4_; subst f5_))
        refine hK.out _ _ ⟨(jAb BK235.out 0).trans rfl, (jAb BK235.out 1).trans rfl, (jAb BK235.out 2).trans rfl, (jAb BK235.out 3).trans rfl⟩ (fun hHeld => ?_)
        clear hK K
        refine norm_ (a' := ?_) ?_ ?_
        rotate_left
        ·show Act.put _ (some 47) _ = _
         simp only [Act.put, List.setIfInBounds_toArray, List.set_cons_zero, List.set_cons_succ, i64_w, i32_w]
         rfl
        refine one_ (i := 4) (N := some 48) #[true, true, true, true, true, false, false, false] rfl rfl (jCu HT_.out (by kernel_rfl)) (by decide) (fun K hK => ?_)
        refine value_ (w1 := ?_) (v := ?_) (by rfl) rfl ?_ ?_
        rotate_left 2
        ·go_simp
         constructor
         ·rfl
         ·rfl
        refine hK.out _ _ ⟨(jAb (jAe BK235.out _) 0).trans rfl, (jAb (jAe BK235.out _) 1).trans rfl, (jAb (jAe BK235.out _) 2).trans rfl, (jAb (jAe BK235.out _) 3).trans rfl⟩ (fun hHeld => ?_)
        clear hK K
        refine norm_ (a' := ?_) ?_ ?_
        rotate_left
        ·show Act.put _ (some 48) _ = _
         simp only [Act.put, List.setIfInBounds_toArray, List.set_cons_zero, List.set_cons_succ, i64_w, i32_w]
         rfl
        refine one_ (i := 5) (N := some 49) #[true, true, true, true, true, true, false, false] rfl rfl (jCu HT_.out (by kernel_rfl)) (by decide) (fun K hK => ?_)
        refine Kd.R_append_step k72 w.heap.size (by rfl) (.tmp 45) (.tmp 48) 43 72 (.agg #[(.int .i64 0), (.int .i64 0), (.int .i64 0), (.int .i64 0), (.string ⟨#[]⟩), (.slice none 0 0)]) 72 rfl Tryd.underlying43 info72 rfl (by decide) (by omega) u236003 x236003_2 (⟨t280, t281, (⟨t282, t283, t284⟩ : S70), t285⟩ : S72) [.int .i64 t280, .int .i64 t281, .int .i64 t282, .int .i64 t283, .string t284, .slice Ao52 t285.length co52] (fun _ => True) (fun k_ => ((fun _ => True)) k_ ∧ some k_ ≠ (u236003 : Value).ownBlock) rfl rfl ?aP (fun _ hk => hk) ?aF ?aO (Below.refl _ _) ?aS ?aL ?_
        (case aP => exact k72_mkM _ _ _ (⟨t280, t281, (⟨t282, t283, t284⟩ : S70), t285⟩ : S72) (Kd.R_mono (HO287.out) (fun k_ hk => ⟨trivial, hk.2⟩)))
        (case aF => exact (fun _ _ => trivial))
        (case aO => exact (by (with_reducible repeat (first | apply Kd.R_alloc | apply Kd.R_drewN | apply Kd.R_drew)); exact Kd.R_mono HO_236003.out (fun _ hk => trivial)))
        (case aS => exact (jCh (w := w) (g := g) (row := none) (by repeat (first | (with_reducible first | exact HK.out | apply jAn.set_ | apply jAs | apply jAw | apply jAt | refine jBh ?_ GW234.out _ | refine jBh ?_ GW235.out _) | exact HK.out))))
        (case aL => have := LMc48.out; omega)
        intro v292 w51 ho hb hg hat
        rw [← Ny291.out] at ho
        have n0_ := jAa.mk (Kd.R_over' (by (with_reducible repeat (first | apply Kd.R_alloc | apply Kd.R_drewN | apply Kd.R_drew)); exact HO_236002.out) (Kd.R_typed (by (with_reducible repeat (first | apply Kd.R_alloc | apply Kd.R_drewN | apply Kd.R_drew)); exact HO_236003.out)) (by decide) hg)
        have n1_ := jAa.mk (jCz (g := gb234) (o := .cells #[.string (⟨#[]⟩ : ByteArray), .int .i64 0, .slice none 0 0, .slice none 0 0] 45 (0, 0)) (by (with_reducible repeat (first | refine jAf ?_ _ | refine jAi ?_ | refine jAe ?_ _)); exact BK234.out) hg (Kd.R_ne HO_236003.out BK234.out (by decide)))
        have n2_ := jAa.mk (jCz (g := gb235) (o := .cells #[.string t236, .int .i64 t240, u236002, u236003] 45 (0, 0)) (by (with_reducible repeat (first | refine jAf ?_ _ | refine jAi ?_ | refine jAe ?_ _)); exact BK235.out) hg (Kd.R_ne HO_236003.out BK235.out (by decide)))
        have n3_ := jAa.mk (jAc.grown (by repeat (first | (with_reducible first | exact HI0.out | apply jAc.alloc | apply jAc.drewN | apply jAc.drew | apply jAc.set_0 | apply jAc.set_1 | apply jAc.set_2 | refine jAc.far ?_ NB0_234.out _ | refine jAc.far ?_ NB0_235.out _) | exact HI0.out)) hg (jAc.own_ne HI0.out HO_236003.out (by decide)))
        have n4_ := jAa.mk (jEp (by repeat (first | (with_reducible first | exact HB.out | apply jAj | apply jAd | apply jAk | refine jAh ?_ (jAc.ge HI0.out) | refine jAh ?_ GE234.out | refine jAh ?_ GE235.out) | exact HB.out)) HL.out hb)
        have n5_ := jAa.mk (jAn.trans (by repeat (first | (with_reducible first | exact HK.out | apply jAn.set_ | apply jAs | apply jAw | apply jAt | refine jBh ?_ GW234.out _ | refine jBh ?_ GW235.out _) | exact HK.out)) (jAn.of_grown hg g) (Kd.R_base2 HO_236003.out))
        have n6_ := jAa.mk (ho)
        clear HO_236002
        clear BK234
        clear BK235
        clear HI0
        clear HB
        clear HK
        clear HO_236003
        clear HO287
        have HO_236002 := n0_
        have BK234 := n1_
        have BK235 := n2_
        have HI0 := n3_
        have HB := n4_
        have HK := n5_
        have HO293 := n6_
        clear n0_ n1_ n2_ n3_ n4_ n5_ n6_
        clear ho hb hg hat
        obtain ⟨Ao53, co53, eo53⟩ := Kd.R_slice HO293.out
        (first | subst eo53 | (injection eo53 with f1_ f2_ f3_; have f4_ := f1_.symm; have f5_ := f3_.symm; clear f1_ f2_ f3_; subst f4_; subst f5_))
        refine hK.out _ _ ⟨(jAb BK235.out 0).trans rfl, (jAb BK235.out 1).trans rfl, (jAb BK235.out 2).trans rfl, (jAb BK235.out 3).trans rfl⟩ (fun hHeld => ?_)
        clear hK K
        refine norm_ (a' := ?_) ?_ ?_
        rotate_left
        ·show Act.put _ (some 49) _ = _
         simp only [Act.put, List.setIfInBounds_toArray, List.set_cons_zero, List.set_cons_succ, i64_w, i32_w]
         rfl
        refine pure_ (i := 6) (N := some 50) (v := ?_) (a' := ?_) #[true, true, true, true, true, true, true, false] rfl rfl (jCc HT_.out (by kernel_rfl)) (fun _ _ _ h => h) (Or.inl ⟨by rfl, ?_⟩) ?_ ?_
        rotate_left
        ·intro w'
         go_simp
         with_reducible rfl
        rotate_left
        ·simp only [Act.put, List.setIfInBounds_toArray, List.set_cons_zero, List.set_cons_succ, i64_w, i32_w]
         rfl
        refine last_ (i := 7) (N := none) #[true, true, true, true, true, true, true, true] rfl rfl (jCu HT_.out (by kernel_rfl)) (by decide) (fun K hK => ?_)
        have hs54 : w51.cell? ⟨gb235, 3, none⟩ = some (u236003) := (jAb BK235.out 3).trans rfl
        have hfs54 := jAg BK235.out 3
        have hns54_0 := NB234_235.out
        have hms54_0 := NB235_234.out
        refine skip_ (w1 := ?_) (by rfl) rfl ?_ ?_
        rotate_left
        ·go_simp
         rfl
        refine hK.out _ _ ?_
        clear hK K
        refine done_ (jEm HT_.out (by kernel_rfl)) ?_
        try go_wp2
        go_roundg k2
        case measure => have := HK1.out; have := HK2.out; omega
        case rel => exact ⟨(wrap64 (x42_2 + 1)), (t288), (t289), (t290), (y291), (.slice Ao53 y291.length co53), (by first | rfl | (simp; done) | (simp [*]; done)), H', ⟨by have := HK1.out; have := HK2.out; omega⟩, ⟨by (with_reducible repeat (first | apply Kd.R_alloc | apply Kd.R_drewN | apply Kd.R_drew)); exact Kd.R_mono (Kd.R_far (p := ⟨gb235, 3, none⟩) (Kd.R_types HO_236002.out BK235.out (by decide)) (fun _ hk => hk.2) (.slice Ao53 y291.length co53)) (fun _ hk => trivial)⟩, ⟨by (with_reducible repeat (first | apply Kd.R_alloc | apply Kd.R_drewN | apply Kd.R_drew)); exact Kd.R_mono (Kd.R_far (p := ⟨gb235, 3, none⟩) (Kd.R_types HO293.out BK235.out (by decide)) (fun _ hk => hk.2) (.slice Ao53 y291.length co53)) (fun _ hk => trivial)⟩, ⟨by (with_reducible repeat (first | refine jAf ?_ _ | refine jAi ?_ | refine jAe ?_ _)); refine jBa ?_ NB234_235.out _; (with_reducible repeat (first | refine jAf ?_ _ | refine jAi ?_ | refine jAe ?_ _)); exact BK234.out⟩, ⟨by (with_reducible repeat (first | refine jAf ?_ _ | refine jAi ?_ | refine jAe ?_ _)); refine jBf (cs := #[.string t236, .int .i64 t240, u236002, u236003]) ?_ 3 _ rfl; (with_reducible repeat (first | refine jAf ?_ _ | refine jAi ?_ | refine jAe ?_ _)); exact BK235.out⟩, ⟨by repeat (first | (with_reducible first | exact HI0.out | apply jAc.alloc | apply jAc.drewN | apply jAc.drew | apply jAc.set_0 | apply jAc.set_1 | apply jAc.set_2 | refine jAc.far ?_ NB0_234.out _ | refine jAc.far ?_ NB0_235.out _) | exact HI0.out)⟩, ⟨by repeat (first | (with_reducible first | exact HK.out | apply jAn.set_ | apply jAs | apply jAw | apply jAt | refine jBh ?_ GW234.out _ | refine jBh ?_ GW235.out _) | exact HK.out)⟩, ⟨by repeat (first | (with_reducible first | exact HB.out | apply jAj | apply jAd | apply jAk | refine jAh ?_ (jAc.ge HI0.out) | refine jAh ?_ GE234.out | refine jAh ?_ GE235.out) | exact HB.out)⟩⟩
       ·rw [if_neg c48] at H
        exact absurd H (by simp)
      ·rw [if_neg c46] at H
       have c46b0 : decide (x42_2 < t276) = false := decide_eq_false c46
       clear c46
       simp only [Option.some.injEq, Prod.mk.injEq] at H
       obtain ⟨rfl, rfl, rfl, rfl, rfl, rfl, rfl⟩ := H
       have hnb55 := NB235_234.out
       have hnc55 := NB234_235.out
       have hnb56 := NB235_0.out
       have hnc56 := NB0_235.out
       have hcz57_0 : wr.cell? ⟨gb235, 0, none⟩ = some (.string t236) := (jAb BK235.out 0).trans rfl
       have hcz57_1 : wr.cell? ⟨gb235, 1, none⟩ = some (.int .i64 t240) := (jAb BK235.out 1).trans rfl
       have hcz57_2 : wr.cell? ⟨gb235, 2, none⟩ = some (u236002) := (jAb BK235.out 2).trans rfl
       have hcz57_3 : wr.cell? ⟨gb235, 3, none⟩ = some (u236003) := (jAb BK235.out 3).trans rfl
       have hfz57_0 := jAg BK235.out 0
       have hfz57_1 := jAg BK235.out 1
       have hfz57_2 := jAg BK235.out 2
       have hfz57_3 := jAg BK235.out 3
       have hnb58 := NB234_0.out
       have hnc58 := NB0_234.out
       have hcz59_0 : wr.cell? ⟨gb234, 0, none⟩ = some (.string (⟨#[]⟩ : ByteArray)) := (jAb BK234.out 0).trans rfl
       have hcz59_1 : wr.cell? ⟨gb234, 1, none⟩ = some (.int .i64 0) := (jAb BK234.out 1).trans rfl
       have hcz59_2 : wr.cell? ⟨gb234, 2, none⟩ = some (.slice none 0 0) := (jAb BK234.out 2).trans rfl
       have hcz59_3 : wr.cell? ⟨gb234, 3, none⟩ = some (.slice none 0 0) := (jAb BK234.out 3).trans rfl
       have hfz59_0 := jAg BK234.out 0
       have hfz59_1 := jAg BK234.out 1
       have hfz59_2 := jAg BK234.out 2
       have hfz59_3 := jAg BK234.out 3
       obtain ⟨Ao60, co60, eo60⟩ := Kd.R_slice HO_236002.out
       subst eo60
       obtain ⟨Ao61, co61, eo61⟩ := Kd.R_slice HO_236003.out
       subst eo61
       go_wp2
       refine bodyPost_ret (results_cell_row rfl _ _ gb234 45 #[.string t236, .int .i64 t240, .slice Ao60 x236002_1.length co60, .slice Ao61 x236003_2.length co61] (0, 0) _ rfl (by (with_reducible repeat (first | refine jAf ?_ _ | refine jAi ?_ | refine jAe ?_ _)); refine jBf (cs := #[.string t236, .int .i64 t240, .slice Ao60 x236002_1.length co60, .slice none 0 0]) ?_ 3 _ rfl; (with_reducible repeat (first | refine jAf ?_ _ | refine jAi ?_ | refine jAe ?_ _)); refine jBf (cs := #[.string t236, .int .i64 t240, .slice none 0 0, .slice none 0 0]) ?_ 2 _ rfl; (with_reducible repeat (first | refine jAf ?_ _ | refine jAi ?_ | refine jAe ?_ _)); refine jBf (cs := #[.string t236, .int .i64 0, .slice none 0 0, .slice none 0 0]) ?_ 1 _ rfl; (with_reducible repeat (first | refine jAf ?_ _ | refine jAi ?_ | refine jAe ?_ _)); refine jBf (cs := #[.string (⟨#[]⟩ : ByteArray), .int .i64 0, .slice none 0 0, .slice none 0 0]) ?_ 0 _ rfl; (with_reducible repeat (first | refine jAf ?_ _ | refine jAi ?_ | refine jAe ?_ _)); exact BK234.out) Tryd.underlying45 rfl (by kernel_rfl)) rfl ?_
       exact ⟨_, _, by first | rfl | (simp [jBd, jBe] <;> rfl) | (simp [*, jBd, jBe] <;> rfl), by (with_reducible repeat (first | apply Kd.R_alloc | apply Kd.R_drewN | apply Kd.R_drew)); exact Kd.R_mono (Kd.R_far (p := ⟨gb234, 3, none⟩) (Kd.R_far (p := ⟨gb234, 2, none⟩) (Kd.R_far (p := ⟨gb234, 1, none⟩) (Kd.R_far (p := ⟨gb234, 0, none⟩) (Kd.R_types HO_236002.out BK234.out (by decide)) (fun _ hk => hk.2) (.string t236)) (fun _ hk => hk.2) (.int .i64 t240)) (fun _ hk => hk.2) (.slice Ao60 x236002_1.length co60)) (fun _ hk => hk.2) (.slice Ao61 x236003_2.length co61)) (fun _ hk => trivial), by (with_reducible repeat (first | apply Kd.R_alloc | apply Kd.R_drewN | apply Kd.R_drew)); exact Kd.R_mono (Kd.R_far (p := ⟨gb234, 3, none⟩) (Kd.R_far (p := ⟨gb234, 2, none⟩) (Kd.R_far (p := ⟨gb234, 1, none⟩) (Kd.R_far (p := ⟨gb234, 0, none⟩) (Kd.R_types HO_236003.out BK234.out (by decide)) (fun _ hk => hk.2) (.string t236)) (fun _ hk => hk.2) (.int .i64 t240)) (fun _ hk => hk.2) (.slice Ao60 x236002_1.length co60)) (fun _ hk => hk.2) (.slice Ao61 x236003_2.length co61)) (fun _ hk => trivial), by repeat (first | (with_reducible first | exact HI0.out | apply jAc.alloc | apply jAc.drewN | apply jAc.drew | apply jAc.set_0 | apply jAc.set_1 | apply jAc.set_2 | refine jAc.far ?_ NB0_234.out _ | refine jAc.far ?_ NB0_235.out _) | exact HI0.out), by repeat (first | (with_reducible first | exact HB.out | apply jAj | apply jAd | apply jAk | refine jAh ?_ (jAc.ge HI0.out) | refine jAh ?_ GE234.out | refine jAh ?_ GE235.out) | exact HB.out), by repeat (first | (with_reducible first | exact HK.out | apply jAn.set_ | apply jAs | apply jAw | apply jAt | refine jBh ?_ GW234.out _ | refine jBh ?_ GW235.out _) | exact HK.out)⟩
end Go.Proofs.YtefdfgmlmjnmlaaDoor.Rf
end

section
set_option linter.unusedVariables false
set_option linter.unusedSimpArgs false
namespace Go.Proofs.YtefdfgmlmjnmlaaDoor.Rf
open Go.RowKit Go.Proofs.YtefdfgmlmjnmlaaDoorW.PrintWords Go.Proofs.YtefdfgmlmjnmlaaDoorW.PrintLast Go.Proofs.YtefdfgmlmjnmlaaDoorW.PrintMore
attribute [local go_sem] jCg jCo
def jCj.f (s0_0 : ByteArray) (s0_1 : Int) (s0_2 : Bool) : Option (Int × ByteArray × Int × Bool) := if s0_2 = true then (some (4, s0_0, s0_1, s0_2)) else (if s0_1 = (s0_0.size : Int) then (some (0, s0_0, s0_1, s0_2)) else (some (4, s0_0, s0_1, s0_2)))
set_option maxHeartbeats 8000000 in
set_option maxRecDepth 100000 in
theorem jCj.calls (g : Nat) (s0_0 : ByteArray) (s0_1 : Int) (s0_2 : Bool) (r1 : Int) (r2 : ByteArray) (r3 : Int) (r4 : Bool) (w0 w : World) (hI : jAc w0 w g s0_0 s0_1 s0_2) (hB : Below w0.heap.size w0 w) (h : jCj.f s0_0 s0_1 s0_2 = some (r1, r2, r3, r4)) :
  Calls Tryd.prog 69 #[.pointer (some ⟨g, 0, none⟩)] w fun e w' => e = .returned (.int .i64 r1) ∧ jAc w0 w' g r2 r3 r4 ∧ Below w0.heap.size w0 w' ∧ jAn w w' g none := by
 have HI0 := jAa.mk hI
 have HK := jAa.mk (jAn.refl w g none)
 have HL := jAa.mk hB.size
 clear hI
 have HW0 := jAa.mk hB.size
 have HB := jAa.mk hB
 clear hB
 have H : (if s0_2 = true then (some (4, s0_0, s0_1, s0_2)) else (if s0_1 = (s0_0.size : Int) then (some (0, s0_0, s0_1, s0_2)) else (some (4, s0_0, s0_1, s0_2)))) = some (r1, r2, r3, r4) := h
 clear h
 by_cases c2 : s0_2 = true
 ·subst c2
  have H1 : (some (4, s0_0, s0_1, true)) = some (r1, r2, r3, r4) := by rw [if_pos rfl] at H; exact H
  clear H
  have H := H1
  clear H1
  simp only [Option.some.injEq, Prod.mk.injEq] at H
  obtain ⟨rfl, rfl, rfl, rfl⟩ := H
  obtain ⟨HGz3, hgz3⟩ := HI0.out
  have hcz3_0 := jBw HGz3
  have hcz3_1 := jBx HGz3
  have hcz3_2 := jBy HGz3
  have hfz3_0 := jAg HGz3 0
  have hfz3_1 := jAg HGz3 1
  have hfz3_2 := jAg HGz3 2
  clear HGz3 hgz3
  go_enter Tryd.func69, Tryd.ntmps69
  go_wp2
  repeat (go_quiet (fail); try go_wp2)
  go_ret
  exact ⟨by first | rfl | (simp [jBd, jBe] <;> rfl) | (simp [*, jBd, jBe] <;> rfl), by repeat (first | (with_reducible first | exact HI0.out | apply jAc.alloc | apply jAc.drewN | apply jAc.drew | apply jAc.set_0 | apply jAc.set_1 | apply jAc.set_2) | exact HI0.out), by repeat (first | (with_reducible first | exact HB.out | apply jAj | apply jAd | apply jAk | refine jAh ?_ (jAc.ge HI0.out)) | exact HB.out), by repeat (first | (with_reducible first | exact HK.out | apply jAn.set_ | apply jAs | apply jAw | apply jAt) | exact HK.out)⟩
 ·replace c2 := Bool.eq_false_iff.mpr c2
  subst c2
  have H1 : (if s0_1 = (s0_0.size : Int) then (some (0, s0_0, s0_1, false)) else (some (4, s0_0, s0_1, false))) = some (r1, r2, r3, r4) := by rw [if_neg (show ¬ (false = true) by decide)] at H; exact H
  clear H
  have H := H1
  clear H1
  by_cases c4 : s0_1 = (s0_0.size : Int)
  ·rw [if_pos c4] at H
   have c4b0 : (s0_1 == (s0_0.size : Int)) = true := beq_iff_eq.mpr c4
   have c4b1 : (s0_1 != (s0_0.size : Int)) = false := bne_eq_false_iff_eq.mpr c4
   clear c4
   simp only [Option.some.injEq, Prod.mk.injEq] at H
   obtain ⟨rfl, rfl, rfl, rfl⟩ := H
   obtain ⟨HGz5, hgz5⟩ := HI0.out
   have hcz5_0 := jBw HGz5
   have hcz5_1 := jBx HGz5
   have hcz5_2 := jBy HGz5
   have hfz5_0 := jAg HGz5 0
   have hfz5_1 := jAg HGz5 1
   have hfz5_2 := jAg HGz5 2
   clear HGz5 hgz5
   go_enter Tryd.func69, Tryd.ntmps69
   go_wp2
   repeat (go_quiet (fail); try go_wp2)
   go_ret
   exact ⟨by first | rfl | (simp [jBd, jBe] <;> rfl) | (simp [*, jBd, jBe] <;> rfl), by repeat (first | (with_reducible first | exact HI0.out | apply jAc.alloc | apply jAc.drewN | apply jAc.drew | apply jAc.set_0 | apply jAc.set_1 | apply jAc.set_2) | exact HI0.out), by repeat (first | (with_reducible first | exact HB.out | apply jAj | apply jAd | apply jAk | refine jAh ?_ (jAc.ge HI0.out)) | exact HB.out), by repeat (first | (with_reducible first | exact HK.out | apply jAn.set_ | apply jAs | apply jAw | apply jAt) | exact HK.out)⟩
  ·rw [if_neg c4] at H
   have c4b0 : (s0_1 == (s0_0.size : Int)) = false := beq_eq_false_iff_ne.mpr c4
   have c4b1 : (s0_1 != (s0_0.size : Int)) = true := bne_iff_ne.mpr c4
   simp only [Option.some.injEq, Prod.mk.injEq] at H
   obtain ⟨rfl, rfl, rfl, rfl⟩ := H
   obtain ⟨HGz6, hgz6⟩ := HI0.out
   have hcz6_0 := jBw HGz6
   have hcz6_1 := jBx HGz6
   have hcz6_2 := jBy HGz6
   have hfz6_0 := jAg HGz6 0
   have hfz6_1 := jAg HGz6 1
   have hfz6_2 := jAg HGz6 2
   clear HGz6 hgz6
   go_enter Tryd.func69, Tryd.ntmps69
   go_wp2
   repeat (go_quiet (fail); try go_wp2)
   go_ret
   exact ⟨by first | rfl | (simp [jBd, jBe] <;> rfl) | (simp [*, jBd, jBe] <;> rfl), by repeat (first | (with_reducible first | exact HI0.out | apply jAc.alloc | apply jAc.drewN | apply jAc.drew | apply jAc.set_0 | apply jAc.set_1 | apply jAc.set_2) | exact HI0.out), by repeat (first | (with_reducible first | exact HB.out | apply jAj | apply jAd | apply jAk | refine jAh ?_ (jAc.ge HI0.out)) | exact HB.out), by repeat (first | (with_reducible first | exact HK.out | apply jAn.set_ | apply jAs | apply jAw | apply jAt) | exact HK.out)⟩
end Go.Proofs.YtefdfgmlmjnmlaaDoor.Rf
end

section
set_option linter.unusedVariables false
set_option linter.unusedSimpArgs false
namespace Go.Proofs.YtefdfgmlmjnmlaaDoor.Rf
open Go.RowKit Go.Proofs.YtefdfgmlmjnmlaaDoorW.PrintWords Go.Proofs.YtefdfgmlmjnmlaaDoorW.PrintLast Go.Proofs.YtefdfgmlmjnmlaaDoorW.PrintMore
attribute [local go_sem] jCg jCo
mutual
def jBm.l0 : Nat → Int → Int → ByteArray → Int → Bool → Int → List (S45) → Option (Int × (List (S45)) × (List (S27)) × Int)
 | 0, _, _, _, _, _, _, _ => none
 | k + 1, x14, x15, x299000, x299001, x299002, x304000, x304001 => if x15 < x14 then ((jBb.f k x299000 x299001 x299002).bind fun bt308 => (if x304001.length < 1954687338268 then (jBm.l0 k x14 (wrap64 (x15 + 1)) bt308.2.2.2.2.1 bt308.2.2.2.2.2.1 bt308.2.2.2.2.2.2 x304000 (x304001 ++ [(⟨bt308.1, bt308.2.1, bt308.2.2.1, bt308.2.2.2.1⟩ : S45)])) else (none))) else ((jBk.f k x299000 x299001 x299002 64).bind fun bt322 => (jBm.l1 k bt322.1 0 bt322.2.1 bt322.2.2.1 bt322.2.2.2 x304000 x304001 ([] : List (S27))))
def jBm.l1 : Nat → Int → Int → ByteArray → Int → Bool → Int → List (S45) → List (S27) → Option (Int × (List (S45)) × (List (S27)) × Int)
 | 0, _, _, _, _, _, _, _, _ => none
 | k + 1, x26, x27, x299000, x299001, x299002, x304000, x304001, x304002 => if x27 < x26 then ((jAm.f k x299000 x299001 x299002).bind fun bt327 => ((jAm.f k bt327.2.1 bt327.2.2.1 bt327.2.2.2).bind fun bt331 => ((jBr.f k bt331.2.1 bt331.2.2.1 bt331.2.2.2).bind fun bt335 => (if x304002.length < 4398046511104 then (jBm.l1 k x26 (wrap64 (x27 + 1)) bt335.2.1 bt335.2.2.1 bt335.2.2.2 x304000 x304001 (x304002 ++ [(⟨bt327.1, bt335.1, bt331.1⟩ : S27)])) else (none))))) else ((jCj.f x299000 x299001 x299002).bind fun bt342 => (if bt342.1 = 0 then (some (x304000, x304001, x304002, 0)) else (some (0, ([] : List (S45)), ([] : List (S27)), bt342.1))))
end
def jBm.f (k : Nat) (a0 : ByteArray) : Option (Int × (List (S45)) × (List (S27)) × Int) := (jEv.f a0).bind fun bt295 => ((jAm.f k bt295.1 bt295.2.1 bt295.2.2).bind fun bt299 => ((jBk.f k bt299.2.1 bt299.2.2.1 bt299.2.2.2 12).bind fun bt304 => (jBm.l0 k bt304.1 0 bt304.2.1 bt304.2.2.1 bt304.2.2.2 bt299.1 ([] : List (S45)))))
def jBm.T5 : Bool × List (List Nat × List Nat) := (true, [([], []), ([0], [0]), ([], []), ([2], [2]), ([3], [3]), ([1, 4, 3], [1, 4]), ([0, 1, 2, 3, 4, 5], []), ([6, 5, 5, 0, 1, 2, 3, 4, 5], [5, 6])])
def jBm.B5 : List Nat := [0, 1, 0, 4, 12, 31, 63, 127]
theorem jBm.tab5 : rtab .any (opsOf Tryd.f40 5) = jBm.T5 := by kernel_rfl
theorem jBm.bits5 : jDq jBm.T5.2 jBm.B5 = true := by kernel_rfl
set_option maxHeartbeats 8000000 in
set_option maxRecDepth 100000 in
theorem jBm.calls (k : Nat) (a0 : ByteArray) (r1 : Int) (r2 : List (S45)) (r3 : List (S27)) (r4 : Int) (w : World) (h : jBm.f k a0 = some (r1, r2, r3, r4)) :
  Calls Tryd.prog 40 #[.string a0] w fun e w' => ∃ v1_ v2_ : Value, e = .returned (.tuple #[.agg #[.int .i64 r1, v1_, v2_], .int .i64 r4]) ∧ Kd.R k45 45 w' w.heap.size (fun _ => True) v1_ r2 ∧ Kd.R k27 27 w' w.heap.size (fun _ => True) v2_ r3 ∧ Below w.heap.size w w' := by
 have hu25 := Tryd.underlying25
 have hu27 := Tryd.underlying27
 have HB := jAa.mk (Below.refl w.heap.size w)
 have H : ((jEv.f a0).bind fun bt295 => ((jAm.f k bt295.1 bt295.2.1 bt295.2.2).bind fun bt299 => ((jBk.f k bt299.2.1 bt299.2.2.1 bt299.2.2.2 12).bind fun bt304 => (jBm.l0 k bt304.1 0 bt304.2.1 bt304.2.2.1 bt304.2.2.2 bt299.1 ([] : List (S45)))))) = some (r1, r2, r3, r4) := h
 clear h
 replace H := Option.bind_eq_some_iff.mp H
 obtain ⟨⟨t295, t296, t297⟩, A20, H⟩ := H
 replace H : ((jAm.f k t295 t296 t297).bind fun bt299 => ((jBk.f k bt299.2.1 bt299.2.2.1 bt299.2.2.2 12).bind fun bt304 => (jBm.l0 k bt304.1 0 bt304.2.1 bt304.2.2.1 bt304.2.2.2 bt299.1 ([] : List (S45))))) = some (r1, r2, r3, r4) := H
 have A2 := jAa.mk A20
 clear A20
 replace H := Option.bind_eq_some_iff.mp H
 obtain ⟨⟨t299, t300, t301, t302⟩, A30, H⟩ := H
 replace H : ((jBk.f k t300 t301 t302 12).bind fun bt304 => (jBm.l0 k bt304.1 0 bt304.2.1 bt304.2.2.1 bt304.2.2.2 t299 ([] : List (S45)))) = some (r1, r2, r3, r4) := H
 have A3 := jAa.mk A30
 clear A30
 replace H := Option.bind_eq_some_iff.mp H
 obtain ⟨⟨t304, t305, t306, t307⟩, A40, H⟩ := H
 replace H : (jBm.l0 k t304 0 t305 t306 t307 t299 ([] : List (S45))) = some (r1, r2, r3, r4) := H
 have A4 := jAa.mk A40
 clear A40
 have H' := jAa.mk H
 clear H
 go_enter Tryd.func40, Tryd.ntmps40
 go_wp2_with (first | ((with_reducible refine jCa (N := 2) rfl ?_); refine jBv ?hg (N := 2) ?hd (cs := #[.int .i64 0, .slice none 0 0, .slice none 0 0]) (t := 25) ?hr ?_; (case hd => rfl); (case hg => rfl); (case hr => first | (go_simp; done) | (go_simp; rfl)); intro gb294 hg w5 hbox hb; have n0_ := jAa.mk (jAu (by repeat (first | (with_reducible first | exact HB.out | apply jAj | apply jAd | apply jAk) | exact HB.out)) hb); have n1_ := jAa.mk (hbox); have n2_ := jAa.mk ((by rw [hg]; exact (jBj (by repeat (first | (with_reducible first | exact HB.out | apply jAj | apply jAd | apply jAk) | exact HB.out))) : w.heap.size ≤ gb294)); have n3_ := jAa.mk ((by rw [hg]; exact (jBj (by repeat (first | (with_reducible first | exact HB.out | apply jAj | apply jAd | apply jAk) | exact HB.out))) : w.heap.size ≤ gb294)); clear HB; have HB := n0_; have BK294 := n1_; have GW294 := n2_; have GE294 := n3_; clear n0_ n1_ n2_ n3_; clear hb hbox hg) | ((with_reducible refine jBl (f := 64) rfl ?_); refine jCe (some 9) rfl rfl Tryd.func64 (by kernel_rfl) rfl #[.string a0] rfl (by (try simp only [List.map_toArray, List.map_cons, List.map_nil]); first | done | rfl | (simp only [List.length_drop, List.length_take]; rfl)) ?_; (with_reducible refine (jEv.calls a0 t295 t296 t297 w _ ?side1 A2.out).mono ?_); (case side1 => repeat (first | (with_reducible first | exact HB.out | apply jAj | apply jAd | apply jAk | refine jAh ?_ GE294.out) | exact HB.out)); rintro e w6 ⟨g298, rfl, hi, hb, hb2⟩; refine ⟨_, rfl, ?_⟩; have n0_ := jAa.mk (jAp (g := gb294) (o := .cells #[.int .i64 0, .slice none 0 0, .slice none 0 0] 25 (0, 0)) (by (with_reducible repeat (first | refine jAf ?_ _ | refine jAi ?_ | refine jAe ?_ _)); exact BK294.out) hb2); have n1_ := jAa.mk (hb); have n2_ := jAa.mk (hi); have n3_ := jAa.mk (jAc.ne_blk hi (jAp (g := gb294) (o := .cells #[.int .i64 0, .slice none 0 0, .slice none 0 0] 25 (0, 0)) (by (with_reducible repeat (first | refine jAf ?_ _ | refine jAi ?_ | refine jAe ?_ _)); exact BK294.out) hb2) (by decide)); have n4_ := jAa.mk (Ne.symm (jAc.ne_blk hi (jAp (g := gb294) (o := .cells #[.int .i64 0, .slice none 0 0, .slice none 0 0] 25 (0, 0)) (by (with_reducible repeat (first | refine jAf ?_ _ | refine jAi ?_ | refine jAe ?_ _)); exact BK294.out) hb2) (by decide))); clear BK294; clear HB; have BK294 := n0_; have HB := n1_; have HI298 := n2_; have NB298_294 := n3_; have NB294_298 := n4_; clear n0_ n1_ n2_ n3_ n4_; (try clear hb); (try clear hb2); (try clear hk); (try clear hi)) | ((with_reducible refine jBl (f := 65) rfl ?_); refine jCe (some 11) rfl rfl Tryd.func65 (by kernel_rfl) rfl #[.pointer (some ⟨g298, 0, none⟩)] rfl (by (try simp only [List.map_toArray, List.map_cons, List.map_nil]); first | done | rfl | (simp only [List.length_drop, List.length_take]; rfl)) ?_; (with_reducible refine (jAm.calls k g298 t295 t296 t297 t299 t300 t301 t302 w _ ?side1 ?side2 A3.out).mono ?_); (case side1 => repeat (first | (with_reducible first | exact HI298.out | apply jAc.alloc | apply jAc.drewN | apply jAc.drew | apply jAc.set_0 | apply jAc.set_1 | apply jAc.set_2 | refine jAc.far ?_ NB298_294.out _) | exact HI298.out)); (case side2 => repeat (first | (with_reducible first | exact HB.out | apply jAj | apply jAd | apply jAk | refine jAh ?_ (jAc.ge HI298.out) | refine jAh ?_ GE294.out) | exact HB.out)); rintro e w7 ⟨rfl, hi, hb, hk⟩; refine ⟨_, rfl, ?_⟩; have n0_ := jAa.mk (jAn.blk hk (g' := gb294) (o := .cells #[.int .i64 0, .slice none 0 0, .slice none 0 0] 25 (0, 0)) (by (with_reducible repeat (first | refine jAf ?_ _ | refine jAi ?_ | refine jAe ?_ _)); exact BK294.out) NB294_298.out (by simp)); have n1_ := jAa.mk (hb); have n2_ := jAa.mk (hi); clear BK294; clear HB; clear HI298; have BK294 := n0_; have HB := n1_; have HI298 := n2_; clear n0_ n1_ n2_; (try clear hb); (try clear hb2); (try clear hk); (try clear hi)) | ((with_reducible refine jCa (N := 5) rfl ?_); refine jBv ?hg (N := 5) ?hd (cs := #[.int .i64 0, .slice none 0 0, .slice none 0 0]) (t := 25) ?hr ?_; (case hd => rfl); (case hg => rfl); (case hr => first | (go_simp; done) | (go_simp; rfl)); intro gb303 hg w8 hbox hb; have n0_ := jAa.mk (jAp (g := gb294) (o := .cells #[.int .i64 0, .slice none 0 0, .slice none 0 0] 25 (0, 0)) (by (with_reducible repeat (first | refine jAf ?_ _ | refine jAi ?_ | refine jAe ?_ _)); exact BK294.out) hb); have n1_ := jAa.mk (jAc.below (by repeat (first | (with_reducible first | exact HI298.out | apply jAc.alloc | apply jAc.drewN | apply jAc.drew | apply jAc.set_0 | apply jAc.set_1 | apply jAc.set_2 | refine jAc.far ?_ NB298_294.out _) | exact HI298.out)) hb); have n2_ := jAa.mk (jAu (by repeat (first | (with_reducible first | exact HB.out | apply jAj | apply jAd | apply jAk | refine jAh ?_ (jAc.ge HI298.out) | refine jAh ?_ GE294.out) | exact HB.out)) hb); have n3_ := jAa.mk (hbox); have n4_ := jAa.mk ((by rw [hg]; exact (jBj (by repeat (first | (with_reducible first | exact HB.out | apply jAj | apply jAd | apply jAk | refine jAh ?_ (jAc.ge HI298.out) | refine jAh ?_ GE294.out) | exact HB.out))) : w.heap.size ≤ gb303)); have n5_ := jAa.mk ((by rw [hg]; exact (jBj (by repeat (first | (with_reducible first | exact HB.out | apply jAj | apply jAd | apply jAk | refine jAh ?_ (jAc.ge HI298.out) | refine jAh ?_ GE294.out) | exact HB.out))) : w.heap.size ≤ gb303)); have n6_ := jAa.mk ((by rw [hg]; exact Nat.ne_of_lt (jBu (g := gb294) (o := .cells #[.int .i64 0, .slice none 0 0, .slice none 0 0] 25 (0, 0)) (by (with_reducible repeat (first | refine jAf ?_ _ | refine jAi ?_ | refine jAe ?_ _)); exact BK294.out)) : gb294 ≠ gb303)); have n7_ := jAa.mk ((by rw [hg]; exact Nat.ne_of_gt (jBu (g := gb294) (o := .cells #[.int .i64 0, .slice none 0 0, .slice none 0 0] 25 (0, 0)) (by (with_reducible repeat (first | refine jAf ?_ _ | refine jAi ?_ | refine jAe ?_ _)); exact BK294.out)) : gb303 ≠ gb294)); have n8_ := jAa.mk ((by rw [hg]; exact Nat.ne_of_lt (jAc.lt (show jAc w _ g298 t300 t301 t302 from by repeat (first | (with_reducible first | exact HI298.out | apply jAc.alloc | apply jAc.drewN | apply jAc.drew | apply jAc.set_0 | apply jAc.set_1 | apply jAc.set_2 | refine jAc.far ?_ NB298_294.out _) | exact HI298.out))) : g298 ≠ gb303)); have n9_ := jAa.mk ((by rw [hg]; exact Nat.ne_of_gt (jAc.lt (show jAc w _ g298 t300 t301 t302 from by repeat (first | (with_reducible first | exact HI298.out | apply jAc.alloc | apply jAc.drewN | apply jAc.drew | apply jAc.set_0 | apply jAc.set_1 | apply jAc.set_2 | refine jAc.far ?_ NB298_294.out _) | exact HI298.out))) : gb303 ≠ g298)); clear BK294; clear HI298; clear HB; have BK294 := n0_; have HI298 := n1_; have HB := n2_; have BK303 := n3_; have GW303 := n4_; have GE303 := n5_; have NB294_303 := n6_; have NB303_294 := n7_; have NB298_303 := n8_; have NB303_298 := n9_; clear n0_ n1_ n2_ n3_ n4_ n5_ n6_ n7_ n8_ n9_; clear hb hbox hg; have hnb9 := NB303_294.out; have hnc9 := NB294_303.out; have hnb10 := NB303_298.out; have hnc10 := NB298_303.out; have hcz11_0 : w8.cell? ⟨gb303, 0, none⟩ = some (.int .i64 0) := (jAb BK303.out 0).trans rfl; have hcz11_1 : w8.cell? ⟨gb303, 1, none⟩ = some (.slice none 0 0) := (jAb BK303.out 1).trans rfl; have hcz11_2 : w8.cell? ⟨gb303, 2, none⟩ = some (.slice none 0 0) := (jAb BK303.out 2).trans rfl; have hfz11_0 := jAg BK303.out 0; have hfz11_1 := jAg BK303.out 1; have hfz11_2 := jAg BK303.out 2) | ((with_reducible refine jBl (f := 66) rfl ?_); refine jCe (some 14) rfl rfl Tryd.func66 (by kernel_rfl) rfl #[.pointer (some ⟨g298, 0, none⟩), .int .i64 12] rfl (by (try simp only [List.map_toArray, List.map_cons, List.map_nil]); first | done | rfl | (simp only [List.length_drop, List.length_take]; rfl)) ?_; (with_reducible refine (jBk.calls k g298 t300 t301 t302 12 t304 t305 t306 t307 w _ ?side1 ?side2 A4.out).mono ?_); (case side1 => repeat (first | (with_reducible first | exact HI298.out | apply jAc.alloc | apply jAc.drewN | apply jAc.drew | apply jAc.set_0 | apply jAc.set_1 | apply jAc.set_2 | refine jAc.far ?_ NB298_294.out _ | refine jAc.far ?_ NB298_303.out _) | exact HI298.out)); (case side2 => repeat (first | (with_reducible first | exact HB.out | apply jAj | apply jAd | apply jAk | refine jAh ?_ (jAc.ge HI298.out) | refine jAh ?_ GE294.out | refine jAh ?_ GE303.out) | exact HB.out)); rintro e w12 ⟨rfl, hi, hb, hk⟩; refine ⟨_, rfl, ?_⟩; have n0_ := jAa.mk (jAn.blk hk (g' := gb294) (o := .cells #[.int .i64 0, .slice none 0 0, .slice none 0 0] 25 (0, 0)) (by (with_reducible repeat (first | refine jAf ?_ _ | refine jAi ?_ | refine jAe ?_ _)); refine jBa ?_ NB294_303.out _; (with_reducible repeat (first | refine jAf ?_ _ | refine jAi ?_ | refine jAe ?_ _)); refine jBa ?_ NB294_303.out _; (with_reducible repeat (first | refine jAf ?_ _ | refine jAi ?_ | refine jAe ?_ _)); refine jBa ?_ NB294_303.out _; (with_reducible repeat (first | refine jAf ?_ _ | refine jAi ?_ | refine jAe ?_ _)); exact BK294.out) NB294_298.out (by simp)); have n1_ := jAa.mk (jAn.blk hk (g' := gb303) (o := .cells #[.int .i64 t299, .slice none 0 0, .slice none 0 0] 25 (0, 0)) (by (with_reducible repeat (first | refine jAf ?_ _ | refine jAi ?_ | refine jAe ?_ _)); refine jBf (cs := #[.int .i64 t299, .slice none 0 0, .slice none 0 0]) ?_ 2 _ rfl; (with_reducible repeat (first | refine jAf ?_ _ | refine jAi ?_ | refine jAe ?_ _)); refine jBf (cs := #[.int .i64 t299, .slice none 0 0, .slice none 0 0]) ?_ 1 _ rfl; (with_reducible repeat (first | refine jAf ?_ _ | refine jAi ?_ | refine jAe ?_ _)); refine jBf (cs := #[.int .i64 0, .slice none 0 0, .slice none 0 0]) ?_ 0 _ rfl; (with_reducible repeat (first | refine jAf ?_ _ | refine jAi ?_ | refine jAe ?_ _)); exact BK303.out) NB303_298.out (by simp)); have n2_ := jAa.mk (hb); have n3_ := jAa.mk (hi); clear BK294; clear BK303; clear HB; clear HI298; have BK294 := n0_; have BK303 := n1_; have HB := n2_; have HI298 := n3_; clear n0_ n1_ n2_ n3_; (try clear hb); (try clear hb2); (try clear hk); (try clear hi)))
 go_loopg [15] k (fun kq v15 w' => ∃ (x15_1 : Int) (x299000_1 : ByteArray) (x299001_1 : Int) (x299002_1 : Bool) (x304001_1 : List (S45)) (u304001 : Value), v15 = .int .i64 x15_1 ∧ jAa (jBm.l0 kq t304 x15_1 x299000_1 x299001_1 x299002_1 t299 x304001_1 = some (r1, r2, r3, r4)) ∧ jAa (kq ≤ k) ∧ jAa (Kd.R k45 45 w' w.heap.size (fun _ => True) u304001 x304001_1) ∧ jAa (w'.heap[gb294]? = some (.cells #[.int .i64 0, (.slice none 0 0), (.slice none 0 0)] 25 (0, 0))) ∧ jAa (w'.heap[gb303]? = some (.cells #[.int .i64 t299, u304001, (.slice none 0 0)] 25 (0, 0))) ∧ jAa (jAc w w' g298 x299000_1 x299001_1 x299002_1) ∧ jAa (Below w.heap.size w w'))
 case atStart => exact ⟨(0), (t305), (t306), (t307), (([] : List (S45))), (.slice none 0 0), (by first | rfl | (simp; done) | (simp [*]; done)), H', ⟨Nat.le_refl _⟩, ⟨by first | exact Kd.R_nil _ _ _ _ _ | exact Kd.N_nil _ _ _ _ _ | exact Kd.V_nil _ _ _ _ _ | exact Kd.Q_nil _ _ _ _ _ | exact Kd.S_nil _ _ _ _ _⟩, ⟨by (with_reducible repeat (first | refine jAf ?_ _ | refine jAi ?_ | refine jAe ?_ _)); exact BK294.out⟩, ⟨by (with_reducible repeat (first | refine jAf ?_ _ | refine jAi ?_ | refine jAe ?_ _)); exact BK303.out⟩, ⟨by repeat (first | (with_reducible first | exact HI298.out | apply jAc.alloc | apply jAc.drewN | apply jAc.drew | apply jAc.set_0 | apply jAc.set_1 | apply jAc.set_2 | refine jAc.far ?_ NB298_294.out _ | refine jAc.far ?_ NB298_303.out _) | exact HI298.out)⟩, ⟨by repeat (first | (with_reducible first | exact HB.out | apply jAj | apply jAd | apply jAk | refine jAh ?_ (jAc.ge HI298.out) | refine jAh ?_ GE294.out | refine jAh ?_ GE303.out) | exact HB.out)⟩⟩
 case round =>
  clear H'
  try clear c1
  try clear p2
  try clear c4
  try clear c6
  try clear c9
  try clear c10
  try clear hcz11_0
  try clear hcz11_1
  try clear hcz11_2
  try clear hfz11_0
  try clear hfz11_1
  try clear hfz11_2
  obtain ⟨x15_1, x299000_1, x299001_1, x299002_1, x304001_1, u304001, rfl, HA, HK1, HO_304001, BK294, BK303, HI298, HB⟩ := hrel
  cases gk with
  | zero => exact absurd HA.out (by simp [jBm.l0])
  | succ k1 =>
   have H := HA.out
   clear HA
   simp only [jBm.l0] at H
   by_cases c13 : x15_1 < t304
   ·rw [if_pos c13] at H
    have c13b0 : decide (x15_1 < t304) = true := decide_eq_true c13
    clear c13
    replace H := Option.bind_eq_some_iff.mp H
    obtain ⟨⟨t308, t309, t310, t313, t316, t317, t318⟩, A140, H⟩ := H
    replace H : (if x304001_1.length < 1954687338268 then (jBm.l0 k1 t304 (wrap64 (x15_1 + 1)) t316 t317 t318 t299 (x304001_1 ++ [(⟨t308, t309, t310, t313⟩ : S45)])) else (none)) = some (r1, r2, r3, r4) := H
    have A14 := jAa.mk A140
    clear A140
    by_cases c15 : x304001_1.length < 1954687338268
    ·rw [if_pos c15] at H
     have LMc15 := jAa.mk c15
     clear c15
     obtain ⟨y319, hy319⟩ : ∃ y_ : List (S45), y_ = (x304001_1 ++ [(⟨t308, t309, t310, t313⟩ : S45)]) := ⟨_, rfl⟩
     replace H : (jBm.l0 k1 t304 (wrap64 (x15_1 + 1)) t316 t317 t318 t299 y319) = some (r1, r2, r3, r4) := by first | (rw [hy319]; with_reducible exact H) | (have H2_ := (Option.bind_some _ _).symm.trans H; rw [hy319]; with_reducible exact H2_) | (have H2_ := (Option.bind_some _ _).symm.trans H; with_reducible exact H2_) | with_reducible exact H | (rw [hy319]; exact H) | exact H
     have Ny319 := jAa.mk hy319
     clear hy319
     have H' := jAa.mk H
     clear H
     try go_wp2
     have n0_ := jAa.mk (Kd.R_drew HO_304001.out)
     have n1_ := jAa.mk (jAi BK294.out)
     have n2_ := jAa.mk (jAi BK303.out)
     have n3_ := jAa.mk (jAc.drew HI298.out)
     have n4_ := jAa.mk (jAk HB.out)
     clear HO_304001
     clear BK294
     clear BK303
     clear HI298
     clear HB
     have HO_304001 := n0_
     have BK294 := n1_
     have BK303 := n2_
     have HI298 := n3_
     have HB := n4_
     clear n0_ n1_ n2_ n3_ n4_
     refine jDz (n := 8) (S := fun w' => w'.cell? ⟨gb303, 0, none⟩ = some (.int .i64 t299) ∧ w'.cell? ⟨gb303, 1, none⟩ = some (u304001) ∧ w'.cell? ⟨gb303, 2, none⟩ = some (.slice none 0 0)) (ds := [7]) #[false, false, false, false, false, false, false, false] (by kernel_rfl) rfl rfl ⟨(jAb BK303.out 0).trans rfl, (jAb BK303.out 1).trans rfl, (jAb BK303.out 2).trans rfl⟩ (fun hHeld => ?_); refine jDl jBm.tab5 jBm.bits5 (fun HT_ HW_ => ?_)
     generalize wr.drew = w16 at HO_304001 BK294 BK303 HI298 HB hHeld ⊢
     refine pure_ (i := 0) (N := some 17) (v := ?_) (a' := ?_) #[true, false, false, false, false, false, false, false] rfl rfl (jCc HT_.out (by kernel_rfl)) (fun _ _ _ h => h) (Or.inl ⟨by rfl, ?_⟩) ?_ ?_
     rotate_left
     ·intro w'
      go_simp
      with_reducible rfl
     rotate_left
     ·simp only [Act.put, List.setIfInBounds_toArray, List.set_cons_zero, List.set_cons_succ, i64_w, i32_w]
      rfl
     refine pure_ (i := 2) (N := some 19) (v := ?_) (a' := ?_) #[true, false, true, false, false, false, false, false] rfl rfl (jCc HT_.out (by kernel_rfl)) (fun _ _ _ h => h) (Or.inl ⟨by rfl, ?_⟩) ?_ ?_
     rotate_left
     ·intro w'
      go_simp
      with_reducible rfl
     rotate_left
     ·simp only [Act.put, List.setIfInBounds_toArray, List.set_cons_zero, List.set_cons_succ, i64_w, i32_w]
      rfl
     refine take_ (i := 1) (N := some 18) (v := ?_) (a' := ?_) #[true, true, true, false, false, false, false, false] rfl rfl (jCm HT_.out HW_.out (by kernel_rfl)) (fun _ _ _ h => h) (Or.inl ⟨by rfl, ?_⟩) hHeld ?_ ?_
     rotate_left
     ·rintro w' ⟨s0, s1, s2⟩
      go_simp
      with_reducible rfl
     rotate_left
     ·simp only [Act.put, List.setIfInBounds_toArray, List.set_cons_zero, List.set_cons_succ, i64_w, i32_w]
      rfl
     refine one_ (i := 3) (N := some 20) #[true, true, true, true, false, false, false, false] rfl rfl (jCu HT_.out (by kernel_rfl)) (by decide) (fun K hK => ?_)
     refine goes_ Tryd.func67 (by kernel_rfl) rfl #[.pointer (some ⟨g298, 0, none⟩)] (by rfl) rfl rfl (by (try simp only [List.map_toArray, List.map_cons, List.map_nil]); first | done | rfl | (simp only [List.length_drop, List.length_take]; rfl)) ?_
     with_reducible refine (jBb.calls k1 g298 x299000_1 x299001_1 x299002_1 t308 t309 t310 t313 t316 t317 t318 w _ ?side1 ?side2 A14.out).mono ?_
     (case side1 => repeat (first | (with_reducible first | exact HI298.out | apply jAc.alloc | apply jAc.drewN | apply jAc.drew | apply jAc.set_0 | apply jAc.set_1 | apply jAc.set_2 | refine jAc.far ?_ NB298_294.out _ | refine jAc.far ?_ NB298_303.out _) | exact HI298.out))
     (case side2 => repeat (first | (with_reducible first | exact HB.out | apply jAj | apply jAd | apply jAk | refine jAh ?_ (jAc.ge HI298.out) | refine jAh ?_ GE294.out | refine jAh ?_ GE303.out) | exact HB.out))
     rintro e w17 ⟨v311, v314, rfl, ho0, ho1, hi, hb, hk⟩
     refine ⟨_, rfl, ?_⟩
     have n0_ := jAa.mk (Kd.R_mono (Kd.R_told (Kd.R_told (Kd.R_oldK (jAc.apart (show jAc w _ g298 x299000_1 x299001_1 x299002_1 from by repeat (first | (with_reducible first | exact HI298.out | apply jAc.alloc | apply jAc.drewN | apply jAc.drew | apply jAc.set_0 | apply jAc.set_1 | apply jAc.set_2 | refine jAc.far ?_ NB298_294.out _ | refine jAc.far ?_ NB298_303.out _) | exact HI298.out)) (by (with_reducible repeat (first | apply Kd.R_alloc | apply Kd.R_drewN | apply Kd.R_drew)); exact HO_304001.out) (by decide)) hk) (Kd.R_base ho0)) (Kd.R_base ho1)) (fun _ h_ => h_.1))
     have n1_ := jAa.mk (jAn.blk hk (g' := gb294) (o := .cells #[.int .i64 0, .slice none 0 0, .slice none 0 0] 25 (0, 0)) (by (with_reducible repeat (first | refine jAf ?_ _ | refine jAi ?_ | refine jAe ?_ _)); exact BK294.out) NB294_298.out (by simp))
     have n2_ := jAa.mk (jAn.blk hk (g' := gb303) (o := .cells #[.int .i64 t299, u304001, .slice none 0 0] 25 (0, 0)) (by (with_reducible repeat (first | refine jAf ?_ _ | refine jAi ?_ | refine jAe ?_ _)); exact BK303.out) NB303_298.out (by simp))
     have n3_ := jAa.mk (Kd.R_lower ho0 (jBj (by repeat (first | (with_reducible first | exact HB.out | apply jAj | apply jAd | apply jAk | refine jAh ?_ (jAc.ge HI298.out) | refine jAh ?_ GE294.out | refine jAh ?_ GE303.out) | exact HB.out))))
     have n4_ := jAa.mk (Kd.R_lower ho1 (jBj (by repeat (first | (with_reducible first | exact HB.out | apply jAj | apply jAd | apply jAk | refine jAh ?_ (jAc.ge HI298.out) | refine jAh ?_ GE294.out | refine jAh ?_ GE303.out) | exact HB.out))))
     have n5_ := jAa.mk (hb)
     have n6_ := jAa.mk (hi)
     clear HO_304001
     clear BK294
     clear BK303
     clear HB
     clear HI298
     have HO_304001 := n0_
     have BK294 := n1_
     have BK303 := n2_
     have HO312 := n3_
     have HO315 := n4_
     have HB := n5_
     have HI298 := n6_
     clear n0_ n1_ n2_ n3_ n4_ n5_ n6_
     (try clear hb)
     (try clear hb2)
     (try clear hk)
     (try clear hi)
     (try clear ho0)
     (try clear ho1)
     obtain ⟨Ao19, co19, eo19⟩ := Kd.R_slice HO312.out
     (first | subst eo19 | (injection eo19 with f1_ f2_ f3_; have f4_ := f1_.symm; have f5_ := f3_.symm; clear f1_ f2_ f3_; subst f4_; subst f5_))
     obtain ⟨Ao20, co20, eo20⟩ := Kd.R_slice HO315.out
     (first | subst eo20 | (injection eo20 with f1_ f2_ f3_; have f4_ := f1_.symm; have f5_ := f3_.symm; clear f1_ f2_ f3_; subst f4_; subst f5_))
     refine hK.out _ _ ⟨(jAb BK303.out 0).trans rfl, (jAb BK303.out 1).trans rfl, (jAb BK303.out 2).trans rfl⟩ (fun hHeld => ?_)
     clear hK K
     refine norm_ (a' := ?_) ?_ ?_
     rotate_left
     ·show Act.put _ (some 20) _ = _
      simp only [Act.put, List.setIfInBounds_toArray, List.set_cons_zero, List.set_cons_succ, i64_w, i32_w]
      rfl
     refine one_ (i := 4) (N := some 21) #[true, true, true, true, true, false, false, false] rfl rfl (jCu HT_.out (by kernel_rfl)) (by decide) (fun K hK => ?_)
     refine value_ (w1 := ?_) (v := ?_) (by rfl) rfl ?_ ?_
     rotate_left 2
     ·go_simp
      constructor
      ·rfl
      ·rfl
     refine hK.out _ _ ⟨(jAb (jAe BK303.out _) 0).trans rfl, (jAb (jAe BK303.out _) 1).trans rfl, (jAb (jAe BK303.out _) 2).trans rfl⟩ (fun hHeld => ?_)
     clear hK K
     refine norm_ (a' := ?_) ?_ ?_
     rotate_left
     ·show Act.put _ (some 21) _ = _
      simp only [Act.put, List.setIfInBounds_toArray, List.set_cons_zero, List.set_cons_succ, i64_w, i32_w]
      rfl
     refine one_ (i := 5) (N := some 22) #[true, true, true, true, true, true, false, false] rfl rfl (jCu HT_.out (by kernel_rfl)) (by decide) (fun K hK => ?_)
     refine Kd.R_append_step k45 (w0 := w) w.heap.size (by rfl) (.tmp 18) (.tmp 21) 22 45 (.agg #[(.string ⟨#[]⟩), (.int .i64 0), (.slice none 0 0), (.slice none 0 0)]) 72 rfl Tryd.underlying22 info45 rfl (by decide) (by omega) u304001 x304001_1 (⟨t308, t309, t310, t313⟩ : S45) [.string t308, .int .i64 t309, .slice Ao19 t310.length co19, .slice Ao20 t313.length co20] (fun _ => True) (fun k_ => ((fun _ => True)) k_ ∧ some k_ ≠ (u304001 : Value).ownBlock) rfl rfl ?aP (fun _ hk => hk) ?aF ?aO ?aB ?aS ?aL ?_
     (case aP => exact k45_mkM _ _ _ (⟨t308, t309, t310, t313⟩ : S45) (Kd.R_mono (Kd.R_apart' (HO312.out) (Kd.R_typed HO_304001.out) (by decide)) (fun k_ hk => ⟨trivial, hk.2⟩)) (Kd.R_mono (Kd.R_apart' (HO315.out) (Kd.R_typed HO_304001.out) (by decide)) (fun k_ hk => ⟨trivial, hk.2⟩)))
     (case aB => exact (by repeat (first | (with_reducible first | exact HB.out | apply jAj | apply jAd | apply jAk | refine jAh ?_ (jAc.ge HI298.out) | refine jAh ?_ GE294.out | refine jAh ?_ GE303.out) | exact HB.out)))
     (case aF => exact (fun _ _ => trivial))
     (case aO => exact (by (with_reducible repeat (first | apply Kd.R_alloc | apply Kd.R_drewN | apply Kd.R_drew)); exact Kd.R_mono HO_304001.out (fun _ hk => trivial)))
     (case aS => exact (jBj (by repeat (first | (with_reducible first | exact HB.out | apply jAj | apply jAd | apply jAk | refine jAh ?_ (jAc.ge HI298.out) | refine jAh ?_ GE294.out | refine jAh ?_ GE303.out) | exact HB.out))))
     (case aL => have := LMc15.out; omega)
     intro v320 w18 ho hb hg hat
     rw [← Ny319.out] at ho
     have n0_ := jAa.mk (jCz (g := gb294) (o := .cells #[.int .i64 0, .slice none 0 0, .slice none 0 0] 25 (0, 0)) (by (with_reducible repeat (first | refine jAf ?_ _ | refine jAi ?_ | refine jAe ?_ _)); exact BK294.out) hg (Kd.R_ne HO_304001.out BK294.out (by decide)))
     have n1_ := jAa.mk (jCz (g := gb303) (o := .cells #[.int .i64 t299, u304001, .slice none 0 0] 25 (0, 0)) (by (with_reducible repeat (first | refine jAf ?_ _ | refine jAi ?_ | refine jAe ?_ _)); exact BK303.out) hg (Kd.R_ne HO_304001.out BK303.out (by decide)))
     have n2_ := jAa.mk (jAc.grown (by repeat (first | (with_reducible first | exact HI298.out | apply jAc.alloc | apply jAc.drewN | apply jAc.drew | apply jAc.set_0 | apply jAc.set_1 | apply jAc.set_2 | refine jAc.far ?_ NB298_294.out _ | refine jAc.far ?_ NB298_303.out _) | exact HI298.out)) hg (jAc.own_ne HI298.out HO_304001.out (by decide)))
     have n3_ := jAa.mk (hb)
     have n4_ := jAa.mk (ho)
     clear BK294
     clear BK303
     clear HI298
     clear HB
     clear HO_304001
     clear HO312
     clear HO315
     have BK294 := n0_
     have BK303 := n1_
     have HI298 := n2_
     have HB := n3_
     have HO321 := n4_
     clear n0_ n1_ n2_ n3_ n4_
     clear ho hb hg hat
     obtain ⟨Ao21, co21, eo21⟩ := Kd.R_slice HO321.out
     (first | subst eo21 | (injection eo21 with f1_ f2_ f3_; have f4_ := f1_.symm; have f5_ := f3_.symm; clear f1_ f2_ f3_; subst f4_; subst f5_))
     refine hK.out _ _ ⟨(jAb BK303.out 0).trans rfl, (jAb BK303.out 1).trans rfl, (jAb BK303.out 2).trans rfl⟩ (fun hHeld => ?_)
     clear hK K
     refine norm_ (a' := ?_) ?_ ?_
     rotate_left
     ·show Act.put _ (some 22) _ = _
      simp only [Act.put, List.setIfInBounds_toArray, List.set_cons_zero, List.set_cons_succ, i64_w, i32_w]
      rfl
     refine pure_ (i := 6) (N := some 23) (v := ?_) (a' := ?_) #[true, true, true, true, true, true, true, false] rfl rfl (jCc HT_.out (by kernel_rfl)) (fun _ _ _ h => h) (Or.inl ⟨by rfl, ?_⟩) ?_ ?_
     rotate_left
     ·intro w'
      go_simp
      with_reducible rfl
     rotate_left
     ·simp only [Act.put, List.setIfInBounds_toArray, List.set_cons_zero, List.set_cons_succ, i64_w, i32_w]
      rfl
     refine last_ (i := 7) (N := none) #[true, true, true, true, true, true, true, true] rfl rfl (jCu HT_.out (by kernel_rfl)) (by decide) (fun K hK => ?_)
     have hs22 : w18.cell? ⟨gb303, 1, none⟩ = some (u304001) := (jAb BK303.out 1).trans rfl
     have hfs22 := jAg BK303.out 1
     have hns22_0 := NB294_303.out
     have hms22_0 := NB303_294.out
     refine skip_ (w1 := ?_) (by rfl) rfl ?_ ?_
     rotate_left
     ·go_simp
      rfl
     refine hK.out _ _ ?_
     clear hK K
     refine done_ (jEm HT_.out (by kernel_rfl)) ?_
     try go_wp2
     go_roundg k1
     case measure => have := HK1.out; omega
     case rel => exact ⟨(wrap64 (x15_1 + 1)), (t316), (t317), (t318), (y319), (.slice Ao21 y319.length co21), (by first | rfl | (simp; done) | (simp [*]; done)), H', ⟨by have := HK1.out; omega⟩, ⟨by (with_reducible repeat (first | apply Kd.R_alloc | apply Kd.R_drewN | apply Kd.R_drew)); exact Kd.R_mono (Kd.R_far (p := ⟨gb303, 1, none⟩) (Kd.R_types HO321.out BK303.out (by decide)) (fun _ hk => hk.2) (.slice Ao21 y319.length co21)) (fun _ hk => trivial)⟩, ⟨by (with_reducible repeat (first | refine jAf ?_ _ | refine jAi ?_ | refine jAe ?_ _)); refine jBa ?_ NB294_303.out _; (with_reducible repeat (first | refine jAf ?_ _ | refine jAi ?_ | refine jAe ?_ _)); exact BK294.out⟩, ⟨by (with_reducible repeat (first | refine jAf ?_ _ | refine jAi ?_ | refine jAe ?_ _)); refine jBf (cs := #[.int .i64 t299, u304001, .slice none 0 0]) ?_ 1 _ rfl; (with_reducible repeat (first | refine jAf ?_ _ | refine jAi ?_ | refine jAe ?_ _)); exact BK303.out⟩, ⟨by repeat (first | (with_reducible first | exact HI298.out | apply jAc.alloc | apply jAc.drewN | apply jAc.drew | apply jAc.set_0 | apply jAc.set_1 | apply jAc.set_2 | refine jAc.far ?_ NB298_294.out _ | refine jAc.far ?_ NB298_303.out _) | exact HI298.out)⟩, ⟨by repeat (first | (with_reducible first | exact HB.out | apply jAj | apply jAd | apply jAk | refine jAh ?_ (jAc.ge HI298.out) | refine jAh ?_ GE294.out | refine jAh ?_ GE303.out) | exact HB.out)⟩⟩
    ·rw [if_neg c15] at H
     exact absurd H (by simp)
   ·rw [if_neg c13] at H
    have c13b0 : decide (x15_1 < t304) = false := decide_eq_false c13
    clear c13
    replace H := Option.bind_eq_some_iff.mp H
    obtain ⟨⟨t322, t323, t324, t325⟩, A230, H⟩ := H
    replace H : (jBm.l1 k1 t322 0 t323 t324 t325 t299 x304001_1 ([] : List (S27))) = some (r1, r2, r3, r4) := H
    have A23 := jAa.mk A230
    clear A230
    have H' := jAa.mk H
    clear H
    go_wp2_with (first | ((with_reducible refine jBl (f := 66) rfl ?_); refine jCe (some 26) rfl rfl Tryd.func66 (by kernel_rfl) rfl #[.pointer (some ⟨g298, 0, none⟩), .int .i64 64] rfl (by (try simp only [List.map_toArray, List.map_cons, List.map_nil]); first | done | rfl | (simp only [List.length_drop, List.length_take]; rfl)) ?_; (with_reducible refine (jBk.calls k1 g298 x299000_1 x299001_1 x299002_1 64 t322 t323 t324 t325 w _ ?side1 ?side2 A23.out).mono ?_); (case side1 => repeat (first | (with_reducible first | exact HI298.out | apply jAc.alloc | apply jAc.drewN | apply jAc.drew | apply jAc.set_0 | apply jAc.set_1 | apply jAc.set_2 | refine jAc.far ?_ NB298_294.out _ | refine jAc.far ?_ NB298_303.out _) | exact HI298.out)); (case side2 => repeat (first | (with_reducible first | exact HB.out | apply jAj | apply jAd | apply jAk | refine jAh ?_ (jAc.ge HI298.out) | refine jAh ?_ GE294.out | refine jAh ?_ GE303.out) | exact HB.out)); rintro e w24 ⟨rfl, hi, hb, hk⟩; refine ⟨_, rfl, ?_⟩; have n0_ := jAa.mk (Kd.R_mono (Kd.R_keep (jAc.apart (show jAc w _ g298 x299000_1 x299001_1 x299002_1 from by repeat (first | (with_reducible first | exact HI298.out | apply jAc.alloc | apply jAc.drewN | apply jAc.drew | apply jAc.set_0 | apply jAc.set_1 | apply jAc.set_2 | refine jAc.far ?_ NB298_294.out _ | refine jAc.far ?_ NB298_303.out _) | exact HI298.out)) (by (with_reducible repeat (first | apply Kd.R_alloc | apply Kd.R_drewN | apply Kd.R_drew)); exact HO_304001.out) (by decide)) hk (fun _ h => h.2)) (fun _ h => h.1)); have n1_ := jAa.mk (jAn.blk hk (g' := gb294) (o := .cells #[.int .i64 0, .slice none 0 0, .slice none 0 0] 25 (0, 0)) (by (with_reducible repeat (first | refine jAf ?_ _ | refine jAi ?_ | refine jAe ?_ _)); exact BK294.out) NB294_298.out (by simp)); have n2_ := jAa.mk (jAn.blk hk (g' := gb303) (o := .cells #[.int .i64 t299, u304001, .slice none 0 0] 25 (0, 0)) (by (with_reducible repeat (first | refine jAf ?_ _ | refine jAi ?_ | refine jAe ?_ _)); exact BK303.out) NB303_298.out (by simp)); have n3_ := jAa.mk (hb); have n4_ := jAa.mk (hi); clear HO_304001; clear BK294; clear BK303; clear HB; clear HI298; have HO_304001 := n0_; have BK294 := n1_; have BK303 := n2_; have HB := n3_; have HI298 := n4_; clear n0_ n1_ n2_ n3_ n4_; (try clear hb); (try clear hb2); (try clear hk); (try clear hi)))
    go_loopg [27] k1 (fun kq v27 w' => ∃ (x27_2 : Int) (x299000_2 : ByteArray) (x299001_2 : Int) (x299002_2 : Bool) (x304002_2 : List (S27)) (u304002 : Value), v27 = .int .i64 x27_2 ∧ jAa (jBm.l1 kq t322 x27_2 x299000_2 x299001_2 x299002_2 t299 x304001_1 x304002_2 = some (r1, r2, r3, r4)) ∧ jAa (kq ≤ k1) ∧ jAa (Kd.R k45 45 w' w.heap.size (fun _ => True) u304001 x304001_1) ∧ jAa (Kd.R k27 27 w' w.heap.size (fun _ => True) u304002 x304002_2) ∧ jAa (w'.heap[gb294]? = some (.cells #[.int .i64 0, (.slice none 0 0), (.slice none 0 0)] 25 (0, 0))) ∧ jAa (w'.heap[gb303]? = some (.cells #[.int .i64 t299, u304001, u304002] 25 (0, 0))) ∧ jAa (jAc w w' g298 x299000_2 x299001_2 x299002_2) ∧ jAa (Below w.heap.size w w'))
    case atStart => exact ⟨(0), (t323), (t324), (t325), (([] : List (S27))), (.slice none 0 0), (by first | rfl | (simp; done) | (simp [*]; done)), H', ⟨Nat.le_refl _⟩, ⟨by (with_reducible repeat (first | apply Kd.R_alloc | apply Kd.R_drewN | apply Kd.R_drew)); exact HO_304001.out⟩, ⟨by first | exact Kd.R_nil _ _ _ _ _ | exact Kd.N_nil _ _ _ _ _ | exact Kd.V_nil _ _ _ _ _ | exact Kd.Q_nil _ _ _ _ _ | exact Kd.S_nil _ _ _ _ _⟩, ⟨by (with_reducible repeat (first | refine jAf ?_ _ | refine jAi ?_ | refine jAe ?_ _)); exact BK294.out⟩, ⟨by (with_reducible repeat (first | refine jAf ?_ _ | refine jAi ?_ | refine jAe ?_ _)); exact BK303.out⟩, ⟨by repeat (first | (with_reducible first | exact HI298.out | apply jAc.alloc | apply jAc.drewN | apply jAc.drew | apply jAc.set_0 | apply jAc.set_1 | apply jAc.set_2 | refine jAc.far ?_ NB298_294.out _ | refine jAc.far ?_ NB298_303.out _) | exact HI298.out)⟩, ⟨by repeat (first | (with_reducible first | exact HB.out | apply jAj | apply jAd | apply jAk | refine jAh ?_ (jAc.ge HI298.out) | refine jAh ?_ GE294.out | refine jAh ?_ GE303.out) | exact HB.out)⟩⟩
    case round =>
     clear H'
     try clear c1
     try clear p2
     try clear c4
     try clear c6
     try clear p6
     try clear c9
     try clear c10
     try clear c13
     try clear c13b0
     try clear c15
     try clear hcz11_0
     try clear hcz11_1
     try clear hcz11_2
     try clear hfz11_0
     try clear hfz11_1
     try clear hfz11_2
     try clear p2
     obtain ⟨x27_2, x299000_2, x299001_2, x299002_2, x304002_2, u304002, rfl, HA, HK2, HO_304001, HO_304002, BK294, BK303, HI298, HB⟩ := hrel
     cases gk with
     | zero => exact absurd HA.out (by simp [jBm.l1])
     | succ k2 =>
      have H := HA.out
      clear HA
      simp only [jBm.l1] at H
      by_cases c25 : x27_2 < t322
      ·rw [if_pos c25] at H
       have c25b0 : decide (x27_2 < t322) = true := decide_eq_true c25
       clear c25
       replace H := Option.bind_eq_some_iff.mp H
       obtain ⟨⟨t327, t328, t329, t330⟩, A260, H⟩ := H
       replace H : ((jAm.f k2 t328 t329 t330).bind fun bt331 => ((jBr.f k2 bt331.2.1 bt331.2.2.1 bt331.2.2.2).bind fun bt335 => (if x304002_2.length < 4398046511104 then (jBm.l1 k2 t322 (wrap64 (x27_2 + 1)) bt335.2.1 bt335.2.2.1 bt335.2.2.2 t299 x304001_1 (x304002_2 ++ [(⟨t327, bt335.1, bt331.1⟩ : S27)])) else (none)))) = some (r1, r2, r3, r4) := H
       have A26 := jAa.mk A260
       clear A260
       replace H := Option.bind_eq_some_iff.mp H
       obtain ⟨⟨t331, t332, t333, t334⟩, A270, H⟩ := H
       replace H : ((jBr.f k2 t332 t333 t334).bind fun bt335 => (if x304002_2.length < 4398046511104 then (jBm.l1 k2 t322 (wrap64 (x27_2 + 1)) bt335.2.1 bt335.2.2.1 bt335.2.2.2 t299 x304001_1 (x304002_2 ++ [(⟨t327, bt335.1, t331⟩ : S27)])) else (none))) = some (r1, r2, r3, r4) := H
       have A27 := jAa.mk A270
       clear A270
       replace H := Option.bind_eq_some_iff.mp H
       obtain ⟨⟨t335, t336, t337, t338⟩, A280, H⟩ := H
       replace H : (if x304002_2.length < 4398046511104 then (jBm.l1 k2 t322 (wrap64 (x27_2 + 1)) t336 t337 t338 t299 x304001_1 (x304002_2 ++ [(⟨t327, t335, t331⟩ : S27)])) else (none)) = some (r1, r2, r3, r4) := H
       have A28 := jAa.mk A280
       clear A280
       by_cases c29 : x304002_2.length < 4398046511104
       ·rw [if_pos c29] at H
        have LMc29 := jAa.mk c29
        clear c29
        obtain ⟨y339, hy339⟩ : ∃ y_ : List (S27), y_ = (x304002_2 ++ [(⟨t327, t335, t331⟩ : S27)]) := ⟨_, rfl⟩
        replace H : (jBm.l1 k2 t322 (wrap64 (x27_2 + 1)) t336 t337 t338 t299 x304001_1 y339) = some (r1, r2, r3, r4) := by first | (rw [hy339]; with_reducible exact H) | (have H2_ := (Option.bind_some _ _).symm.trans H; rw [hy339]; with_reducible exact H2_) | (have H2_ := (Option.bind_some _ _).symm.trans H; with_reducible exact H2_) | with_reducible exact H | (rw [hy339]; exact H) | exact H
        have Ny339 := jAa.mk hy339
        clear hy339
        have H' := jAa.mk H
        clear H
        go_wp2_with (first | ((with_reducible refine jCa (N := 6) rfl ?_); refine jBv ?hg (N := 6) ?hd (cs := #[.int .i64 0, .string (⟨#[]⟩ : ByteArray), .int .i64 0]) (t := 27) ?hr ?_; (case hd => rfl); (case hg => rfl); (case hr => first | (go_simp; done) | (go_simp; rfl)); intro gb326 hg w30 hbox hb; have n0_ := jAa.mk (Kd.R_below (by (with_reducible repeat (first | apply Kd.R_alloc | apply Kd.R_drewN | apply Kd.R_drew)); exact HO_304001.out) hb); have n1_ := jAa.mk (Kd.R_below (Kd.R_elderB (by (with_reducible repeat (first | apply Kd.R_alloc | apply Kd.R_drewN | apply Kd.R_drew)); exact HO_304002.out) gb326 (Nat.le_of_eq hg.symm)) hb); have n2_ := jAa.mk (jAp (g := gb294) (o := .cells #[.int .i64 0, .slice none 0 0, .slice none 0 0] 25 (0, 0)) (by (with_reducible repeat (first | refine jAf ?_ _ | refine jAi ?_ | refine jAe ?_ _)); exact BK294.out) hb); have n3_ := jAa.mk (jAp (g := gb303) (o := .cells #[.int .i64 t299, u304001, u304002] 25 (0, 0)) (by (with_reducible repeat (first | refine jAf ?_ _ | refine jAi ?_ | refine jAe ?_ _)); exact BK303.out) hb); have n4_ := jAa.mk (jAc.below (by repeat (first | (with_reducible first | exact HI298.out | apply jAc.alloc | apply jAc.drewN | apply jAc.drew | apply jAc.set_0 | apply jAc.set_1 | apply jAc.set_2 | refine jAc.far ?_ NB298_294.out _ | refine jAc.far ?_ NB298_303.out _) | exact HI298.out)) hb); have n5_ := jAa.mk (jAu (by repeat (first | (with_reducible first | exact HB.out | apply jAj | apply jAd | apply jAk | refine jAh ?_ (jAc.ge HI298.out) | refine jAh ?_ GE294.out | refine jAh ?_ GE303.out) | exact HB.out)) hb); have n6_ := jAa.mk (hbox); have n7_ := jAa.mk ((by rw [hg]; exact (jBj (by repeat (first | (with_reducible first | exact HB.out | apply jAj | apply jAd | apply jAk | refine jAh ?_ (jAc.ge HI298.out) | refine jAh ?_ GE294.out | refine jAh ?_ GE303.out) | exact HB.out))) : w.heap.size ≤ gb326)); have n8_ := jAa.mk ((by rw [hg]; exact (jBj (by repeat (first | (with_reducible first | exact HB.out | apply jAj | apply jAd | apply jAk | refine jAh ?_ (jAc.ge HI298.out) | refine jAh ?_ GE294.out | refine jAh ?_ GE303.out) | exact HB.out))) : w.heap.size ≤ gb326)); have n9_ := jAa.mk ((by rw [hg]; exact Nat.ne_of_lt (jBu (g := gb294) (o := .cells #[.int .i64 0, .slice none 0 0, .slice none 0 0] 25 (0, 0)) (by (with_reducible repeat (first | refine jAf ?_ _ | refine jAi ?_ | refine jAe ?_ _)); exact BK294.out)) : gb294 ≠ gb326)); have n10_ := jAa.mk ((by rw [hg]; exact Nat.ne_of_gt (jBu (g := gb294) (o := .cells #[.int .i64 0, .slice none 0 0, .slice none 0 0] 25 (0, 0)) (by (with_reducible repeat (first | refine jAf ?_ _ | refine jAi ?_ | refine jAe ?_ _)); exact BK294.out)) : gb326 ≠ gb294)); have n11_ := jAa.mk ((by rw [hg]; exact Nat.ne_of_lt (jBu (g := gb303) (o := .cells #[.int .i64 t299, u304001, u304002] 25 (0, 0)) (by (with_reducible repeat (first | refine jAf ?_ _ | refine jAi ?_ | refine jAe ?_ _)); exact BK303.out)) : gb303 ≠ gb326)); have n12_ := jAa.mk ((by rw [hg]; exact Nat.ne_of_gt (jBu (g := gb303) (o := .cells #[.int .i64 t299, u304001, u304002] 25 (0, 0)) (by (with_reducible repeat (first | refine jAf ?_ _ | refine jAi ?_ | refine jAe ?_ _)); exact BK303.out)) : gb326 ≠ gb303)); have n13_ := jAa.mk ((by rw [hg]; exact Nat.ne_of_lt (jAc.lt (show jAc w _ g298 x299000_2 x299001_2 x299002_2 from by repeat (first | (with_reducible first | exact HI298.out | apply jAc.alloc | apply jAc.drewN | apply jAc.drew | apply jAc.set_0 | apply jAc.set_1 | apply jAc.set_2 | refine jAc.far ?_ NB298_294.out _ | refine jAc.far ?_ NB298_303.out _) | exact HI298.out))) : g298 ≠ gb326)); have n14_ := jAa.mk ((by rw [hg]; exact Nat.ne_of_gt (jAc.lt (show jAc w _ g298 x299000_2 x299001_2 x299002_2 from by repeat (first | (with_reducible first | exact HI298.out | apply jAc.alloc | apply jAc.drewN | apply jAc.drew | apply jAc.set_0 | apply jAc.set_1 | apply jAc.set_2 | refine jAc.far ?_ NB298_294.out _ | refine jAc.far ?_ NB298_303.out _) | exact HI298.out))) : gb326 ≠ g298)); clear HO_304001; clear HO_304002; clear BK294; clear BK303; clear HI298; clear HB; have HO_304001 := n0_; have HO_304002 := n1_; have BK294 := n2_; have BK303 := n3_; have HI298 := n4_; have HB := n5_; have BK326 := n6_; have GW326 := n7_; have GE326 := n8_; have NB294_326 := n9_; have NB326_294 := n10_; have NB303_326 := n11_; have NB326_303 := n12_; have NB298_326 := n13_; have NB326_298 := n14_; clear n0_ n1_ n2_ n3_ n4_ n5_ n6_ n7_ n8_ n9_ n10_ n11_ n12_ n13_ n14_; clear hb hbox hg) | ((with_reducible refine jBl (f := 65) rfl ?_); refine jCe (some 30) rfl rfl Tryd.func65 (by kernel_rfl) rfl #[.pointer (some ⟨g298, 0, none⟩)] rfl (by (try simp only [List.map_toArray, List.map_cons, List.map_nil]); first | done | rfl | (simp only [List.length_drop, List.length_take]; rfl)) ?_; (with_reducible refine (jAm.calls k2 g298 x299000_2 x299001_2 x299002_2 t327 t328 t329 t330 w _ ?side1 ?side2 A26.out).mono ?_); (case side1 => repeat (first | (with_reducible first | exact HI298.out | apply jAc.alloc | apply jAc.drewN | apply jAc.drew | apply jAc.set_0 | apply jAc.set_1 | apply jAc.set_2 | refine jAc.far ?_ NB298_294.out _ | refine jAc.far ?_ NB298_303.out _ | refine jAc.far ?_ NB298_326.out _) | exact HI298.out)); (case side2 => repeat (first | (with_reducible first | exact HB.out | apply jAj | apply jAd | apply jAk | refine jAh ?_ (jAc.ge HI298.out) | refine jAh ?_ GE294.out | refine jAh ?_ GE303.out | refine jAh ?_ GE326.out) | exact HB.out)); rintro e w31 ⟨rfl, hi, hb, hk⟩; refine ⟨_, rfl, ?_⟩; have n0_ := jAa.mk (Kd.R_mono (Kd.R_keep (jAc.apart (show jAc w _ g298 x299000_2 x299001_2 x299002_2 from by repeat (first | (with_reducible first | exact HI298.out | apply jAc.alloc | apply jAc.drewN | apply jAc.drew | apply jAc.set_0 | apply jAc.set_1 | apply jAc.set_2 | refine jAc.far ?_ NB298_294.out _ | refine jAc.far ?_ NB298_303.out _ | refine jAc.far ?_ NB298_326.out _) | exact HI298.out)) (by (with_reducible repeat (first | apply Kd.R_alloc | apply Kd.R_drewN | apply Kd.R_drew)); exact HO_304001.out) (by decide)) hk (fun _ h => h.2)) (fun _ h => h.1)); have n1_ := jAa.mk (Kd.R_mono (Kd.R_keep (jAc.apart (show jAc w _ g298 x299000_2 x299001_2 x299002_2 from by repeat (first | (with_reducible first | exact HI298.out | apply jAc.alloc | apply jAc.drewN | apply jAc.drew | apply jAc.set_0 | apply jAc.set_1 | apply jAc.set_2 | refine jAc.far ?_ NB298_294.out _ | refine jAc.far ?_ NB298_303.out _ | refine jAc.far ?_ NB298_326.out _) | exact HI298.out)) (by (with_reducible repeat (first | apply Kd.R_alloc | apply Kd.R_drewN | apply Kd.R_drew)); exact HO_304002.out) (by decide)) hk (fun _ h => h.2)) (fun _ h => h.1)); have n2_ := jAa.mk (jAn.blk hk (g' := gb294) (o := .cells #[.int .i64 0, .slice none 0 0, .slice none 0 0] 25 (0, 0)) (by (with_reducible repeat (first | refine jAf ?_ _ | refine jAi ?_ | refine jAe ?_ _)); exact BK294.out) NB294_298.out (by simp)); have n3_ := jAa.mk (jAn.blk hk (g' := gb303) (o := .cells #[.int .i64 t299, u304001, u304002] 25 (0, 0)) (by (with_reducible repeat (first | refine jAf ?_ _ | refine jAi ?_ | refine jAe ?_ _)); exact BK303.out) NB303_298.out (by simp)); have n4_ := jAa.mk (jAn.blk hk (g' := gb326) (o := .cells #[.int .i64 0, .string (⟨#[]⟩ : ByteArray), .int .i64 0] 27 (0, 0)) (by (with_reducible repeat (first | refine jAf ?_ _ | refine jAi ?_ | refine jAe ?_ _)); exact BK326.out) NB326_298.out (by simp)); have n5_ := jAa.mk (hb); have n6_ := jAa.mk (hi); clear HO_304001; clear HO_304002; clear BK294; clear BK303; clear BK326; clear HB; clear HI298; have HO_304001 := n0_; have HO_304002 := n1_; have BK294 := n2_; have BK303 := n3_; have BK326 := n4_; have HB := n5_; have HI298 := n6_; clear n0_ n1_ n2_ n3_ n4_ n5_ n6_; (try clear hb); (try clear hb2); (try clear hk); (try clear hi); have hnb32 := NB326_294.out; have hnc32 := NB294_326.out; have hnb33 := NB326_303.out; have hnc33 := NB303_326.out; have hnb34 := NB326_298.out; have hnc34 := NB298_326.out; have hcz35_0 : w31.cell? ⟨gb326, 0, none⟩ = some (.int .i64 0) := (jAb BK326.out 0).trans rfl; have hcz35_1 : w31.cell? ⟨gb326, 1, none⟩ = some (.string (⟨#[]⟩ : ByteArray)) := (jAb BK326.out 1).trans rfl; have hcz35_2 : w31.cell? ⟨gb326, 2, none⟩ = some (.int .i64 0) := (jAb BK326.out 2).trans rfl; have hfz35_0 := jAg BK326.out 0; have hfz35_1 := jAg BK326.out 1; have hfz35_2 := jAg BK326.out 2) | ((with_reducible refine jBl (f := 65) rfl ?_); refine jCe (some 33) rfl rfl Tryd.func65 (by kernel_rfl) rfl #[.pointer (some ⟨g298, 0, none⟩)] rfl (by (try simp only [List.map_toArray, List.map_cons, List.map_nil]); first | done | rfl | (simp only [List.length_drop, List.length_take]; rfl)) ?_; (with_reducible refine (jAm.calls k2 g298 t328 t329 t330 t331 t332 t333 t334 w _ ?side1 ?side2 A27.out).mono ?_); (case side1 => repeat (first | (with_reducible first | exact HI298.out | apply jAc.alloc | apply jAc.drewN | apply jAc.drew | apply jAc.set_0 | apply jAc.set_1 | apply jAc.set_2 | refine jAc.far ?_ NB298_294.out _ | refine jAc.far ?_ NB298_303.out _ | refine jAc.far ?_ NB298_326.out _) | exact HI298.out)); (case side2 => repeat (first | (with_reducible first | exact HB.out | apply jAj | apply jAd | apply jAk | refine jAh ?_ (jAc.ge HI298.out) | refine jAh ?_ GE294.out | refine jAh ?_ GE303.out | refine jAh ?_ GE326.out) | exact HB.out)); rintro e w36 ⟨rfl, hi, hb, hk⟩; refine ⟨_, rfl, ?_⟩; have n0_ := jAa.mk (Kd.R_mono (Kd.R_keep (jAc.apart (show jAc w _ g298 t328 t329 t330 from by repeat (first | (with_reducible first | exact HI298.out | apply jAc.alloc | apply jAc.drewN | apply jAc.drew | apply jAc.set_0 | apply jAc.set_1 | apply jAc.set_2 | refine jAc.far ?_ NB298_294.out _ | refine jAc.far ?_ NB298_303.out _ | refine jAc.far ?_ NB298_326.out _) | exact HI298.out)) (by (with_reducible repeat (first | apply Kd.R_alloc | apply Kd.R_drewN | apply Kd.R_drew)); exact (Kd.R_mono (Kd.R_far (p := ⟨gb326, 0, none⟩) (Kd.R_types HO_304001.out BK326.out (by decide)) (fun _ hk => hk.2) (.int .i64 t327)) (fun _ h_ => h_.1))) (by decide)) hk (fun _ h => h.2)) (fun _ h => h.1)); have n1_ := jAa.mk (Kd.R_mono (Kd.R_keep (jAc.apart (show jAc w _ g298 t328 t329 t330 from by repeat (first | (with_reducible first | exact HI298.out | apply jAc.alloc | apply jAc.drewN | apply jAc.drew | apply jAc.set_0 | apply jAc.set_1 | apply jAc.set_2 | refine jAc.far ?_ NB298_294.out _ | refine jAc.far ?_ NB298_303.out _ | refine jAc.far ?_ NB298_326.out _) | exact HI298.out)) (by (with_reducible repeat (first | apply Kd.R_alloc | apply Kd.R_drewN | apply Kd.R_drew)); exact (Kd.R_mono (Kd.R_far (p := ⟨gb326, 0, none⟩) (Kd.R_mono HO_304002.out (fun k_ hk => (⟨hk, hk.2⟩ : _ ∧ k_ ≠ gb326))) (fun _ hk => hk.2) (.int .i64 t327)) (fun _ h_ => h_.1))) (by decide)) hk (fun _ h => h.2)) (fun _ h => h.1)); have n2_ := jAa.mk (jAn.blk hk (g' := gb294) (o := .cells #[.int .i64 0, .slice none 0 0, .slice none 0 0] 25 (0, 0)) (by (with_reducible repeat (first | refine jAf ?_ _ | refine jAi ?_ | refine jAe ?_ _)); refine jBa ?_ NB294_326.out _; (with_reducible repeat (first | refine jAf ?_ _ | refine jAi ?_ | refine jAe ?_ _)); exact BK294.out) NB294_298.out (by simp)); have n3_ := jAa.mk (jAn.blk hk (g' := gb303) (o := .cells #[.int .i64 t299, u304001, u304002] 25 (0, 0)) (by (with_reducible repeat (first | refine jAf ?_ _ | refine jAi ?_ | refine jAe ?_ _)); refine jBa ?_ NB303_326.out _; (with_reducible repeat (first | refine jAf ?_ _ | refine jAi ?_ | refine jAe ?_ _)); exact BK303.out) NB303_298.out (by simp)); have n4_ := jAa.mk (jAn.blk hk (g' := gb326) (o := .cells #[.int .i64 t327, .string (⟨#[]⟩ : ByteArray), .int .i64 0] 27 (0, 0)) (by (with_reducible repeat (first | refine jAf ?_ _ | refine jAi ?_ | refine jAe ?_ _)); refine jBf (cs := #[.int .i64 0, .string (⟨#[]⟩ : ByteArray), .int .i64 0]) ?_ 0 _ rfl; (with_reducible repeat (first | refine jAf ?_ _ | refine jAi ?_ | refine jAe ?_ _)); exact BK326.out) NB326_298.out (by simp)); have n5_ := jAa.mk (hb); have n6_ := jAa.mk (hi); clear HO_304001; clear HO_304002; clear BK294; clear BK303; clear BK326; clear HB; clear HI298; have HO_304001 := n0_; have HO_304002 := n1_; have BK294 := n2_; have BK303 := n3_; have BK326 := n4_; have HB := n5_; have HI298 := n6_; clear n0_ n1_ n2_ n3_ n4_ n5_ n6_; (try clear hb); (try clear hb2); (try clear hk); (try clear hi); have hcz37_0 : w36.cell? ⟨gb326, 0, none⟩ = some (.int .i64 t327) := (jAb BK326.out 0).trans rfl; have hcz37_1 : w36.cell? ⟨gb326, 1, none⟩ = some (.string (⟨#[]⟩ : ByteArray)) := (jAb BK326.out 1).trans rfl; have hcz37_2 : w36.cell? ⟨gb326, 2, none⟩ = some (.int .i64 0) := (jAb BK326.out 2).trans rfl; have hfz37_0 := jAg BK326.out 0; have hfz37_1 := jAg BK326.out 1; have hfz37_2 := jAg BK326.out 2) | ((with_reducible refine jBl (f := 68) rfl ?_); refine jCe (some 36) rfl rfl Tryd.func68 (by kernel_rfl) rfl #[.pointer (some ⟨g298, 0, none⟩)] rfl (by (try simp only [List.map_toArray, List.map_cons, List.map_nil]); first | done | rfl | (simp only [List.length_drop, List.length_take]; rfl)) ?_; (with_reducible refine (jBr.calls k2 g298 t332 t333 t334 t335 t336 t337 t338 w _ ?side1 ?side2 A28.out).mono ?_); (case side1 => repeat (first | (with_reducible first | exact HI298.out | apply jAc.alloc | apply jAc.drewN | apply jAc.drew | apply jAc.set_0 | apply jAc.set_1 | apply jAc.set_2 | refine jAc.far ?_ NB298_294.out _ | refine jAc.far ?_ NB298_303.out _ | refine jAc.far ?_ NB298_326.out _) | exact HI298.out)); (case side2 => repeat (first | (with_reducible first | exact HB.out | apply jAj | apply jAd | apply jAk | refine jAh ?_ (jAc.ge HI298.out) | refine jAh ?_ GE294.out | refine jAh ?_ GE303.out | refine jAh ?_ GE326.out) | exact HB.out)); rintro e w38 ⟨rfl, hi, hb, hk⟩; refine ⟨_, rfl, ?_⟩; have n0_ := jAa.mk (Kd.R_mono (Kd.R_keep (jAc.apart (show jAc w _ g298 t332 t333 t334 from by repeat (first | (with_reducible first | exact HI298.out | apply jAc.alloc | apply jAc.drewN | apply jAc.drew | apply jAc.set_0 | apply jAc.set_1 | apply jAc.set_2 | refine jAc.far ?_ NB298_294.out _ | refine jAc.far ?_ NB298_303.out _ | refine jAc.far ?_ NB298_326.out _) | exact HI298.out)) (by (with_reducible repeat (first | apply Kd.R_alloc | apply Kd.R_drewN | apply Kd.R_drew)); exact (Kd.R_mono (Kd.R_far (p := ⟨gb326, 2, none⟩) (Kd.R_types HO_304001.out BK326.out (by decide)) (fun _ hk => hk.2) (.int .i64 t331)) (fun _ h_ => h_.1))) (by decide)) hk (fun _ h => h.2)) (fun _ h => h.1)); have n1_ := jAa.mk (Kd.R_mono (Kd.R_keep (jAc.apart (show jAc w _ g298 t332 t333 t334 from by repeat (first | (with_reducible first | exact HI298.out | apply jAc.alloc | apply jAc.drewN | apply jAc.drew | apply jAc.set_0 | apply jAc.set_1 | apply jAc.set_2 | refine jAc.far ?_ NB298_294.out _ | refine jAc.far ?_ NB298_303.out _ | refine jAc.far ?_ NB298_326.out _) | exact HI298.out)) (by (with_reducible repeat (first | apply Kd.R_alloc | apply Kd.R_drewN | apply Kd.R_drew)); exact (Kd.R_mono (Kd.R_far (p := ⟨gb326, 2, none⟩) (Kd.R_mono HO_304002.out (fun k_ hk => (⟨hk, hk.2⟩ : _ ∧ k_ ≠ gb326))) (fun _ hk => hk.2) (.int .i64 t331)) (fun _ h_ => h_.1))) (by decide)) hk (fun _ h => h.2)) (fun _ h => h.1)); have n2_ := jAa.mk (jAn.blk hk (g' := gb294) (o := .cells #[.int .i64 0, .slice none 0 0, .slice none 0 0] 25 (0, 0)) (by (with_reducible repeat (first | refine jAf ?_ _ | refine jAi ?_ | refine jAe ?_ _)); refine jBa ?_ NB294_326.out _; (with_reducible repeat (first | refine jAf ?_ _ | refine jAi ?_ | refine jAe ?_ _)); exact BK294.out) NB294_298.out (by simp)); have n3_ := jAa.mk (jAn.blk hk (g' := gb303) (o := .cells #[.int .i64 t299, u304001, u304002] 25 (0, 0)) (by (with_reducible repeat (first | refine jAf ?_ _ | refine jAi ?_ | refine jAe ?_ _)); refine jBa ?_ NB303_326.out _; (with_reducible repeat (first | refine jAf ?_ _ | refine jAi ?_ | refine jAe ?_ _)); exact BK303.out) NB303_298.out (by simp)); have n4_ := jAa.mk (jAn.blk hk (g' := gb326) (o := .cells #[.int .i64 t327, .string (⟨#[]⟩ : ByteArray), .int .i64 t331] 27 (0, 0)) (by (with_reducible repeat (first | refine jAf ?_ _ | refine jAi ?_ | refine jAe ?_ _)); refine jBf (cs := #[.int .i64 t327, .string (⟨#[]⟩ : ByteArray), .int .i64 0]) ?_ 2 _ rfl; (with_reducible repeat (first | refine jAf ?_ _ | refine jAi ?_ | refine jAe ?_ _)); exact BK326.out) NB326_298.out (by simp)); have n5_ := jAa.mk (hb); have n6_ := jAa.mk (hi); clear HO_304001; clear HO_304002; clear BK294; clear BK303; clear BK326; clear HB; clear HI298; have HO_304001 := n0_; have HO_304002 := n1_; have BK294 := n2_; have BK303 := n3_; have BK326 := n4_; have HB := n5_; have HI298 := n6_; clear n0_ n1_ n2_ n3_ n4_ n5_ n6_; (try clear hb); (try clear hb2); (try clear hk); (try clear hi); have hcz39_0 : w38.cell? ⟨gb326, 0, none⟩ = some (.int .i64 t327) := (jAb BK326.out 0).trans rfl; have hcz39_1 : w38.cell? ⟨gb326, 1, none⟩ = some (.string (⟨#[]⟩ : ByteArray)) := (jAb BK326.out 1).trans rfl; have hcz39_2 : w38.cell? ⟨gb326, 2, none⟩ = some (.int .i64 t331) := (jAb BK326.out 2).trans rfl; have hfz39_0 := jAg BK326.out 0; have hfz39_1 := jAg BK326.out 1; have hfz39_2 := jAg BK326.out 2; have hnb40 := NB303_294.out; have hnc40 := NB294_303.out; have hnb41 := NB303_298.out; have hnc41 := NB298_303.out; have hcz42_0 : w38.cell? ⟨gb303, 0, none⟩ = some (.int .i64 t299) := (jAb BK303.out 0).trans rfl; have hcz42_1 : w38.cell? ⟨gb303, 1, none⟩ = some (u304001) := (jAb BK303.out 1).trans rfl; have hcz42_2 : w38.cell? ⟨gb303, 2, none⟩ = some (u304002) := (jAb BK303.out 2).trans rfl; have hfz42_0 := jAg BK303.out 0; have hfz42_1 := jAg BK303.out 1; have hfz42_2 := jAg BK303.out 2) | ((with_reducible refine jGe (b := .append) (xs := #[.tmp 39, .tmp 41]) rfl ?_); at_builtin; refine Kd.R_append k27 (w0 := w) w.heap.size rfl (.tmp 39) (.tmp 41) 23 27 (.agg #[(.int .i64 0), (.string ⟨#[]⟩), (.int .i64 0)]) 32 rfl Tryd.underlying23 info27 rfl (by decide) (by omega) u304002 x304002_2 (⟨t327, t335, t331⟩ : S27) [.int .i64 t327, .string t335, .int .i64 t331] (fun k_ => k_ ≠ gb326) (fun _ => False) rfl (by first | (go_simp; done) | (go_simp; rfl)) ?aP (fun _ hk => hk.elim) ?aF ?aO ?aB ?aS ?aL ?_; (case aP => exact k27_mkM _ _ _ (⟨t327, t335, t331⟩ : S27)); (case aB => exact (by repeat (first | (with_reducible first | exact HB.out | apply jAj | apply jAd | apply jAk | refine jAh ?_ (jAc.ge HI298.out) | refine jAh ?_ GE294.out | refine jAh ?_ GE303.out | refine jAh ?_ GE326.out) | exact HB.out))); (case aF => exact (fun k_ hk => Kd.freshB (g := gb326) (o := .cells #[.int .i64 t327, .string t335, .int .i64 t331] 27 (0, 0)) (by (with_reducible repeat (first | refine jAf ?_ _ | refine jAi ?_ | refine jAe ?_ _)); refine jBf (cs := #[.int .i64 t327, .string (⟨#[]⟩ : ByteArray), .int .i64 t331]) ?_ 1 _ rfl; (with_reducible repeat (first | refine jAf ?_ _ | refine jAi ?_ | refine jAe ?_ _)); exact BK326.out) k_ hk)); (case aO => exact (by (with_reducible repeat (first | apply Kd.R_alloc | apply Kd.R_drewN | apply Kd.R_drew)); exact Kd.R_mono (Kd.R_far (p := ⟨gb326, 1, none⟩) (Kd.R_mono HO_304002.out (fun k_ hk => (⟨hk, hk.2⟩ : _ ∧ k_ ≠ gb326))) (fun _ hk => hk.2) (.string t335)) (fun _ hk => hk.1.2))); (case aS => exact (jBj (by repeat (first | (with_reducible first | exact HB.out | apply jAj | apply jAd | apply jAk | refine jAh ?_ (jAc.ge HI298.out) | refine jAh ?_ GE294.out | refine jAh ?_ GE303.out | refine jAh ?_ GE326.out) | exact HB.out)))); (case aL => have := LMc29.out; omega); intro v340 w43 ho hb hg hat; rw [← Ny339.out] at ho; have n0_ := jAa.mk (Kd.R_over' (by (with_reducible repeat (first | apply Kd.R_alloc | apply Kd.R_drewN | apply Kd.R_drew)); exact (Kd.R_mono (Kd.R_far (p := ⟨gb326, 1, none⟩) (Kd.R_types HO_304001.out BK326.out (by decide)) (fun _ hk => hk.2) (.string t335)) (fun _ h_ => h_.1))) (Kd.R_typed (by (with_reducible repeat (first | apply Kd.R_alloc | apply Kd.R_drewN | apply Kd.R_drew)); exact (Kd.R_mono (Kd.R_far (p := ⟨gb326, 1, none⟩) (Kd.R_mono HO_304002.out (fun k_ hk => (⟨hk, hk.2⟩ : _ ∧ k_ ≠ gb326))) (fun _ hk => hk.2) (.string t335)) (fun _ h_ => h_.1)))) (by decide) hg); have n1_ := jAa.mk (jCz (g := gb294) (o := .cells #[.int .i64 0, .slice none 0 0, .slice none 0 0] 25 (0, 0)) (by (with_reducible repeat (first | refine jAf ?_ _ | refine jAi ?_ | refine jAe ?_ _)); refine jBa ?_ NB294_326.out _; (with_reducible repeat (first | refine jAf ?_ _ | refine jAi ?_ | refine jAe ?_ _)); exact BK294.out) hg (Kd.R_ne HO_304002.out BK294.out (by decide))); have n2_ := jAa.mk (jCz (g := gb303) (o := .cells #[.int .i64 t299, u304001, u304002] 25 (0, 0)) (by (with_reducible repeat (first | refine jAf ?_ _ | refine jAi ?_ | refine jAe ?_ _)); refine jBa ?_ NB303_326.out _; (with_reducible repeat (first | refine jAf ?_ _ | refine jAi ?_ | refine jAe ?_ _)); exact BK303.out) hg (Kd.R_ne HO_304002.out BK303.out (by decide))); have n3_ := jAa.mk (jAc.grown (jAc.far (p := ⟨gb326, 1, none⟩) HI298.out NB298_326.out _) hg (jAc.own_ne HI298.out HO_304002.out (by decide))); have n4_ := jAa.mk (jCz (g := gb326) (o := .cells #[.int .i64 t327, .string t335, .int .i64 t331] 27 (0, 0)) (by (with_reducible repeat (first | refine jAf ?_ _ | refine jAi ?_ | refine jAe ?_ _)); refine jBf (cs := #[.int .i64 t327, .string (⟨#[]⟩ : ByteArray), .int .i64 t331]) ?_ 1 _ rfl; (with_reducible repeat (first | refine jAf ?_ _ | refine jAi ?_ | refine jAe ?_ _)); exact BK326.out) hg (Kd.R_away HO_304002.out (fun _ hk => hk.2))); have n5_ := jAa.mk (hb); have n6_ := jAa.mk (ho); clear HO_304001; clear BK294; clear BK303; clear HI298; clear BK326; clear HB; clear HO_304002; have HO_304001 := n0_; have BK294 := n1_; have BK303 := n2_; have HI298 := n3_; have BK326 := n4_; have HB := n5_; have HO341 := n6_; clear n0_ n1_ n2_ n3_ n4_ n5_ n6_; clear ho hb hg hat; obtain ⟨Ao44, co44, eo44⟩ := Kd.R_slice HO341.out; subst eo44; have hcz45_0 : w43.cell? ⟨gb303, 0, none⟩ = some (.int .i64 t299) := (jAb BK303.out 0).trans rfl; have hcz45_1 : w43.cell? ⟨gb303, 1, none⟩ = some (u304001) := (jAb BK303.out 1).trans rfl; have hcz45_2 : w43.cell? ⟨gb303, 2, none⟩ = some (u304002) := (jAb BK303.out 2).trans rfl; have hfz45_0 := jAg BK303.out 0; have hfz45_1 := jAg BK303.out 1; have hfz45_2 := jAg BK303.out 2))
        go_roundg k2
        case measure => have := HK1.out; have := HK2.out; omega
        case rel => exact ⟨(wrap64 (x27_2 + 1)), (t336), (t337), (t338), (y339), (.slice Ao44 y339.length co44), (by first | rfl | (simp; done) | (simp [*]; done)), H', ⟨by have := HK1.out; have := HK2.out; omega⟩, ⟨by (with_reducible repeat (first | apply Kd.R_alloc | apply Kd.R_drewN | apply Kd.R_drew)); exact Kd.R_mono (Kd.R_far (p := ⟨gb303, 2, none⟩) (Kd.R_types HO_304001.out BK303.out (by decide)) (fun _ hk => hk.2) (.slice Ao44 y339.length co44)) (fun _ hk => trivial)⟩, ⟨by (with_reducible repeat (first | apply Kd.R_alloc | apply Kd.R_drewN | apply Kd.R_drew)); exact Kd.R_mono (Kd.R_far (p := ⟨gb303, 2, none⟩) (Kd.R_types HO341.out BK303.out (by decide)) (fun _ hk => hk.2) (.slice Ao44 y339.length co44)) (fun _ hk => trivial)⟩, ⟨by (with_reducible repeat (first | refine jAf ?_ _ | refine jAi ?_ | refine jAe ?_ _)); refine jBa ?_ NB294_303.out _; (with_reducible repeat (first | refine jAf ?_ _ | refine jAi ?_ | refine jAe ?_ _)); exact BK294.out⟩, ⟨by (with_reducible repeat (first | refine jAf ?_ _ | refine jAi ?_ | refine jAe ?_ _)); refine jBf (cs := #[.int .i64 t299, u304001, u304002]) ?_ 2 _ rfl; (with_reducible repeat (first | refine jAf ?_ _ | refine jAi ?_ | refine jAe ?_ _)); exact BK303.out⟩, ⟨by repeat (first | (with_reducible first | exact HI298.out | apply jAc.alloc | apply jAc.drewN | apply jAc.drew | apply jAc.set_0 | apply jAc.set_1 | apply jAc.set_2 | refine jAc.far ?_ NB298_294.out _ | refine jAc.far ?_ NB298_303.out _ | refine jAc.far ?_ NB298_326.out _) | exact HI298.out)⟩, ⟨by repeat (first | (with_reducible first | exact HB.out | apply jAj | apply jAd | apply jAk | refine jAh ?_ (jAc.ge HI298.out) | refine jAh ?_ GE294.out | refine jAh ?_ GE303.out | refine jAh ?_ GE326.out) | exact HB.out)⟩⟩
       ·rw [if_neg c29] at H
        exact absurd H (by simp)
      ·rw [if_neg c25] at H
       have c25b0 : decide (x27_2 < t322) = false := decide_eq_false c25
       clear c25
       replace H := Option.bind_eq_some_iff.mp H
       obtain ⟨⟨t342, t343, t344, t345⟩, A460, H⟩ := H
       replace H : (if t342 = 0 then (some (t299, x304001_1, x304002_2, 0)) else (some (0, ([] : List (S45)), ([] : List (S27)), t342))) = some (r1, r2, r3, r4) := H
       have A46 := jAa.mk A460
       clear A460
       by_cases c47 : t342 = 0
       ·rw [if_pos c47] at H
        have c47b0 : (t342 == 0) = true := beq_iff_eq.mpr c47
        have c47b1 : (t342 != 0) = false := bne_eq_false_iff_eq.mpr c47
        clear c47
        simp only [Option.some.injEq, Prod.mk.injEq] at H
        obtain ⟨rfl, rfl, rfl, rfl⟩ := H
        go_wp2_with (first | ((with_reducible refine jBl (f := 69) rfl ?_); refine jCe (some 46) rfl rfl Tryd.func69 (by kernel_rfl) rfl #[.pointer (some ⟨g298, 0, none⟩)] rfl (by (try simp only [List.map_toArray, List.map_cons, List.map_nil]); first | done | rfl | (simp only [List.length_drop, List.length_take]; rfl)) ?_; (with_reducible refine (jCj.calls g298 x299000_2 x299001_2 x299002_2 t342 t343 t344 t345 w _ ?side1 ?side2 A46.out).mono ?_); (case side1 => repeat (first | (with_reducible first | exact HI298.out | apply jAc.alloc | apply jAc.drewN | apply jAc.drew | apply jAc.set_0 | apply jAc.set_1 | apply jAc.set_2 | refine jAc.far ?_ NB298_294.out _ | refine jAc.far ?_ NB298_303.out _) | exact HI298.out)); (case side2 => repeat (first | (with_reducible first | exact HB.out | apply jAj | apply jAd | apply jAk | refine jAh ?_ (jAc.ge HI298.out) | refine jAh ?_ GE294.out | refine jAh ?_ GE303.out) | exact HB.out)); rintro e w48 ⟨rfl, hi, hb, hk⟩; refine ⟨_, rfl, ?_⟩; have n0_ := jAa.mk (Kd.R_mono (Kd.R_keep (jAc.apart (show jAc w _ g298 x299000_2 x299001_2 x299002_2 from by repeat (first | (with_reducible first | exact HI298.out | apply jAc.alloc | apply jAc.drewN | apply jAc.drew | apply jAc.set_0 | apply jAc.set_1 | apply jAc.set_2 | refine jAc.far ?_ NB298_294.out _ | refine jAc.far ?_ NB298_303.out _) | exact HI298.out)) (by (with_reducible repeat (first | apply Kd.R_alloc | apply Kd.R_drewN | apply Kd.R_drew)); exact HO_304001.out) (by decide)) hk (fun _ h => h.2)) (fun _ h => h.1)); have n1_ := jAa.mk (Kd.R_mono (Kd.R_keep (jAc.apart (show jAc w _ g298 x299000_2 x299001_2 x299002_2 from by repeat (first | (with_reducible first | exact HI298.out | apply jAc.alloc | apply jAc.drewN | apply jAc.drew | apply jAc.set_0 | apply jAc.set_1 | apply jAc.set_2 | refine jAc.far ?_ NB298_294.out _ | refine jAc.far ?_ NB298_303.out _) | exact HI298.out)) (by (with_reducible repeat (first | apply Kd.R_alloc | apply Kd.R_drewN | apply Kd.R_drew)); exact HO_304002.out) (by decide)) hk (fun _ h => h.2)) (fun _ h => h.1)); have n2_ := jAa.mk (jAn.blk hk (g' := gb294) (o := .cells #[.int .i64 0, .slice none 0 0, .slice none 0 0] 25 (0, 0)) (by (with_reducible repeat (first | refine jAf ?_ _ | refine jAi ?_ | refine jAe ?_ _)); exact BK294.out) NB294_298.out (by simp)); have n3_ := jAa.mk (jAn.blk hk (g' := gb303) (o := .cells #[.int .i64 t299, u304001, u304002] 25 (0, 0)) (by (with_reducible repeat (first | refine jAf ?_ _ | refine jAi ?_ | refine jAe ?_ _)); exact BK303.out) NB303_298.out (by simp)); have n4_ := jAa.mk (hb); have n5_ := jAa.mk (hi); clear HO_304001; clear HO_304002; clear BK294; clear BK303; clear HB; clear HI298; have HO_304001 := n0_; have HO_304002 := n1_; have BK294 := n2_; have BK303 := n3_; have HB := n4_; have HI298 := n5_; clear n0_ n1_ n2_ n3_ n4_ n5_; (try clear hb); (try clear hb2); (try clear hk); (try clear hi); have hnb49 := NB303_294.out; have hnc49 := NB294_303.out; have hnb50 := NB303_298.out; have hnc50 := NB298_303.out; have hcz51_0 : w48.cell? ⟨gb303, 0, none⟩ = some (.int .i64 t299) := (jAb BK303.out 0).trans rfl; have hcz51_1 : w48.cell? ⟨gb303, 1, none⟩ = some (u304001) := (jAb BK303.out 1).trans rfl; have hcz51_2 : w48.cell? ⟨gb303, 2, none⟩ = some (u304002) := (jAb BK303.out 2).trans rfl; have hfz51_0 := jAg BK303.out 0; have hfz51_1 := jAg BK303.out 1; have hfz51_2 := jAg BK303.out 2; have hnb52 := NB294_298.out; have hnc52 := NB298_294.out; have hcz53_0 : w48.cell? ⟨gb294, 0, none⟩ = some (.int .i64 0) := (jAb BK294.out 0).trans rfl; have hcz53_1 : w48.cell? ⟨gb294, 1, none⟩ = some (.slice none 0 0) := (jAb BK294.out 1).trans rfl; have hcz53_2 : w48.cell? ⟨gb294, 2, none⟩ = some (.slice none 0 0) := (jAb BK294.out 2).trans rfl; have hfz53_0 := jAg BK294.out 0; have hfz53_1 := jAg BK294.out 1; have hfz53_2 := jAg BK294.out 2; obtain ⟨Ao54, co54, eo54⟩ := Kd.R_slice HO_304001.out; subst eo54; obtain ⟨Ao55, co55, eo55⟩ := Kd.R_slice HO_304002.out; subst eo55))
        refine bodyPost_ret (jFa rfl _ _ gb294 25 #[.int .i64 t299, .slice Ao54 x304001_1.length co54, .slice Ao55 x304002_2.length co55] (0, 0) _ rfl (by (with_reducible repeat (first | refine jAf ?_ _ | refine jAi ?_ | refine jAe ?_ _)); refine jBf (cs := #[.int .i64 t299, .slice Ao54 x304001_1.length co54, .slice none 0 0]) ?_ 2 _ rfl; (with_reducible repeat (first | refine jAf ?_ _ | refine jAi ?_ | refine jAe ?_ _)); refine jBf (cs := #[.int .i64 t299, .slice none 0 0, .slice none 0 0]) ?_ 1 _ rfl; (with_reducible repeat (first | refine jAf ?_ _ | refine jAi ?_ | refine jAe ?_ _)); refine jBf (cs := #[.int .i64 0, .slice none 0 0, .slice none 0 0]) ?_ 0 _ rfl; (with_reducible repeat (first | refine jAf ?_ _ | refine jAi ?_ | refine jAe ?_ _)); exact BK294.out) Tryd.underlying25 rfl (by kernel_rfl)) rfl ?_
        exact ⟨_, _, by first | rfl | (simp [jBd, jBe] <;> rfl) | (simp [*, jBd, jBe] <;> rfl), by (with_reducible repeat (first | apply Kd.R_alloc | apply Kd.R_drewN | apply Kd.R_drew)); exact Kd.R_mono (Kd.R_far (p := ⟨gb294, 2, none⟩) (Kd.R_far (p := ⟨gb294, 1, none⟩) (Kd.R_far (p := ⟨gb294, 0, none⟩) (Kd.R_types HO_304001.out BK294.out (by decide)) (fun _ hk => hk.2) (.int .i64 t299)) (fun _ hk => hk.2) (.slice Ao54 x304001_1.length co54)) (fun _ hk => hk.2) (.slice Ao55 x304002_2.length co55)) (fun _ hk => trivial), by (with_reducible repeat (first | apply Kd.R_alloc | apply Kd.R_drewN | apply Kd.R_drew)); exact Kd.R_mono (Kd.R_far (p := ⟨gb294, 2, none⟩) (Kd.R_far (p := ⟨gb294, 1, none⟩) (Kd.R_far (p := ⟨gb294, 0, none⟩) (Kd.R_types HO_304002.out BK294.out (by decide)) (fun _ hk => hk.2) (.int .i64 t299)) (fun _ hk => hk.2) (.slice Ao54 x304001_1.length co54)) (fun _ hk => hk.2) (.slice Ao55 x304002_2.length co55)) (fun _ hk => trivial), by repeat (first | (with_reducible first | exact HB.out | apply jAj | apply jAd | apply jAk | refine jAh ?_ (jAc.ge HI298.out) | refine jAh ?_ GE294.out | refine jAh ?_ GE303.out) | exact HB.out)⟩
       ·rw [if_neg c47] at H
        have c47b0 : (t342 == 0) = false := beq_eq_false_iff_ne.mpr c47
        have c47b1 : (t342 != 0) = true := bne_iff_ne.mpr c47
        simp only [Option.some.injEq, Prod.mk.injEq] at H
        obtain ⟨rfl, rfl, rfl, rfl⟩ := H
        go_wp2_with (first | ((with_reducible refine jBl (f := 69) rfl ?_); refine jCe (some 46) rfl rfl Tryd.func69 (by kernel_rfl) rfl #[.pointer (some ⟨g298, 0, none⟩)] rfl (by (try simp only [List.map_toArray, List.map_cons, List.map_nil]); first | done | rfl | (simp only [List.length_drop, List.length_take]; rfl)) ?_; (with_reducible refine (jCj.calls g298 x299000_2 x299001_2 x299002_2 t342 t343 t344 t345 w _ ?side1 ?side2 A46.out).mono ?_); (case side1 => repeat (first | (with_reducible first | exact HI298.out | apply jAc.alloc | apply jAc.drewN | apply jAc.drew | apply jAc.set_0 | apply jAc.set_1 | apply jAc.set_2 | refine jAc.far ?_ NB298_294.out _ | refine jAc.far ?_ NB298_303.out _) | exact HI298.out)); (case side2 => repeat (first | (with_reducible first | exact HB.out | apply jAj | apply jAd | apply jAk | refine jAh ?_ (jAc.ge HI298.out) | refine jAh ?_ GE294.out | refine jAh ?_ GE303.out) | exact HB.out)); rintro e w56 ⟨rfl, hi, hb, hk⟩; refine ⟨_, rfl, ?_⟩; have n0_ := jAa.mk (Kd.R_mono (Kd.R_keep (jAc.apart (show jAc w _ g298 x299000_2 x299001_2 x299002_2 from by repeat (first | (with_reducible first | exact HI298.out | apply jAc.alloc | apply jAc.drewN | apply jAc.drew | apply jAc.set_0 | apply jAc.set_1 | apply jAc.set_2 | refine jAc.far ?_ NB298_294.out _ | refine jAc.far ?_ NB298_303.out _) | exact HI298.out)) (by (with_reducible repeat (first | apply Kd.R_alloc | apply Kd.R_drewN | apply Kd.R_drew)); exact HO_304001.out) (by decide)) hk (fun _ h => h.2)) (fun _ h => h.1)); have n1_ := jAa.mk (Kd.R_mono (Kd.R_keep (jAc.apart (show jAc w _ g298 x299000_2 x299001_2 x299002_2 from by repeat (first | (with_reducible first | exact HI298.out | apply jAc.alloc | apply jAc.drewN | apply jAc.drew | apply jAc.set_0 | apply jAc.set_1 | apply jAc.set_2 | refine jAc.far ?_ NB298_294.out _ | refine jAc.far ?_ NB298_303.out _) | exact HI298.out)) (by (with_reducible repeat (first | apply Kd.R_alloc | apply Kd.R_drewN | apply Kd.R_drew)); exact HO_304002.out) (by decide)) hk (fun _ h => h.2)) (fun _ h => h.1)); have n2_ := jAa.mk (jAn.blk hk (g' := gb294) (o := .cells #[.int .i64 0, .slice none 0 0, .slice none 0 0] 25 (0, 0)) (by (with_reducible repeat (first | refine jAf ?_ _ | refine jAi ?_ | refine jAe ?_ _)); exact BK294.out) NB294_298.out (by simp)); have n3_ := jAa.mk (jAn.blk hk (g' := gb303) (o := .cells #[.int .i64 t299, u304001, u304002] 25 (0, 0)) (by (with_reducible repeat (first | refine jAf ?_ _ | refine jAi ?_ | refine jAe ?_ _)); exact BK303.out) NB303_298.out (by simp)); have n4_ := jAa.mk (hb); have n5_ := jAa.mk (hi); clear HO_304001; clear HO_304002; clear BK294; clear BK303; clear HB; clear HI298; have HO_304001 := n0_; have HO_304002 := n1_; have BK294 := n2_; have BK303 := n3_; have HB := n4_; have HI298 := n5_; clear n0_ n1_ n2_ n3_ n4_ n5_; (try clear hb); (try clear hb2); (try clear hk); (try clear hi); have hnb57 := NB294_303.out; have hnc57 := NB303_294.out; have hnb58 := NB294_298.out; have hnc58 := NB298_294.out; have hcz59_0 : w56.cell? ⟨gb294, 0, none⟩ = some (.int .i64 0) := (jAb BK294.out 0).trans rfl; have hcz59_1 : w56.cell? ⟨gb294, 1, none⟩ = some (.slice none 0 0) := (jAb BK294.out 1).trans rfl; have hcz59_2 : w56.cell? ⟨gb294, 2, none⟩ = some (.slice none 0 0) := (jAb BK294.out 2).trans rfl; have hfz59_0 := jAg BK294.out 0; have hfz59_1 := jAg BK294.out 1; have hfz59_2 := jAg BK294.out 2))
        refine bodyPost_ret (jFa rfl _ _ gb294 25 #[.int .i64 0, .slice none 0 0, .slice none 0 0] (0, 0) _ rfl (by (with_reducible repeat (first | refine jAf ?_ _ | refine jAi ?_ | refine jAe ?_ _)); refine jBf (cs := #[.int .i64 0, .slice none 0 0, .slice none 0 0]) ?_ 2 _ rfl; (with_reducible repeat (first | refine jAf ?_ _ | refine jAi ?_ | refine jAe ?_ _)); refine jBf (cs := #[.int .i64 0, .slice none 0 0, .slice none 0 0]) ?_ 1 _ rfl; (with_reducible repeat (first | refine jAf ?_ _ | refine jAi ?_ | refine jAe ?_ _)); refine jBf (cs := #[.int .i64 0, .slice none 0 0, .slice none 0 0]) ?_ 0 _ rfl; (with_reducible repeat (first | refine jAf ?_ _ | refine jAi ?_ | refine jAe ?_ _)); exact BK294.out) Tryd.underlying25 rfl (by kernel_rfl)) rfl ?_
        exact ⟨_, _, by first | rfl | (simp [jBd, jBe] <;> rfl) | (simp [*, jBd, jBe] <;> rfl), by first | exact Kd.R_nil _ _ _ _ _ | exact Kd.N_nil _ _ _ _ _ | exact Kd.V_nil _ _ _ _ _ | exact Kd.Q_nil _ _ _ _ _ | exact Kd.S_nil _ _ _ _ _, by first | exact Kd.R_nil _ _ _ _ _ | exact Kd.N_nil _ _ _ _ _ | exact Kd.V_nil _ _ _ _ _ | exact Kd.Q_nil _ _ _ _ _ | exact Kd.S_nil _ _ _ _ _, by repeat (first | (with_reducible first | exact HB.out | apply jAj | apply jAd | apply jAk | refine jAh ?_ (jAc.ge HI298.out) | refine jAh ?_ GE294.out | refine jAh ?_ GE303.out) | exact HB.out)⟩
end Go.Proofs.YtefdfgmlmjnmlaaDoor.Rf
end

section
set_option linter.unusedSimpArgs false
set_option linter.unusedVariables false
namespace Go.Proofs.YtefdfgmlmjnmlaaDoor.My
open Go.RowKit Go.Proofs.YtefdfgmlmjnmlaaDoorW.PrintWords Go.Proofs.YtefdfgmlmjnmlaaDoorW.PrintMore Go.Proofs.YtefdfgmlmjnmlaaDoor.Rf
abbrev LL (b : ByteArray) (i : Nat) : List UInt8 := b.data.toList.drop i
/-- From place a (a fault noted or not) to place a': no new fault means that P holds and l was read. -/
def RdP (b : ByteArray) (a : Nat) (x : Bool) (a' : Nat) (x' : Bool) (P : Prop) (l : List UInt8) : Prop :=
  a' ≤ b.size ∧ (x' = false → x = false ∧ P ∧ LL b a = l ++ LL b a')
theorem RdP.fault {b : ByteArray} {a a' : Nat} {x : Bool} {P : Prop} {l : List UInt8} (h : a' ≤ b.size) : RdP b a x a' true P l := ⟨h, fun h => by cases h⟩
theorem RdP.trans {b : ByteArray} {a a1 a2 : Nat} {x x1 x2 : Bool} {P Q : Prop} {l m : List UInt8} (h : RdP b a x a1 x1 P l) (k : RdP b a1 x1 a2 x2 Q m) : RdP b a x a2 x2 (P ∧ Q) (l ++ m) :=
  ⟨k.1, fun h2 => by
    obtain ⟨e1, q, e2⟩ := k.2 h2
    obtain ⟨f1, p, f2⟩ := h.2 e1
    exact ⟨f1, ⟨p, q⟩, by rw [f2, e2, List.append_assoc]⟩⟩
theorem RdP.imp {b : ByteArray} {a a1 : Nat} {x x1 : Bool} {P Q : Prop} {l m : List UInt8} (h : RdP b a x a1 x1 P l) (f : P → Q) (e : P → l = m) : RdP b a x a1 x1 Q m :=
  ⟨h.1, fun h2 => by obtain ⟨e1, p, e2⟩ := h.2 h2; exact ⟨e1, f p, (e p) ▸ e2⟩⟩
theorem pow7 (i : Nat) : 2 ^ (7 * (i + 1)) = 2 ^ (7 * i) * 128 := by
  rw [show 7 * (i + 1) = 7 * i + 7 by omega, Nat.pow_add]
theorem jFq {n : Nat} (h : n < 18446744073709551616) : IntKind.u64.wrap (n : Int) = (n : Int) := by rw [u64w]; omega
theorem pw9 {i : Nat} (h : i ≤ 9) : 2 ^ (7 * i) ≤ 9223372036854775808 := Nat.le_trans (Nat.pow_le_pow_right (by decide) (show 7 * i ≤ 63 by omega)) (by decide)
theorem pw8 {i : Nat} (h : i ≤ 8) : 2 ^ (7 * i) ≤ 72057594037927936 := Nat.le_trans (Nat.pow_le_pow_right (by decide) (show 7 * i ≤ 56 by omega)) (by decide)
theorem or_shl (u p i P : Nat) (hP : P = 2 ^ (7 * i)) (hi : i ≤ 9) (hu : u < P) (hp : p * P < 18446744073709551616) (hb : u < 18446744073709551616) :
    Go.bits .or .u64 (u : Int) (shl .u64 (p : Int) ((7 * i : Nat) : Int)) = ((u + p * P : Nat) : Int) := by
  subst hP
  have e1 : shl .u64 (p : Int) ((7 * i : Nat) : Int) = ((p * 2 ^ (7 * i) : Nat) : Int) := by
    unfold shl
    have : min ((7 * i : Nat) : Int).toNat IntKind.u64.bits = 7 * i := by
      simp only [IntKind.bits, Int.toNat_natCast]; omega
    rw [this]
    have : (p : Int) * 2 ^ (7 * i) = ((p * 2 ^ (7 * i) : Nat) : Int) := by push_cast; rfl
    rw [this, jFq hp]
  rw [e1, (bits_nat .u64 64 (by decide) (fun n h0 h1 => by rw [u64w]; omega) u (p * 2 ^ (7 * i)) (by simpa using hb) (by simpa using hp)).2]
  congr 1
  rw [Nat.mul_comm p, Nat.or_comm, ← Nat.two_pow_add_eq_or_of_lt hu, Nat.add_comm]
theorem and127 (c : UInt8) : Go.bits .and .u8 (c.toNat : Int) 127 = ((c.toNat % 128 : Nat) : Int) := by
  have h := bits_mask .u8 8 (by decide) wraps_u8 7 (by decide) (c.toNat : Int) (by omega) (by have := c.toNat_lt; omega)
  simpa using h
theorem xor_i64_0 (x : Nat) (h : x < 9223372036854775808) : Go.bits .xor .i64 (x : Int) 0 = (x : Int) := by
  have e : (BitVec.ofInt 64 0) = 0#64 := by decide
  have e2 : BitVec.ofInt 64 (x : Int) = BitVec.ofNat 64 x := BitVec.ofInt_natCast 64 x
  show IntKind.i64.wrap (((BitVec.ofInt 64 (x : Int)) ^^^ (BitVec.ofInt 64 0)).toNat : Int) = _
  rw [e, e2, BitVec.xor_zero, BitVec.toNat_ofNat, Nat.mod_eq_of_lt (by omega), IntKind.wrap_i64]
  omega
theorem xor_i64_m (x : Nat) (h : x < 9223372036854775808) : Go.bits .xor .i64 (x : Int) (-1) = -(x : Int) - 1 := by
  have e : (BitVec.ofInt 64 (-1)) = BitVec.allOnes 64 := by decide
  have e2 : BitVec.ofInt 64 (x : Int) = BitVec.ofNat 64 x := BitVec.ofInt_natCast 64 x
  show IntKind.i64.wrap (((BitVec.ofInt 64 (x : Int)) ^^^ (BitVec.ofInt 64 (-1))).toNat : Int) = _
  rw [e, e2, BitVec.xor_allOnes, BitVec.toNat_not, BitVec.toNat_ofNat, Nat.mod_eq_of_lt (by omega), IntKind.wrap_i64]
  omega
theorem zag_ev (u : Nat) (hu : u < 18446744073709551616) : ∃ n, jDw.f (u : Int) = some n ∧ I64 n ∧ jDo n = u := by
  have h1 : Go.bits .and .u64 (u : Int) 1 = ((u % 2 : Nat) : Int) := by
    have h := bits_mask .u64 64 (by decide) (fun n h0 h1 => by rw [u64w]; omega) 1 (by decide) (u : Int) (by omega) (by omega)
    simpa using h
  have h2 : wrap64 ((u : Int) / 2) = ((u / 2 : Nat) : Int) := by unfold wrap64; omega
  unfold jDw.f
  rw [h1, h2]
  rcases Nat.mod_two_eq_zero_or_one u with h | h
  · rw [h]
    have : wrap64 (-(wrap64 ((0 : Nat) : Int))) = 0 := by unfold wrap64; omega
    rw [this, xor_i64_0 _ (by omega)]
    refine ⟨_, rfl, ⟨by omega, by omega⟩, ?_⟩
    unfold jDo; rw [if_pos (by omega)]; omega
  · rw [h]
    have : wrap64 (-(wrap64 ((1 : Nat) : Int))) = -1 := by unfold wrap64; omega
    rw [this, xor_i64_m _ (by omega)]
    refine ⟨_, rfl, ⟨by omega, by omega⟩, ?_⟩
    unfold jDo; rw [if_neg (by omega)]; omega
theorem LL_at {b : ByteArray} {i : Nat} (h : i < b.size) : LL b i = b[i]'h :: LL b (i + 1) := by
  have h' : i < b.data.toList.length := by rw [jDh]; exact h
  show b.data.toList.drop i = _
  rw [List.drop_eq_getElem_cons h']
  congr 1
theorem u8_ofNat (c : UInt8) : UInt8.ofNat c.toNat = c := by simp
set_option maxHeartbeats 4000000 in
theorem int_loop (b : ByteArray) (hb : b.size ≤ 4611686018427387904) (a0 : Nat) : ∀ d i (u : Nat) (cs : List UInt8), i + d = 10 → a0 + i ≤ b.size → u < 2 ^ (7 * i) → LL b a0 = cs ++ LL b (a0 + i) →
    (∀ v : Nat, (0 < i → 0 < v) → encU (u + v * 2 ^ (7 * i)) = cs ++ encU v) →
    ∃ (n : Int) (a' : Nat) (x' : Bool), Ev (fun k => jAm.l0 k (u : Int) (i : Int) b ((a0 + i : Nat) : Int) false) (n, b, (a' : Int), x') ∧ I64 n ∧ (x' = true → n = 0) ∧ RdP b a0 false a' x' True (encI n) := by
  intro d
  induction d with
  | zero =>
    intro i u cs hi ha hu hc he
    refine ⟨0, a0 + i, true, ?_, ⟨by omega, by omega⟩, fun _ => rfl, RdP.fault ha⟩
    refine Ev.step (f := fun _ => some (0, b, ((a0 + i : Nat) : Int), true)) (fun k => ?_) (Ev.now _)
    simp only [jAm.l0]
    rw [if_neg (by omega)]
    rfl
  | succ d ih =>
    intro i u cs hi ha hu hc he
    obtain ⟨P, hP⟩ : ∃ P, P = 2 ^ (7 * i) := ⟨_, rfl⟩
    have hP9 : P ≤ 9223372036854775808 := by rw [hP]; exact pw9 (show i ≤ 9 by omega)
    have hP8 : i ≤ 8 → P ≤ 72057594037927936 := fun h => by rw [hP]; exact pw8 h
    have HPn : jAa (2 ^ (7 * (i + 1)) = P * 128) := ⟨by rw [pow7, hP]⟩
    rw [← hP] at hu
    simp only [← hP] at he
    have HP := jAa.mk hP
    clear hP
    by_cases hend : a0 + i = b.size
    · refine ⟨0, a0 + i, true, ?_, ⟨by omega, by omega⟩, fun _ => rfl, RdP.fault ha⟩
      refine Ev.step (f := fun _ => some (0, b, ((a0 + i : Nat) : Int), true)) (fun k => ?_) (Ev.now _)
      simp only [jAm.l0]
      rw [if_pos (by omega), if_pos (by omega)]
      rfl
    · have hlt : a0 + i < b.size := by omega
      have hbt0 := bt_nat b (a0 + i) hlt
      have hL := LL_at hlt
      generalize hcc : b[a0 + i]'hlt = c at hbt0 hL
      have hbt := jAa.mk hbt0
      clear hbt0
      have hc8 := c.toNat_lt
      have hw : jAa (wrap64 (((a0 + i : Nat) : Int) + 1) = ((a0 + (i + 1) : Nat) : Int)) := ⟨by unfold wrap64; omega⟩
      have hw7 : jAa (wrap64 (7 * (i : Int)) = ((7 * i : Nat) : Int)) := ⟨by unfold wrap64; omega⟩
      have hwi : jAa (wrap64 ((i : Int) + 1) = ((i + 1 : Nat) : Int)) := ⟨by unfold wrap64; omega⟩
      have hfail : ∀ q : Bool, q = true → ∀ y14 : Int, Ev (fun k => jAm.j1 k (u : Int) (i : Int) (c.toNat : Int) y14 q b ((a0 + (i + 1) : Nat) : Int) false) (0, b, ((a0 + (i + 1) : Nat) : Int), true) := by
        intro q hq y14
        refine Ev.step (f := fun _ => some (0, b, ((a0 + (i + 1) : Nat) : Int), true)) (fun k => ?_) (Ev.now _)
        simp only [jAm.j1]
        rw [if_pos hq]
        rfl
      -- the flag
      by_cases hq : i = 9 ∧ 1 < c.toNat
      · refine ⟨0, a0 + (i + 1), true, ?_, ⟨by omega, by omega⟩, fun _ => rfl, RdP.fault (by omega)⟩
        refine Ev.step (fun k => ?_) (hfail (decide ((c.toNat : Int) > 1)) (decide_eq_true (by omega)) (i : Int))
        simp only [jAm.l0]
        rw [if_pos (by omega), if_neg (by omega), if_pos (by omega), if_pos (by omega), if_pos (by omega), hbt.out, hw.out]
      · have hl0 : ∀ r, Ev (fun k => jAm.j1 k (u : Int) (i : Int) (c.toNat : Int) (i : Int) false b ((a0 + (i + 1) : Nat) : Int) false) r → Ev (fun k => jAm.l0 k (u : Int) (i : Int) b ((a0 + i : Nat) : Int) false) r := by
          intro r hr
          refine Ev.step (fun k => ?_) hr
          simp only [jAm.l0]
          rw [if_pos (by omega), if_neg (by omega), if_pos (by omega), if_pos (by omega), hbt.out, hw.out]
          by_cases h9 : (i : Int) = 9
          · rw [if_pos h9, decide_eq_false (by omega)]
          · rw [if_neg h9]
        have hp : (c.toNat % 128) * P < 18446744073709551616 := by
          by_cases h9 : i = 9
          · have h1 : (c.toNat % 128) * P ≤ 1 * P := Nat.mul_le_mul_right _ (by omega)
            omega
          · have h1 : (c.toNat % 128) * P ≤ 127 * P := Nat.mul_le_mul_right _ (by omega)
            have := hP8 (by omega)
            omega
        have hor := jAa.mk (or_shl u (c.toNat % 128) i P HP.out (by omega) hu hp (by omega))
        have hacc : jAa (Go.bits .or .u64 (u : Int) (shl .u64 (IntKind.u64.wrap (Go.bits .and .u8 (c.toNat : Int) 127)) (wrap64 (7 * (i : Int)))) = ((u + c.toNat % 128 * P : Nat) : Int)) := ⟨by
          rw [and127, jFq (by omega), hw7.out, hor.out]⟩
        by_cases hsm : c.toNat < 128
        · have hmod : c.toNat % 128 = c.toNat := Nat.mod_eq_of_lt hsm
          have hacc := jAa.mk (hmod ▸ hacc.out)
          rw [hmod] at hp
          by_cases hz : c.toNat = 0 ∧ 0 < i
          · refine ⟨0, a0 + (i + 1), true, ?_, ⟨by omega, by omega⟩, fun _ => rfl, RdP.fault (by omega)⟩
            refine hl0 _ (Ev.step (fun k => ?_) (Ev.step (g := fun k => jAm.j2 k ((u + c.toNat * P : Nat) : Int) (decide ((i : Int) > 0)) b ((a0 + (i + 1) : Nat) : Int) false) (f := fun _ => some (0, b, ((a0 + (i + 1) : Nat) : Int), true)) (fun k => ?_) (Ev.now _)))
            · simp only [jAm.j1]
              rw [if_neg (by decide), if_pos (by rw [hw7.out]; omega), if_pos (by omega), if_pos (by omega), hacc.out]
            · simp only [jAm.j2]
              rw [if_pos (decide_eq_true (by omega))]
              rfl
          · have hU : u + c.toNat * P < 18446744073709551616 := by
              by_cases h9 : i = 9
              · have h1 : c.toNat * P ≤ 1 * P := Nat.mul_le_mul_right _ (by omega)
                omega
              · have h1 : c.toNat * P ≤ 127 * P := Nat.mul_le_mul_right _ (by omega)
                have := hP8 (by omega)
                omega
            obtain ⟨n, hz1, hz2, hz3⟩ := zag_ev _ hU
            have henc : encI n = cs ++ [c] := by
              unfold encI
              rw [hz3, he c.toNat (by omega), jDb hsm, u8_ofNat]
            have hfin : ∀ q : Bool, q = false → Ev (fun k => jAm.j2 k ((u + c.toNat * P : Nat) : Int) q b ((a0 + (i + 1) : Nat) : Int) false) (n, b, ((a0 + (i + 1) : Nat) : Int), false) := by
              intro q hq
              refine Ev.step (f := fun _ => some (n, b, ((a0 + (i + 1) : Nat) : Int), false)) (fun k => ?_) (Ev.now _)
              simp only [jAm.j2]
              rw [if_neg (by rw [hq]; decide), hz1]
              rfl
            refine ⟨n, a0 + (i + 1), false, ?_, hz2, fun h => by (cases h), by omega, fun _ => ⟨rfl, trivial, ?_⟩⟩
            · by_cases h0 : c.toNat = 0
              · refine hl0 _ (Ev.step (fun k => ?_) (hfin (decide ((i : Int) > 0)) (decide_eq_false (by omega))))
                simp only [jAm.j1]
                rw [if_neg (by decide), if_pos (by rw [hw7.out]; omega), if_pos (by omega), if_pos (by omega), hacc.out]
              · refine hl0 _ (Ev.step (fun k => ?_) (hfin false rfl))
                simp only [jAm.j1]
                rw [if_neg (by decide), if_pos (by rw [hw7.out]; omega), if_pos (by omega), if_neg (by omega), hacc.out]
            · rw [henc, hc, hL, List.append_assoc]
              rfl
        · have hi8 : i ≤ 8 := by omega
          obtain ⟨n, a', x', h1, h2, h3, h4⟩ := ih (i + 1) (u + c.toNat % 128 * P) (cs ++ [c]) (by omega) (by omega) (by
            rw [HPn.out]
            have : c.toNat % 128 * P ≤ 127 * P := Nat.mul_le_mul_right _ (by omega)
            omega) (by rw [hc, hL, List.append_assoc]; rfl) (fun v hv => by
            have hv := hv (by omega)
            have e1 : u + c.toNat % 128 * P + v * 2 ^ (7 * (i + 1)) = u + (c.toNat % 128 + v * 128) * P := by
              rw [HPn.out, Nat.add_mul, Nat.mul_assoc v 128, Nat.mul_comm 128]; omega
            rw [e1, he _ (by omega), jDv (by omega)]
            have e2 : 128 + (c.toNat % 128 + v * 128) % 128 = c.toNat := by omega
            have e3 : (c.toNat % 128 + v * 128) / 128 = v := by omega
            rw [e2, e3, u8_ofNat]
            simp)
          refine ⟨n, a', x', hl0 _ (Ev.step (fun k => ?_) h1), h2, h3, h4⟩
          simp only [jAm.j1]
          rw [if_neg (by decide), if_pos (by rw [hw7.out]; omega), if_neg (by omega), hacc.out, hwi.out]
theorem jEc (b : ByteArray) (hb : b.size ≤ 4611686018427387904) (a : Nat) (ha : a ≤ b.size) (x : Bool) :
    ∃ (n : Int) (a' : Nat) (x' : Bool), Ev (fun k => jAm.f k b (a : Int) x) (n, b, (a' : Int), x') ∧ I64 n ∧ (x' = true → n = 0) ∧ RdP b a x a' x' True (encI n) := by
  cases x with
  | true => exact ⟨0, a, true, Ev.congr (fun k => by unfold jAm.f; rw [if_pos rfl]) (Ev.now _), ⟨by omega, by omega⟩, fun _ => rfl, RdP.fault ha⟩
  | false =>
    obtain ⟨n, a', x', h1, h2, h3, h4⟩ := int_loop b hb a 10 0 0 [] (by omega) (by omega) (by decide) (by simp) (fun v _ => by simp)
    exact ⟨n, a', x', Ev.congr (fun k => by unfold jAm.f; rw [if_neg (by decide)]; rfl) h1, h2, h3, h4⟩
end Go.Proofs.YtefdfgmlmjnmlaaDoor.My
end

section
set_option linter.unusedSimpArgs false
set_option linter.unusedVariables false
namespace Go.Proofs.YtefdfgmlmjnmlaaDoor.My
open Go.RowKit Go.Proofs.YtefdfgmlmjnmlaaDoorW.PrintWords Go.Proofs.YtefdfgmlmjnmlaaDoorW.PrintMore Go.Proofs.YtefdfgmlmjnmlaaDoor.Rf
theorem left_now {b : ByteArray} (hb : b.size ≤ 4611686018427387904) {a : Nat} (ha : a ≤ b.size) : wrap64 ((b.size : Int) - (a : Int)) = ((b.size - a : Nat) : Int) := by unfold wrap64; omega
theorem jEw (b : ByteArray) (hb : b.size ≤ 4611686018427387904) (m : Int) (hm : m ≤ 1000) (a : Nat) (ha : a ≤ b.size) (x : Bool) :
    ∃ (n : Nat) (a' : Nat) (x' : Bool), Ev (fun k => jBk.f k b (a : Int) x m) ((n : Int), b, (a' : Int), x') ∧ n ≤ 1000 ∧ (x' = true → n = 0) ∧ RdP b a x a' x' ((n : Int) ≤ m) (encI (n : Int)) := by
  obtain ⟨n, a1, x1, h1, h2, h3, h4⟩ := jEc b hb a ha x
  have hf : ∀ r, Ev (fun k => if x1 = true then some (0, b, (a1 : Int), x1) else if n < 0 then (jAy.f b (a1 : Int) x1).bind fun bt => some (bt.1, bt.2.1, bt.2.2.1, bt.2.2.2)
      else if n > m then (jAy.f b (a1 : Int) x1).bind fun bt => some (bt.1, bt.2.1, bt.2.2.1, bt.2.2.2)
      else if n > wrap64 ((b.size : Int) - (a1 : Int)) then (jAy.f b (a1 : Int) x1).bind fun bt => some (bt.1, bt.2.1, bt.2.2.1, bt.2.2.2) else some (n, b, (a1 : Int), x1)) r →
      Ev (fun k => jBk.f k b (a : Int) x m) r := fun r hr => Ev.congr (fun k => rfl) (Ev.bind h1 hr)
  have e0 : ∀ k : Nat, ((jAy.f b (a1 : Int) x1).bind fun bt => some (bt.1, bt.2.1, bt.2.2.1, bt.2.2.2)) = some ((0 : Int), b, (a1 : Int), true) := fun _ => rfl
  cases x1 with
  | true =>
    refine ⟨0, a1, true, hf _ (Ev.congr (fun k => if_pos rfl) (Ev.now _)), by omega, fun _ => rfl, RdP.fault h4.1⟩
  | false =>
    have fault : Ev (fun k => jBk.f k b (a : Int) x m) ((0 : Int), b, (a1 : Int), true) → ∃ (n : Nat) (a' : Nat) (x' : Bool), Ev (fun k => jBk.f k b (a : Int) x m) ((n : Int), b, (a' : Int), x') ∧ n ≤ 1000 ∧ (x' = true → n = 0) ∧ RdP b a x a' x' ((n : Int) ≤ m) (encI (n : Int)) :=
      fun h => ⟨0, a1, true, h, by omega, fun _ => rfl, RdP.fault h4.1⟩
    by_cases c1 : n < 0
    · exact fault (hf _ (Ev.congr (fun k => by rw [if_neg (by decide), if_pos c1, e0 k]) (Ev.now _)))
    · by_cases c2 : n > m
      · exact fault (hf _ (Ev.congr (fun k => by rw [if_neg (by decide), if_neg c1, if_pos c2, e0 k]) (Ev.now _)))
      · by_cases c3 : n > wrap64 ((b.size : Int) - (a1 : Int))
        · exact fault (hf _ (Ev.congr (fun k => by rw [if_neg (by decide), if_neg c1, if_neg c2, if_pos c3, e0 k]) (Ev.now _)))
        · obtain ⟨j, rfl⟩ : ∃ j : Nat, n = (j : Int) := ⟨n.toNat, by omega⟩
          exact ⟨j, a1, false, hf _ (Ev.congr (fun k => by rw [if_neg (by decide), if_neg c1, if_neg c2, if_neg c3]) (Ev.now _)), by omega, fun h => (by cases h), h4.imp (fun _ => by omega) (fun _ => rfl)⟩
theorem LL_cut {b : ByteArray} {a j : Nat} (h : a + j ≤ b.size) : LL b a = (b.extract a (a + j)).data.toList ++ LL b (a + j) := by
  have e : (b.extract a (a + j)).data.toList = (LL b a).take j := by
    simp only [ByteArray.data_extract, Array.toList_extract, LL, List.extract_eq_take_drop, Nat.add_sub_cancel_left]
  rw [e, LL, LL, ← List.drop_drop, List.take_append_drop]
theorem cut_size {b : ByteArray} {a j : Nat} (h : a + j ≤ b.size) : (b.extract a (a + j)).size = j := by
  simp only [ByteArray.size_extract]; omega
theorem str_rd (b : ByteArray) (hb : b.size ≤ 4611686018427387904) (a : Nat) (ha : a ≤ b.size) (x : Bool) :
    ∃ (s : ByteArray) (a' : Nat) (x' : Bool), Ev (fun k => jBr.f k b (a : Int) x) (s, b, (a' : Int), x') ∧ s.size ≤ b.size ∧ RdP b a x a' x' True (encS s) := by
  obtain ⟨n, a1, x1, h1, h2, h3, h4⟩ := jEc b hb a ha x
  have ha1 := h4.1
  have hf : ∀ r, Ev (fun k => if x1 = true then some ((⟨#[]⟩ : ByteArray), b, (a1 : Int), x1) else if n < 0 then (jAy.f b (a1 : Int) x1).bind fun bt => some ((⟨#[]⟩ : ByteArray), bt.2.1, bt.2.2.1, bt.2.2.2)
      else if n > wrap64 ((b.size : Int) - (a1 : Int)) then (jAy.f b (a1 : Int) x1).bind fun bt => some ((⟨#[]⟩ : ByteArray), bt.2.1, bt.2.2.1, bt.2.2.2)
      else if 0 ≤ (a1 : Int) then if (a1 : Int) ≤ wrap64 ((a1 : Int) + n) then if wrap64 ((a1 : Int) + n) ≤ (b.size : Int) then some (b.extract (a1 : Int).toNat (wrap64 ((a1 : Int) + n)).toNat, b, wrap64 ((a1 : Int) + n), x1) else none else none else none) r →
      Ev (fun k => jBr.f k b (a : Int) x) r := fun r hr => Ev.congr (fun k => rfl) (Ev.bind h1 hr)
  have e0 : ∀ k : Nat, ((jAy.f b (a1 : Int) x1).bind fun bt => some ((⟨#[]⟩ : ByteArray), bt.2.1, bt.2.2.1, bt.2.2.2)) = some ((⟨#[]⟩ : ByteArray), b, (a1 : Int), true) := fun _ => rfl
  have z0 : (⟨#[]⟩ : ByteArray).size ≤ b.size := Nat.zero_le _
  cases x1 with
  | true => exact ⟨⟨#[]⟩, a1, true, hf _ (Ev.congr (fun k => if_pos rfl) (Ev.now _)), z0, RdP.fault ha1⟩
  | false =>
    by_cases c1 : n < 0
    · exact ⟨⟨#[]⟩, a1, true, hf _ (Ev.congr (fun k => by rw [if_neg (by decide), if_pos c1, e0 k]) (Ev.now _)), z0, RdP.fault ha1⟩
    · by_cases c3 : n > wrap64 ((b.size : Int) - (a1 : Int))
      · exact ⟨⟨#[]⟩, a1, true, hf _ (Ev.congr (fun k => by rw [if_neg (by decide), if_neg c1, if_pos c3, e0 k]) (Ev.now _)), z0, RdP.fault ha1⟩
      · obtain ⟨j, rfl⟩ : ∃ j : Nat, n = (j : Int) := ⟨n.toNat, by omega⟩
        have hj : a1 + j ≤ b.size := by rw [left_now hb ha1] at c3; omega
        have e1 : wrap64 ((a1 : Int) + (j : Int)) = ((a1 + j : Nat) : Int) := by unfold wrap64; omega
        refine ⟨b.extract a1 (a1 + j), a1 + j, false, hf _ (Ev.congr (fun k => by rw [if_neg (by decide), if_neg c1, if_neg c3, if_pos (by omega), e1, if_pos (by omega), if_pos (by omega)]; rfl) (Ev.now _)), by rw [cut_size hj]; omega, hj, fun _ => ?_⟩
        obtain ⟨q1, _, q2⟩ := h4.2 rfl
        refine ⟨q1, trivial, ?_⟩
        rw [q2, LL_cut hj, encS, cut_size hj, List.append_assoc]
theorem bool_rd (b : ByteArray) (hb : b.size ≤ 4611686018427387904) (a : Nat) (ha : a ≤ b.size) (x : Bool) :
    ∃ (v : Bool) (a' : Nat) (x' : Bool), Ev (fun k => jBz.f k b (a : Int) x) (v, b, (a' : Int), x') ∧ RdP b a x a' x' True (encB v) := by
  obtain ⟨n, a1, x1, h1, h2, h3, h4⟩ := jEc b hb a ha x
  have ha1 := h4.1
  by_cases c0 : n = 0
  · subst c0
    refine ⟨false, a1, x1, Ev.congr (fun k => rfl) (Ev.bind h1 (Ev.congr (fun k => if_pos rfl) (Ev.now _))), h4⟩
  · by_cases c1 : n = 1
    · subst c1
      refine ⟨true, a1, x1, Ev.congr (fun k => rfl) (Ev.bind h1 (Ev.congr (fun k => by rw [if_neg (show ¬((1 : Int) = 0) by decide), if_pos rfl]; rfl) (Ev.now _))), h4⟩
    · refine ⟨n == 1, a1, true, Ev.congr (fun k => rfl) (Ev.bind h1 (Ev.congr (fun k => by rw [if_neg c0, if_neg c1]; rfl) (Ev.now _))), RdP.fault ha1⟩
theorem val_rd (b : ByteArray) (hb : b.size ≤ 4611686018427387904) (a : Nat) (ha : a ≤ b.size) (x : Bool) :
    ∃ (v : S70) (a' : Nat) (x' : Bool), Ev (fun k => jDg.f k b (a : Int) x) (v.f0, v.f1, v.f2, b, (a' : Int), x') ∧ RdP b a x a' x' (goodV v = true ∧ Q70 v) (encV v) := by
  obtain ⟨n0, a1, x1, h1, i1, _, r1⟩ := jEc b hb a ha x
  obtain ⟨n1, a2, x2, h2, i2, _, r2⟩ := jEc b hb a1 r1.1 x1
  obtain ⟨s, a3, x3, h3, i3, r3⟩ := str_rd b hb a2 r2.1 x2
  have hf : ∀ r, Ev (fun k => if goodV ⟨n0, n1, s⟩ = true then some (n0, n1, s, b, (a3 : Int), x3) else (jBk.f k b (a3 : Int) x3 (-1)).bind fun bt => some (0, 0, (⟨#[]⟩ : ByteArray), bt.2.1, bt.2.2.1, bt.2.2.2)) r → Ev (fun k => jDg.f k b (a : Int) x) r :=
    fun r hr => Ev.congr (fun k => rfl) (Ev.bind h1 (Ev.bind h2 (Ev.bind h3 (Ev.congr (fun k => rfl) hr))))
  cases hg : goodV ⟨n0, n1, s⟩ with
  | true =>
    refine ⟨⟨n0, n1, s⟩, a3, x3, hf _ (Ev.congr (fun k => by rw [if_pos hg]) (Ev.now _)), ((r1.trans r2).trans r3).imp (fun _ => ⟨hg, i1, i2, by show s.size ≤ _; omega⟩) (fun _ => ?_)⟩
    simp [encV]
  | false =>
    obtain ⟨m, a4, x4, h4, _, _, r4⟩ := jEw b hb (-1) (by omega) a3 r3.1 x3
    have hx4 : x4 = true := by
      cases x4 with
      | true => rfl
      | false => obtain ⟨_, p, _⟩ := r4.2 rfl; omega
    subst hx4
    exact ⟨⟨0, 0, ⟨#[]⟩⟩, a4, true, hf _ (Ev.congr (fun k => by rw [if_neg (by rw [hg]; decide)]) (Ev.bind h4 (Ev.now _))), RdP.fault r4.1⟩
inductive FitE : Nat → S72 → Prop
  | mk (d : Nat) (e : S72) (v : goodV e.f2 = true) (a : I64 e.f0) (b : I64 e.f1) (c : Q70 e.f2) (l : e.f3.length ≤ 2) (z : d = 0 → e.f3 = []) (h : ∀ x, x ∈ e.f3 → FitE (d - 1) x) : FitE d e
theorem take_l0 (b : ByteArray) (hb : b.size ≤ 4611686018427387904) (d n : Nat) (hn : n ≤ 1000) (hd : d < 1000) (z0 z1 z2 z3 : Int) (z4 : ByteArray)
    (h : ∀ (a : Nat) (x : Bool), a ≤ b.size → ∃ (e : S72) (a' : Nat) (x' : Bool), Ev (fun k => jBi.f k b (a : Int) x (d : Int)) (e.f0, e.f1, e.f2.f0, e.f2.f1, e.f2.f2, e.f3, b, (a' : Int), x') ∧ RdP b a x a' x' (FitE d e) (encE e)) :
    ∀ m i (a : Nat) (x : Bool) (acc : List S72), i + m = n → acc.length ≤ i → a ≤ b.size →
      ∃ (l : List S72) (a' : Nat) (x' : Bool), Ev (fun k => jBi.l0 k ((d + 1 : Nat) : Int) (n : Int) (i : Int) b (a : Int) x z0 z1 z2 z3 z4 acc) (z0, z1, z2, z3, z4, acc ++ l, b, (a' : Int), x') ∧ RdP b a x a' x' (l.length = m ∧ ∀ y, y ∈ l → FitE d y) (l.map encE).flatten := by
  intro m
  induction m with
  | zero =>
    intro i a x acc hi hacc ha
    refine ⟨[], a, x, ?_, ha, fun hx => ⟨hx, ⟨rfl, fun y hy => by cases hy⟩, rfl⟩⟩
    rw [List.append_nil]
    exact Ev.step (f := fun _ => some (z0, z1, z2, z3, z4, acc, b, (a : Int), x)) (fun k => by simp only [jBi.l0]; rw [if_neg (by omega)]) (Ev.now _)
  | succ m ih =>
    intro i a x acc hi hacc ha
    obtain ⟨⟨q0, q1, ⟨q2, q3, q4⟩, q5⟩, a1, x1, h1, r1⟩ := h a x ha
    obtain ⟨e, he⟩ : ∃ e : S72, e = ⟨q0, q1, ⟨q2, q3, q4⟩, q5⟩ := ⟨_, rfl⟩
    rw [← he] at r1
    obtain ⟨l, a2, x2, h2, r2⟩ := ih (i + 1) a1 x1 (acc ++ [e]) (by omega) (by simp; omega) r1.1
    refine ⟨e :: l, a2, x2, ?_, (r1.trans r2).imp (fun p => ⟨by simp [p.2.1], fun y hy => ?_⟩) (fun p => by simp)⟩
    · rw [show acc ++ e :: l = (acc ++ [e]) ++ l by simp]
      have e1 : wrap64 (((d + 1 : Nat) : Int) - 1) = (d : Int) := by unfold wrap64; omega
      have e2 : wrap64 ((i : Int) + 1) = ((i + 1 : Nat) : Int) := by unfold wrap64; omega
      refine Ev.step (fun k => by simp only [jBi.l0]; rw [if_pos (by omega), e1, e2]) (Ev.bind h1 (Ev.congr (fun k => by rw [if_pos (show acc.length < 1954687338268 by omega), he]) h2))
    · rcases List.mem_cons.1 hy with rfl | hy
      · exact p.1
      · exact p.2.2 y hy
theorem take_rd (b : ByteArray) (hb : b.size ≤ 4611686018427387904) : ∀ d : Nat, d < 1000 → ∀ (a : Nat) (x : Bool), a ≤ b.size →
    ∃ (e : S72) (a' : Nat) (x' : Bool), Ev (fun k => jBi.f k b (a : Int) x (d : Int)) (e.f0, e.f1, e.f2.f0, e.f2.f1, e.f2.f2, e.f3, b, (a' : Int), x') ∧ RdP b a x a' x' (FitE d e) (encE e) := by
  intro d
  induction d with
  | zero =>
    intro hd a x ha
    obtain ⟨n0, a1, x1, h1, i1, _, r1⟩ := jEc b hb a ha x
    obtain ⟨n1, a2, x2, h2, i2, _, r2⟩ := jEc b hb a1 r1.1 x1
    obtain ⟨v, a3, x3, h3, r3⟩ := val_rd b hb a2 r2.1 x2
    obtain ⟨n, a4, x4, h4, n4, f4, r4⟩ := jEw b hb 2 (by omega) a3 r3.1 x3
    have hf : ∀ r, Ev (fun k => if (n : Int) > 0 then jBi.j0 k 0 (n : Int) ((0 : Int) == 0) b (a4 : Int) x4 n0 n1 v.f0 v.f1 v.f2 else jBi.j0 k 0 (n : Int) false b (a4 : Int) x4 n0 n1 v.f0 v.f1 v.f2) r → Ev (fun k => jBi.f k b (a : Int) x ((0 : Nat) : Int)) r :=
      fun r hr => Ev.step (fun k => rfl) (Ev.bind h1 (Ev.bind h2 (Ev.bind h3 (Ev.bind h4 hr))))
    by_cases hn : n = 0
    · subst hn
      refine ⟨⟨n0, n1, v, []⟩, a4, x4, hf _ (Ev.congr (fun k => by rw [if_neg (by omega)]) (Ev.step (g := fun k => jBi.j0 k 0 ((0 : Nat) : Int) false b (a4 : Int) x4 n0 n1 v.f0 v.f1 v.f2) (fun k => by simp only [jBi.j0]; rw [if_neg (by decide)]) (Ev.step (f := fun _ => some (n0, n1, v.f0, v.f1, v.f2, ([] : List S72), b, (a4 : Int), x4)) (fun k => by simp only [jBi.l0]; rw [if_neg (by omega)]) (Ev.now _)))), ?_⟩
      refine (((r1.trans r2).trans r3).trans r4).imp (fun p => FitE.mk 0 _ p.1.2.1 i1 i2 p.1.2.2 (by simp) (fun _ => rfl) (fun y hy => by cases hy)) (fun p => ?_)
      rw [jEn]; simp
    · obtain ⟨m, a5, x5, h5, _, _, r5⟩ := jEw b hb (-1) (by omega) a4 r4.1 x4
      have hx5 : x5 = true := by
        cases x5 with
        | true => rfl
        | false => obtain ⟨_, p, _⟩ := r5.2 rfl; omega
      subst hx5
      refine ⟨⟨n0, n1, v, []⟩, a5, true, hf _ (Ev.congr (fun k => by rw [if_pos (by omega)]) (Ev.step (g := fun k => jBi.j0 k 0 (n : Int) ((0 : Int) == 0) b (a4 : Int) x4 n0 n1 v.f0 v.f1 v.f2) (fun k => by simp only [jBi.j0]; rw [if_pos (by decide)]) (Ev.bind h5 (Ev.now _)))), RdP.fault r5.1⟩
  | succ d ih =>
    intro hd a x ha
    obtain ⟨n0, a1, x1, h1, i1, _, r1⟩ := jEc b hb a ha x
    obtain ⟨n1, a2, x2, h2, i2, _, r2⟩ := jEc b hb a1 r1.1 x1
    obtain ⟨v, a3, x3, h3, r3⟩ := val_rd b hb a2 r2.1 x2
    obtain ⟨n, a4, x4, h4, n4, f4, r4⟩ := jEw b hb 2 (by omega) a3 r3.1 x3
    obtain ⟨l, a5, x5, h5, r5⟩ := take_l0 b hb d n n4 (by omega) n0 n1 v.f0 v.f1 v.f2 (ih (by omega)) n 0 a4 x4 [] (by omega) (by simp) r4.1
    rw [List.nil_append] at h5
    have hf : ∀ r, Ev (fun k => if (n : Int) > 0 then jBi.j0 k ((d + 1 : Nat) : Int) (n : Int) (((d + 1 : Nat) : Int) == 0) b (a4 : Int) x4 n0 n1 v.f0 v.f1 v.f2 else jBi.j0 k ((d + 1 : Nat) : Int) (n : Int) false b (a4 : Int) x4 n0 n1 v.f0 v.f1 v.f2) r → Ev (fun k => jBi.f k b (a : Int) x ((d + 1 : Nat) : Int)) r :=
      fun r hr => Ev.step (fun k => rfl) (Ev.bind h1 (Ev.bind h2 (Ev.bind h3 (Ev.bind h4 hr))))
    have hd0 : (((d + 1 : Nat) : Int) == 0) = false := by rw [beq_eq_false_iff_ne]; omega
    refine ⟨⟨n0, n1, v, l⟩, a5, x5, hf _ (Ev.congr (f := fun k => jBi.j0 k ((d + 1 : Nat) : Int) (n : Int) false b (a4 : Int) x4 n0 n1 v.f0 v.f1 v.f2) (fun k => by rw [hd0]; split <;> rfl) (Ev.step (fun k => by simp only [jBi.j0]; rw [if_neg (by decide)]; rfl) h5)), ?_⟩
    refine ((((r1.trans r2).trans r3).trans r4).trans r5).imp (fun p => FitE.mk (d + 1) _ p.1.1.2.1 i1 i2 p.1.1.2.2 (by show l.length ≤ 2; have := p.1.2; have := p.2.1; omega) (fun h => by omega) (fun y hy => by rw [Nat.add_sub_cancel]; exact p.2.2 y hy)) (fun p => ?_)
    rw [jEn]
    simp [p.2.1]
end Go.Proofs.YtefdfgmlmjnmlaaDoor.My
end

section
set_option linter.unusedSimpArgs false
set_option linter.unusedVariables false
namespace Go.Proofs.YtefdfgmlmjnmlaaDoor.My
open Go.RowKit Go.Proofs.YtefdfgmlmjnmlaaDoorW.PrintWords Go.Proofs.YtefdfgmlmjnmlaaDoorW.PrintMore Go.Proofs.YtefdfgmlmjnmlaaDoor.Rf
theorem fitE_q {d : Nat} {e : S72} (h : FitE d e) : Q72 e ∧ OkE e := by
  induction h with
  | mk d e v a b c l z _ ih => exact ⟨Q72.mk e a b c fun x hx => (ih x hx).1, OkE.mk e (by omega) fun x hx => (ih x hx).2⟩
structure FitT (t : S45) : Prop where
  cols : t.f2.length ≤ 6
  checks : t.f3.length ≤ 4
  each : ∀ x, x ∈ t.f3 → FitE 8 x
  q : Q45 t
theorem FitT.ok {t : S45} (h : FitT t) : OkT t := ⟨by have := h.cols; omega, by have := h.checks; omega, fun x hx => (fitE_q (h.each x hx)).2⟩
theorem chk_l1 (b : ByteArray) (hb : b.size ≤ 4611686018427387904) (n : Nat) (hn : n ≤ 1000) (z0 : ByteArray) (z1 : Int) (z2 : List S59) :
    ∀ m i (a : Nat) (x : Bool) (acc : List S72), i + m = n → acc.length ≤ i → a ≤ b.size →
      ∃ (l : List S72) (a' : Nat) (x' : Bool), Ev (fun k => jBb.l1 k (n : Int) (i : Int) b (a : Int) x z0 z1 z2 acc) (z0, z1, z2, acc ++ l, b, (a' : Int), x') ∧ RdP b a x a' x' (l.length = m ∧ ∀ y, y ∈ l → FitE 8 y) (l.map encE).flatten := by
  intro m
  induction m with
  | zero =>
    intro i a x acc hi hacc ha
    refine ⟨[], a, x, ?_, ha, fun hx => ⟨hx, ⟨rfl, fun y hy => by cases hy⟩, rfl⟩⟩
    rw [List.append_nil]
    exact Ev.step (f := fun _ => some (z0, z1, z2, acc, b, (a : Int), x)) (fun k => by simp only [jBb.l1]; rw [if_neg (by omega)]) (Ev.now _)
  | succ m ih =>
    intro i a x acc hi hacc ha
    obtain ⟨⟨q0, q1, ⟨q2, q3, q4⟩, q5⟩, a1, x1, h1, r1⟩ := take_rd b hb 8 (by omega) a x ha
    obtain ⟨e, he⟩ : ∃ e : S72, e = ⟨q0, q1, ⟨q2, q3, q4⟩, q5⟩ := ⟨_, rfl⟩
    rw [← he] at r1
    obtain ⟨l, a2, x2, h2, r2⟩ := ih (i + 1) a1 x1 (acc ++ [e]) (by omega) (by simp; omega) r1.1
    refine ⟨e :: l, a2, x2, ?_, (r1.trans r2).imp (fun p => ⟨by simp [p.2.1], fun y hy => ?_⟩) (fun p => by simp)⟩
    · rw [show acc ++ e :: l = (acc ++ [e]) ++ l by simp]
      have e2 : wrap64 ((i : Int) + 1) = ((i + 1 : Nat) : Int) := by unfold wrap64; omega
      refine Ev.step (fun k => by simp only [jBb.l1]; rw [if_pos (by omega), e2]) (Ev.bind (g := fun k => jBi.f k b (a : Int) x 8) h1 (Ev.congr (fun k => by rw [if_pos (show acc.length < 1954687338268 by omega), he]) h2))
    · rcases List.mem_cons.1 hy with rfl | hy
      · exact p.1
      · exact p.2.2 y hy
theorem col_l0 (b : ByteArray) (hb : b.size ≤ 4611686018427387904) (n : Nat) (hn : n ≤ 1000) (z0 : ByteArray) (z1 : Int) :
    ∀ m i (a : Nat) (x : Bool) (acc : List S59), i + m = n → acc.length ≤ i → a ≤ b.size →
      ∃ (l : List S59) (c : List S72) (a' : Nat) (x' : Bool), Ev (fun k => jBb.l0 k (n : Int) (i : Int) b (a : Int) x z0 z1 acc) (z0, z1, acc ++ l, c, b, (a' : Int), x') ∧
        RdP b a x a' x' (l.length = m ∧ (∀ y, y ∈ l → Q59 y) ∧ c.length ≤ 4 ∧ ∀ y, y ∈ c → FitE 8 y) ((l.map encC).flatten ++ encI (c.length : Int) ++ (c.map encE).flatten) := by
  intro m
  induction m with
  | zero =>
    intro i a x acc hi hacc ha
    obtain ⟨j, a1, x1, h1, j1, f1, r1⟩ := jEw b hb 4 (by omega) a ha x
    obtain ⟨c, a2, x2, h2, r2⟩ := chk_l1 b hb j j1 z0 z1 acc j 0 a1 x1 [] (by omega) (by simp) r1.1
    rw [List.nil_append] at h2
    refine ⟨[], c, a2, x2, ?_, (r1.trans r2).imp (fun p => ⟨rfl, (fun y hy => by cases hy), ?_, p.2.2⟩) (fun p => ?_)⟩
    · rw [List.append_nil]
      exact Ev.step (fun k => by simp only [jBb.l0]; rw [if_neg (by omega)]) (Ev.bind h1 h2)
    · have := p.1; have := p.2.1; omega
    · simp [p.2.1]
  | succ m ih =>
    intro i a x acc hi hacc ha
    obtain ⟨s0, a1, x1, h1, i1, r1⟩ := str_rd b hb a ha x
    obtain ⟨s1, a2, x2, h2, i2, r2⟩ := str_rd b hb a1 r1.1 x1
    obtain ⟨n0, a3, x3, h3, i3, _, r3⟩ := jEc b hb a2 r2.1 x2
    obtain ⟨n1, a4, x4, h4, i4, _, r4⟩ := jEc b hb a3 r3.1 x3
    obtain ⟨b0, a5, x5, h5, r5⟩ := bool_rd b hb a4 r4.1 x4
    obtain ⟨b1, a6, x6, h6, r6⟩ := bool_rd b hb a5 r5.1 x5
    obtain ⟨l, c, a7, x7, h7, r7⟩ := ih (i + 1) a6 x6 (acc ++ [⟨s0, n0, b0, b1, s1, n1⟩]) (by omega) (by simp; omega) r6.1
    refine ⟨⟨s0, n0, b0, b1, s1, n1⟩ :: l, c, a7, x7, ?_, ((((((r1.trans r2).trans r3).trans r4).trans r5).trans r6).trans r7).imp (fun p => ⟨by simp [p.2.1], fun y hy => ?_, p.2.2.2⟩) (fun p => ?_)⟩
    · rw [show ∀ y : S59, acc ++ y :: l = (acc ++ [y]) ++ l from fun y => by simp]
      have e2 : wrap64 ((i : Int) + 1) = ((i + 1 : Nat) : Int) := by unfold wrap64; omega
      refine Ev.step (fun k => by simp only [jBb.l0]; rw [if_pos (by omega), e2]) ?_
      exact (Ev.bind h1 (Ev.bind h2 (Ev.bind h3 (Ev.bind h4 (Ev.bind h5 (Ev.bind h6 (Ev.congr (fun k => by rw [if_pos (show acc.length < 2513169434916 by omega)]) h7)))))))
    · rcases List.mem_cons.1 hy with rfl | hy
      · exact ⟨by show s0.size ≤ _; omega, i3, by show s1.size ≤ _; omega, i4⟩
      · exact p.2.2.1 y hy
    · simp [encC]
theorem table_rd (b : ByteArray) (hb : b.size ≤ 4611686018427387904) (a : Nat) (ha : a ≤ b.size) (x : Bool) :
    ∃ (t : S45) (a' : Nat) (x' : Bool), Ev (fun k => jBb.f k b (a : Int) x) (t.f0, t.f1, t.f2, t.f3, b, (a' : Int), x') ∧ RdP b a x a' x' (FitT t) (encT t) := by
  obtain ⟨s0, a1, x1, h1, i1, r1⟩ := str_rd b hb a ha x
  obtain ⟨n0, a2, x2, h2, i2, _, r2⟩ := jEc b hb a1 r1.1 x1
  obtain ⟨j, a3, x3, h3, j3, _, r3⟩ := jEw b hb 6 (by omega) a2 r2.1 x2
  obtain ⟨l, c, a4, x4, h4, r4⟩ := col_l0 b hb j j3 s0 n0 j 0 a3 x3 [] (by omega) (by simp) r3.1
  rw [List.nil_append] at h4
  refine ⟨⟨s0, n0, l, c⟩, a4, x4, Ev.congr (fun k => rfl) (Ev.bind h1 (Ev.bind h2 (Ev.bind h3 h4))), (((r1.trans r2).trans r3).trans r4).imp (fun p => ⟨?_, p.2.2.2.1, p.2.2.2.2, by show s0.size ≤ _; omega, i2, p.2.2.1, fun y hy => (fitE_q (p.2.2.2.2 y hy)).1⟩) (fun p => ?_)⟩
  · show l.length ≤ 6
    have := p.1.2; have := p.2.1; omega
  · simp [encT, p.2.1]
theorem read_l1 (b : ByteArray) (hb : b.size ≤ 4611686018427387904) (n : Nat) (hn : n ≤ 1000) (v : Int) (ts : List S45) :
    ∀ m i (a : Nat) (x : Bool) (acc : List S27), i + m = n → acc.length ≤ i → a ≤ b.size →
      ∃ R, Ev (fun k => jBm.l1 k (n : Int) (i : Int) b (a : Int) x v ts acc) R ∧ (R = (0, [], [], 4) ∨ ∃ l : List S27, R = (v, ts, acc ++ l, 0) ∧ x = false ∧ l.length = m ∧ (∀ y, y ∈ l → Q27 y) ∧ LL b a = (l.map encG).flatten) := by
  intro m
  induction m with
  | zero =>
    intro i a x acc hi hacc ha
    have hs : ∀ R, (∀ k : Nat, ((jCj.f b (a : Int) x).bind fun bt => if bt.1 = 0 then some (v, ts, acc, (0 : Int)) else some (0, [], [], bt.1)) = some R) → Ev (fun k => jBm.l1 k (n : Int) (i : Int) b (a : Int) x v ts acc) R :=
      fun R h => Ev.step (f := fun _ => some R) (fun k => by simp only [jBm.l1]; rw [if_neg (by omega)]; exact h k) (Ev.now _)
    cases x with
    | true => exact ⟨_, hs (0, [], [], 4) (fun k => by simp [jCj.f]), .inl rfl⟩
    | false =>
      by_cases hend : a = b.size
      · refine ⟨_, hs (v, ts, acc, 0) (fun k => by simp [jCj.f, hend]), .inr ⟨[], by simp, rfl, rfl, (fun y hy => by cases hy), ?_⟩⟩
        exact List.drop_eq_nil_of_le (by rw [jDh]; omega)
      · refine ⟨_, hs (0, [], [], 4) (fun k => ?_), .inl rfl⟩
        have : ¬ (a : Int) = (b.size : Int) := by omega
        simp [jCj.f, this, hend]
  | succ m ih =>
    intro i a x acc hi hacc ha
    obtain ⟨n0, a1, x1, h1, i1, _, r1⟩ := jEc b hb a ha x
    obtain ⟨n1, a2, x2, h2, i2, _, r2⟩ := jEc b hb a1 r1.1 x1
    obtain ⟨s0, a3, x3, h3, i3, r3⟩ := str_rd b hb a2 r2.1 x2
    obtain ⟨R, h4, r4⟩ := ih (i + 1) a3 x3 (acc ++ [⟨n0, s0, n1⟩]) (by omega) (by simp; omega) r3.1
    have e2 : wrap64 ((i : Int) + 1) = ((i + 1 : Nat) : Int) := by unfold wrap64; omega
    have hE : Ev (fun k => jBm.l1 k (n : Int) (i : Int) b (a : Int) x v ts acc) R := by
      refine Ev.step (fun k => by simp only [jBm.l1]; rw [if_pos (by omega), e2]) ?_
      exact (Ev.bind h1 (Ev.bind h2 (Ev.bind h3 (Ev.congr (fun k => by rw [if_pos (show acc.length < 4398046511104 by omega)]) h4))))
    refine ⟨R, hE, ?_⟩
    rcases r4 with r4 | ⟨l, e, hx, hl, hq, hL⟩
    · exact .inl r4
    · obtain ⟨p1, p2, p3⟩ := ((r1.trans r2).trans r3).2 hx
      refine .inr ⟨⟨n0, s0, n1⟩ :: l, by rw [e]; simp, p1, by simp [hl], fun y hy => ?_, ?_⟩
      · rcases List.mem_cons.1 hy with rfl | hy
        · exact ⟨i1, by show s0.size ≤ _; omega, i2⟩
        · exact hq y hy
      · rw [p3, hL]; simp [encG]
theorem read_l0 (b : ByteArray) (hb : b.size ≤ 4611686018427387904) (n : Nat) (hn : n ≤ 1000) (v : Int) :
    ∀ m i (a : Nat) (x : Bool) (acc : List S45), i + m = n → acc.length ≤ i → a ≤ b.size →
      ∃ R, Ev (fun k => jBm.l0 k (n : Int) (i : Int) b (a : Int) x v acc) R ∧ (R = (0, [], [], 4) ∨ ∃ (l : List S45) (g : List S27), R = (v, acc ++ l, g, 0) ∧ x = false ∧ l.length = m ∧ (∀ y, y ∈ l → FitT y) ∧ g.length ≤ 64 ∧ (∀ y, y ∈ g → Q27 y) ∧ LL b a = (l.map encT).flatten ++ encI (g.length : Int) ++ (g.map encG).flatten) := by
  intro m
  induction m with
  | zero =>
    intro i a x acc hi hacc ha
    obtain ⟨j, a1, x1, h1, j1, _, r1⟩ := jEw b hb 64 (by omega) a ha x
    obtain ⟨R, h2, r2⟩ := read_l1 b hb j j1 v acc j 0 a1 x1 [] (by omega) (by simp) r1.1
    refine ⟨R, Ev.step (fun k => by simp only [jBm.l0]; rw [if_neg (by omega)]) (Ev.bind h1 h2), ?_⟩
    rcases r2 with r2 | ⟨l, e, hx, hl, hq, hL⟩
    · exact .inl r2
    · obtain ⟨p1, p2, p3⟩ := r1.2 hx
      refine .inr ⟨[], l, by rw [e]; simp, p1, rfl, (fun y hy => by cases hy), by omega, hq, ?_⟩
      rw [p3, hL, hl]; simp
  | succ m ih =>
    intro i a x acc hi hacc ha
    obtain ⟨t, a1, x1, h1, r1⟩ := table_rd b hb a ha x
    obtain ⟨R, h4, r4⟩ := ih (i + 1) a1 x1 (acc ++ [t]) (by omega) (by simp; omega) r1.1
    have e2 : wrap64 ((i : Int) + 1) = ((i + 1 : Nat) : Int) := by unfold wrap64; omega
    have hE : Ev (fun k => jBm.l0 k (n : Int) (i : Int) b (a : Int) x v acc) R := by
      refine Ev.step (fun k => by simp only [jBm.l0]; rw [if_pos (by omega), e2]) ?_
      exact (Ev.bind h1 (Ev.congr (fun k => by rw [if_pos (show acc.length < 1954687338268 by omega)]) h4))
    refine ⟨R, hE, ?_⟩
    rcases r4 with r4 | ⟨l, g, e, hx, hl, hq, hg, hqg, hL⟩
    · exact .inl r4
    · obtain ⟨p1, p2, p3⟩ := r1.2 hx
      refine .inr ⟨t :: l, g, by rw [e]; simp, p1, by simp [hl], fun y hy => ?_, hg, hqg, ?_⟩
      · rcases List.mem_cons.1 hy with rfl | hy
        · exact p2
        · exact hq y hy
      · rw [p3, hL]; simp
/-- What schema.Read answers. -/
structure ReadR (b : ByteArray) (v : Int) (ts : List S45) (gs : List S27) (e : Int) : Prop where
  out : (v = 0 ∧ ts = [] ∧ gs = [] ∧ e = 4) ∨ (e = 0 ∧ I64 v ∧ ts.length ≤ 12 ∧ (∀ t, t ∈ ts → FitT t) ∧ gs.length ≤ 64 ∧ (∀ g, g ∈ gs → Q27 g) ∧ encH v ts gs = b.data.toList)
theorem read_rd (b : ByteArray) (hb : b.size ≤ 4611686018427387904) : ∃ v ts gs e, Ev (fun k => jBm.f k b) (v, ts, gs, e) ∧ ReadR b v ts gs e := by
  obtain ⟨v, a1, x1, h1, i1, _, r1⟩ := jEc b hb 0 (by omega) false
  obtain ⟨n, a2, x2, h2, n2, _, r2⟩ := jEw b hb 12 (by omega) a1 r1.1 x1
  obtain ⟨R, h3, r3⟩ := read_l0 b hb n n2 v n 0 a2 x2 [] (by omega) (by simp) r2.1
  have hE : Ev (fun k => jBm.f k b) R := Ev.congr (fun k => rfl) (Ev.bind (g := fun k => jAm.f k b 0 false) h1 (Ev.bind h2 h3))
  rcases r3 with r3 | ⟨l, g, e, hx, hl, hq, hg, hqg, hL⟩
  · subst r3
    exact ⟨0, [], [], 4, hE, ⟨.inl ⟨rfl, rfl, rfl, rfl⟩⟩⟩
  · subst e
    rw [List.nil_append] at hE
    obtain ⟨p1, p2, p3⟩ := (r1.trans r2).2 hx
    refine ⟨v, l, g, 0, hE, ⟨.inr ⟨rfl, i1, by have := p2.2; omega, hq, hg, hqg, ?_⟩⟩⟩
    have : b.data.toList = LL b 0 := by simp [LL]
    rw [this, p3, hL, encH, hl]
    simp
end Go.Proofs.YtefdfgmlmjnmlaaDoor.My
end

section
set_option linter.unusedSimpArgs false
set_option linter.unusedVariables false
namespace Go.Proofs.YtefdfgmlmjnmlaaDoor.My
open Go.RowKit Go.Proofs.YtefdfgmlmjnmlaaDoorW.PrintWords Go.Proofs.YtefdfgmlmjnmlaaDoorW.PrintMore Go.Proofs.YtefdfgmlmjnmlaaDoor.Rf
theorem u8_inj {a b : Nat} (ha : a < 256) (hb : b < 256) (h : UInt8.ofNat a = UInt8.ofNat b) : a = b := by
  have := congrArg UInt8.toNat h
  simp only [UInt8.toNat_ofNat'] at this
  omega
theorem encU_pre : ∀ (u v : Nat) {R S : List UInt8}, encU u ++ R = encU v ++ S → u = v ∧ R = S := by
  intro u
  induction u using Nat.strongRecOn with
  | ind u ih =>
    intro v R S h
    by_cases hu : u < 128
    · by_cases hv : v < 128
      · rw [jDb hu, jDb hv] at h
        simp only [List.cons_append, List.nil_append, List.cons.injEq] at h
        exact ⟨u8_inj (by omega) (by omega) h.1, h.2⟩
      · rw [jDb hu, jDv hv] at h
        simp only [List.cons_append, List.nil_append, List.cons.injEq] at h
        have := u8_inj (by omega) (by omega) h.1
        omega
    · by_cases hv : v < 128
      · rw [jDv hu, jDb hv] at h
        simp only [List.cons_append, List.nil_append, List.cons.injEq] at h
        have := u8_inj (by omega) (by omega) h.1
        omega
      · rw [jDv hu, jDv hv] at h
        simp only [List.cons_append, List.cons.injEq] at h
        have h1 := u8_inj (by omega) (by omega) h.1
        have h2 := ih (u / 128) (by omega) (v / 128) h.2
        exact ⟨by omega, h2.2⟩
theorem plain_inj {a b : Int} (h : jDo a = jDo b) : a = b := by
  unfold jDo at h
  split at h <;> split at h <;> omega
theorem jCy {a b : Int} {R S : List UInt8} (h : encI a ++ R = encI b ++ S) : a = b ∧ R = S := by
  have := encU_pre _ _ h
  exact ⟨plain_inj this.1, this.2⟩
theorem app_pre {α : Type} : ∀ {l m R S : List α}, l.length = m.length → l ++ R = m ++ S → l = m ∧ R = S := by
  intro l
  induction l with
  | nil => intro m R S hl h; cases m with
    | nil => exact ⟨rfl, h⟩
    | cons y m => simp at hl
  | cons x l ih => intro m R S hl h; cases m with
    | nil => simp at hl
    | cons y m =>
      simp only [List.cons_append, List.cons.injEq] at h
      have := ih (by simpa using hl) h.2
      exact ⟨by rw [h.1, this.1], this.2⟩
theorem jFr {s t : ByteArray} {R S : List UInt8} (h : encS s ++ R = encS t ++ S) : s = t ∧ R = S := by
  unfold encS at h
  rw [List.append_assoc, List.append_assoc] at h
  have h1 := jCy h
  have h2 := app_pre (by rw [jDh, jDh]; have := h1.1; omega) h1.2
  exact ⟨by rw [← SB_of s, ← SB_of t, h2.1], h2.2⟩
theorem encB_pre {s t : Bool} {R S : List UInt8} (h : encB s ++ R = encB t ++ S) : s = t ∧ R = S := by
  unfold encB at h
  have h1 := jCy h
  exact ⟨by revert h1; cases s <;> cases t <;> simp, h1.2⟩
theorem encV_pre {s t : S70} {R S : List UInt8} (h : encV s ++ R = encV t ++ S) : s = t ∧ R = S := by
  unfold encV at h
  simp only [List.append_assoc] at h
  obtain ⟨a, h⟩ := jCy h
  obtain ⟨b, h⟩ := jCy h
  obtain ⟨c, hz⟩ := jFr h
  cases s; cases t
  simp only at a b c
  exact ⟨by rw [a, b, c], hz⟩
/-- Rows of equal length, whose elements' bytes tell what they are of. -/
theorem jGu {α : Type} (f : α → List UInt8) : ∀ {l m : List α}, (∀ x, x ∈ l → ∀ y R S, f x ++ R = f y ++ S → x = y ∧ R = S) → l.length = m.length → ∀ {R S : List UInt8}, (l.map f).flatten ++ R = (m.map f).flatten ++ S → l = m ∧ R = S := by
  intro l
  induction l with
  | nil => intro m _ hl R S h; cases m with
    | nil => exact ⟨rfl, by simpa using h⟩
    | cons y m => simp at hl
  | cons x l ih => intro m hf hl R S h; cases m with
    | nil => simp at hl
    | cons y m =>
      simp only [List.map_cons, List.flatten_cons, List.append_assoc] at h
      have h1 := hf x (by simp) y _ _ h
      have h2 := ih (fun z hz => hf z (by simp [hz])) (by simpa using hl) h1.2
      exact ⟨by rw [h1.1, h2.1], h2.2⟩
theorem encE_pre {s : S72} (ho : OkE s) : ∀ (t : S72) (R S : List UInt8), encE s ++ R = encE t ++ S → s = t ∧ R = S := by
  induction ho with
  | mk s _ _ ih =>
    intro t R S h
    rw [jEn, jEn] at h
    simp only [List.append_assoc] at h
    obtain ⟨a, h⟩ := jCy h
    obtain ⟨b, h⟩ := jCy h
    obtain ⟨c, h⟩ := encV_pre h
    obtain ⟨d, h⟩ := jCy h
    obtain ⟨e, hz⟩ := jGu encE (fun x hx y R S => ih x hx y R S) (by omega) h
    cases s; cases t
    simp only at a b c e
    exact ⟨by rw [a, b, c, e], hz⟩
theorem encC_pre {s t : S59} {R S : List UInt8} (h : encC s ++ R = encC t ++ S) : s = t ∧ R = S := by
  unfold encC at h
  simp only [List.append_assoc] at h
  obtain ⟨a, h⟩ := jFr h
  obtain ⟨b, h⟩ := jFr h
  obtain ⟨c, h⟩ := jCy h
  obtain ⟨d, h⟩ := jCy h
  obtain ⟨e, h⟩ := encB_pre h
  obtain ⟨f, hz⟩ := encB_pre h
  cases s; cases t
  simp only at a b c d e f
  exact ⟨by rw [a, b, c, d, e, f], hz⟩
theorem encG_pre {s t : S27} {R S : List UInt8} (h : encG s ++ R = encG t ++ S) : s = t ∧ R = S := by
  unfold encG at h
  simp only [List.append_assoc] at h
  obtain ⟨a, h⟩ := jCy h
  obtain ⟨b, h⟩ := jCy h
  obtain ⟨c, hz⟩ := jFr h
  cases s; cases t
  simp only at a b c
  exact ⟨by rw [a, b, c], hz⟩
theorem encT_pre {s : S45} (ho : OkT s) (t : S45) (R S : List UInt8) (h : encT s ++ R = encT t ++ S) : s = t ∧ R = S := by
  unfold encT at h
  simp only [List.append_assoc] at h
  obtain ⟨a, h⟩ := jFr h
  obtain ⟨b, h⟩ := jCy h
  obtain ⟨c, h⟩ := jCy h
  obtain ⟨d, h⟩ := jGu encC (fun x _ y R S h => encC_pre h) (by omega) h
  obtain ⟨e, h⟩ := jCy h
  obtain ⟨f, hz⟩ := jGu encE (fun x hx y R S h => encE_pre (ho.each x hx) y R S h) (by omega) h
  cases s; cases t
  simp only at a b d f
  exact ⟨by rw [a, b, d, f], hz⟩
theorem encH_inj {v v' : Int} {ts ts' : List S45} {gs gs' : List S27} (ho : ∀ t, t ∈ ts → OkT t) (h : encH v ts gs = encH v' ts' gs') : v = v' ∧ ts = ts' ∧ gs = gs' := by
  have h : encH v ts gs ++ [] = encH v' ts' gs' ++ [] := by rw [h]
  unfold encH at h
  simp only [List.append_assoc] at h
  obtain ⟨a, h⟩ := jCy h
  obtain ⟨b, h⟩ := jCy h
  obtain ⟨c, h⟩ := jGu encT (fun x hx y R S h => encT_pre (ho x hx) y R S h) (by omega) h
  obtain ⟨d, h⟩ := jCy h
  obtain ⟨e, h⟩ := jGu encG (fun x _ y R S h => encG_pre h) (by omega) h
  exact ⟨a, c, e⟩
end Go.Proofs.YtefdfgmlmjnmlaaDoor.My
end

section
set_option linter.unusedSimpArgs false
set_option linter.unusedVariables false
namespace Go.Proofs.YtefdfgmlmjnmlaaDoor.My
open Go.RowKit Go.Proofs.YtefdfgmlmjnmlaaDoorW.PrintWords Go.Proofs.YtefdfgmlmjnmlaaDoorW.PrintMore Go.Proofs.YtefdfgmlmjnmlaaDoor.Rf
theorem LL_len {b : ByteArray} (a : Nat) : (LL b a).length = b.size - a := by
  rw [LL, List.length_drop, jDh]
theorem LL_next {b : ByteArray} {a : Nat} {l R : List UInt8} (ha : a ≤ b.size) (h : LL b a = l ++ R) : a + l.length ≤ b.size ∧ LL b (a + l.length) = R := by
  have h1 := LL_len (b := b) a
  rw [h, List.length_append] at h1
  refine ⟨by omega, ?_⟩
  rw [LL, ← List.drop_drop]
  show List.drop l.length (LL b a) = R
  rw [h, List.drop_left]
theorem u8_toNat {v : Nat} (h : v < 256) : (UInt8.ofNat v).toNat = v := by simp; omega
theorem fw_loop (b : ByteArray) (hb : b.size ≤ 4611686018427387904) (a0 : Nat) : ∀ (v : Nat) (i u : Nat) (R : List UInt8) (n : Int), i ≤ 9 → a0 + i ≤ b.size → u < 2 ^ (7 * i) → (0 < i → 0 < v) → jAa (u + v * 2 ^ (7 * i) < 18446744073709551616) → LL b (a0 + i) = encU v ++ R → jAa (jDw.f ((u + v * 2 ^ (7 * i) : Nat) : Int) = some n) →
    Ev (fun k => jAm.l0 k (u : Int) (i : Int) b ((a0 + i : Nat) : Int) false) (n, b, ((a0 + i + (encU v).length : Nat) : Int), false) := by
  intro v
  induction v using Nat.strongRecOn with
  | ind v ih =>
    intro i u R n hi ha hu hv0 hU hL hz
    obtain ⟨P, hP⟩ : ∃ P, P = 2 ^ (7 * i) := ⟨_, rfl⟩
    have hP9 : P ≤ 9223372036854775808 := by rw [hP]; exact pw9 hi
    have hP8 : i ≤ 8 → P ≤ 72057594037927936 := fun h => by rw [hP]; exact pw8 h
    have hP99 : i = 9 → P = 9223372036854775808 := fun h => by rw [hP, h]
    have HPn : jAa (2 ^ (7 * (i + 1)) = P * 128) := ⟨by rw [pow7, hP]⟩
    rw [← hP] at hu hU hz
    have HP := jAa.mk hP
    clear hP
    have hlt : a0 + i < b.size := by
      have h1 := LL_len (b := b) (a0 + i)
      have h2 : 1 ≤ (encU v).length := by rw [encU]; split <;> simp
      rw [hL, List.length_append] at h1
      omega
    have hbt0 := bt_nat b (a0 + i) hlt
    have hA := LL_at hlt
    rw [hL] at hA
    generalize hcc : b[a0 + i]'hlt = c at hbt0 hA
    have hbt := jAa.mk hbt0
    clear hbt0
    have hw : jAa (wrap64 (((a0 + i : Nat) : Int) + 1) = ((a0 + (i + 1) : Nat) : Int)) := ⟨by unfold wrap64; omega⟩
    have hw7 : jAa (wrap64 (7 * (i : Int)) = ((7 * i : Nat) : Int)) := ⟨by unfold wrap64; omega⟩
    have hwi : jAa (wrap64 ((i : Int) + 1) = ((i + 1 : Nat) : Int)) := ⟨by unfold wrap64; omega⟩
    have hl0 : ¬ (i = 9 ∧ 1 < c.toNat) → ∀ r, Ev (fun k => jAm.j1 k (u : Int) (i : Int) (c.toNat : Int) (i : Int) false b ((a0 + (i + 1) : Nat) : Int) false) r → Ev (fun k => jAm.l0 k (u : Int) (i : Int) b ((a0 + i : Nat) : Int) false) r := by
      intro hq r hr
      refine Ev.step (fun k => ?_) hr
      simp only [jAm.l0]
      rw [if_pos (by omega), if_neg (by omega), if_pos (by omega), if_pos (by omega), hbt.out, hw.out]
      by_cases h9 : (i : Int) = 9
      · rw [if_pos h9, decide_eq_false (by omega)]
      · rw [if_neg h9]
    by_cases hsm : v < 128
    · rw [jDb hsm] at hA
      simp only [List.cons_append, List.nil_append, List.cons.injEq] at hA
      have hcv : c.toNat = v := by rw [← hA.1]; exact u8_toNat (by omega)
      have hq : ¬ (i = 9 ∧ 1 < c.toNat) := by
        rintro ⟨h9, h1⟩
        have hp9 := hP99 h9
        have h2 := hU.out
        have : 2 * P ≤ v * P := Nat.mul_le_mul_right _ (by omega)
        omega
      have hor := jAa.mk (or_shl u (c.toNat % 128) i P HP.out hi hu (by have := hU.out; rw [hcv, Nat.mod_eq_of_lt hsm]; omega) (by have := hU.out; omega))
      have hacc : jAa (Go.bits .or .u64 (u : Int) (shl .u64 (IntKind.u64.wrap (Go.bits .and .u8 (c.toNat : Int) 127)) (wrap64 (7 * (i : Int)))) = ((u + v * P : Nat) : Int)) := ⟨by
        rw [and127, jFq (by omega), hw7.out, hor.out, hcv, Nat.mod_eq_of_lt hsm]⟩
      have hfin : ∀ q : Bool, q = false → Ev (fun k => jAm.j2 k ((u + v * P : Nat) : Int) q b ((a0 + (i + 1) : Nat) : Int) false) (n, b, ((a0 + i + (encU v).length : Nat) : Int), false) := by
        intro q hq
        refine Ev.step (f := fun _ => some (n, b, ((a0 + i + (encU v).length : Nat) : Int), false)) (fun k => ?_) (Ev.now _)
        simp only [jAm.j2]
        rw [if_neg (by rw [hq]; decide), hz.out, jDb hsm]
        rfl
      by_cases h0 : c.toNat = 0
      · refine hl0 hq _ (Ev.step (fun k => ?_) (hfin (decide ((i : Int) > 0)) (decide_eq_false (by omega))))
        simp only [jAm.j1]
        rw [if_neg (by decide), if_pos (by rw [hw7.out]; omega), if_pos (by omega), if_pos (by omega), hacc.out]
      · refine hl0 hq _ (Ev.step (fun k => ?_) (hfin false rfl))
        simp only [jAm.j1]
        rw [if_neg (by decide), if_pos (by rw [hw7.out]; omega), if_pos (by omega), if_neg (by omega), hacc.out]
    · rw [jDv hsm] at hA
      simp only [List.cons_append, List.cons.injEq] at hA
      have hcv : c.toNat = 128 + v % 128 := by rw [← hA.1]; exact u8_toNat (by omega)
      have hi8 : i ≤ 8 := by
        rcases Nat.lt_or_ge i 9 with h | h
        · omega
        · have hp9 := hP99 (by omega)
          have h2 := hU.out
          have : 128 * P ≤ v * P := Nat.mul_le_mul_right _ (by omega)
          omega
      have hp8 := hP8 hi8
      have hpm : (c.toNat % 128) * P ≤ 127 * P := Nat.mul_le_mul_right _ (by omega)
      have hcm : c.toNat % 128 = v % 128 := by omega
      have hor := jAa.mk (or_shl u (c.toNat % 128) i P HP.out hi hu (by omega) (by have := hU.out; omega))
      have hacc : jAa (Go.bits .or .u64 (u : Int) (shl .u64 (IntKind.u64.wrap (Go.bits .and .u8 (c.toNat : Int) 127)) (wrap64 (7 * (i : Int)))) = ((u + v % 128 * P : Nat) : Int)) := ⟨by
        rw [and127, jFq (by omega), hw7.out, hor.out, hcm]⟩
      have hsum : u + v % 128 * P + v / 128 * (P * 128) = u + v * P := by
        have h1 : v * P = (v % 128 + v / 128 * 128) * P := by congr 1; omega
        rw [h1, Nat.add_mul, Nat.mul_assoc (v / 128), Nat.mul_comm 128 P]; omega
      rw [hcm] at hpm
      have h1 := ih (v / 128) (by omega) (i + 1) (u + v % 128 * P) R n (by omega) (by omega) (by rw [HPn.out]; omega) (fun _ => by omega) ⟨by rw [HPn.out, hsum]; exact hU.out⟩ (by rw [← Nat.add_assoc]; exact hA.2.symm) ⟨by rw [HPn.out, hsum]; exact hz.out⟩
      have e1 : a0 + (i + 1) + (encU (v / 128)).length = a0 + i + (encU v).length := by rw [jDv hsm, List.length_cons]; omega
      rw [e1] at h1
      refine hl0 (by omega) _ (Ev.step (fun k => ?_) h1)
      simp only [jAm.j1]
      rw [if_neg (by decide), if_pos (by rw [hw7.out]; omega), if_neg (by omega), hacc.out, hwi.out]
/-- A number. -/
theorem jEg (b : ByteArray) (hb : b.size ≤ 4611686018427387904) {a : Nat} (ha : a ≤ b.size) {n : Int} (hn : I64 n) {R : List UInt8} (h : LL b a = encI n ++ R) :
    ∃ a' : Nat, Ev (fun k => jAm.f k b (a : Int) false) (n, b, (a' : Int), false) ∧ a' ≤ b.size ∧ LL b a' = R := by
  have hp := jGj hn
  obtain ⟨n', h1, _, h3⟩ := zag_ev _ hp
  obtain rfl : n' = n := plain_inj h3
  obtain ⟨k1, k2⟩ := LL_next ha h
  have h4 := fw_loop b hb a (jDo n') 0 0 R n' (by omega) (by omega) (by decide) (fun h => by omega) ⟨by simpa using hp⟩ h ⟨by simpa using h1⟩
  exact ⟨_, Ev.congr (fun k => by unfold jAm.f; rw [if_neg (by decide)]; rfl) h4, k1, k2⟩
theorem jGv (b : ByteArray) (hb : b.size ≤ 4611686018427387904) {a : Nat} (ha : a ≤ b.size) {n : Nat} {m : Int} (hm : (n : Int) ≤ m) (hn : n ≤ 1000) {R : List UInt8} (hR : n ≤ R.length) (h : LL b a = encI (n : Int) ++ R) :
    ∃ a' : Nat, Ev (fun k => jBk.f k b (a : Int) false m) ((n : Int), b, (a' : Int), false) ∧ a' ≤ b.size ∧ LL b a' = R := by
  obtain ⟨a1, h1, h2, h3⟩ := jEg b hb ha (jDc (n := n) (by omega)) h
  have hl := LL_len (b := b) a1
  rw [h3] at hl
  refine ⟨a1, Ev.congr (fun k => rfl) (Ev.bind h1 (Ev.congr (f := fun _ => some ((n : Int), b, (a1 : Int), false)) (fun k => ?_) (Ev.now _))), h2, h3⟩
  have hw := left_now hb h2
  rw [if_neg (show ¬ (false = true) by decide), if_neg (show ¬ (n : Int) < 0 by omega), if_neg (show ¬ (n : Int) > m by omega)]
  show (if (n : Int) > wrap64 ((b.size : Int) - (a1 : Int)) then _ else _) = _
  rw [hw, if_neg (by omega)]
theorem str_fw (b : ByteArray) (hb : b.size ≤ 4611686018427387904) {a : Nat} (ha : a ≤ b.size) {s : ByteArray} {R : List UInt8} (h : LL b a = encS s ++ R) :
    ∃ a' : Nat, Ev (fun k => jBr.f k b (a : Int) false) (s, b, (a' : Int), false) ∧ a' ≤ b.size ∧ LL b a' = R := by
  have hlen : s.size ≤ b.size := by
    have := LL_len (b := b) a
    rw [h, encS, List.length_append, List.length_append, jDh] at this
    omega
  unfold encS at h
  rw [List.append_assoc] at h
  obtain ⟨a1, h1, h2, h3⟩ := jEg b hb ha (jDc (n := s.size) (by omega)) h
  have hl := LL_len (b := b) a1
  rw [h3, List.length_append, jDh] at hl
  obtain ⟨k1, k2⟩ := LL_next h2 h3
  rw [jDh] at k1 k2
  have hcut := LL_cut (b := b) (a := a1) (j := s.size) k1
  rw [h3, k2] at hcut
  have hs := (app_pre (by rw [jDh, jDh, cut_size k1]) hcut).1
  have hss : b.extract a1 (a1 + s.size) = s := ((SB_of (b.extract a1 (a1 + s.size))).symm.trans (congrArg SB hs.symm)).trans (SB_of s)
  have e1 : wrap64 ((a1 : Int) + (s.size : Int)) = ((a1 + s.size : Nat) : Int) := by unfold wrap64; omega
  have hw := left_now hb h2
  refine ⟨a1 + s.size, Ev.congr (fun k => rfl) (Ev.bind h1 (Ev.congr (f := fun _ => some (s, b, ((a1 + s.size : Nat) : Int), false)) (fun k => ?_) (Ev.now _))), k1, k2⟩
  rw [if_neg (show ¬ (false = true) by decide), if_neg (show ¬ (s.size : Int) < 0 by omega)]
  show (if (s.size : Int) > wrap64 ((b.size : Int) - (a1 : Int)) then _ else if 0 ≤ (a1 : Int) then if (a1 : Int) ≤ wrap64 ((a1 : Int) + (s.size : Int)) then if wrap64 ((a1 : Int) + (s.size : Int)) ≤ (b.size : Int) then some (b.extract (a1 : Int).toNat (wrap64 ((a1 : Int) + (s.size : Int))).toNat, b, wrap64 ((a1 : Int) + (s.size : Int)), false) else none else none else none) = _
  rw [hw, if_neg (by omega), if_pos (by omega), e1, if_pos (by omega), if_pos (by omega)]
  show some (b.extract a1 (a1 + s.size), b, ((a1 + s.size : Nat) : Int), false) = _
  rw [hss]
theorem bool_fw (b : ByteArray) (hb : b.size ≤ 4611686018427387904) {a : Nat} (ha : a ≤ b.size) {v : Bool} {R : List UInt8} (h : LL b a = encB v ++ R) :
    ∃ a' : Nat, Ev (fun k => jBz.f k b (a : Int) false) (v, b, (a' : Int), false) ∧ a' ≤ b.size ∧ LL b a' = R := by
  cases v with
  | false =>
    obtain ⟨a1, h1, h2, h3⟩ := jEg b hb ha (n := 0) ⟨by omega, by omega⟩ h
    exact ⟨a1, Ev.congr (fun k => rfl) (Ev.bind h1 (Ev.congr (fun k => if_pos rfl) (Ev.now _))), h2, h3⟩
  | true =>
    obtain ⟨a1, h1, h2, h3⟩ := jEg b hb ha (n := 1) ⟨by omega, by omega⟩ h
    exact ⟨a1, Ev.congr (fun k => rfl) (Ev.bind h1 (Ev.congr (fun k => by rw [if_neg (show ¬((1 : Int) = 0) by decide), if_pos rfl]; rfl) (Ev.now _))), h2, h3⟩
theorem val_fw (b : ByteArray) (hb : b.size ≤ 4611686018427387904) {a : Nat} (ha : a ≤ b.size) {v : S70} (hg : goodV v = true) (q : Q70 v) {R : List UInt8} (h : LL b a = encV v ++ R) :
    ∃ a' : Nat, Ev (fun k => jDg.f k b (a : Int) false) (v.f0, v.f1, v.f2, b, (a' : Int), false) ∧ a' ≤ b.size ∧ LL b a' = R := by
  unfold encV at h
  simp only [List.append_assoc] at h
  obtain ⟨a1, h1, i1, l1⟩ := jEg b hb ha q.a h
  obtain ⟨a2, h2, i2, l2⟩ := jEg b hb i1 q.b l1
  obtain ⟨a3, h3, i3, l3⟩ := str_fw b hb i2 l2
  refine ⟨a3, Ev.congr (fun k => rfl) (Ev.bind h1 (Ev.bind h2 (Ev.bind h3 (Ev.congr (f := fun _ => some (v.f0, v.f1, v.f2, b, (a3 : Int), false)) (fun k => ?_) (Ev.now _))))), i3, l3⟩
  show ((jDd.f v.f0 v.f1 v.f2).bind _) = _
  simp only [jDd.f, Option.bind_some]
  rw [if_pos hg]
end Go.Proofs.YtefdfgmlmjnmlaaDoor.My
end

section
set_option linter.unusedSimpArgs false
set_option linter.unusedVariables false
namespace Go.Proofs.YtefdfgmlmjnmlaaDoor.My
open Go.RowKit Go.Proofs.YtefdfgmlmjnmlaaDoorW.PrintWords Go.Proofs.YtefdfgmlmjnmlaaDoorW.PrintMore Go.Proofs.YtefdfgmlmjnmlaaDoor.Rf
theorem jGk (n : Int) : 1 ≤ (encI n).length := by unfold encI; rw [encU]; split <;> simp
theorem jGw {α : Type} (f : α → List UInt8) (hf : ∀ x, 1 ≤ (f x).length) (l : List α) : l.length ≤ (l.map f).flatten.length := by
  induction l with
  | nil => simp
  | cons x l ih => have := hf x; simp only [List.map_cons, List.flatten_cons, List.length_append, List.length_cons]; omega
theorem encE_pos (e : S72) : 1 ≤ (encE e).length := by rw [jEn]; have := jGk e.f0; simp only [List.length_append]; omega
theorem encC_pos (c : S59) : 1 ≤ (encC c).length := by unfold encC encS; have := jGk (c.f0.size : Int); simp only [List.length_append]; omega
theorem encT_pos (t : S45) : 1 ≤ (encT t).length := by unfold encT encS; have := jGk (t.f0.size : Int); simp only [List.length_append]; omega
theorem encG_pos (g : S27) : 1 ≤ (encG g).length := by unfold encG; have := jGk g.f0; simp only [List.length_append]; omega
def TakeF (b : ByteArray) (d : Int) (e : S72) : Prop := ∀ (a : Nat) (R : List UInt8), a ≤ b.size → LL b a = encE e ++ R → ∃ a' : Nat, Ev (fun k => jBi.f k b (a : Int) false d) (e.f0, e.f1, e.f2.f0, e.f2.f1, e.f2.f2, e.f3, b, (a' : Int), false) ∧ a' ≤ b.size ∧ LL b a' = R
theorem take_l0_fw (b : ByteArray) (d : Int) (n : Nat) (hn : n ≤ 1000) (z0 z1 z2 z3 : Int) (z4 : ByteArray) :
    ∀ (l : List S72), (∀ x, x ∈ l → TakeF b (wrap64 (d - 1)) x) → ∀ i (a : Nat) (acc : List S72) (R : List UInt8), i + l.length = n → acc.length ≤ i → a ≤ b.size → LL b a = (l.map encE).flatten ++ R →
      ∃ a' : Nat, Ev (fun k => jBi.l0 k d (n : Int) (i : Int) b (a : Int) false z0 z1 z2 z3 z4 acc) (z0, z1, z2, z3, z4, acc ++ l, b, (a' : Int), false) ∧ a' ≤ b.size ∧ LL b a' = R := by
  intro l
  induction l with
  | nil =>
    intro _ i a acc R hi hacc ha hL
    simp only [List.length_nil] at hi
    refine ⟨a, ?_, ha, by simpa using hL⟩
    rw [List.append_nil]
    exact Ev.step (f := fun _ => some (z0, z1, z2, z3, z4, acc, b, (a : Int), false)) (fun k => by simp only [jBi.l0]; rw [if_neg (by omega)]) (Ev.now _)
  | cons e l ih =>
    intro hf i a acc R hi hacc ha hL
    simp only [List.length_cons] at hi
    simp only [List.map_cons, List.flatten_cons, List.append_assoc] at hL
    obtain ⟨a1, h1, i1, l1⟩ := hf e (by simp) a _ ha hL
    obtain ⟨a2, h2, i2, l2⟩ := ih (fun x hx => hf x (by simp [hx])) (i + 1) a1 (acc ++ [e]) R (by omega) (by simp; omega) i1 l1
    refine ⟨a2, ?_, i2, l2⟩
    rw [show acc ++ e :: l = (acc ++ [e]) ++ l by simp]
    obtain ⟨q0, q1, ⟨q2, q3, q4⟩, q5⟩ := e
    have e2 : wrap64 ((i : Int) + 1) = ((i + 1 : Nat) : Int) := by unfold wrap64; omega
    refine Ev.step (fun k => by simp only [jBi.l0]; rw [if_pos (by omega), e2]) ?_
    exact Ev.bind h1 (Ev.congr (fun k => by rw [if_pos (show acc.length < 1954687338268 by omega)]) h2)
theorem take_fw (b : ByteArray) (hb : b.size ≤ 4611686018427387904) {d : Nat} {e : S72} (h : FitE d e) : d < 1000 → TakeF b (d : Int) e := by
  induction h with
  | mk d e v qa qb qc l z hh ih =>
    intro hd a R ha hL
    rw [jEn] at hL
    simp only [List.append_assoc] at hL
    obtain ⟨a1, h1, i1, l1⟩ := jEg b hb ha qa hL
    obtain ⟨a2, h2, i2, l2⟩ := jEg b hb i1 qb l1
    obtain ⟨a3, h3, i3, l3⟩ := val_fw b hb i2 v qc l2
    obtain ⟨a4, h4, i4, l4⟩ := jGv b hb i3 (n := e.f3.length) (m := 2) (by omega) (by omega) (by have := jGw encE encE_pos e.f3; simp only [List.length_append]; omega) l3
    obtain ⟨a5, h5, i5, l5⟩ := take_l0_fw b (d : Int) e.f3.length (by omega) e.f0 e.f1 e.f2.f0 e.f2.f1 e.f2.f2 e.f3 (fun x hx => by
      have hd0 : d ≠ 0 := fun h0 => by rw [z h0] at hx; cases hx
      have e1 : wrap64 ((d : Int) - 1) = ((d - 1 : Nat) : Int) := by unfold wrap64; omega
      rw [e1]
      exact ih x hx (by omega)) 0 a4 [] R (by omega) (by simp) i4 l4
    rw [List.nil_append] at h5
    refine ⟨a5, ?_, i5, l5⟩
    have hf : ∀ r, Ev (fun k => if (e.f3.length : Int) > 0 then jBi.j0 k (d : Int) (e.f3.length : Int) ((d : Int) == 0) b (a4 : Int) false e.f0 e.f1 e.f2.f0 e.f2.f1 e.f2.f2 else jBi.j0 k (d : Int) (e.f3.length : Int) false b (a4 : Int) false e.f0 e.f1 e.f2.f0 e.f2.f1 e.f2.f2) r → Ev (fun k => jBi.f k b (a : Int) false (d : Int)) r :=
      fun r hr => Ev.step (fun k => rfl) (Ev.bind h1 (Ev.bind h2 (Ev.bind h3 (Ev.bind h4 hr))))
    refine hf _ (Ev.congr (f := fun k => jBi.j0 k (d : Int) (e.f3.length : Int) false b (a4 : Int) false e.f0 e.f1 e.f2.f0 e.f2.f1 e.f2.f2) (fun k => ?_) (Ev.step (fun k => by simp only [jBi.j0]; rw [if_neg (by decide)]; rfl) h5))
    by_cases h0 : (e.f3.length : Int) > 0
    · have hd0 : d ≠ 0 := fun h0' => by rw [z h0'] at h0; simp at h0
      have : ((d : Int) == 0) = false := by rw [beq_eq_false_iff_ne]; omega
      rw [if_pos h0, this]
    · rw [if_neg h0]
theorem chk_fw (b : ByteArray) (hb : b.size ≤ 4611686018427387904) (n : Nat) (hn : n ≤ 1000) (z0 : ByteArray) (z1 : Int) (z2 : List S59) :
    ∀ (l : List S72), (∀ x, x ∈ l → FitE 8 x) → ∀ i (a : Nat) (acc : List S72) (R : List UInt8), i + l.length = n → acc.length ≤ i → a ≤ b.size → LL b a = (l.map encE).flatten ++ R →
      ∃ a' : Nat, Ev (fun k => jBb.l1 k (n : Int) (i : Int) b (a : Int) false z0 z1 z2 acc) (z0, z1, z2, acc ++ l, b, (a' : Int), false) ∧ a' ≤ b.size ∧ LL b a' = R := by
  intro l
  induction l with
  | nil =>
    intro _ i a acc R hi hacc ha hL
    simp only [List.length_nil] at hi
    refine ⟨a, ?_, ha, by simpa using hL⟩
    rw [List.append_nil]
    exact Ev.step (f := fun _ => some (z0, z1, z2, acc, b, (a : Int), false)) (fun k => by simp only [jBb.l1]; rw [if_neg (by omega)]) (Ev.now _)
  | cons e l ih =>
    intro hf i a acc R hi hacc ha hL
    simp only [List.length_cons] at hi
    simp only [List.map_cons, List.flatten_cons, List.append_assoc] at hL
    obtain ⟨a1, h1, i1, l1⟩ := take_fw b hb (hf e (by simp)) (by omega) a _ ha hL
    obtain ⟨a2, h2, i2, l2⟩ := ih (fun x hx => hf x (by simp [hx])) (i + 1) a1 (acc ++ [e]) R (by omega) (by simp; omega) i1 l1
    refine ⟨a2, ?_, i2, l2⟩
    rw [show acc ++ e :: l = (acc ++ [e]) ++ l by simp]
    obtain ⟨q0, q1, ⟨q2, q3, q4⟩, q5⟩ := e
    have e2 : wrap64 ((i : Int) + 1) = ((i + 1 : Nat) : Int) := by unfold wrap64; omega
    refine Ev.step (fun k => by simp only [jBb.l1]; rw [if_pos (by omega), e2]) ?_
    exact Ev.bind (g := fun k => jBi.f k b (a : Int) false 8) h1 (Ev.congr (fun k => by rw [if_pos (show acc.length < 1954687338268 by omega)]) h2)
theorem col_fw (b : ByteArray) (hb : b.size ≤ 4611686018427387904) (n : Nat) (hn : n ≤ 1000) (z0 : ByteArray) (z1 : Int) (c : List S72) (hc4 : c.length ≤ 4) (hc : ∀ x, x ∈ c → FitE 8 x) :
    ∀ (l : List S59), (∀ x, x ∈ l → Q59 x) → ∀ i (a : Nat) (acc : List S59) (R : List UInt8), i + l.length = n → acc.length ≤ i → a ≤ b.size → LL b a = (l.map encC).flatten ++ (encI (c.length : Int) ++ ((c.map encE).flatten ++ R)) →
      ∃ a' : Nat, Ev (fun k => jBb.l0 k (n : Int) (i : Int) b (a : Int) false z0 z1 acc) (z0, z1, acc ++ l, c, b, (a' : Int), false) ∧ a' ≤ b.size ∧ LL b a' = R := by
  intro l
  induction l with
  | nil =>
    intro _ i a acc R hi hacc ha hL
    simp only [List.length_nil] at hi
    simp only [List.map_nil, List.flatten_nil, List.nil_append] at hL
    obtain ⟨a1, h1, i1, l1⟩ := jGv b hb ha (n := c.length) (m := 4) (by omega) (by omega) (by have := jGw encE encE_pos c; simp only [List.length_append]; omega) hL
    obtain ⟨a2, h2, i2, l2⟩ := chk_fw b hb c.length (by omega) z0 z1 acc c hc 0 a1 [] R (by omega) (by simp) i1 l1
    rw [List.nil_append] at h2
    refine ⟨a2, ?_, i2, l2⟩
    rw [List.append_nil]
    refine Ev.step (fun k => by simp only [jBb.l0]; rw [if_neg (by omega)]) ?_
    exact Ev.bind h1 h2
  | cons e l ih =>
    intro hf i a acc R hi hacc ha hL
    simp only [List.length_cons] at hi
    have hA : acc.length < 2513169434916 := by omega
    have hI : (i : Int) < (n : Int) := by omega
    have e2 : jAa (wrap64 ((i : Int) + 1) = ((i + 1 : Nat) : Int)) := ⟨by unfold wrap64; omega⟩
    have hi1 : (i + 1) + l.length = n := by omega
    have ha1 : (acc ++ [e]).length ≤ i + 1 := by simp; omega
    simp only [List.map_cons, List.flatten_cons, List.append_assoc, encC] at hL
    have q := hf e (by simp)
    obtain ⟨a1, h1, i1, l1⟩ := str_fw b hb ha hL
    obtain ⟨a2, h2, i2, l2⟩ := str_fw b hb i1 l1
    obtain ⟨a3, h3, i3, l3⟩ := jEg b hb i2 q.b l2
    obtain ⟨a4, h4, i4, l4⟩ := jEg b hb i3 q.d l3
    obtain ⟨a5, h5, i5, l5⟩ := bool_fw b hb i4 l4
    obtain ⟨a6, h6, i6, l6⟩ := bool_fw b hb i5 l5
    obtain ⟨a7, h7, i7, l7⟩ := ih (fun x hx => hf x (by simp [hx])) (i + 1) a6 (acc ++ [e]) R hi1 ha1 i6 l6
    refine ⟨a7, ?_, i7, l7⟩
    rw [show acc ++ e :: l = (acc ++ [e]) ++ l by simp]
    obtain ⟨q0, q1, q2, q3, q4, q5⟩ := e
    refine Ev.step (fun k => by simp only [jBb.l0]; rw [if_pos hI, e2.out]) ?_
    exact Ev.bind h1 (Ev.bind h2 (Ev.bind h3 (Ev.bind h4 (Ev.bind h5 (Ev.bind h6 (Ev.congr (fun k => by rw [if_pos hA]) h7))))))
theorem table_fw (b : ByteArray) (hb : b.size ≤ 4611686018427387904) {a : Nat} (ha : a ≤ b.size) {t : S45} (ht : FitT t) {R : List UInt8} (h : LL b a = encT t ++ R) :
    ∃ a' : Nat, Ev (fun k => jBb.f k b (a : Int) false) (t.f0, t.f1, t.f2, t.f3, b, (a' : Int), false) ∧ a' ≤ b.size ∧ LL b a' = R := by
  unfold encT at h
  simp only [List.append_assoc] at h
  have hc := ht.cols
  obtain ⟨a1, h1, i1, l1⟩ := str_fw b hb ha h
  obtain ⟨a2, h2, i2, l2⟩ := jEg b hb i1 ht.q.b l1
  obtain ⟨a3, h3, i3, l3⟩ := jGv b hb i2 (n := t.f2.length) (m := 6) (by omega) (by omega) (by have := jGw encC encC_pos t.f2; simp only [List.length_append]; omega) l2
  obtain ⟨a4, h4, i4, l4⟩ := col_fw b hb t.f2.length (by omega) t.f0 t.f1 t.f3 ht.checks ht.each t.f2 ht.q.c 0 a3 [] R (by omega) (by simp) i3 l3
  rw [List.nil_append] at h4
  exact ⟨a4, Ev.congr (fun k => rfl) (Ev.bind h1 (Ev.bind h2 (Ev.bind h3 h4))), i4, l4⟩
theorem read_l1_fw (b : ByteArray) (hb : b.size ≤ 4611686018427387904) (n : Nat) (hn : n ≤ 1000) (v : Int) (ts : List S45) :
    ∀ (l : List S27), (∀ x, x ∈ l → Q27 x) → ∀ i (a : Nat) (acc : List S27), i + l.length = n → acc.length ≤ i → a ≤ b.size → LL b a = (l.map encG).flatten →
      Ev (fun k => jBm.l1 k (n : Int) (i : Int) b (a : Int) false v ts acc) (v, ts, acc ++ l, 0) := by
  intro l
  induction l with
  | nil =>
    intro _ i a acc hi hacc ha hL
    simp only [List.length_nil] at hi
    simp only [List.map_nil, List.flatten_nil] at hL
    have hend : a = b.size := by
      have := LL_len (b := b) a
      rw [hL] at this
      simp at this
      omega
    rw [List.append_nil]
    refine Ev.step (f := fun _ => some (v, ts, acc, 0)) (fun k => ?_) (Ev.now _)
    simp only [jBm.l1]
    rw [if_neg (by omega)]
    simp [jCj.f, hend]
  | cons e l ih =>
    intro hf i a acc hi hacc ha hL
    simp only [List.length_cons] at hi
    simp only [List.map_cons, List.flatten_cons, List.append_assoc, encG] at hL
    have q := hf e (by simp)
    obtain ⟨a1, h1, i1, l1⟩ := jEg b hb ha q.a hL
    obtain ⟨a2, h2, i2, l2⟩ := jEg b hb i1 q.c l1
    obtain ⟨a3, h3, i3, l3⟩ := str_fw b hb i2 l2
    have h7 := ih (fun x hx => hf x (by simp [hx])) (i + 1) a3 (acc ++ [e]) (by omega) (by simp; omega) i3 l3
    rw [show acc ++ e :: l = (acc ++ [e]) ++ l by simp]
    obtain ⟨q0, q1, q2⟩ := e
    have e2 : wrap64 ((i : Int) + 1) = ((i + 1 : Nat) : Int) := by unfold wrap64; omega
    refine Ev.step (fun k => by simp only [jBm.l1]; rw [if_pos (by omega), e2]) ?_
    exact Ev.bind h1 (Ev.bind h2 (Ev.bind h3 (Ev.congr (fun k => by rw [if_pos (show acc.length < 4398046511104 by omega)]) h7)))
theorem read_l0_fw (b : ByteArray) (hb : b.size ≤ 4611686018427387904) (n : Nat) (hn : n ≤ 1000) (v : Int) (g : List S27) (hg : g.length ≤ 64) (hqg : ∀ x, x ∈ g → Q27 x) :
    ∀ (l : List S45), (∀ x, x ∈ l → FitT x) → ∀ i (a : Nat) (acc : List S45), i + l.length = n → acc.length ≤ i → a ≤ b.size → LL b a = (l.map encT).flatten ++ (encI (g.length : Int) ++ (g.map encG).flatten) →
      Ev (fun k => jBm.l0 k (n : Int) (i : Int) b (a : Int) false v acc) (v, acc ++ l, g, 0) := by
  intro l
  induction l with
  | nil =>
    intro _ i a acc hi hacc ha hL
    simp only [List.length_nil] at hi
    simp only [List.map_nil, List.flatten_nil, List.nil_append] at hL
    obtain ⟨a1, h1, i1, l1⟩ := jGv b hb ha (n := g.length) (m := 64) (by omega) (by omega) (by have := jGw encG encG_pos g; omega) hL
    have h2 := read_l1_fw b hb g.length (by omega) v acc g hqg 0 a1 [] (by omega) (by simp) i1 l1
    rw [List.nil_append] at h2
    rw [List.append_nil]
    refine Ev.step (fun k => by simp only [jBm.l0]; rw [if_neg (by omega)]) ?_
    exact Ev.bind h1 h2
  | cons e l ih =>
    intro hf i a acc hi hacc ha hL
    simp only [List.length_cons] at hi
    simp only [List.map_cons, List.flatten_cons, List.append_assoc] at hL
    obtain ⟨a1, h1, i1, l1⟩ := table_fw b hb ha (hf e (by simp)) hL
    have h7 := ih (fun x hx => hf x (by simp [hx])) (i + 1) a1 (acc ++ [e]) (by omega) (by simp; omega) i1 l1
    rw [show acc ++ e :: l = (acc ++ [e]) ++ l by simp]
    obtain ⟨q0, q1, q2, q3⟩ := e
    have e2 : wrap64 ((i : Int) + 1) = ((i + 1 : Nat) : Int) := by unfold wrap64; omega
    refine Ev.step (fun k => by simp only [jBm.l0]; rw [if_pos (by omega), e2]) ?_
    exact Ev.bind h1 (Ev.congr (fun k => by rw [if_pos (show acc.length < 1954687338268 by omega)]) h7)
/-- What is within the bounds is read again. -/
theorem read_fw (b : ByteArray) (hb : b.size ≤ 4611686018427387904) {v : Int} {ts : List S45} {gs : List S27} (hv : I64 v) (hl : ts.length ≤ 12) (hg : gs.length ≤ 64) (hf : ∀ t, t ∈ ts → FitT t) (hqg : ∀ x, x ∈ gs → Q27 x) (h : b.data.toList = encH v ts gs) :
    Ev (fun k => jBm.f k b) (v, ts, gs, 0) := by
  have h0 : LL b 0 = encH v ts gs := by rw [← h]; simp [LL]
  unfold encH at h0
  simp only [List.append_assoc] at h0
  obtain ⟨a1, h1, i1, l1⟩ := jEg b hb (by omega) hv h0
  obtain ⟨a2, h2, i2, l2⟩ := jGv b hb i1 (n := ts.length) (m := 12) (by omega) (by omega) (by have := jGw encT encT_pos ts; simp only [List.length_append]; omega) l1
  have h3 := read_l0_fw b hb ts.length (by omega) v gs hg hqg ts hf 0 a2 [] (by omega) (by simp) i2 l2
  rw [List.nil_append] at h3
  exact Ev.congr (fun k => rfl) (Ev.bind (g := fun k => jAm.f k b 0 false) h1 (Ev.bind h2 h3))
end Go.Proofs.YtefdfgmlmjnmlaaDoor.My
end

section
namespace Go.Proofs.YtefdfgmlmjnmlaaDoor.My
open Go.RowKit Go.Proofs.YtefdfgmlmjnmlaaDoorW.PrintWords Go.Proofs.YtefdfgmlmjnmlaaDoor.Rf
/-- Is this the column of a name? -/
def isC (nm : ByteArray) (t : S59) : Bool := t.f0.toList == nm.toList
def jGg (l : List S59) (nm : ByteArray) : Int := idx (isC nm) l
set_option maxHeartbeats 4000000 in
set_option maxRecDepth 100000 in
theorem isC_calls (t : S59) (nm : ByteArray) (b : Nat) (w : World) (hb : w.heap[b]? = some (.cells #[.string nm] 9 (0, 0))) :
    Calls Tryd.prog 59 #[.agg #[.string t.f0, .int .i64 t.f1, .bool t.f2, .bool t.f3, .string t.f4, .int .i64 t.f5], .pointer (some ⟨b, 0, none⟩)] w fun e w' => e = .returned (.bool (isC nm t)) ∧ Below w.heap.size w w' := by
  have c0 : w.cell? ⟨b, 0, none⟩ = some (.string nm) := jAb hb 0
  have hlt := jBu hb
  clear hb
  go_enter Tryd.func59, Tryd.ntmps59
  go_wp2
  go_ret
  exact ⟨rfl, (Below.refl _ _).alloc (Nat.le_refl _) _⟩
set_option maxHeartbeats 4000000 in
set_option maxRecDepth 100000 in
theorem idxC_calls (l : List S59) (A : Option Addr) (c : Nat) (nm : ByteArray) (b : Nat) (w : World) (hr : Kd.C k59 w A l.length l) (hb : w.heap[b]? = some (.cells #[.string nm] 9 (0, 0))) :
    Calls Tryd.prog 58 #[.slice A l.length c, .func (.func 59) #[] #[.pointer (some ⟨b, 0, none⟩)]] w fun e w' => e = .returned (.int .i64 (jGg l nm)) ∧ Below w.heap.size w w' := by
  have HR := jAa.mk hr
  have HBL := jAa.mk hb
  have hn : l.length ≤ 9223372036854775807 := hr.2.1
  clear hr hb
  go_enter Tryd.func58, Tryd.ntmps58
  go_wp2
  go_loopw [5, 8] (fun _ t8 wr => ∃ k : Nat, t8 = .int .i64 k ∧ k ≤ l.length ∧ jAa (∀ j, j < k → isC nm (l.getD j z59) = false) ∧ jAa (Below w.heap.size w wr)) (fun _ t8 _ => l.length - (intOf t8).toNat)
  case atStart => exact ⟨0, rfl, Nat.zero_le _, ⟨fun j hj => absurd hj (by omega)⟩, ⟨Below.refl _ _⟩⟩
  case round =>
    obtain ⟨k, rfl, hk, HA, HB⟩ := hrel
    by_cases hlt : k < l.length
    · obtain ⟨ad, e, hc0, hc1, hc2, hc3, hc4, hc5⟩ := jFp HR.out (k : Int) (by omega) (by omega)
      subst e
      simp only [Int.toNat_natCast, jBn] at hc0 hc1 hc2 hc3 hc4 hc5
      generalize hx : l.getD k z59 = x at hc0 hc1 hc2 hc3 hc4 hc5
      have HXX := jAa.mk hx
      have d0 := (HB.out.cell (World.block_lt_of_cell? w _ hc0)).trans hc0
      have d1 := (HB.out.cell (World.block_lt_of_cell? w _ hc1)).trans hc1
      have d2 := (HB.out.cell (World.block_lt_of_cell? w _ hc2)).trans hc2
      have d3 := (HB.out.cell (World.block_lt_of_cell? w _ hc3)).trans hc3
      have d4 := (HB.out.cell (World.block_lt_of_cell? w _ hc4)).trans hc4
      have d5 := (HB.out.cell (World.block_lt_of_cell? w _ hc5)).trans hc5
      clear hc0 hc1 hc2 hc3 hc4 hc5 hx
      have hi0 : (0 : Int) ≤ (k : Int) := by omega
      have hi1 : (k : Int) < (l.length : Int) := by omega
      have HBLK := jAa.mk (jAp HBL.out HB.out)
      cases hp : isC nm x with
      | true =>
        have hres : jGg l nm = k := idx_hit _ l z59 k hlt HA.out (by rw [HXX.out]; exact hp)
        have HP := jAa.mk hp
        have HRES := jAa.mk hres
        clear hp hres
        go_wp2_with (go_at_call 59; refine (isC_calls x nm b _ HBLK.out).mono ?_; rw [HP.out]; rintro e w2 ⟨rfl, hb2⟩)
        go_ret
        exact ⟨by rw [HRES.out]; rfl, HB.out.trans (hb2.mono HB.out.size)⟩
      | false =>
        have hall : ∀ j, j < k + 1 → isC nm (l.getD j z59) = false := fun j hj => by
          rcases Nat.lt_or_ge j k with h | h
          · exact HA.out j h
          · obtain rfl : j = k := by omega
            rw [HXX.out]; exact hp
        have HP := jAa.mk hp
        have HALL := jAa.mk hall
        clear hp hall
        go_wp2_with (go_at_call 59; refine (isC_calls x nm b _ HBLK.out).mono ?_; rw [HP.out]; rintro e w2 ⟨rfl, hb2⟩)
        go_roundw
        case rel => exact ⟨k + 1, by go_num, by omega, HALL, ⟨HB.out.trans (hb2.mono HB.out.size)⟩⟩
        case measure => simp [intOf]; omega
    · have hres : jGg l nm = -1 := idx_none _ l z59 (fun j hj => HA.out j (by omega))
      have HRES := jAa.mk hres
      clear hres
      go_wp2
      go_ret
      exact ⟨by rw [HRES.out]; rfl, HB.out⟩
structure jFj (b : Int) (w : World) (e : Ending) (w' : World) : Prop where
  out : e = .returned (.int .i64 b) ∧ Below w.heap.size w w'
set_option maxHeartbeats 4000000 in
set_option maxRecDepth 100000 in
theorem jCx (t : S45) (A : Option Addr) (c : Nat) (A' : Option Addr) (c' : Nat) (nm : ByteArray) (w : World) (hr : Kd.C k59 w A t.f2.length t.f2) :
    Calls Tryd.prog 34 #[.agg #[.string t.f0, .int .i64 t.f1, .slice A t.f2.length c, .slice A' t.f3.length c'], .string nm] w (jFj (jGg t.f2 nm) w) := by
  have HR := jAa.mk hr
  clear hr
  go_enter Tryd.func34, Tryd.ntmps34
  go_wp2_with fail
  refine (idxC_calls t.f2 A c nm (w.heap.size + 1) _ ?hC ?hN).mono ?_
  case hC => exact Kd.C_below HR.out (jFh w _ _)
  case hN => exact jDu w _ _
  rintro e w4 ⟨rfl, hb⟩
  go_wp2
  go_ret
  exact ⟨rfl, jAu (jFh w _ _) hb⟩
end Go.Proofs.YtefdfgmlmjnmlaaDoor.My
end
