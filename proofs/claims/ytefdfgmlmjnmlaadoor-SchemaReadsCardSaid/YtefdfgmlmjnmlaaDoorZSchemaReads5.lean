/- Lemmas for the law SchemaReads: what the functions that it reaches compute, with those words of the kit's print that they use. No condition. Joined out of this session's smaller texts (part 5 of 7). -/
import Derived.Test.YtefdfgmlmjnmlaaDoorZSchemaReads2
import Derived.Test.YtefdfgmlmjnmlaaDoorZSchemaReads3
import Derived.Test.YtefdfgmlmjnmlaaDoorZSchemaReads4
section
set_option linter.unusedVariables false
set_option linter.unusedSimpArgs false
namespace Go.Proofs.YtefdfgmlmjnmlaaDoor.Rf
open Go.RowKit Go.Proofs.YtefdfgmlmjnmlaaDoorW.PrintWords Go.Proofs.YtefdfgmlmjnmlaaDoorW.PrintLast Go.Proofs.YtefdfgmlmjnmlaaDoorW.PrintMore
def pack_Reader_End.f (s0_0 : ByteArray) (s0_1 : Int) (s0_2 : Bool) : Option (Int × ByteArray × Int × Bool) := if s0_2 = true then (some (4, s0_0, s0_1, s0_2)) else (if s0_1 = (s0_0.size : Int) then (some (0, s0_0, s0_1, s0_2)) else (some (4, s0_0, s0_1, s0_2)))
set_option maxHeartbeats 8000000 in
set_option maxRecDepth 100000 in
theorem pack_Reader_End.calls (g : Nat) (s0_0 : ByteArray) (s0_1 : Int) (s0_2 : Bool) (r1 : Int) (r2 : ByteArray) (r3 : Int) (r4 : Bool) (w0 w : World) (hI : IsS129 w0 w g s0_0 s0_1 s0_2) (hB : Below w0.heap.size w0 w) (h : pack_Reader_End.f s0_0 s0_1 s0_2 = some (r1, r2, r3, r4)) :
  Calls Tryd.prog 69 #[.pointer (some ⟨g, 0, none⟩)] w fun e w' => e = .returned (.int .i64 r1) ∧ IsS129 w0 w' g r2 r3 r4 ∧ Below w0.heap.size w0 w' ∧ KeepBut w w' g none := by
 have HI0 := Aside0.mk hI
 have HK := Aside0.mk (KeepBut.refl w g none)
 have HL := Aside0.mk hB.size
 clear hI
 have HW0 := Aside0.mk hB.size
 have HB := Aside0.mk hB
 clear hB
 have H : (if s0_2 = true then (some (4, s0_0, s0_1, s0_2)) else (if s0_1 = (s0_0.size : Int) then (some (0, s0_0, s0_1, s0_2)) else (some (4, s0_0, s0_1, s0_2)))) = some (r1, r2, r3, r4) := h
 clear h
 by_cases c2 : s0_2 = true
 ·subst c2
  have H1 : (some (4, s0_0, s0_1, true)) = some (r1, r2, r3, r4) := by rw [if_pos rfl] at H; exact H
  clear H
  have H := H1
  clear H1
  simp only [Option.some.injEq, Prod.mk.injEq] at H
  obtain ⟨rfl, rfl, rfl, rfl⟩ := H
  obtain ⟨HGz3, hgz3⟩ := HI0.out
  have hcz3_0 := cellS129_0 HGz3
  have hcz3_1 := cellS129_1 HGz3
  have hcz3_2 := cellS129_2 HGz3
  have hfz3_0 := blk_frozen HGz3 0
  have hfz3_1 := blk_frozen HGz3 1
  have hfz3_2 := blk_frozen HGz3 2
  clear HGz3 hgz3
  go_enter Tryd.func69, Tryd.ntmps69
  go_wp2
  repeat (go_quiet (fail); try go_wp2)
  go_ret
  exact ⟨by first | rfl | (simp [errW_none, errW_some] <;> rfl) | (simp [*, errW_none, errW_some] <;> rfl), by repeat (first | (with_reducible first | exact HI0.out | apply IsS129.alloc | apply IsS129.drewN | apply IsS129.drew | apply IsS129.set_0 | apply IsS129.set_1 | apply IsS129.set_2) | exact HI0.out), by repeat (first | (with_reducible first | exact HB.out | apply below_alloc | apply pw_below_drewN | apply below_drew1 | refine below_set ?_ (IsS129.ge HI0.out)) | exact HB.out), by repeat (first | (with_reducible first | exact HK.out | apply KeepBut.set_ | apply keep_drewN | apply keep_drew | apply keep_alloc) | exact HK.out)⟩
 ·replace c2 := Bool.eq_false_iff.mpr c2
  subst c2
  have H1 : (if s0_1 = (s0_0.size : Int) then (some (0, s0_0, s0_1, false)) else (some (4, s0_0, s0_1, false))) = some (r1, r2, r3, r4) := by rw [if_neg (show ¬ (false = true) by decide)] at H; exact H
  clear H
  have H := H1
  clear H1
  by_cases c4 : s0_1 = (s0_0.size : Int)
  ·rw [if_pos c4] at H
   have c4b0 : (s0_1 == (s0_0.size : Int)) = true := beq_iff_eq.mpr c4
   have c4b1 : (s0_1 != (s0_0.size : Int)) = false := bne_eq_false_iff_eq.mpr c4
   clear c4
   simp only [Option.some.injEq, Prod.mk.injEq] at H
   obtain ⟨rfl, rfl, rfl, rfl⟩ := H
   obtain ⟨HGz5, hgz5⟩ := HI0.out
   have hcz5_0 := cellS129_0 HGz5
   have hcz5_1 := cellS129_1 HGz5
   have hcz5_2 := cellS129_2 HGz5
   have hfz5_0 := blk_frozen HGz5 0
   have hfz5_1 := blk_frozen HGz5 1
   have hfz5_2 := blk_frozen HGz5 2
   clear HGz5 hgz5
   go_enter Tryd.func69, Tryd.ntmps69
   go_wp2
   repeat (go_quiet (fail); try go_wp2)
   go_ret
   exact ⟨by first | rfl | (simp [errW_none, errW_some] <;> rfl) | (simp [*, errW_none, errW_some] <;> rfl), by repeat (first | (with_reducible first | exact HI0.out | apply IsS129.alloc | apply IsS129.drewN | apply IsS129.drew | apply IsS129.set_0 | apply IsS129.set_1 | apply IsS129.set_2) | exact HI0.out), by repeat (first | (with_reducible first | exact HB.out | apply below_alloc | apply pw_below_drewN | apply below_drew1 | refine below_set ?_ (IsS129.ge HI0.out)) | exact HB.out), by repeat (first | (with_reducible first | exact HK.out | apply KeepBut.set_ | apply keep_drewN | apply keep_drew | apply keep_alloc) | exact HK.out)⟩
  ·rw [if_neg c4] at H
   have c4b0 : (s0_1 == (s0_0.size : Int)) = false := beq_eq_false_iff_ne.mpr c4
   have c4b1 : (s0_1 != (s0_0.size : Int)) = true := bne_iff_ne.mpr c4
   simp only [Option.some.injEq, Prod.mk.injEq] at H
   obtain ⟨rfl, rfl, rfl, rfl⟩ := H
   obtain ⟨HGz6, hgz6⟩ := HI0.out
   have hcz6_0 := cellS129_0 HGz6
   have hcz6_1 := cellS129_1 HGz6
   have hcz6_2 := cellS129_2 HGz6
   have hfz6_0 := blk_frozen HGz6 0
   have hfz6_1 := blk_frozen HGz6 1
   have hfz6_2 := blk_frozen HGz6 2
   clear HGz6 hgz6
   go_enter Tryd.func69, Tryd.ntmps69
   go_wp2
   repeat (go_quiet (fail); try go_wp2)
   go_ret
   exact ⟨by first | rfl | (simp [errW_none, errW_some] <;> rfl) | (simp [*, errW_none, errW_some] <;> rfl), by repeat (first | (with_reducible first | exact HI0.out | apply IsS129.alloc | apply IsS129.drewN | apply IsS129.drew | apply IsS129.set_0 | apply IsS129.set_1 | apply IsS129.set_2) | exact HI0.out), by repeat (first | (with_reducible first | exact HB.out | apply below_alloc | apply pw_below_drewN | apply below_drew1 | refine below_set ?_ (IsS129.ge HI0.out)) | exact HB.out), by repeat (first | (with_reducible first | exact HK.out | apply KeepBut.set_ | apply keep_drewN | apply keep_drew | apply keep_alloc) | exact HK.out)⟩
end Go.Proofs.YtefdfgmlmjnmlaaDoor.Rf
end

section
set_option linter.unusedVariables false
set_option linter.unusedSimpArgs false
namespace Go.Proofs.YtefdfgmlmjnmlaaDoor.Rf
open Go.RowKit Go.Proofs.YtefdfgmlmjnmlaaDoorW.PrintWords Go.Proofs.YtefdfgmlmjnmlaaDoorW.PrintLast Go.Proofs.YtefdfgmlmjnmlaaDoorW.PrintMore
mutual
def schema_Read.l0 : Nat → Int → Int → ByteArray → Int → Bool → Int → List (S45) → Option (Int × (List (S45)) × (List (S27)) × Int)
 | 0, _, _, _, _, _, _, _ => none
 | k + 1, x14, x15, x299000, x299001, x299002, x304000, x304001 => if x15 < x14 then ((schema_takeTable.f k x299000 x299001 x299002).bind fun bt308 => (if x304001.length < 1954687338268 then (schema_Read.l0 k x14 (wrap64 (x15 + 1)) bt308.2.2.2.2.1 bt308.2.2.2.2.2.1 bt308.2.2.2.2.2.2 x304000 (x304001 ++ [(⟨bt308.1, bt308.2.1, bt308.2.2.1, bt308.2.2.2.1⟩ : S45)])) else (none))) else ((pack_Reader_Many.f k x299000 x299001 x299002 64).bind fun bt322 => (schema_Read.l1 k bt322.1 0 bt322.2.1 bt322.2.2.1 bt322.2.2.2 x304000 x304001 ([] : List (S27))))
def schema_Read.l1 : Nat → Int → Int → ByteArray → Int → Bool → Int → List (S45) → List (S27) → Option (Int × (List (S45)) × (List (S27)) × Int)
 | 0, _, _, _, _, _, _, _, _ => none
 | k + 1, x26, x27, x299000, x299001, x299002, x304000, x304001, x304002 => if x27 < x26 then ((pack_Reader_Int.f k x299000 x299001 x299002).bind fun bt327 => ((pack_Reader_Int.f k bt327.2.1 bt327.2.2.1 bt327.2.2.2).bind fun bt331 => ((pack_Reader_Str.f k bt331.2.1 bt331.2.2.1 bt331.2.2.2).bind fun bt335 => (if x304002.length < 4398046511104 then (schema_Read.l1 k x26 (wrap64 (x27 + 1)) bt335.2.1 bt335.2.2.1 bt335.2.2.2 x304000 x304001 (x304002 ++ [(⟨bt327.1, bt335.1, bt331.1⟩ : S27)])) else (none))))) else ((pack_Reader_End.f x299000 x299001 x299002).bind fun bt342 => (if bt342.1 = 0 then (some (x304000, x304001, x304002, 0)) else (some (0, ([] : List (S45)), ([] : List (S27)), bt342.1))))
end
def schema_Read.f (k : Nat) (a0 : ByteArray) : Option (Int × (List (S45)) × (List (S27)) × Int) := (pack_Open.f a0).bind fun bt295 => ((pack_Reader_Int.f k bt295.1 bt295.2.1 bt295.2.2).bind fun bt299 => ((pack_Reader_Many.f k bt299.2.1 bt299.2.2.1 bt299.2.2.2 12).bind fun bt304 => (schema_Read.l0 k bt304.1 0 bt304.2.1 bt304.2.2.1 bt304.2.2.2 bt299.1 ([] : List (S45)))))
def schema_Read.T5 : Bool × List (List Nat × List Nat) := (true, [([], []), ([0], [0]), ([], []), ([2], [2]), ([3], [3]), ([1, 4, 3], [1, 4]), ([0, 1, 2, 3, 4, 5], []), ([6, 5, 5, 0, 1, 2, 3, 4, 5], [5, 6])])
def schema_Read.B5 : List Nat := [0, 1, 0, 4, 12, 31, 63, 127]
theorem schema_Read.tab5 : rtab .any (opsOf Tryd.f40 5) = schema_Read.T5 := by kernel_rfl
theorem schema_Read.bits5 : waitsOk schema_Read.T5.2 schema_Read.B5 = true := by kernel_rfl
set_option maxHeartbeats 8000000 in
set_option maxRecDepth 100000 in
theorem schema_Read.calls (k : Nat) (a0 : ByteArray) (r1 : Int) (r2 : List (S45)) (r3 : List (S27)) (r4 : Int) (w : World) (h : schema_Read.f k a0 = some (r1, r2, r3, r4)) :
  Calls Tryd.prog 40 #[.string a0] w fun e w' => ∃ v1_ v2_ : Value, e = .returned (.tuple #[.agg #[.int .i64 r1, v1_, v2_], .int .i64 r4]) ∧ Kd.R k45 45 w' w.heap.size (fun _ => True) v1_ r2 ∧ Kd.R k27 27 w' w.heap.size (fun _ => True) v2_ r3 ∧ Below w.heap.size w w' := by
 have hu25 := Tryd.underlying25
 have hu27 := Tryd.underlying27
 have HB := Aside0.mk (Below.refl w.heap.size w)
 have H : ((pack_Open.f a0).bind fun bt295 => ((pack_Reader_Int.f k bt295.1 bt295.2.1 bt295.2.2).bind fun bt299 => ((pack_Reader_Many.f k bt299.2.1 bt299.2.2.1 bt299.2.2.2 12).bind fun bt304 => (schema_Read.l0 k bt304.1 0 bt304.2.1 bt304.2.2.1 bt304.2.2.2 bt299.1 ([] : List (S45)))))) = some (r1, r2, r3, r4) := h
 clear h
 replace H := Option.bind_eq_some_iff.mp H
 obtain ⟨⟨t295, t296, t297⟩, A20, H⟩ := H
 replace H : ((pack_Reader_Int.f k t295 t296 t297).bind fun bt299 => ((pack_Reader_Many.f k bt299.2.1 bt299.2.2.1 bt299.2.2.2 12).bind fun bt304 => (schema_Read.l0 k bt304.1 0 bt304.2.1 bt304.2.2.1 bt304.2.2.2 bt299.1 ([] : List (S45))))) = some (r1, r2, r3, r4) := H
 have A2 := Aside0.mk A20
 clear A20
 replace H := Option.bind_eq_some_iff.mp H
 obtain ⟨⟨t299, t300, t301, t302⟩, A30, H⟩ := H
 replace H : ((pack_Reader_Many.f k t300 t301 t302 12).bind fun bt304 => (schema_Read.l0 k bt304.1 0 bt304.2.1 bt304.2.2.1 bt304.2.2.2 t299 ([] : List (S45)))) = some (r1, r2, r3, r4) := H
 have A3 := Aside0.mk A30
 clear A30
 replace H := Option.bind_eq_some_iff.mp H
 obtain ⟨⟨t304, t305, t306, t307⟩, A40, H⟩ := H
 replace H : (schema_Read.l0 k t304 0 t305 t306 t307 t299 ([] : List (S45))) = some (r1, r2, r3, r4) := H
 have A4 := Aside0.mk A40
 clear A40
 have H' := Aside0.mk H
 clear H
 go_enter Tryd.func40, Tryd.ntmps40
 go_wp2_with (first | ((with_reducible refine gate_dst (N := 2) rfl ?_); refine box_event ?hg (N := 2) ?hd (cs := #[.int .i64 0, .slice none 0 0, .slice none 0 0]) (t := 25) ?hr ?_; (case hd => rfl); (case hg => rfl); (case hr => first | (go_simp; done) | (go_simp; rfl)); intro gb294 hg w5 hbox hb; have n0_ := Aside0.mk (below_step (by repeat (first | (with_reducible first | exact HB.out | apply below_alloc | apply pw_below_drewN | apply below_drew1) | exact HB.out)) hb); have n1_ := Aside0.mk (hbox); have n2_ := Aside0.mk ((by rw [hg]; exact (below_size (by repeat (first | (with_reducible first | exact HB.out | apply below_alloc | apply pw_below_drewN | apply below_drew1) | exact HB.out))) : w.heap.size ≤ gb294)); have n3_ := Aside0.mk ((by rw [hg]; exact (below_size (by repeat (first | (with_reducible first | exact HB.out | apply below_alloc | apply pw_below_drewN | apply below_drew1) | exact HB.out))) : w.heap.size ≤ gb294)); clear HB; have HB := n0_; have BK294 := n1_; have GW294 := n2_; have GE294 := n3_; clear n0_ n1_ n2_ n3_; clear hb hbox hg) | ((with_reducible refine gate_callee (f := 64) rfl ?_); refine goesL_ (some 9) rfl rfl Tryd.func64 (by kernel_rfl) rfl #[.string a0] rfl (by (try simp only [List.map_toArray, List.map_cons, List.map_nil]); first | done | rfl | (simp only [List.length_drop, List.length_take]; rfl)) ?_; (with_reducible refine (pack_Open.calls a0 t295 t296 t297 w _ ?side1 A2.out).mono ?_); (case side1 => repeat (first | (with_reducible first | exact HB.out | apply below_alloc | apply pw_below_drewN | apply below_drew1 | refine below_set ?_ GE294.out) | exact HB.out)); rintro e w6 ⟨g298, rfl, hi, hb, hb2⟩; refine ⟨_, rfl, ?_⟩; have n0_ := Aside0.mk (blk_below (g := gb294) (o := .cells #[.int .i64 0, .slice none 0 0, .slice none 0 0] 25 (0, 0)) (by (with_reducible repeat (first | refine blk_drewN ?_ _ | refine blk_drew ?_ | refine blk_alloc ?_ _)); exact BK294.out) hb2); have n1_ := Aside0.mk (hb); have n2_ := Aside0.mk (hi); have n3_ := Aside0.mk (IsS129.ne_blk hi (blk_below (g := gb294) (o := .cells #[.int .i64 0, .slice none 0 0, .slice none 0 0] 25 (0, 0)) (by (with_reducible repeat (first | refine blk_drewN ?_ _ | refine blk_drew ?_ | refine blk_alloc ?_ _)); exact BK294.out) hb2) (by decide)); have n4_ := Aside0.mk (Ne.symm (IsS129.ne_blk hi (blk_below (g := gb294) (o := .cells #[.int .i64 0, .slice none 0 0, .slice none 0 0] 25 (0, 0)) (by (with_reducible repeat (first | refine blk_drewN ?_ _ | refine blk_drew ?_ | refine blk_alloc ?_ _)); exact BK294.out) hb2) (by decide))); clear BK294; clear HB; have BK294 := n0_; have HB := n1_; have HI298 := n2_; have NB298_294 := n3_; have NB294_298 := n4_; clear n0_ n1_ n2_ n3_ n4_; (try clear hb); (try clear hb2); (try clear hk); (try clear hi)) | ((with_reducible refine gate_callee (f := 65) rfl ?_); refine goesL_ (some 11) rfl rfl Tryd.func65 (by kernel_rfl) rfl #[.pointer (some ⟨g298, 0, none⟩)] rfl (by (try simp only [List.map_toArray, List.map_cons, List.map_nil]); first | done | rfl | (simp only [List.length_drop, List.length_take]; rfl)) ?_; (with_reducible refine (pack_Reader_Int.calls k g298 t295 t296 t297 t299 t300 t301 t302 w _ ?side1 ?side2 A3.out).mono ?_); (case side1 => repeat (first | (with_reducible first | exact HI298.out | apply IsS129.alloc | apply IsS129.drewN | apply IsS129.drew | apply IsS129.set_0 | apply IsS129.set_1 | apply IsS129.set_2 | refine IsS129.far ?_ NB298_294.out _) | exact HI298.out)); (case side2 => repeat (first | (with_reducible first | exact HB.out | apply below_alloc | apply pw_below_drewN | apply below_drew1 | refine below_set ?_ (IsS129.ge HI298.out) | refine below_set ?_ GE294.out) | exact HB.out)); rintro e w7 ⟨rfl, hi, hb, hk⟩; refine ⟨_, rfl, ?_⟩; have n0_ := Aside0.mk (KeepBut.blk hk (g' := gb294) (o := .cells #[.int .i64 0, .slice none 0 0, .slice none 0 0] 25 (0, 0)) (by (with_reducible repeat (first | refine blk_drewN ?_ _ | refine blk_drew ?_ | refine blk_alloc ?_ _)); exact BK294.out) NB294_298.out (by simp)); have n1_ := Aside0.mk (hb); have n2_ := Aside0.mk (hi); clear BK294; clear HB; clear HI298; have BK294 := n0_; have HB := n1_; have HI298 := n2_; clear n0_ n1_ n2_; (try clear hb); (try clear hb2); (try clear hk); (try clear hi)) | ((with_reducible refine gate_dst (N := 5) rfl ?_); refine box_event ?hg (N := 5) ?hd (cs := #[.int .i64 0, .slice none 0 0, .slice none 0 0]) (t := 25) ?hr ?_; (case hd => rfl); (case hg => rfl); (case hr => first | (go_simp; done) | (go_simp; rfl)); intro gb303 hg w8 hbox hb; have n0_ := Aside0.mk (blk_below (g := gb294) (o := .cells #[.int .i64 0, .slice none 0 0, .slice none 0 0] 25 (0, 0)) (by (with_reducible repeat (first | refine blk_drewN ?_ _ | refine blk_drew ?_ | refine blk_alloc ?_ _)); exact BK294.out) hb); have n1_ := Aside0.mk (IsS129.below (by repeat (first | (with_reducible first | exact HI298.out | apply IsS129.alloc | apply IsS129.drewN | apply IsS129.drew | apply IsS129.set_0 | apply IsS129.set_1 | apply IsS129.set_2 | refine IsS129.far ?_ NB298_294.out _) | exact HI298.out)) hb); have n2_ := Aside0.mk (below_step (by repeat (first | (with_reducible first | exact HB.out | apply below_alloc | apply pw_below_drewN | apply below_drew1 | refine below_set ?_ (IsS129.ge HI298.out) | refine below_set ?_ GE294.out) | exact HB.out)) hb); have n3_ := Aside0.mk (hbox); have n4_ := Aside0.mk ((by rw [hg]; exact (below_size (by repeat (first | (with_reducible first | exact HB.out | apply below_alloc | apply pw_below_drewN | apply below_drew1 | refine below_set ?_ (IsS129.ge HI298.out) | refine below_set ?_ GE294.out) | exact HB.out))) : w.heap.size ≤ gb303)); have n5_ := Aside0.mk ((by rw [hg]; exact (below_size (by repeat (first | (with_reducible first | exact HB.out | apply below_alloc | apply pw_below_drewN | apply below_drew1 | refine below_set ?_ (IsS129.ge HI298.out) | refine below_set ?_ GE294.out) | exact HB.out))) : w.heap.size ≤ gb303)); have n6_ := Aside0.mk ((by rw [hg]; exact Nat.ne_of_lt (blk_lt (g := gb294) (o := .cells #[.int .i64 0, .slice none 0 0, .slice none 0 0] 25 (0, 0)) (by (with_reducible repeat (first | refine blk_drewN ?_ _ | refine blk_drew ?_ | refine blk_alloc ?_ _)); exact BK294.out)) : gb294 ≠ gb303)); have n7_ := Aside0.mk ((by rw [hg]; exact Nat.ne_of_gt (blk_lt (g := gb294) (o := .cells #[.int .i64 0, .slice none 0 0, .slice none 0 0] 25 (0, 0)) (by (with_reducible repeat (first | refine blk_drewN ?_ _ | refine blk_drew ?_ | refine blk_alloc ?_ _)); exact BK294.out)) : gb303 ≠ gb294)); have n8_ := Aside0.mk ((by rw [hg]; exact Nat.ne_of_lt (IsS129.lt (show IsS129 w _ g298 t300 t301 t302 from by repeat (first | (with_reducible first | exact HI298.out | apply IsS129.alloc | apply IsS129.drewN | apply IsS129.drew | apply IsS129.set_0 | apply IsS129.set_1 | apply IsS129.set_2 | refine IsS129.far ?_ NB298_294.out _) | exact HI298.out))) : g298 ≠ gb303)); have n9_ := Aside0.mk ((by rw [hg]; exact Nat.ne_of_gt (IsS129.lt (show IsS129 w _ g298 t300 t301 t302 from by repeat (first | (with_reducible first | exact HI298.out | apply IsS129.alloc | apply IsS129.drewN | apply IsS129.drew | apply IsS129.set_0 | apply IsS129.set_1 | apply IsS129.set_2 | refine IsS129.far ?_ NB298_294.out _) | exact HI298.out))) : gb303 ≠ g298)); clear BK294; clear HI298; clear HB; have BK294 := n0_; have HI298 := n1_; have HB := n2_; have BK303 := n3_; have GW303 := n4_; have GE303 := n5_; have NB294_303 := n6_; have NB303_294 := n7_; have NB298_303 := n8_; have NB303_298 := n9_; clear n0_ n1_ n2_ n3_ n4_ n5_ n6_ n7_ n8_ n9_; clear hb hbox hg; have hnb9 := NB303_294.out; have hnc9 := NB294_303.out; have hnb10 := NB303_298.out; have hnc10 := NB298_303.out; have hcz11_0 : w8.cell? ⟨gb303, 0, none⟩ = some (.int .i64 0) := (blk_cell BK303.out 0).trans rfl; have hcz11_1 : w8.cell? ⟨gb303, 1, none⟩ = some (.slice none 0 0) := (blk_cell BK303.out 1).trans rfl; have hcz11_2 : w8.cell? ⟨gb303, 2, none⟩ = some (.slice none 0 0) := (blk_cell BK303.out 2).trans rfl; have hfz11_0 := blk_frozen BK303.out 0; have hfz11_1 := blk_frozen BK303.out 1; have hfz11_2 := blk_frozen BK303.out 2) | ((with_reducible refine gate_callee (f := 66) rfl ?_); refine goesL_ (some 14) rfl rfl Tryd.func66 (by kernel_rfl) rfl #[.pointer (some ⟨g298, 0, none⟩), .int .i64 12] rfl (by (try simp only [List.map_toArray, List.map_cons, List.map_nil]); first | done | rfl | (simp only [List.length_drop, List.length_take]; rfl)) ?_; (with_reducible refine (pack_Reader_Many.calls k g298 t300 t301 t302 12 t304 t305 t306 t307 w _ ?side1 ?side2 A4.out).mono ?_); (case side1 => repeat (first | (with_reducible first | exact HI298.out | apply IsS129.alloc | apply IsS129.drewN | apply IsS129.drew | apply IsS129.set_0 | apply IsS129.set_1 | apply IsS129.set_2 | refine IsS129.far ?_ NB298_294.out _ | refine IsS129.far ?_ NB298_303.out _) | exact HI298.out)); (case side2 => repeat (first | (with_reducible first | exact HB.out | apply below_alloc | apply pw_below_drewN | apply below_drew1 | refine below_set ?_ (IsS129.ge HI298.out) | refine below_set ?_ GE294.out | refine below_set ?_ GE303.out) | exact HB.out)); rintro e w12 ⟨rfl, hi, hb, hk⟩; refine ⟨_, rfl, ?_⟩; have n0_ := Aside0.mk (KeepBut.blk hk (g' := gb294) (o := .cells #[.int .i64 0, .slice none 0 0, .slice none 0 0] 25 (0, 0)) (by (with_reducible repeat (first | refine blk_drewN ?_ _ | refine blk_drew ?_ | refine blk_alloc ?_ _)); refine blk_far ?_ NB294_303.out _; (with_reducible repeat (first | refine blk_drewN ?_ _ | refine blk_drew ?_ | refine blk_alloc ?_ _)); refine blk_far ?_ NB294_303.out _; (with_reducible repeat (first | refine blk_drewN ?_ _ | refine blk_drew ?_ | refine blk_alloc ?_ _)); refine blk_far ?_ NB294_303.out _; (with_reducible repeat (first | refine blk_drewN ?_ _ | refine blk_drew ?_ | refine blk_alloc ?_ _)); exact BK294.out) NB294_298.out (by simp)); have n1_ := Aside0.mk (KeepBut.blk hk (g' := gb303) (o := .cells #[.int .i64 t299, .slice none 0 0, .slice none 0 0] 25 (0, 0)) (by (with_reducible repeat (first | refine blk_drewN ?_ _ | refine blk_drew ?_ | refine blk_alloc ?_ _)); refine blk_put (cs := #[.int .i64 t299, .slice none 0 0, .slice none 0 0]) ?_ 2 _ rfl; (with_reducible repeat (first | refine blk_drewN ?_ _ | refine blk_drew ?_ | refine blk_alloc ?_ _)); refine blk_put (cs := #[.int .i64 t299, .slice none 0 0, .slice none 0 0]) ?_ 1 _ rfl; (with_reducible repeat (first | refine blk_drewN ?_ _ | refine blk_drew ?_ | refine blk_alloc ?_ _)); refine blk_put (cs := #[.int .i64 0, .slice none 0 0, .slice none 0 0]) ?_ 0 _ rfl; (with_reducible repeat (first | refine blk_drewN ?_ _ | refine blk_drew ?_ | refine blk_alloc ?_ _)); exact BK303.out) NB303_298.out (by simp)); have n2_ := Aside0.mk (hb); have n3_ := Aside0.mk (hi); clear BK294; clear BK303; clear HB; clear HI298; have BK294 := n0_; have BK303 := n1_; have HB := n2_; have HI298 := n3_; clear n0_ n1_ n2_ n3_; (try clear hb); (try clear hb2); (try clear hk); (try clear hi)))
 go_loopg [15] k (fun kq v15 w' => ∃ (x15_1 : Int) (x299000_1 : ByteArray) (x299001_1 : Int) (x299002_1 : Bool) (x304001_1 : List (S45)) (u304001 : Value), v15 = .int .i64 x15_1 ∧ Aside0 (schema_Read.l0 kq t304 x15_1 x299000_1 x299001_1 x299002_1 t299 x304001_1 = some (r1, r2, r3, r4)) ∧ Aside0 (kq ≤ k) ∧ Aside0 (Kd.R k45 45 w' w.heap.size (fun _ => True) u304001 x304001_1) ∧ Aside0 (w'.heap[gb294]? = some (.cells #[.int .i64 0, (.slice none 0 0), (.slice none 0 0)] 25 (0, 0))) ∧ Aside0 (w'.heap[gb303]? = some (.cells #[.int .i64 t299, u304001, (.slice none 0 0)] 25 (0, 0))) ∧ Aside0 (IsS129 w w' g298 x299000_1 x299001_1 x299002_1) ∧ Aside0 (Below w.heap.size w w'))
 case atStart => exact ⟨(0), (t305), (t306), (t307), (([] : List (S45))), (.slice none 0 0), (by first | rfl | (simp; done) | (simp [*]; done)), H', ⟨Nat.le_refl _⟩, ⟨by first | exact Kd.R_nil _ _ _ _ _ | exact Kd.N_nil _ _ _ _ _ | exact Kd.V_nil _ _ _ _ _ | exact Kd.Q_nil _ _ _ _ _ | exact Kd.S_nil _ _ _ _ _⟩, ⟨by (with_reducible repeat (first | refine blk_drewN ?_ _ | refine blk_drew ?_ | refine blk_alloc ?_ _)); exact BK294.out⟩, ⟨by (with_reducible repeat (first | refine blk_drewN ?_ _ | refine blk_drew ?_ | refine blk_alloc ?_ _)); exact BK303.out⟩, ⟨by repeat (first | (with_reducible first | exact HI298.out | apply IsS129.alloc | apply IsS129.drewN | apply IsS129.drew | apply IsS129.set_0 | apply IsS129.set_1 | apply IsS129.set_2 | refine IsS129.far ?_ NB298_294.out _ | refine IsS129.far ?_ NB298_303.out _) | exact HI298.out)⟩, ⟨by repeat (first | (with_reducible first | exact HB.out | apply below_alloc | apply pw_below_drewN | apply below_drew1 | refine below_set ?_ (IsS129.ge HI298.out) | refine below_set ?_ GE294.out | refine below_set ?_ GE303.out) | exact HB.out)⟩⟩
 case round =>
  clear H'
  try clear c1
  try clear p2
  try clear c4
  try clear c6
  try clear c9
  try clear c10
  try clear hcz11_0
  try clear hcz11_1
  try clear hcz11_2
  try clear hfz11_0
  try clear hfz11_1
  try clear hfz11_2
  obtain ⟨x15_1, x299000_1, x299001_1, x299002_1, x304001_1, u304001, rfl, HA, HK1, HO_304001, BK294, BK303, HI298, HB⟩ := hrel
  cases gk with
  | zero => exact absurd HA.out (by simp [schema_Read.l0])
  | succ k1 =>
   have H := HA.out
   clear HA
   simp only [schema_Read.l0] at H
   by_cases c13 : x15_1 < t304
   ·rw [if_pos c13] at H
    have c13b0 : decide (x15_1 < t304) = true := decide_eq_true c13
    clear c13
    replace H := Option.bind_eq_some_iff.mp H
    obtain ⟨⟨t308, t309, t310, t313, t316, t317, t318⟩, A140, H⟩ := H
    replace H : (if x304001_1.length < 1954687338268 then (schema_Read.l0 k1 t304 (wrap64 (x15_1 + 1)) t316 t317 t318 t299 (x304001_1 ++ [(⟨t308, t309, t310, t313⟩ : S45)])) else (none)) = some (r1, r2, r3, r4) := H
    have A14 := Aside0.mk A140
    clear A140
    by_cases c15 : x304001_1.length < 1954687338268
    ·rw [if_pos c15] at H
     have LMc15 := Aside0.mk c15
     clear c15
     obtain ⟨y319, hy319⟩ : ∃ y_ : List (S45), y_ = (x304001_1 ++ [(⟨t308, t309, t310, t313⟩ : S45)]) := ⟨_, rfl⟩
     replace H : (schema_Read.l0 k1 t304 (wrap64 (x15_1 + 1)) t316 t317 t318 t299 y319) = some (r1, r2, r3, r4) := by first | (rw [hy319]; with_reducible exact H) | (have H2_ := (Option.bind_some _ _).symm.trans H; rw [hy319]; with_reducible exact H2_) | (have H2_ := (Option.bind_some _ _).symm.trans H; with_reducible exact H2_) | with_reducible exact H | (rw [hy319]; exact H) | exact H
     have Ny319 := Aside0.mk hy319
     clear hy319
     have H' := Aside0.mk H
     clear H
     try go_wp2
     have n0_ := Aside0.mk (Kd.R_drew HO_304001.out)
     have n1_ := Aside0.mk (blk_drew BK294.out)
     have n2_ := Aside0.mk (blk_drew BK303.out)
     have n3_ := Aside0.mk (IsS129.drew HI298.out)
     have n4_ := Aside0.mk (below_drew1 HB.out)
     clear HO_304001
     clear BK294
     clear BK303
     clear HI298
     clear HB
     have HO_304001 := n0_
     have BK294 := n1_
     have BK303 := n2_
     have HI298 := n3_
     have HB := n4_
     clear n0_ n1_ n2_ n3_ n4_
     refine start_ (n := 8) (S := fun w' => w'.cell? ⟨gb303, 0, none⟩ = some (.int .i64 t299) ∧ w'.cell? ⟨gb303, 1, none⟩ = some (u304001) ∧ w'.cell? ⟨gb303, 2, none⟩ = some (.slice none 0 0)) (ds := [7]) #[false, false, false, false, false, false, false, false] (by kernel_rfl) rfl rfl ⟨(blk_cell BK303.out 0).trans rfl, (blk_cell BK303.out 1).trans rfl, (blk_cell BK303.out 2).trans rfl⟩ (fun hHeld => ?_); refine with_tabW schema_Read.tab5 schema_Read.bits5 (fun HT_ HW_ => ?_)
     generalize wr.drew = w16 at HO_304001 BK294 BK303 HI298 HB hHeld ⊢
     refine pure_ (i := 0) (N := some 17) (v := ?_) (a' := ?_) #[true, false, false, false, false, false, false, false] rfl rfl (any_of HT_.out (by kernel_rfl)) (fun _ _ _ h => h) (Or.inl ⟨by rfl, ?_⟩) ?_ ?_
     rotate_left
     ·intro w'
      go_simp
      with_reducible rfl
     rotate_left
     ·simp only [Act.put, List.setIfInBounds_toArray, List.set_cons_zero, List.set_cons_succ, i64_w, i32_w]
      rfl
     refine pure_ (i := 2) (N := some 19) (v := ?_) (a' := ?_) #[true, false, true, false, false, false, false, false] rfl rfl (any_of HT_.out (by kernel_rfl)) (fun _ _ _ h => h) (Or.inl ⟨by rfl, ?_⟩) ?_ ?_
     rotate_left
     ·intro w'
      go_simp
      with_reducible rfl
     rotate_left
     ·simp only [Act.put, List.setIfInBounds_toArray, List.set_cons_zero, List.set_cons_succ, i64_w, i32_w]
      rfl
     refine take_ (i := 1) (N := some 18) (v := ?_) (a' := ?_) #[true, true, true, false, false, false, false, false] rfl rfl (take_ofW HT_.out HW_.out (by kernel_rfl)) (fun _ _ _ h => h) (Or.inl ⟨by rfl, ?_⟩) hHeld ?_ ?_
     rotate_left
     ·rintro w' ⟨s0, s1, s2⟩
      go_simp
      with_reducible rfl
     rotate_left
     ·simp only [Act.put, List.setIfInBounds_toArray, List.set_cons_zero, List.set_cons_succ, i64_w, i32_w]
      rfl
     refine one_ (i := 3) (N := some 20) #[true, true, true, true, false, false, false, false] rfl rfl (one_of HT_.out (by kernel_rfl)) (by decide) (fun K hK => ?_)
     refine goes_ Tryd.func67 (by kernel_rfl) rfl #[.pointer (some ⟨g298, 0, none⟩)] (by rfl) rfl rfl (by (try simp only [List.map_toArray, List.map_cons, List.map_nil]); first | done | rfl | (simp only [List.length_drop, List.length_take]; rfl)) ?_
     with_reducible refine (schema_takeTable.calls k1 g298 x299000_1 x299001_1 x299002_1 t308 t309 t310 t313 t316 t317 t318 w _ ?side1 ?side2 A14.out).mono ?_
     (case side1 => repeat (first | (with_reducible first | exact HI298.out | apply IsS129.alloc | apply IsS129.drewN | apply IsS129.drew | apply IsS129.set_0 | apply IsS129.set_1 | apply IsS129.set_2 | refine IsS129.far ?_ NB298_294.out _ | refine IsS129.far ?_ NB298_303.out _) | exact HI298.out))
     (case side2 => repeat (first | (with_reducible first | exact HB.out | apply below_alloc | apply pw_below_drewN | apply below_drew1 | refine below_set ?_ (IsS129.ge HI298.out) | refine below_set ?_ GE294.out | refine below_set ?_ GE303.out) | exact HB.out))
     rintro e w17 ⟨v311, v314, rfl, ho0, ho1, hi, hb, hk⟩
     refine ⟨_, rfl, ?_⟩
     have n0_ := Aside0.mk (Kd.R_mono (Kd.R_told (Kd.R_told (Kd.R_oldK (IsS129.apart (show IsS129 w _ g298 x299000_1 x299001_1 x299002_1 from by repeat (first | (with_reducible first | exact HI298.out | apply IsS129.alloc | apply IsS129.drewN | apply IsS129.drew | apply IsS129.set_0 | apply IsS129.set_1 | apply IsS129.set_2 | refine IsS129.far ?_ NB298_294.out _ | refine IsS129.far ?_ NB298_303.out _) | exact HI298.out)) (by (with_reducible repeat (first | apply Kd.R_alloc | apply Kd.R_drewN | apply Kd.R_drew)); exact HO_304001.out) (by decide)) hk) (Kd.R_base ho0)) (Kd.R_base ho1)) (fun _ h_ => h_.1))
     have n1_ := Aside0.mk (KeepBut.blk hk (g' := gb294) (o := .cells #[.int .i64 0, .slice none 0 0, .slice none 0 0] 25 (0, 0)) (by (with_reducible repeat (first | refine blk_drewN ?_ _ | refine blk_drew ?_ | refine blk_alloc ?_ _)); exact BK294.out) NB294_298.out (by simp))
     have n2_ := Aside0.mk (KeepBut.blk hk (g' := gb303) (o := .cells #[.int .i64 t299, u304001, .slice none 0 0] 25 (0, 0)) (by (with_reducible repeat (first | refine blk_drewN ?_ _ | refine blk_drew ?_ | refine blk_alloc ?_ _)); exact BK303.out) NB303_298.out (by simp))
     have n3_ := Aside0.mk (Kd.R_lower ho0 (below_size (by repeat (first | (with_reducible first | exact HB.out | apply below_alloc | apply pw_below_drewN | apply below_drew1 | refine below_set ?_ (IsS129.ge HI298.out) | refine below_set ?_ GE294.out | refine below_set ?_ GE303.out) | exact HB.out))))
     have n4_ := Aside0.mk (Kd.R_lower ho1 (below_size (by repeat (first | (with_reducible first | exact HB.out | apply below_alloc | apply pw_below_drewN | apply below_drew1 | refine below_set ?_ (IsS129.ge HI298.out) | refine below_set ?_ GE294.out | refine below_set ?_ GE303.out) | exact HB.out))))
     have n5_ := Aside0.mk (hb)
     have n6_ := Aside0.mk (hi)
     clear HO_304001
     clear BK294
     clear BK303
     clear HB
     clear HI298
     have HO_304001 := n0_
     have BK294 := n1_
     have BK303 := n2_
     have HO312 := n3_
     have HO315 := n4_
     have HB := n5_
     have HI298 := n6_
     clear n0_ n1_ n2_ n3_ n4_ n5_ n6_
     (try clear hb)
     (try clear hb2)
     (try clear hk)
     (try clear hi)
     (try clear ho0)
     (try clear ho1)
     obtain ⟨Ao19, co19, eo19⟩ := Kd.R_slice HO312.out
     (first | subst eo19 | (injection eo19 with f1_ f2_ f3_; have f4_ := f1_.symm; have f5_ := f3_.symm; clear f1_ f2_ f3_; subst f4_; subst f5_))
     obtain ⟨Ao20, co20, eo20⟩ := Kd.R_slice HO315.out
     (first | subst eo20 | (injection eo20 with f1_ f2_ f3_; have f4_ := f1_.symm; have f5_ := f3_.symm; clear f1_ f2_ f3_; subst f4_; subst f5_))
     refine hK.out _ _ ⟨(blk_cell BK303.out 0).trans rfl, (blk_cell BK303.out 1).trans rfl, (blk_cell BK303.out 2).trans rfl⟩ (fun hHeld => ?_)
     clear hK K
     refine norm_ (a' := ?_) ?_ ?_
     rotate_left
     ·show Act.put _ (some 20) _ = _
      simp only [Act.put, List.setIfInBounds_toArray, List.set_cons_zero, List.set_cons_succ, i64_w, i32_w]
      rfl
     refine one_ (i := 4) (N := some 21) #[true, true, true, true, true, false, false, false] rfl rfl (one_of HT_.out (by kernel_rfl)) (by decide) (fun K hK => ?_)
     refine value_ (w1 := ?_) (v := ?_) (by rfl) rfl ?_ ?_
     rotate_left 2
     ·go_simp
      constructor
      ·rfl
      ·rfl
     refine hK.out _ _ ⟨(blk_cell (blk_alloc BK303.out _) 0).trans rfl, (blk_cell (blk_alloc BK303.out _) 1).trans rfl, (blk_cell (blk_alloc BK303.out _) 2).trans rfl⟩ (fun hHeld => ?_)
     clear hK K
     refine norm_ (a' := ?_) ?_ ?_
     rotate_left
     ·show Act.put _ (some 21) _ = _
      simp only [Act.put, List.setIfInBounds_toArray, List.set_cons_zero, List.set_cons_succ, i64_w, i32_w]
      rfl
     refine one_ (i := 5) (N := some 22) #[true, true, true, true, true, true, false, false] rfl rfl (one_of HT_.out (by kernel_rfl)) (by decide) (fun K hK => ?_)
     refine Kd.R_append_step k45 (w0 := w) w.heap.size (by rfl) (.tmp 18) (.tmp 21) 22 45 (.agg #[(.string ⟨#[]⟩), (.int .i64 0), (.slice none 0 0), (.slice none 0 0)]) 72 rfl Tryd.underlying22 info45 rfl (by decide) (by omega) u304001 x304001_1 (⟨t308, t309, t310, t313⟩ : S45) [.string t308, .int .i64 t309, .slice Ao19 t310.length co19, .slice Ao20 t313.length co20] (fun _ => True) (fun k_ => ((fun _ => True)) k_ ∧ some k_ ≠ (u304001 : Value).ownBlock) rfl rfl ?aP (fun _ hk => hk) ?aF ?aO ?aB ?aS ?aL ?_
     (case aP => exact k45_mkM _ _ _ (⟨t308, t309, t310, t313⟩ : S45) (Kd.R_mono (Kd.R_apart' (HO312.out) (Kd.R_typed HO_304001.out) (by decide)) (fun k_ hk => ⟨trivial, hk.2⟩)) (Kd.R_mono (Kd.R_apart' (HO315.out) (Kd.R_typed HO_304001.out) (by decide)) (fun k_ hk => ⟨trivial, hk.2⟩)))
     (case aB => exact (by repeat (first | (with_reducible first | exact HB.out | apply below_alloc | apply pw_below_drewN | apply below_drew1 | refine below_set ?_ (IsS129.ge HI298.out) | refine below_set ?_ GE294.out | refine below_set ?_ GE303.out) | exact HB.out)))
     (case aF => exact (fun _ _ => trivial))
     (case aO => exact (by (with_reducible repeat (first | apply Kd.R_alloc | apply Kd.R_drewN | apply Kd.R_drew)); exact Kd.R_mono HO_304001.out (fun _ hk => trivial)))
     (case aS => exact (below_size (by repeat (first | (with_reducible first | exact HB.out | apply below_alloc | apply pw_below_drewN | apply below_drew1 | refine below_set ?_ (IsS129.ge HI298.out) | refine below_set ?_ GE294.out | refine below_set ?_ GE303.out) | exact HB.out))))
     (case aL => have := LMc15.out; omega)
     intro v320 w18 ho hb hg hat
     rw [← Ny319.out] at ho
     have n0_ := Aside0.mk (blk_grown (g := gb294) (o := .cells #[.int .i64 0, .slice none 0 0, .slice none 0 0] 25 (0, 0)) (by (with_reducible repeat (first | refine blk_drewN ?_ _ | refine blk_drew ?_ | refine blk_alloc ?_ _)); exact BK294.out) hg (Kd.R_ne HO_304001.out BK294.out (by decide)))
     have n1_ := Aside0.mk (blk_grown (g := gb303) (o := .cells #[.int .i64 t299, u304001, .slice none 0 0] 25 (0, 0)) (by (with_reducible repeat (first | refine blk_drewN ?_ _ | refine blk_drew ?_ | refine blk_alloc ?_ _)); exact BK303.out) hg (Kd.R_ne HO_304001.out BK303.out (by decide)))
     have n2_ := Aside0.mk (IsS129.grown (by repeat (first | (with_reducible first | exact HI298.out | apply IsS129.alloc | apply IsS129.drewN | apply IsS129.drew | apply IsS129.set_0 | apply IsS129.set_1 | apply IsS129.set_2 | refine IsS129.far ?_ NB298_294.out _ | refine IsS129.far ?_ NB298_303.out _) | exact HI298.out)) hg (IsS129.own_ne HI298.out HO_304001.out (by decide)))
     have n3_ := Aside0.mk (hb)
     have n4_ := Aside0.mk (ho)
     clear BK294
     clear BK303
     clear HI298
     clear HB
     clear HO_304001
     clear HO312
     clear HO315
     have BK294 := n0_
     have BK303 := n1_
     have HI298 := n2_
     have HB := n3_
     have HO321 := n4_
     clear n0_ n1_ n2_ n3_ n4_
     clear ho hb hg hat
     obtain ⟨Ao21, co21, eo21⟩ := Kd.R_slice HO321.out
     (first | subst eo21 | (injection eo21 with f1_ f2_ f3_; have f4_ := f1_.symm; have f5_ := f3_.symm; clear f1_ f2_ f3_; subst f4_; subst f5_))
     refine hK.out _ _ ⟨(blk_cell BK303.out 0).trans rfl, (blk_cell BK303.out 1).trans rfl, (blk_cell BK303.out 2).trans rfl⟩ (fun hHeld => ?_)
     clear hK K
     refine norm_ (a' := ?_) ?_ ?_
     rotate_left
     ·show Act.put _ (some 22) _ = _
      simp only [Act.put, List.setIfInBounds_toArray, List.set_cons_zero, List.set_cons_succ, i64_w, i32_w]
      rfl
     refine pure_ (i := 6) (N := some 23) (v := ?_) (a' := ?_) #[true, true, true, true, true, true, true, false] rfl rfl (any_of HT_.out (by kernel_rfl)) (fun _ _ _ h => h) (Or.inl ⟨by rfl, ?_⟩) ?_ ?_
     rotate_left
     ·intro w'
      go_simp
      with_reducible rfl
     rotate_left
     ·simp only [Act.put, List.setIfInBounds_toArray, List.set_cons_zero, List.set_cons_succ, i64_w, i32_w]
      rfl
     refine last_ (i := 7) (N := none) #[true, true, true, true, true, true, true, true] rfl rfl (one_of HT_.out (by kernel_rfl)) (by decide) (fun K hK => ?_)
     have hs22 : w18.cell? ⟨gb303, 1, none⟩ = some (u304001) := (blk_cell BK303.out 1).trans rfl
     have hfs22 := blk_frozen BK303.out 1
     have hns22_0 := NB294_303.out
     have hms22_0 := NB303_294.out
     refine skip_ (w1 := ?_) (by rfl) rfl ?_ ?_
     rotate_left
     ·go_simp
      rfl
     refine hK.out _ _ ?_
     clear hK K
     refine done_ (done_of HT_.out (by kernel_rfl)) ?_
     try go_wp2
     go_roundg k1
     case measure => have := HK1.out; omega
     case rel => exact ⟨(wrap64 (x15_1 + 1)), (t316), (t317), (t318), (y319), (.slice Ao21 y319.length co21), (by first | rfl | (simp; done) | (simp [*]; done)), H', ⟨by have := HK1.out; omega⟩, ⟨by (with_reducible repeat (first | apply Kd.R_alloc | apply Kd.R_drewN | apply Kd.R_drew)); exact Kd.R_mono (Kd.R_far (p := ⟨gb303, 1, none⟩) (Kd.R_types HO321.out BK303.out (by decide)) (fun _ hk => hk.2) (.slice Ao21 y319.length co21)) (fun _ hk => trivial)⟩, ⟨by (with_reducible repeat (first | refine blk_drewN ?_ _ | refine blk_drew ?_ | refine blk_alloc ?_ _)); refine blk_far ?_ NB294_303.out _; (with_reducible repeat (first | refine blk_drewN ?_ _ | refine blk_drew ?_ | refine blk_alloc ?_ _)); exact BK294.out⟩, ⟨by (with_reducible repeat (first | refine blk_drewN ?_ _ | refine blk_drew ?_ | refine blk_alloc ?_ _)); refine blk_put (cs := #[.int .i64 t299, u304001, .slice none 0 0]) ?_ 1 _ rfl; (with_reducible repeat (first | refine blk_drewN ?_ _ | refine blk_drew ?_ | refine blk_alloc ?_ _)); exact BK303.out⟩, ⟨by repeat (first | (with_reducible first | exact HI298.out | apply IsS129.alloc | apply IsS129.drewN | apply IsS129.drew | apply IsS129.set_0 | apply IsS129.set_1 | apply IsS129.set_2 | refine IsS129.far ?_ NB298_294.out _ | refine IsS129.far ?_ NB298_303.out _) | exact HI298.out)⟩, ⟨by repeat (first | (with_reducible first | exact HB.out | apply below_alloc | apply pw_below_drewN | apply below_drew1 | refine below_set ?_ (IsS129.ge HI298.out) | refine below_set ?_ GE294.out | refine below_set ?_ GE303.out) | exact HB.out)⟩⟩
    ·rw [if_neg c15] at H
     exact absurd H (by simp)
   ·rw [if_neg c13] at H
    have c13b0 : decide (x15_1 < t304) = false := decide_eq_false c13
    clear c13
    replace H := Option.bind_eq_some_iff.mp H
    obtain ⟨⟨t322, t323, t324, t325⟩, A230, H⟩ := H
    replace H : (schema_Read.l1 k1 t322 0 t323 t324 t325 t299 x304001_1 ([] : List (S27))) = some (r1, r2, r3, r4) := H
    have A23 := Aside0.mk A230
    clear A230
    have H' := Aside0.mk H
    clear H
    go_wp2_with (first | ((with_reducible refine gate_callee (f := 66) rfl ?_); refine goesL_ (some 26) rfl rfl Tryd.func66 (by kernel_rfl) rfl #[.pointer (some ⟨g298, 0, none⟩), .int .i64 64] rfl (by (try simp only [List.map_toArray, List.map_cons, List.map_nil]); first | done | rfl | (simp only [List.length_drop, List.length_take]; rfl)) ?_; (with_reducible refine (pack_Reader_Many.calls k1 g298 x299000_1 x299001_1 x299002_1 64 t322 t323 t324 t325 w _ ?side1 ?side2 A23.out).mono ?_); (case side1 => repeat (first | (with_reducible first | exact HI298.out | apply IsS129.alloc | apply IsS129.drewN | apply IsS129.drew | apply IsS129.set_0 | apply IsS129.set_1 | apply IsS129.set_2 | refine IsS129.far ?_ NB298_294.out _ | refine IsS129.far ?_ NB298_303.out _) | exact HI298.out)); (case side2 => repeat (first | (with_reducible first | exact HB.out | apply below_alloc | apply pw_below_drewN | apply below_drew1 | refine below_set ?_ (IsS129.ge HI298.out) | refine below_set ?_ GE294.out | refine below_set ?_ GE303.out) | exact HB.out)); rintro e w24 ⟨rfl, hi, hb, hk⟩; refine ⟨_, rfl, ?_⟩; have n0_ := Aside0.mk (Kd.R_mono (Kd.R_keep (IsS129.apart (show IsS129 w _ g298 x299000_1 x299001_1 x299002_1 from by repeat (first | (with_reducible first | exact HI298.out | apply IsS129.alloc | apply IsS129.drewN | apply IsS129.drew | apply IsS129.set_0 | apply IsS129.set_1 | apply IsS129.set_2 | refine IsS129.far ?_ NB298_294.out _ | refine IsS129.far ?_ NB298_303.out _) | exact HI298.out)) (by (with_reducible repeat (first | apply Kd.R_alloc | apply Kd.R_drewN | apply Kd.R_drew)); exact HO_304001.out) (by decide)) hk (fun _ h => h.2)) (fun _ h => h.1)); have n1_ := Aside0.mk (KeepBut.blk hk (g' := gb294) (o := .cells #[.int .i64 0, .slice none 0 0, .slice none 0 0] 25 (0, 0)) (by (with_reducible repeat (first | refine blk_drewN ?_ _ | refine blk_drew ?_ | refine blk_alloc ?_ _)); exact BK294.out) NB294_298.out (by simp)); have n2_ := Aside0.mk (KeepBut.blk hk (g' := gb303) (o := .cells #[.int .i64 t299, u304001, .slice none 0 0] 25 (0, 0)) (by (with_reducible repeat (first | refine blk_drewN ?_ _ | refine blk_drew ?_ | refine blk_alloc ?_ _)); exact BK303.out) NB303_298.out (by simp)); have n3_ := Aside0.mk (hb); have n4_ := Aside0.mk (hi); clear HO_304001; clear BK294; clear BK303; clear HB; clear HI298; have HO_304001 := n0_; have BK294 := n1_; have BK303 := n2_; have HB := n3_; have HI298 := n4_; clear n0_ n1_ n2_ n3_ n4_; (try clear hb); (try clear hb2); (try clear hk); (try clear hi)))
    go_loopg [27] k1 (fun kq v27 w' => ∃ (x27_2 : Int) (x299000_2 : ByteArray) (x299001_2 : Int) (x299002_2 : Bool) (x304002_2 : List (S27)) (u304002 : Value), v27 = .int .i64 x27_2 ∧ Aside0 (schema_Read.l1 kq t322 x27_2 x299000_2 x299001_2 x299002_2 t299 x304001_1 x304002_2 = some (r1, r2, r3, r4)) ∧ Aside0 (kq ≤ k1) ∧ Aside0 (Kd.R k45 45 w' w.heap.size (fun _ => True) u304001 x304001_1) ∧ Aside0 (Kd.R k27 27 w' w.heap.size (fun _ => True) u304002 x304002_2) ∧ Aside0 (w'.heap[gb294]? = some (.cells #[.int .i64 0, (.slice none 0 0), (.slice none 0 0)] 25 (0, 0))) ∧ Aside0 (w'.heap[gb303]? = some (.cells #[.int .i64 t299, u304001, u304002] 25 (0, 0))) ∧ Aside0 (IsS129 w w' g298 x299000_2 x299001_2 x299002_2) ∧ Aside0 (Below w.heap.size w w'))
    case atStart => exact ⟨(0), (t323), (t324), (t325), (([] : List (S27))), (.slice none 0 0), (by first | rfl | (simp; done) | (simp [*]; done)), H', ⟨Nat.le_refl _⟩, ⟨by (with_reducible repeat (first | apply Kd.R_alloc | apply Kd.R_drewN | apply Kd.R_drew)); exact HO_304001.out⟩, ⟨by first | exact Kd.R_nil _ _ _ _ _ | exact Kd.N_nil _ _ _ _ _ | exact Kd.V_nil _ _ _ _ _ | exact Kd.Q_nil _ _ _ _ _ | exact Kd.S_nil _ _ _ _ _⟩, ⟨by (with_reducible repeat (first | refine blk_drewN ?_ _ | refine blk_drew ?_ | refine blk_alloc ?_ _)); exact BK294.out⟩, ⟨by (with_reducible repeat (first | refine blk_drewN ?_ _ | refine blk_drew ?_ | refine blk_alloc ?_ _)); exact BK303.out⟩, ⟨by repeat (first | (with_reducible first | exact HI298.out | apply IsS129.alloc | apply IsS129.drewN | apply IsS129.drew | apply IsS129.set_0 | apply IsS129.set_1 | apply IsS129.set_2 | refine IsS129.far ?_ NB298_294.out _ | refine IsS129.far ?_ NB298_303.out _) | exact HI298.out)⟩, ⟨by repeat (first | (with_reducible first | exact HB.out | apply below_alloc | apply pw_below_drewN | apply below_drew1 | refine below_set ?_ (IsS129.ge HI298.out) | refine below_set ?_ GE294.out | refine below_set ?_ GE303.out) | exact HB.out)⟩⟩
    case round =>
     clear H'
     try clear c1
     try clear p2
     try clear c4
     try clear c6
     try clear p6
     try clear c9
     try clear c10
     try clear c13
     try clear c13b0
     try clear c15
     try clear hcz11_0
     try clear hcz11_1
     try clear hcz11_2
     try clear hfz11_0
     try clear hfz11_1
     try clear hfz11_2
     try clear p2
     obtain ⟨x27_2, x299000_2, x299001_2, x299002_2, x304002_2, u304002, rfl, HA, HK2, HO_304001, HO_304002, BK294, BK303, HI298, HB⟩ := hrel
     cases gk with
     | zero => exact absurd HA.out (by simp [schema_Read.l1])
     | succ k2 =>
      have H := HA.out
      clear HA
      simp only [schema_Read.l1] at H
      by_cases c25 : x27_2 < t322
      ·rw [if_pos c25] at H
       have c25b0 : decide (x27_2 < t322) = true := decide_eq_true c25
       clear c25
       replace H := Option.bind_eq_some_iff.mp H
       obtain ⟨⟨t327, t328, t329, t330⟩, A260, H⟩ := H
       replace H : ((pack_Reader_Int.f k2 t328 t329 t330).bind fun bt331 => ((pack_Reader_Str.f k2 bt331.2.1 bt331.2.2.1 bt331.2.2.2).bind fun bt335 => (if x304002_2.length < 4398046511104 then (schema_Read.l1 k2 t322 (wrap64 (x27_2 + 1)) bt335.2.1 bt335.2.2.1 bt335.2.2.2 t299 x304001_1 (x304002_2 ++ [(⟨t327, bt335.1, bt331.1⟩ : S27)])) else (none)))) = some (r1, r2, r3, r4) := H
       have A26 := Aside0.mk A260
       clear A260
       replace H := Option.bind_eq_some_iff.mp H
       obtain ⟨⟨t331, t332, t333, t334⟩, A270, H⟩ := H
       replace H : ((pack_Reader_Str.f k2 t332 t333 t334).bind fun bt335 => (if x304002_2.length < 4398046511104 then (schema_Read.l1 k2 t322 (wrap64 (x27_2 + 1)) bt335.2.1 bt335.2.2.1 bt335.2.2.2 t299 x304001_1 (x304002_2 ++ [(⟨t327, bt335.1, t331⟩ : S27)])) else (none))) = some (r1, r2, r3, r4) := H
       have A27 := Aside0.mk A270
       clear A270
       replace H := Option.bind_eq_some_iff.mp H
       obtain ⟨⟨t335, t336, t337, t338⟩, A280, H⟩ := H
       replace H : (if x304002_2.length < 4398046511104 then (schema_Read.l1 k2 t322 (wrap64 (x27_2 + 1)) t336 t337 t338 t299 x304001_1 (x304002_2 ++ [(⟨t327, t335, t331⟩ : S27)])) else (none)) = some (r1, r2, r3, r4) := H
       have A28 := Aside0.mk A280
       clear A280
       by_cases c29 : x304002_2.length < 4398046511104
       ·rw [if_pos c29] at H
        have LMc29 := Aside0.mk c29
        clear c29
        obtain ⟨y339, hy339⟩ : ∃ y_ : List (S27), y_ = (x304002_2 ++ [(⟨t327, t335, t331⟩ : S27)]) := ⟨_, rfl⟩
        replace H : (schema_Read.l1 k2 t322 (wrap64 (x27_2 + 1)) t336 t337 t338 t299 x304001_1 y339) = some (r1, r2, r3, r4) := by first | (rw [hy339]; with_reducible exact H) | (have H2_ := (Option.bind_some _ _).symm.trans H; rw [hy339]; with_reducible exact H2_) | (have H2_ := (Option.bind_some _ _).symm.trans H; with_reducible exact H2_) | with_reducible exact H | (rw [hy339]; exact H) | exact H
        have Ny339 := Aside0.mk hy339
        clear hy339
        have H' := Aside0.mk H
        clear H
        go_wp2_with (first | ((with_reducible refine gate_dst (N := 6) rfl ?_); refine box_event ?hg (N := 6) ?hd (cs := #[.int .i64 0, .string (⟨#[]⟩ : ByteArray), .int .i64 0]) (t := 27) ?hr ?_; (case hd => rfl); (case hg => rfl); (case hr => first | (go_simp; done) | (go_simp; rfl)); intro gb326 hg w30 hbox hb; have n0_ := Aside0.mk (Kd.R_below (by (with_reducible repeat (first | apply Kd.R_alloc | apply Kd.R_drewN | apply Kd.R_drew)); exact HO_304001.out) hb); have n1_ := Aside0.mk (Kd.R_below (Kd.R_elderB (by (with_reducible repeat (first | apply Kd.R_alloc | apply Kd.R_drewN | apply Kd.R_drew)); exact HO_304002.out) gb326 (Nat.le_of_eq hg.symm)) hb); have n2_ := Aside0.mk (blk_below (g := gb294) (o := .cells #[.int .i64 0, .slice none 0 0, .slice none 0 0] 25 (0, 0)) (by (with_reducible repeat (first | refine blk_drewN ?_ _ | refine blk_drew ?_ | refine blk_alloc ?_ _)); exact BK294.out) hb); have n3_ := Aside0.mk (blk_below (g := gb303) (o := .cells #[.int .i64 t299, u304001, u304002] 25 (0, 0)) (by (with_reducible repeat (first | refine blk_drewN ?_ _ | refine blk_drew ?_ | refine blk_alloc ?_ _)); exact BK303.out) hb); have n4_ := Aside0.mk (IsS129.below (by repeat (first | (with_reducible first | exact HI298.out | apply IsS129.alloc | apply IsS129.drewN | apply IsS129.drew | apply IsS129.set_0 | apply IsS129.set_1 | apply IsS129.set_2 | refine IsS129.far ?_ NB298_294.out _ | refine IsS129.far ?_ NB298_303.out _) | exact HI298.out)) hb); have n5_ := Aside0.mk (below_step (by repeat (first | (with_reducible first | exact HB.out | apply below_alloc | apply pw_below_drewN | apply below_drew1 | refine below_set ?_ (IsS129.ge HI298.out) | refine below_set ?_ GE294.out | refine below_set ?_ GE303.out) | exact HB.out)) hb); have n6_ := Aside0.mk (hbox); have n7_ := Aside0.mk ((by rw [hg]; exact (below_size (by repeat (first | (with_reducible first | exact HB.out | apply below_alloc | apply pw_below_drewN | apply below_drew1 | refine below_set ?_ (IsS129.ge HI298.out) | refine below_set ?_ GE294.out | refine below_set ?_ GE303.out) | exact HB.out))) : w.heap.size ≤ gb326)); have n8_ := Aside0.mk ((by rw [hg]; exact (below_size (by repeat (first | (with_reducible first | exact HB.out | apply below_alloc | apply pw_below_drewN | apply below_drew1 | refine below_set ?_ (IsS129.ge HI298.out) | refine below_set ?_ GE294.out | refine below_set ?_ GE303.out) | exact HB.out))) : w.heap.size ≤ gb326)); have n9_ := Aside0.mk ((by rw [hg]; exact Nat.ne_of_lt (blk_lt (g := gb294) (o := .cells #[.int .i64 0, .slice none 0 0, .slice none 0 0] 25 (0, 0)) (by (with_reducible repeat (first | refine blk_drewN ?_ _ | refine blk_drew ?_ | refine blk_alloc ?_ _)); exact BK294.out)) : gb294 ≠ gb326)); have n10_ := Aside0.mk ((by rw [hg]; exact Nat.ne_of_gt (blk_lt (g := gb294) (o := .cells #[.int .i64 0, .slice none 0 0, .slice none 0 0] 25 (0, 0)) (by (with_reducible repeat (first | refine blk_drewN ?_ _ | refine blk_drew ?_ | refine blk_alloc ?_ _)); exact BK294.out)) : gb326 ≠ gb294)); have n11_ := Aside0.mk ((by rw [hg]; exact Nat.ne_of_lt (blk_lt (g := gb303) (o := .cells #[.int .i64 t299, u304001, u304002] 25 (0, 0)) (by (with_reducible repeat (first | refine blk_drewN ?_ _ | refine blk_drew ?_ | refine blk_alloc ?_ _)); exact BK303.out)) : gb303 ≠ gb326)); have n12_ := Aside0.mk ((by rw [hg]; exact Nat.ne_of_gt (blk_lt (g := gb303) (o := .cells #[.int .i64 t299, u304001, u304002] 25 (0, 0)) (by (with_reducible repeat (first | refine blk_drewN ?_ _ | refine blk_drew ?_ | refine blk_alloc ?_ _)); exact BK303.out)) : gb326 ≠ gb303)); have n13_ := Aside0.mk ((by rw [hg]; exact Nat.ne_of_lt (IsS129.lt (show IsS129 w _ g298 x299000_2 x299001_2 x299002_2 from by repeat (first | (with_reducible first | exact HI298.out | apply IsS129.alloc | apply IsS129.drewN | apply IsS129.drew | apply IsS129.set_0 | apply IsS129.set_1 | apply IsS129.set_2 | refine IsS129.far ?_ NB298_294.out _ | refine IsS129.far ?_ NB298_303.out _) | exact HI298.out))) : g298 ≠ gb326)); have n14_ := Aside0.mk ((by rw [hg]; exact Nat.ne_of_gt (IsS129.lt (show IsS129 w _ g298 x299000_2 x299001_2 x299002_2 from by repeat (first | (with_reducible first | exact HI298.out | apply IsS129.alloc | apply IsS129.drewN | apply IsS129.drew | apply IsS129.set_0 | apply IsS129.set_1 | apply IsS129.set_2 | refine IsS129.far ?_ NB298_294.out _ | refine IsS129.far ?_ NB298_303.out _) | exact HI298.out))) : gb326 ≠ g298)); clear HO_304001; clear HO_304002; clear BK294; clear BK303; clear HI298; clear HB; have HO_304001 := n0_; have HO_304002 := n1_; have BK294 := n2_; have BK303 := n3_; have HI298 := n4_; have HB := n5_; have BK326 := n6_; have GW326 := n7_; have GE326 := n8_; have NB294_326 := n9_; have NB326_294 := n10_; have NB303_326 := n11_; have NB326_303 := n12_; have NB298_326 := n13_; have NB326_298 := n14_; clear n0_ n1_ n2_ n3_ n4_ n5_ n6_ n7_ n8_ n9_ n10_ n11_ n12_ n13_ n14_; clear hb hbox hg) | ((with_reducible refine gate_callee (f := 65) rfl ?_); refine goesL_ (some 30) rfl rfl Tryd.func65 (by kernel_rfl) rfl #[.pointer (some ⟨g298, 0, none⟩)] rfl (by (try simp only [List.map_toArray, List.map_cons, List.map_nil]); first | done | rfl | (simp only [List.length_drop, List.length_take]; rfl)) ?_; (with_reducible refine (pack_Reader_Int.calls k2 g298 x299000_2 x299001_2 x299002_2 t327 t328 t329 t330 w _ ?side1 ?side2 A26.out).mono ?_); (case side1 => repeat (first | (with_reducible first | exact HI298.out | apply IsS129.alloc | apply IsS129.drewN | apply IsS129.drew | apply IsS129.set_0 | apply IsS129.set_1 | apply IsS129.set_2 | refine IsS129.far ?_ NB298_294.out _ | refine IsS129.far ?_ NB298_303.out _ | refine IsS129.far ?_ NB298_326.out _) | exact HI298.out)); (case side2 => repeat (first | (with_reducible first | exact HB.out | apply below_alloc | apply pw_below_drewN | apply below_drew1 | refine below_set ?_ (IsS129.ge HI298.out) | refine below_set ?_ GE294.out | refine below_set ?_ GE303.out | refine below_set ?_ GE326.out) | exact HB.out)); rintro e w31 ⟨rfl, hi, hb, hk⟩; refine ⟨_, rfl, ?_⟩; have n0_ := Aside0.mk (Kd.R_mono (Kd.R_keep (IsS129.apart (show IsS129 w _ g298 x299000_2 x299001_2 x299002_2 from by repeat (first | (with_reducible first | exact HI298.out | apply IsS129.alloc | apply IsS129.drewN | apply IsS129.drew | apply IsS129.set_0 | apply IsS129.set_1 | apply IsS129.set_2 | refine IsS129.far ?_ NB298_294.out _ | refine IsS129.far ?_ NB298_303.out _ | refine IsS129.far ?_ NB298_326.out _) | exact HI298.out)) (by (with_reducible repeat (first | apply Kd.R_alloc | apply Kd.R_drewN | apply Kd.R_drew)); exact HO_304001.out) (by decide)) hk (fun _ h => h.2)) (fun _ h => h.1)); have n1_ := Aside0.mk (Kd.R_mono (Kd.R_keep (IsS129.apart (show IsS129 w _ g298 x299000_2 x299001_2 x299002_2 from by repeat (first | (with_reducible first | exact HI298.out | apply IsS129.alloc | apply IsS129.drewN | apply IsS129.drew | apply IsS129.set_0 | apply IsS129.set_1 | apply IsS129.set_2 | refine IsS129.far ?_ NB298_294.out _ | refine IsS129.far ?_ NB298_303.out _ | refine IsS129.far ?_ NB298_326.out _) | exact HI298.out)) (by (with_reducible repeat (first | apply Kd.R_alloc | apply Kd.R_drewN | apply Kd.R_drew)); exact HO_304002.out) (by decide)) hk (fun _ h => h.2)) (fun _ h => h.1)); have n2_ := Aside0.mk (KeepBut.blk hk (g' := gb294) (o := .cells #[.int .i64 0, .slice none 0 0, .slice none 0 0] 25 (0, 0)) (by (with_reducible repeat (first | refine blk_drewN ?_ _ | refine blk_drew ?_ | refine blk_alloc ?_ _)); exact BK294.out) NB294_298.out (by simp)); have n3_ := Aside0.mk (KeepBut.blk hk (g' := gb303) (o := .cells #[.int .i64 t299, u304001, u304002] 25 (0, 0)) (by (with_reducible repeat (first | refine blk_drewN ?_ _ | refine blk_drew ?_ | refine blk_alloc ?_ _)); exact BK303.out) NB303_298.out (by simp)); have n4_ := Aside0.mk (KeepBut.blk hk (g' := gb326) (o := .cells #[.int .i64 0, .string (⟨#[]⟩ : ByteArray), .int .i64 0] 27 (0, 0)) (by (with_reducible repeat (first | refine blk_drewN ?_ _ | refine blk_drew ?_ | refine blk_alloc ?_ _)); exact BK326.out) NB326_298.out (by simp)); have n5_ := Aside0.mk (hb); have n6_ := Aside0.mk (hi); clear HO_304001; clear HO_304002; clear BK294; clear BK303; clear BK326; clear HB; clear HI298; have HO_304001 := n0_; have HO_304002 := n1_; have BK294 := n2_; have BK303 := n3_; have BK326 := n4_; have HB := n5_; have HI298 := n6_; clear n0_ n1_ n2_ n3_ n4_ n5_ n6_; (try clear hb); (try clear hb2); (try clear hk); (try clear hi); have hnb32 := NB326_294.out; have hnc32 := NB294_326.out; have hnb33 := NB326_303.out; have hnc33 := NB303_326.out; have hnb34 := NB326_298.out; have hnc34 := NB298_326.out; have hcz35_0 : w31.cell? ⟨gb326, 0, none⟩ = some (.int .i64 0) := (blk_cell BK326.out 0).trans rfl; have hcz35_1 : w31.cell? ⟨gb326, 1, none⟩ = some (.string (⟨#[]⟩ : ByteArray)) := (blk_cell BK326.out 1).trans rfl; have hcz35_2 : w31.cell? ⟨gb326, 2, none⟩ = some (.int .i64 0) := (blk_cell BK326.out 2).trans rfl; have hfz35_0 := blk_frozen BK326.out 0; have hfz35_1 := blk_frozen BK326.out 1; have hfz35_2 := blk_frozen BK326.out 2) | ((with_reducible refine gate_callee (f := 65) rfl ?_); refine goesL_ (some 33) rfl rfl Tryd.func65 (by kernel_rfl) rfl #[.pointer (some ⟨g298, 0, none⟩)] rfl (by (try simp only [List.map_toArray, List.map_cons, List.map_nil]); first | done | rfl | (simp only [List.length_drop, List.length_take]; rfl)) ?_; (with_reducible refine (pack_Reader_Int.calls k2 g298 t328 t329 t330 t331 t332 t333 t334 w _ ?side1 ?side2 A27.out).mono ?_); (case side1 => repeat (first | (with_reducible first | exact HI298.out | apply IsS129.alloc | apply IsS129.drewN | apply IsS129.drew | apply IsS129.set_0 | apply IsS129.set_1 | apply IsS129.set_2 | refine IsS129.far ?_ NB298_294.out _ | refine IsS129.far ?_ NB298_303.out _ | refine IsS129.far ?_ NB298_326.out _) | exact HI298.out)); (case side2 => repeat (first | (with_reducible first | exact HB.out | apply below_alloc | apply pw_below_drewN | apply below_drew1 | refine below_set ?_ (IsS129.ge HI298.out) | refine below_set ?_ GE294.out | refine below_set ?_ GE303.out | refine below_set ?_ GE326.out) | exact HB.out)); rintro e w36 ⟨rfl, hi, hb, hk⟩; refine ⟨_, rfl, ?_⟩; have n0_ := Aside0.mk (Kd.R_mono (Kd.R_keep (IsS129.apart (show IsS129 w _ g298 t328 t329 t330 from by repeat (first | (with_reducible first | exact HI298.out | apply IsS129.alloc | apply IsS129.drewN | apply IsS129.drew | apply IsS129.set_0 | apply IsS129.set_1 | apply IsS129.set_2 | refine IsS129.far ?_ NB298_294.out _ | refine IsS129.far ?_ NB298_303.out _ | refine IsS129.far ?_ NB298_326.out _) | exact HI298.out)) (by (with_reducible repeat (first | apply Kd.R_alloc | apply Kd.R_drewN | apply Kd.R_drew)); exact (Kd.R_mono (Kd.R_far (p := ⟨gb326, 0, none⟩) (Kd.R_types HO_304001.out BK326.out (by decide)) (fun _ hk => hk.2) (.int .i64 t327)) (fun _ h_ => h_.1))) (by decide)) hk (fun _ h => h.2)) (fun _ h => h.1)); have n1_ := Aside0.mk (Kd.R_mono (Kd.R_keep (IsS129.apart (show IsS129 w _ g298 t328 t329 t330 from by repeat (first | (with_reducible first | exact HI298.out | apply IsS129.alloc | apply IsS129.drewN | apply IsS129.drew | apply IsS129.set_0 | apply IsS129.set_1 | apply IsS129.set_2 | refine IsS129.far ?_ NB298_294.out _ | refine IsS129.far ?_ NB298_303.out _ | refine IsS129.far ?_ NB298_326.out _) | exact HI298.out)) (by (with_reducible repeat (first | apply Kd.R_alloc | apply Kd.R_drewN | apply Kd.R_drew)); exact (Kd.R_mono (Kd.R_far (p := ⟨gb326, 0, none⟩) (Kd.R_mono HO_304002.out (fun k_ hk => (⟨hk, hk.2⟩ : _ ∧ k_ ≠ gb326))) (fun _ hk => hk.2) (.int .i64 t327)) (fun _ h_ => h_.1))) (by decide)) hk (fun _ h => h.2)) (fun _ h => h.1)); have n2_ := Aside0.mk (KeepBut.blk hk (g' := gb294) (o := .cells #[.int .i64 0, .slice none 0 0, .slice none 0 0] 25 (0, 0)) (by (with_reducible repeat (first | refine blk_drewN ?_ _ | refine blk_drew ?_ | refine blk_alloc ?_ _)); refine blk_far ?_ NB294_326.out _; (with_reducible repeat (first | refine blk_drewN ?_ _ | refine blk_drew ?_ | refine blk_alloc ?_ _)); exact BK294.out) NB294_298.out (by simp)); have n3_ := Aside0.mk (KeepBut.blk hk (g' := gb303) (o := .cells #[.int .i64 t299, u304001, u304002] 25 (0, 0)) (by (with_reducible repeat (first | refine blk_drewN ?_ _ | refine blk_drew ?_ | refine blk_alloc ?_ _)); refine blk_far ?_ NB303_326.out _; (with_reducible repeat (first | refine blk_drewN ?_ _ | refine blk_drew ?_ | refine blk_alloc ?_ _)); exact BK303.out) NB303_298.out (by simp)); have n4_ := Aside0.mk (KeepBut.blk hk (g' := gb326) (o := .cells #[.int .i64 t327, .string (⟨#[]⟩ : ByteArray), .int .i64 0] 27 (0, 0)) (by (with_reducible repeat (first | refine blk_drewN ?_ _ | refine blk_drew ?_ | refine blk_alloc ?_ _)); refine blk_put (cs := #[.int .i64 0, .string (⟨#[]⟩ : ByteArray), .int .i64 0]) ?_ 0 _ rfl; (with_reducible repeat (first | refine blk_drewN ?_ _ | refine blk_drew ?_ | refine blk_alloc ?_ _)); exact BK326.out) NB326_298.out (by simp)); have n5_ := Aside0.mk (hb); have n6_ := Aside0.mk (hi); clear HO_304001; clear HO_304002; clear BK294; clear BK303; clear BK326; clear HB; clear HI298; have HO_304001 := n0_; have HO_304002 := n1_; have BK294 := n2_; have BK303 := n3_; have BK326 := n4_; have HB := n5_; have HI298 := n6_; clear n0_ n1_ n2_ n3_ n4_ n5_ n6_; (try clear hb); (try clear hb2); (try clear hk); (try clear hi); have hcz37_0 : w36.cell? ⟨gb326, 0, none⟩ = some (.int .i64 t327) := (blk_cell BK326.out 0).trans rfl; have hcz37_1 : w36.cell? ⟨gb326, 1, none⟩ = some (.string (⟨#[]⟩ : ByteArray)) := (blk_cell BK326.out 1).trans rfl; have hcz37_2 : w36.cell? ⟨gb326, 2, none⟩ = some (.int .i64 0) := (blk_cell BK326.out 2).trans rfl; have hfz37_0 := blk_frozen BK326.out 0; have hfz37_1 := blk_frozen BK326.out 1; have hfz37_2 := blk_frozen BK326.out 2) | ((with_reducible refine gate_callee (f := 68) rfl ?_); refine goesL_ (some 36) rfl rfl Tryd.func68 (by kernel_rfl) rfl #[.pointer (some ⟨g298, 0, none⟩)] rfl (by (try simp only [List.map_toArray, List.map_cons, List.map_nil]); first | done | rfl | (simp only [List.length_drop, List.length_take]; rfl)) ?_; (with_reducible refine (pack_Reader_Str.calls k2 g298 t332 t333 t334 t335 t336 t337 t338 w _ ?side1 ?side2 A28.out).mono ?_); (case side1 => repeat (first | (with_reducible first | exact HI298.out | apply IsS129.alloc | apply IsS129.drewN | apply IsS129.drew | apply IsS129.set_0 | apply IsS129.set_1 | apply IsS129.set_2 | refine IsS129.far ?_ NB298_294.out _ | refine IsS129.far ?_ NB298_303.out _ | refine IsS129.far ?_ NB298_326.out _) | exact HI298.out)); (case side2 => repeat (first | (with_reducible first | exact HB.out | apply below_alloc | apply pw_below_drewN | apply below_drew1 | refine below_set ?_ (IsS129.ge HI298.out) | refine below_set ?_ GE294.out | refine below_set ?_ GE303.out | refine below_set ?_ GE326.out) | exact HB.out)); rintro e w38 ⟨rfl, hi, hb, hk⟩; refine ⟨_, rfl, ?_⟩; have n0_ := Aside0.mk (Kd.R_mono (Kd.R_keep (IsS129.apart (show IsS129 w _ g298 t332 t333 t334 from by repeat (first | (with_reducible first | exact HI298.out | apply IsS129.alloc | apply IsS129.drewN | apply IsS129.drew | apply IsS129.set_0 | apply IsS129.set_1 | apply IsS129.set_2 | refine IsS129.far ?_ NB298_294.out _ | refine IsS129.far ?_ NB298_303.out _ | refine IsS129.far ?_ NB298_326.out _) | exact HI298.out)) (by (with_reducible repeat (first | apply Kd.R_alloc | apply Kd.R_drewN | apply Kd.R_drew)); exact (Kd.R_mono (Kd.R_far (p := ⟨gb326, 2, none⟩) (Kd.R_types HO_304001.out BK326.out (by decide)) (fun _ hk => hk.2) (.int .i64 t331)) (fun _ h_ => h_.1))) (by decide)) hk (fun _ h => h.2)) (fun _ h => h.1)); have n1_ := Aside0.mk (Kd.R_mono (Kd.R_keep (IsS129.apart (show IsS129 w _ g298 t332 t333 t334 from by repeat (first | (with_reducible first | exact HI298.out | apply IsS129.alloc | apply IsS129.drewN | apply IsS129.drew | apply IsS129.set_0 | apply IsS129.set_1 | apply IsS129.set_2 | refine IsS129.far ?_ NB298_294.out _ | refine IsS129.far ?_ NB298_303.out _ | refine IsS129.far ?_ NB298_326.out _) | exact HI298.out)) (by (with_reducible repeat (first | apply Kd.R_alloc | apply Kd.R_drewN | apply Kd.R_drew)); exact (Kd.R_mono (Kd.R_far (p := ⟨gb326, 2, none⟩) (Kd.R_mono HO_304002.out (fun k_ hk => (⟨hk, hk.2⟩ : _ ∧ k_ ≠ gb326))) (fun _ hk => hk.2) (.int .i64 t331)) (fun _ h_ => h_.1))) (by decide)) hk (fun _ h => h.2)) (fun _ h => h.1)); have n2_ := Aside0.mk (KeepBut.blk hk (g' := gb294) (o := .cells #[.int .i64 0, .slice none 0 0, .slice none 0 0] 25 (0, 0)) (by (with_reducible repeat (first | refine blk_drewN ?_ _ | refine blk_drew ?_ | refine blk_alloc ?_ _)); refine blk_far ?_ NB294_326.out _; (with_reducible repeat (first | refine blk_drewN ?_ _ | refine blk_drew ?_ | refine blk_alloc ?_ _)); exact BK294.out) NB294_298.out (by simp)); have n3_ := Aside0.mk (KeepBut.blk hk (g' := gb303) (o := .cells #[.int .i64 t299, u304001, u304002] 25 (0, 0)) (by (with_reducible repeat (first | refine blk_drewN ?_ _ | refine blk_drew ?_ | refine blk_alloc ?_ _)); refine blk_far ?_ NB303_326.out _; (with_reducible repeat (first | refine blk_drewN ?_ _ | refine blk_drew ?_ | refine blk_alloc ?_ _)); exact BK303.out) NB303_298.out (by simp)); have n4_ := Aside0.mk (KeepBut.blk hk (g' := gb326) (o := .cells #[.int .i64 t327, .string (⟨#[]⟩ : ByteArray), .int .i64 t331] 27 (0, 0)) (by (with_reducible repeat (first | refine blk_drewN ?_ _ | refine blk_drew ?_ | refine blk_alloc ?_ _)); refine blk_put (cs := #[.int .i64 t327, .string (⟨#[]⟩ : ByteArray), .int .i64 0]) ?_ 2 _ rfl; (with_reducible repeat (first | refine blk_drewN ?_ _ | refine blk_drew ?_ | refine blk_alloc ?_ _)); exact BK326.out) NB326_298.out (by simp)); have n5_ := Aside0.mk (hb); have n6_ := Aside0.mk (hi); clear HO_304001; clear HO_304002; clear BK294; clear BK303; clear BK326; clear HB; clear HI298; have HO_304001 := n0_; have HO_304002 := n1_; have BK294 := n2_; have BK303 := n3_; have BK326 := n4_; have HB := n5_; have HI298 := n6_; clear n0_ n1_ n2_ n3_ n4_ n5_ n6_; (try clear hb); (try clear hb2); (try clear hk); (try clear hi); have hcz39_0 : w38.cell? ⟨gb326, 0, none⟩ = some (.int .i64 t327) := (blk_cell BK326.out 0).trans rfl; have hcz39_1 : w38.cell? ⟨gb326, 1, none⟩ = some (.string (⟨#[]⟩ : ByteArray)) := (blk_cell BK326.out 1).trans rfl; have hcz39_2 : w38.cell? ⟨gb326, 2, none⟩ = some (.int .i64 t331) := (blk_cell BK326.out 2).trans rfl; have hfz39_0 := blk_frozen BK326.out 0; have hfz39_1 := blk_frozen BK326.out 1; have hfz39_2 := blk_frozen BK326.out 2; have hnb40 := NB303_294.out; have hnc40 := NB294_303.out; have hnb41 := NB303_298.out; have hnc41 := NB298_303.out; have hcz42_0 : w38.cell? ⟨gb303, 0, none⟩ = some (.int .i64 t299) := (blk_cell BK303.out 0).trans rfl; have hcz42_1 : w38.cell? ⟨gb303, 1, none⟩ = some (u304001) := (blk_cell BK303.out 1).trans rfl; have hcz42_2 : w38.cell? ⟨gb303, 2, none⟩ = some (u304002) := (blk_cell BK303.out 2).trans rfl; have hfz42_0 := blk_frozen BK303.out 0; have hfz42_1 := blk_frozen BK303.out 1; have hfz42_2 := blk_frozen BK303.out 2) | ((with_reducible refine gate_builtin (b := .append) (xs := #[.tmp 39, .tmp 41]) rfl ?_); at_builtin; refine Kd.R_append k27 (w0 := w) w.heap.size rfl (.tmp 39) (.tmp 41) 23 27 (.agg #[(.int .i64 0), (.string ⟨#[]⟩), (.int .i64 0)]) 32 rfl Tryd.underlying23 info27 rfl (by decide) (by omega) u304002 x304002_2 (⟨t327, t335, t331⟩ : S27) [.int .i64 t327, .string t335, .int .i64 t331] (fun k_ => k_ ≠ gb326) (fun _ => False) rfl (by first | (go_simp; done) | (go_simp; rfl)) ?aP (fun _ hk => hk.elim) ?aF ?aO ?aB ?aS ?aL ?_; (case aP => exact k27_mkM _ _ _ (⟨t327, t335, t331⟩ : S27)); (case aB => exact (by repeat (first | (with_reducible first | exact HB.out | apply below_alloc | apply pw_below_drewN | apply below_drew1 | refine below_set ?_ (IsS129.ge HI298.out) | refine below_set ?_ GE294.out | refine below_set ?_ GE303.out | refine below_set ?_ GE326.out) | exact HB.out))); (case aF => exact (fun k_ hk => Kd.freshB (g := gb326) (o := .cells #[.int .i64 t327, .string t335, .int .i64 t331] 27 (0, 0)) (by (with_reducible repeat (first | refine blk_drewN ?_ _ | refine blk_drew ?_ | refine blk_alloc ?_ _)); refine blk_put (cs := #[.int .i64 t327, .string (⟨#[]⟩ : ByteArray), .int .i64 t331]) ?_ 1 _ rfl; (with_reducible repeat (first | refine blk_drewN ?_ _ | refine blk_drew ?_ | refine blk_alloc ?_ _)); exact BK326.out) k_ hk)); (case aO => exact (by (with_reducible repeat (first | apply Kd.R_alloc | apply Kd.R_drewN | apply Kd.R_drew)); exact Kd.R_mono (Kd.R_far (p := ⟨gb326, 1, none⟩) (Kd.R_mono HO_304002.out (fun k_ hk => (⟨hk, hk.2⟩ : _ ∧ k_ ≠ gb326))) (fun _ hk => hk.2) (.string t335)) (fun _ hk => hk.1.2))); (case aS => exact (below_size (by repeat (first | (with_reducible first | exact HB.out | apply below_alloc | apply pw_below_drewN | apply below_drew1 | refine below_set ?_ (IsS129.ge HI298.out) | refine below_set ?_ GE294.out | refine below_set ?_ GE303.out | refine below_set ?_ GE326.out) | exact HB.out)))); (case aL => have := LMc29.out; omega); intro v340 w43 ho hb hg hat; rw [← Ny339.out] at ho; have n0_ := Aside0.mk (Kd.R_over' (by (with_reducible repeat (first | apply Kd.R_alloc | apply Kd.R_drewN | apply Kd.R_drew)); exact (Kd.R_mono (Kd.R_far (p := ⟨gb326, 1, none⟩) (Kd.R_types HO_304001.out BK326.out (by decide)) (fun _ hk => hk.2) (.string t335)) (fun _ h_ => h_.1))) (Kd.R_typed (by (with_reducible repeat (first | apply Kd.R_alloc | apply Kd.R_drewN | apply Kd.R_drew)); exact (Kd.R_mono (Kd.R_far (p := ⟨gb326, 1, none⟩) (Kd.R_mono HO_304002.out (fun k_ hk => (⟨hk, hk.2⟩ : _ ∧ k_ ≠ gb326))) (fun _ hk => hk.2) (.string t335)) (fun _ h_ => h_.1)))) (by decide) hg); have n1_ := Aside0.mk (blk_grown (g := gb294) (o := .cells #[.int .i64 0, .slice none 0 0, .slice none 0 0] 25 (0, 0)) (by (with_reducible repeat (first | refine blk_drewN ?_ _ | refine blk_drew ?_ | refine blk_alloc ?_ _)); refine blk_far ?_ NB294_326.out _; (with_reducible repeat (first | refine blk_drewN ?_ _ | refine blk_drew ?_ | refine blk_alloc ?_ _)); exact BK294.out) hg (Kd.R_ne HO_304002.out BK294.out (by decide))); have n2_ := Aside0.mk (blk_grown (g := gb303) (o := .cells #[.int .i64 t299, u304001, u304002] 25 (0, 0)) (by (with_reducible repeat (first | refine blk_drewN ?_ _ | refine blk_drew ?_ | refine blk_alloc ?_ _)); refine blk_far ?_ NB303_326.out _; (with_reducible repeat (first | refine blk_drewN ?_ _ | refine blk_drew ?_ | refine blk_alloc ?_ _)); exact BK303.out) hg (Kd.R_ne HO_304002.out BK303.out (by decide))); have n3_ := Aside0.mk (IsS129.grown (IsS129.far (p := ⟨gb326, 1, none⟩) HI298.out NB298_326.out _) hg (IsS129.own_ne HI298.out HO_304002.out (by decide))); have n4_ := Aside0.mk (blk_grown (g := gb326) (o := .cells #[.int .i64 t327, .string t335, .int .i64 t331] 27 (0, 0)) (by (with_reducible repeat (first | refine blk_drewN ?_ _ | refine blk_drew ?_ | refine blk_alloc ?_ _)); refine blk_put (cs := #[.int .i64 t327, .string (⟨#[]⟩ : ByteArray), .int .i64 t331]) ?_ 1 _ rfl; (with_reducible repeat (first | refine blk_drewN ?_ _ | refine blk_drew ?_ | refine blk_alloc ?_ _)); exact BK326.out) hg (Kd.R_away HO_304002.out (fun _ hk => hk.2))); have n5_ := Aside0.mk (hb); have n6_ := Aside0.mk (ho); clear HO_304001; clear BK294; clear BK303; clear HI298; clear BK326; clear HB; clear HO_304002; have HO_304001 := n0_; have BK294 := n1_; have BK303 := n2_; have HI298 := n3_; have BK326 := n4_; have HB := n5_; have HO341 := n6_; clear n0_ n1_ n2_ n3_ n4_ n5_ n6_; clear ho hb hg hat; obtain ⟨Ao44, co44, eo44⟩ := Kd.R_slice HO341.out; subst eo44; have hcz45_0 : w43.cell? ⟨gb303, 0, none⟩ = some (.int .i64 t299) := (blk_cell BK303.out 0).trans rfl; have hcz45_1 : w43.cell? ⟨gb303, 1, none⟩ = some (u304001) := (blk_cell BK303.out 1).trans rfl; have hcz45_2 : w43.cell? ⟨gb303, 2, none⟩ = some (u304002) := (blk_cell BK303.out 2).trans rfl; have hfz45_0 := blk_frozen BK303.out 0; have hfz45_1 := blk_frozen BK303.out 1; have hfz45_2 := blk_frozen BK303.out 2))
        go_roundg k2
        case measure => have := HK1.out; have := HK2.out; omega
        case rel => exact ⟨(wrap64 (x27_2 + 1)), (t336), (t337), (t338), (y339), (.slice Ao44 y339.length co44), (by first | rfl | (simp; done) | (simp [*]; done)), H', ⟨by have := HK1.out; have := HK2.out; omega⟩, ⟨by (with_reducible repeat (first | apply Kd.R_alloc | apply Kd.R_drewN | apply Kd.R_drew)); exact Kd.R_mono (Kd.R_far (p := ⟨gb303, 2, none⟩) (Kd.R_types HO_304001.out BK303.out (by decide)) (fun _ hk => hk.2) (.slice Ao44 y339.length co44)) (fun _ hk => trivial)⟩, ⟨by (with_reducible repeat (first | apply Kd.R_alloc | apply Kd.R_drewN | apply Kd.R_drew)); exact Kd.R_mono (Kd.R_far (p := ⟨gb303, 2, none⟩) (Kd.R_types HO341.out BK303.out (by decide)) (fun _ hk => hk.2) (.slice Ao44 y339.length co44)) (fun _ hk => trivial)⟩, ⟨by (with_reducible repeat (first | refine blk_drewN ?_ _ | refine blk_drew ?_ | refine blk_alloc ?_ _)); refine blk_far ?_ NB294_303.out _; (with_reducible repeat (first | refine blk_drewN ?_ _ | refine blk_drew ?_ | refine blk_alloc ?_ _)); exact BK294.out⟩, ⟨by (with_reducible repeat (first | refine blk_drewN ?_ _ | refine blk_drew ?_ | refine blk_alloc ?_ _)); refine blk_put (cs := #[.int .i64 t299, u304001, u304002]) ?_ 2 _ rfl; (with_reducible repeat (first | refine blk_drewN ?_ _ | refine blk_drew ?_ | refine blk_alloc ?_ _)); exact BK303.out⟩, ⟨by repeat (first | (with_reducible first | exact HI298.out | apply IsS129.alloc | apply IsS129.drewN | apply IsS129.drew | apply IsS129.set_0 | apply IsS129.set_1 | apply IsS129.set_2 | refine IsS129.far ?_ NB298_294.out _ | refine IsS129.far ?_ NB298_303.out _ | refine IsS129.far ?_ NB298_326.out _) | exact HI298.out)⟩, ⟨by repeat (first | (with_reducible first | exact HB.out | apply below_alloc | apply pw_below_drewN | apply below_drew1 | refine below_set ?_ (IsS129.ge HI298.out) | refine below_set ?_ GE294.out | refine below_set ?_ GE303.out | refine below_set ?_ GE326.out) | exact HB.out)⟩⟩
       ·rw [if_neg c29] at H
        exact absurd H (by simp)
      ·rw [if_neg c25] at H
       have c25b0 : decide (x27_2 < t322) = false := decide_eq_false c25
       clear c25
       replace H := Option.bind_eq_some_iff.mp H
       obtain ⟨⟨t342, t343, t344, t345⟩, A460, H⟩ := H
       replace H : (if t342 = 0 then (some (t299, x304001_1, x304002_2, 0)) else (some (0, ([] : List (S45)), ([] : List (S27)), t342))) = some (r1, r2, r3, r4) := H
       have A46 := Aside0.mk A460
       clear A460
       by_cases c47 : t342 = 0
       ·rw [if_pos c47] at H
        have c47b0 : (t342 == 0) = true := beq_iff_eq.mpr c47
        have c47b1 : (t342 != 0) = false := bne_eq_false_iff_eq.mpr c47
        clear c47
        simp only [Option.some.injEq, Prod.mk.injEq] at H
        obtain ⟨rfl, rfl, rfl, rfl⟩ := H
        go_wp2_with (first | ((with_reducible refine gate_callee (f := 69) rfl ?_); refine goesL_ (some 46) rfl rfl Tryd.func69 (by kernel_rfl) rfl #[.pointer (some ⟨g298, 0, none⟩)] rfl (by (try simp only [List.map_toArray, List.map_cons, List.map_nil]); first | done | rfl | (simp only [List.length_drop, List.length_take]; rfl)) ?_; (with_reducible refine (pack_Reader_End.calls g298 x299000_2 x299001_2 x299002_2 t342 t343 t344 t345 w _ ?side1 ?side2 A46.out).mono ?_); (case side1 => repeat (first | (with_reducible first | exact HI298.out | apply IsS129.alloc | apply IsS129.drewN | apply IsS129.drew | apply IsS129.set_0 | apply IsS129.set_1 | apply IsS129.set_2 | refine IsS129.far ?_ NB298_294.out _ | refine IsS129.far ?_ NB298_303.out _) | exact HI298.out)); (case side2 => repeat (first | (with_reducible first | exact HB.out | apply below_alloc | apply pw_below_drewN | apply below_drew1 | refine below_set ?_ (IsS129.ge HI298.out) | refine below_set ?_ GE294.out | refine below_set ?_ GE303.out) | exact HB.out)); rintro e w48 ⟨rfl, hi, hb, hk⟩; refine ⟨_, rfl, ?_⟩; have n0_ := Aside0.mk (Kd.R_mono (Kd.R_keep (IsS129.apart (show IsS129 w _ g298 x299000_2 x299001_2 x299002_2 from by repeat (first | (with_reducible first | exact HI298.out | apply IsS129.alloc | apply IsS129.drewN | apply IsS129.drew | apply IsS129.set_0 | apply IsS129.set_1 | apply IsS129.set_2 | refine IsS129.far ?_ NB298_294.out _ | refine IsS129.far ?_ NB298_303.out _) | exact HI298.out)) (by (with_reducible repeat (first | apply Kd.R_alloc | apply Kd.R_drewN | apply Kd.R_drew)); exact HO_304001.out) (by decide)) hk (fun _ h => h.2)) (fun _ h => h.1)); have n1_ := Aside0.mk (Kd.R_mono (Kd.R_keep (IsS129.apart (show IsS129 w _ g298 x299000_2 x299001_2 x299002_2 from by repeat (first | (with_reducible first | exact HI298.out | apply IsS129.alloc | apply IsS129.drewN | apply IsS129.drew | apply IsS129.set_0 | apply IsS129.set_1 | apply IsS129.set_2 | refine IsS129.far ?_ NB298_294.out _ | refine IsS129.far ?_ NB298_303.out _) | exact HI298.out)) (by (with_reducible repeat (first | apply Kd.R_alloc | apply Kd.R_drewN | apply Kd.R_drew)); exact HO_304002.out) (by decide)) hk (fun _ h => h.2)) (fun _ h => h.1)); have n2_ := Aside0.mk (KeepBut.blk hk (g' := gb294) (o := .cells #[.int .i64 0, .slice none 0 0, .slice none 0 0] 25 (0, 0)) (by (with_reducible repeat (first | refine blk_drewN ?_ _ | refine blk_drew ?_ | refine blk_alloc ?_ _)); exact BK294.out) NB294_298.out (by simp)); have n3_ := Aside0.mk (KeepBut.blk hk (g' := gb303) (o := .cells #[.int .i64 t299, u304001, u304002] 25 (0, 0)) (by (with_reducible repeat (first | refine blk_drewN ?_ _ | refine blk_drew ?_ | refine blk_alloc ?_ _)); exact BK303.out) NB303_298.out (by simp)); have n4_ := Aside0.mk (hb); have n5_ := Aside0.mk (hi); clear HO_304001; clear HO_304002; clear BK294; clear BK303; clear HB; clear HI298; have HO_304001 := n0_; have HO_304002 := n1_; have BK294 := n2_; have BK303 := n3_; have HB := n4_; have HI298 := n5_; clear n0_ n1_ n2_ n3_ n4_ n5_; (try clear hb); (try clear hb2); (try clear hk); (try clear hi); have hnb49 := NB303_294.out; have hnc49 := NB294_303.out; have hnb50 := NB303_298.out; have hnc50 := NB298_303.out; have hcz51_0 : w48.cell? ⟨gb303, 0, none⟩ = some (.int .i64 t299) := (blk_cell BK303.out 0).trans rfl; have hcz51_1 : w48.cell? ⟨gb303, 1, none⟩ = some (u304001) := (blk_cell BK303.out 1).trans rfl; have hcz51_2 : w48.cell? ⟨gb303, 2, none⟩ = some (u304002) := (blk_cell BK303.out 2).trans rfl; have hfz51_0 := blk_frozen BK303.out 0; have hfz51_1 := blk_frozen BK303.out 1; have hfz51_2 := blk_frozen BK303.out 2; have hnb52 := NB294_298.out; have hnc52 := NB298_294.out; have hcz53_0 : w48.cell? ⟨gb294, 0, none⟩ = some (.int .i64 0) := (blk_cell BK294.out 0).trans rfl; have hcz53_1 : w48.cell? ⟨gb294, 1, none⟩ = some (.slice none 0 0) := (blk_cell BK294.out 1).trans rfl; have hcz53_2 : w48.cell? ⟨gb294, 2, none⟩ = some (.slice none 0 0) := (blk_cell BK294.out 2).trans rfl; have hfz53_0 := blk_frozen BK294.out 0; have hfz53_1 := blk_frozen BK294.out 1; have hfz53_2 := blk_frozen BK294.out 2; obtain ⟨Ao54, co54, eo54⟩ := Kd.R_slice HO_304001.out; subst eo54; obtain ⟨Ao55, co55, eo55⟩ := Kd.R_slice HO_304002.out; subst eo55))
        refine bodyPost_ret (results_ct rfl _ _ gb294 25 #[.int .i64 t299, .slice Ao54 x304001_1.length co54, .slice Ao55 x304002_2.length co55] (0, 0) _ rfl (by (with_reducible repeat (first | refine blk_drewN ?_ _ | refine blk_drew ?_ | refine blk_alloc ?_ _)); refine blk_put (cs := #[.int .i64 t299, .slice Ao54 x304001_1.length co54, .slice none 0 0]) ?_ 2 _ rfl; (with_reducible repeat (first | refine blk_drewN ?_ _ | refine blk_drew ?_ | refine blk_alloc ?_ _)); refine blk_put (cs := #[.int .i64 t299, .slice none 0 0, .slice none 0 0]) ?_ 1 _ rfl; (with_reducible repeat (first | refine blk_drewN ?_ _ | refine blk_drew ?_ | refine blk_alloc ?_ _)); refine blk_put (cs := #[.int .i64 0, .slice none 0 0, .slice none 0 0]) ?_ 0 _ rfl; (with_reducible repeat (first | refine blk_drewN ?_ _ | refine blk_drew ?_ | refine blk_alloc ?_ _)); exact BK294.out) Tryd.underlying25 rfl (by kernel_rfl)) rfl ?_
        exact ⟨_, _, by first | rfl | (simp [errW_none, errW_some] <;> rfl) | (simp [*, errW_none, errW_some] <;> rfl), by (with_reducible repeat (first | apply Kd.R_alloc | apply Kd.R_drewN | apply Kd.R_drew)); exact Kd.R_mono (Kd.R_far (p := ⟨gb294, 2, none⟩) (Kd.R_far (p := ⟨gb294, 1, none⟩) (Kd.R_far (p := ⟨gb294, 0, none⟩) (Kd.R_types HO_304001.out BK294.out (by decide)) (fun _ hk => hk.2) (.int .i64 t299)) (fun _ hk => hk.2) (.slice Ao54 x304001_1.length co54)) (fun _ hk => hk.2) (.slice Ao55 x304002_2.length co55)) (fun _ hk => trivial), by (with_reducible repeat (first | apply Kd.R_alloc | apply Kd.R_drewN | apply Kd.R_drew)); exact Kd.R_mono (Kd.R_far (p := ⟨gb294, 2, none⟩) (Kd.R_far (p := ⟨gb294, 1, none⟩) (Kd.R_far (p := ⟨gb294, 0, none⟩) (Kd.R_types HO_304002.out BK294.out (by decide)) (fun _ hk => hk.2) (.int .i64 t299)) (fun _ hk => hk.2) (.slice Ao54 x304001_1.length co54)) (fun _ hk => hk.2) (.slice Ao55 x304002_2.length co55)) (fun _ hk => trivial), by repeat (first | (with_reducible first | exact HB.out | apply below_alloc | apply pw_below_drewN | apply below_drew1 | refine below_set ?_ (IsS129.ge HI298.out) | refine below_set ?_ GE294.out | refine below_set ?_ GE303.out) | exact HB.out)⟩
       ·rw [if_neg c47] at H
        have c47b0 : (t342 == 0) = false := beq_eq_false_iff_ne.mpr c47
        have c47b1 : (t342 != 0) = true := bne_iff_ne.mpr c47
        simp only [Option.some.injEq, Prod.mk.injEq] at H
        obtain ⟨rfl, rfl, rfl, rfl⟩ := H
        go_wp2_with (first | ((with_reducible refine gate_callee (f := 69) rfl ?_); refine goesL_ (some 46) rfl rfl Tryd.func69 (by kernel_rfl) rfl #[.pointer (some ⟨g298, 0, none⟩)] rfl (by (try simp only [List.map_toArray, List.map_cons, List.map_nil]); first | done | rfl | (simp only [List.length_drop, List.length_take]; rfl)) ?_; (with_reducible refine (pack_Reader_End.calls g298 x299000_2 x299001_2 x299002_2 t342 t343 t344 t345 w _ ?side1 ?side2 A46.out).mono ?_); (case side1 => repeat (first | (with_reducible first | exact HI298.out | apply IsS129.alloc | apply IsS129.drewN | apply IsS129.drew | apply IsS129.set_0 | apply IsS129.set_1 | apply IsS129.set_2 | refine IsS129.far ?_ NB298_294.out _ | refine IsS129.far ?_ NB298_303.out _) | exact HI298.out)); (case side2 => repeat (first | (with_reducible first | exact HB.out | apply below_alloc | apply pw_below_drewN | apply below_drew1 | refine below_set ?_ (IsS129.ge HI298.out) | refine below_set ?_ GE294.out | refine below_set ?_ GE303.out) | exact HB.out)); rintro e w56 ⟨rfl, hi, hb, hk⟩; refine ⟨_, rfl, ?_⟩; have n0_ := Aside0.mk (Kd.R_mono (Kd.R_keep (IsS129.apart (show IsS129 w _ g298 x299000_2 x299001_2 x299002_2 from by repeat (first | (with_reducible first | exact HI298.out | apply IsS129.alloc | apply IsS129.drewN | apply IsS129.drew | apply IsS129.set_0 | apply IsS129.set_1 | apply IsS129.set_2 | refine IsS129.far ?_ NB298_294.out _ | refine IsS129.far ?_ NB298_303.out _) | exact HI298.out)) (by (with_reducible repeat (first | apply Kd.R_alloc | apply Kd.R_drewN | apply Kd.R_drew)); exact HO_304001.out) (by decide)) hk (fun _ h => h.2)) (fun _ h => h.1)); have n1_ := Aside0.mk (Kd.R_mono (Kd.R_keep (IsS129.apart (show IsS129 w _ g298 x299000_2 x299001_2 x299002_2 from by repeat (first | (with_reducible first | exact HI298.out | apply IsS129.alloc | apply IsS129.drewN | apply IsS129.drew | apply IsS129.set_0 | apply IsS129.set_1 | apply IsS129.set_2 | refine IsS129.far ?_ NB298_294.out _ | refine IsS129.far ?_ NB298_303.out _) | exact HI298.out)) (by (with_reducible repeat (first | apply Kd.R_alloc | apply Kd.R_drewN | apply Kd.R_drew)); exact HO_304002.out) (by decide)) hk (fun _ h => h.2)) (fun _ h => h.1)); have n2_ := Aside0.mk (KeepBut.blk hk (g' := gb294) (o := .cells #[.int .i64 0, .slice none 0 0, .slice none 0 0] 25 (0, 0)) (by (with_reducible repeat (first | refine blk_drewN ?_ _ | refine blk_drew ?_ | refine blk_alloc ?_ _)); exact BK294.out) NB294_298.out (by simp)); have n3_ := Aside0.mk (KeepBut.blk hk (g' := gb303) (o := .cells #[.int .i64 t299, u304001, u304002] 25 (0, 0)) (by (with_reducible repeat (first | refine blk_drewN ?_ _ | refine blk_drew ?_ | refine blk_alloc ?_ _)); exact BK303.out) NB303_298.out (by simp)); have n4_ := Aside0.mk (hb); have n5_ := Aside0.mk (hi); clear HO_304001; clear HO_304002; clear BK294; clear BK303; clear HB; clear HI298; have HO_304001 := n0_; have HO_304002 := n1_; have BK294 := n2_; have BK303 := n3_; have HB := n4_; have HI298 := n5_; clear n0_ n1_ n2_ n3_ n4_ n5_; (try clear hb); (try clear hb2); (try clear hk); (try clear hi); have hnb57 := NB294_303.out; have hnc57 := NB303_294.out; have hnb58 := NB294_298.out; have hnc58 := NB298_294.out; have hcz59_0 : w56.cell? ⟨gb294, 0, none⟩ = some (.int .i64 0) := (blk_cell BK294.out 0).trans rfl; have hcz59_1 : w56.cell? ⟨gb294, 1, none⟩ = some (.slice none 0 0) := (blk_cell BK294.out 1).trans rfl; have hcz59_2 : w56.cell? ⟨gb294, 2, none⟩ = some (.slice none 0 0) := (blk_cell BK294.out 2).trans rfl; have hfz59_0 := blk_frozen BK294.out 0; have hfz59_1 := blk_frozen BK294.out 1; have hfz59_2 := blk_frozen BK294.out 2))
        refine bodyPost_ret (results_ct rfl _ _ gb294 25 #[.int .i64 0, .slice none 0 0, .slice none 0 0] (0, 0) _ rfl (by (with_reducible repeat (first | refine blk_drewN ?_ _ | refine blk_drew ?_ | refine blk_alloc ?_ _)); refine blk_put (cs := #[.int .i64 0, .slice none 0 0, .slice none 0 0]) ?_ 2 _ rfl; (with_reducible repeat (first | refine blk_drewN ?_ _ | refine blk_drew ?_ | refine blk_alloc ?_ _)); refine blk_put (cs := #[.int .i64 0, .slice none 0 0, .slice none 0 0]) ?_ 1 _ rfl; (with_reducible repeat (first | refine blk_drewN ?_ _ | refine blk_drew ?_ | refine blk_alloc ?_ _)); refine blk_put (cs := #[.int .i64 0, .slice none 0 0, .slice none 0 0]) ?_ 0 _ rfl; (with_reducible repeat (first | refine blk_drewN ?_ _ | refine blk_drew ?_ | refine blk_alloc ?_ _)); exact BK294.out) Tryd.underlying25 rfl (by kernel_rfl)) rfl ?_
        exact ⟨_, _, by first | rfl | (simp [errW_none, errW_some] <;> rfl) | (simp [*, errW_none, errW_some] <;> rfl), by first | exact Kd.R_nil _ _ _ _ _ | exact Kd.N_nil _ _ _ _ _ | exact Kd.V_nil _ _ _ _ _ | exact Kd.Q_nil _ _ _ _ _ | exact Kd.S_nil _ _ _ _ _, by first | exact Kd.R_nil _ _ _ _ _ | exact Kd.N_nil _ _ _ _ _ | exact Kd.V_nil _ _ _ _ _ | exact Kd.Q_nil _ _ _ _ _ | exact Kd.S_nil _ _ _ _ _, by repeat (first | (with_reducible first | exact HB.out | apply below_alloc | apply pw_below_drewN | apply below_drew1 | refine below_set ?_ (IsS129.ge HI298.out) | refine below_set ?_ GE294.out | refine below_set ?_ GE303.out) | exact HB.out)⟩
end Go.Proofs.YtefdfgmlmjnmlaaDoor.Rf
end

section
set_option linter.unusedSimpArgs false
set_option linter.unusedVariables false
namespace Go.Proofs.YtefdfgmlmjnmlaaDoor.My
open Go.RowKit Go.Proofs.YtefdfgmlmjnmlaaDoorW.PrintWords Go.Proofs.YtefdfgmlmjnmlaaDoorW.PrintMore Go.Proofs.YtefdfgmlmjnmlaaDoor.Rf
abbrev LL (b : ByteArray) (i : Nat) : List UInt8 := b.data.toList.drop i
/-- From place a (a fault noted or not) to place a': no new fault means that P holds and l was read. -/
def RdP (b : ByteArray) (a : Nat) (x : Bool) (a' : Nat) (x' : Bool) (P : Prop) (l : List UInt8) : Prop :=
  a' ≤ b.size ∧ (x' = false → x = false ∧ P ∧ LL b a = l ++ LL b a')
theorem RdP.fault {b : ByteArray} {a a' : Nat} {x : Bool} {P : Prop} {l : List UInt8} (h : a' ≤ b.size) : RdP b a x a' true P l := ⟨h, fun h => by cases h⟩
theorem RdP.trans {b : ByteArray} {a a1 a2 : Nat} {x x1 x2 : Bool} {P Q : Prop} {l m : List UInt8} (h : RdP b a x a1 x1 P l) (k : RdP b a1 x1 a2 x2 Q m) : RdP b a x a2 x2 (P ∧ Q) (l ++ m) :=
  ⟨k.1, fun h2 => by
    obtain ⟨e1, q, e2⟩ := k.2 h2
    obtain ⟨f1, p, f2⟩ := h.2 e1
    exact ⟨f1, ⟨p, q⟩, by rw [f2, e2, List.append_assoc]⟩⟩
theorem RdP.imp {b : ByteArray} {a a1 : Nat} {x x1 : Bool} {P Q : Prop} {l m : List UInt8} (h : RdP b a x a1 x1 P l) (f : P → Q) (e : P → l = m) : RdP b a x a1 x1 Q m :=
  ⟨h.1, fun h2 => by obtain ⟨e1, p, e2⟩ := h.2 h2; exact ⟨e1, f p, (e p) ▸ e2⟩⟩
theorem pow7 (i : Nat) : 2 ^ (7 * (i + 1)) = 2 ^ (7 * i) * 128 := by
  rw [show 7 * (i + 1) = 7 * i + 7 by omega, Nat.pow_add]
theorem u64_small {n : Nat} (h : n < 18446744073709551616) : IntKind.u64.wrap (n : Int) = (n : Int) := by rw [u64w]; omega
theorem pw9 {i : Nat} (h : i ≤ 9) : 2 ^ (7 * i) ≤ 9223372036854775808 := Nat.le_trans (Nat.pow_le_pow_right (by decide) (show 7 * i ≤ 63 by omega)) (by decide)
theorem pw8 {i : Nat} (h : i ≤ 8) : 2 ^ (7 * i) ≤ 72057594037927936 := Nat.le_trans (Nat.pow_le_pow_right (by decide) (show 7 * i ≤ 56 by omega)) (by decide)
theorem or_shl (u p i P : Nat) (hP : P = 2 ^ (7 * i)) (hi : i ≤ 9) (hu : u < P) (hp : p * P < 18446744073709551616) (hb : u < 18446744073709551616) :
    Go.bits .or .u64 (u : Int) (shl .u64 (p : Int) ((7 * i : Nat) : Int)) = ((u + p * P : Nat) : Int) := by
  subst hP
  have e1 : shl .u64 (p : Int) ((7 * i : Nat) : Int) = ((p * 2 ^ (7 * i) : Nat) : Int) := by
    unfold shl
    have : min ((7 * i : Nat) : Int).toNat IntKind.u64.bits = 7 * i := by
      simp only [IntKind.bits, Int.toNat_natCast]; omega
    rw [this]
    have : (p : Int) * 2 ^ (7 * i) = ((p * 2 ^ (7 * i) : Nat) : Int) := by push_cast; rfl
    rw [this, u64_small hp]
  rw [e1, (bits_nat .u64 64 (by decide) (fun n h0 h1 => by rw [u64w]; omega) u (p * 2 ^ (7 * i)) (by simpa using hb) (by simpa using hp)).2]
  congr 1
  rw [Nat.mul_comm p, Nat.or_comm, ← Nat.two_pow_add_eq_or_of_lt hu, Nat.add_comm]
theorem and127 (c : UInt8) : Go.bits .and .u8 (c.toNat : Int) 127 = ((c.toNat % 128 : Nat) : Int) := by
  have h := bits_mask .u8 8 (by decide) wraps_u8 7 (by decide) (c.toNat : Int) (by omega) (by have := c.toNat_lt; omega)
  simpa using h
theorem xor_i64_0 (x : Nat) (h : x < 9223372036854775808) : Go.bits .xor .i64 (x : Int) 0 = (x : Int) := by
  have e : (BitVec.ofInt 64 0) = 0#64 := by decide
  have e2 : BitVec.ofInt 64 (x : Int) = BitVec.ofNat 64 x := BitVec.ofInt_natCast 64 x
  show IntKind.i64.wrap (((BitVec.ofInt 64 (x : Int)) ^^^ (BitVec.ofInt 64 0)).toNat : Int) = _
  rw [e, e2, BitVec.xor_zero, BitVec.toNat_ofNat, Nat.mod_eq_of_lt (by omega), IntKind.wrap_i64]
  omega
theorem xor_i64_m (x : Nat) (h : x < 9223372036854775808) : Go.bits .xor .i64 (x : Int) (-1) = -(x : Int) - 1 := by
  have e : (BitVec.ofInt 64 (-1)) = BitVec.allOnes 64 := by decide
  have e2 : BitVec.ofInt 64 (x : Int) = BitVec.ofNat 64 x := BitVec.ofInt_natCast 64 x
  show IntKind.i64.wrap (((BitVec.ofInt 64 (x : Int)) ^^^ (BitVec.ofInt 64 (-1))).toNat : Int) = _
  rw [e, e2, BitVec.xor_allOnes, BitVec.toNat_not, BitVec.toNat_ofNat, Nat.mod_eq_of_lt (by omega), IntKind.wrap_i64]
  omega
theorem zag_ev (u : Nat) (hu : u < 18446744073709551616) : ∃ n, pack_zag.f (u : Int) = some n ∧ I64 n ∧ plainN n = u := by
  have h1 : Go.bits .and .u64 (u : Int) 1 = ((u % 2 : Nat) : Int) := by
    have h := bits_mask .u64 64 (by decide) (fun n h0 h1 => by rw [u64w]; omega) 1 (by decide) (u : Int) (by omega) (by omega)
    simpa using h
  have h2 : wrap64 ((u : Int) / 2) = ((u / 2 : Nat) : Int) := by unfold wrap64; omega
  unfold pack_zag.f
  rw [h1, h2]
  rcases Nat.mod_two_eq_zero_or_one u with h | h
  · rw [h]
    have : wrap64 (-(wrap64 ((0 : Nat) : Int))) = 0 := by unfold wrap64; omega
    rw [this, xor_i64_0 _ (by omega)]
    refine ⟨_, rfl, ⟨by omega, by omega⟩, ?_⟩
    unfold plainN; rw [if_pos (by omega)]; omega
  · rw [h]
    have : wrap64 (-(wrap64 ((1 : Nat) : Int))) = -1 := by unfold wrap64; omega
    rw [this, xor_i64_m _ (by omega)]
    refine ⟨_, rfl, ⟨by omega, by omega⟩, ?_⟩
    unfold plainN; rw [if_neg (by omega)]; omega
theorem LL_at {b : ByteArray} {i : Nat} (h : i < b.size) : LL b i = b[i]'h :: LL b (i + 1) := by
  have h' : i < b.data.toList.length := by rw [data_len]; exact h
  show b.data.toList.drop i = _
  rw [List.drop_eq_getElem_cons h']
  congr 1
theorem u8_ofNat (c : UInt8) : UInt8.ofNat c.toNat = c := by simp
set_option maxHeartbeats 4000000 in
theorem int_loop (b : ByteArray) (hb : b.size ≤ 4611686018427387904) (a0 : Nat) : ∀ d i (u : Nat) (cs : List UInt8), i + d = 10 → a0 + i ≤ b.size → u < 2 ^ (7 * i) → LL b a0 = cs ++ LL b (a0 + i) →
    (∀ v : Nat, (0 < i → 0 < v) → encU (u + v * 2 ^ (7 * i)) = cs ++ encU v) →
    ∃ (n : Int) (a' : Nat) (x' : Bool), Ev (fun k => pack_Reader_Int.l0 k (u : Int) (i : Int) b ((a0 + i : Nat) : Int) false) (n, b, (a' : Int), x') ∧ I64 n ∧ (x' = true → n = 0) ∧ RdP b a0 false a' x' True (encI n) := by
  intro d
  induction d with
  | zero =>
    intro i u cs hi ha hu hc he
    refine ⟨0, a0 + i, true, ?_, ⟨by omega, by omega⟩, fun _ => rfl, RdP.fault ha⟩
    refine Ev.step (f := fun _ => some (0, b, ((a0 + i : Nat) : Int), true)) (fun k => ?_) (Ev.now _)
    simp only [pack_Reader_Int.l0]
    rw [if_neg (by omega)]
    rfl
  | succ d ih =>
    intro i u cs hi ha hu hc he
    obtain ⟨P, hP⟩ : ∃ P, P = 2 ^ (7 * i) := ⟨_, rfl⟩
    have hP9 : P ≤ 9223372036854775808 := by rw [hP]; exact pw9 (show i ≤ 9 by omega)
    have hP8 : i ≤ 8 → P ≤ 72057594037927936 := fun h => by rw [hP]; exact pw8 h
    have HPn : Aside0 (2 ^ (7 * (i + 1)) = P * 128) := ⟨by rw [pow7, hP]⟩
    rw [← hP] at hu
    simp only [← hP] at he
    have HP := Aside0.mk hP
    clear hP
    by_cases hend : a0 + i = b.size
    · refine ⟨0, a0 + i, true, ?_, ⟨by omega, by omega⟩, fun _ => rfl, RdP.fault ha⟩
      refine Ev.step (f := fun _ => some (0, b, ((a0 + i : Nat) : Int), true)) (fun k => ?_) (Ev.now _)
      simp only [pack_Reader_Int.l0]
      rw [if_pos (by omega), if_pos (by omega)]
      rfl
    · have hlt : a0 + i < b.size := by omega
      have hbt0 := bt_nat b (a0 + i) hlt
      have hL := LL_at hlt
      generalize hcc : b[a0 + i]'hlt = c at hbt0 hL
      have hbt := Aside0.mk hbt0
      clear hbt0
      have hc8 := c.toNat_lt
      have hw : Aside0 (wrap64 (((a0 + i : Nat) : Int) + 1) = ((a0 + (i + 1) : Nat) : Int)) := ⟨by unfold wrap64; omega⟩
      have hw7 : Aside0 (wrap64 (7 * (i : Int)) = ((7 * i : Nat) : Int)) := ⟨by unfold wrap64; omega⟩
      have hwi : Aside0 (wrap64 ((i : Int) + 1) = ((i + 1 : Nat) : Int)) := ⟨by unfold wrap64; omega⟩
      have hfail : ∀ q : Bool, q = true → ∀ y14 : Int, Ev (fun k => pack_Reader_Int.j1 k (u : Int) (i : Int) (c.toNat : Int) y14 q b ((a0 + (i + 1) : Nat) : Int) false) (0, b, ((a0 + (i + 1) : Nat) : Int), true) := by
        intro q hq y14
        refine Ev.step (f := fun _ => some (0, b, ((a0 + (i + 1) : Nat) : Int), true)) (fun k => ?_) (Ev.now _)
        simp only [pack_Reader_Int.j1]
        rw [if_pos hq]
        rfl
      -- the flag
      by_cases hq : i = 9 ∧ 1 < c.toNat
      · refine ⟨0, a0 + (i + 1), true, ?_, ⟨by omega, by omega⟩, fun _ => rfl, RdP.fault (by omega)⟩
        refine Ev.step (fun k => ?_) (hfail (decide ((c.toNat : Int) > 1)) (decide_eq_true (by omega)) (i : Int))
        simp only [pack_Reader_Int.l0]
        rw [if_pos (by omega), if_neg (by omega), if_pos (by omega), if_pos (by omega), if_pos (by omega), hbt.out, hw.out]
      · have hl0 : ∀ r, Ev (fun k => pack_Reader_Int.j1 k (u : Int) (i : Int) (c.toNat : Int) (i : Int) false b ((a0 + (i + 1) : Nat) : Int) false) r → Ev (fun k => pack_Reader_Int.l0 k (u : Int) (i : Int) b ((a0 + i : Nat) : Int) false) r := by
          intro r hr
          refine Ev.step (fun k => ?_) hr
          simp only [pack_Reader_Int.l0]
          rw [if_pos (by omega), if_neg (by omega), if_pos (by omega), if_pos (by omega), hbt.out, hw.out]
          by_cases h9 : (i : Int) = 9
          · rw [if_pos h9, decide_eq_false (by omega)]
          · rw [if_neg h9]
        have hp : (c.toNat % 128) * P < 18446744073709551616 := by
          by_cases h9 : i = 9
          · have h1 : (c.toNat % 128) * P ≤ 1 * P := Nat.mul_le_mul_right _ (by omega)
            omega
          · have h1 : (c.toNat % 128) * P ≤ 127 * P := Nat.mul_le_mul_right _ (by omega)
            have := hP8 (by omega)
            omega
        have hor := Aside0.mk (or_shl u (c.toNat % 128) i P HP.out (by omega) hu hp (by omega))
        have hacc : Aside0 (Go.bits .or .u64 (u : Int) (shl .u64 (IntKind.u64.wrap (Go.bits .and .u8 (c.toNat : Int) 127)) (wrap64 (7 * (i : Int)))) = ((u + c.toNat % 128 * P : Nat) : Int)) := ⟨by
          rw [and127, u64_small (by omega), hw7.out, hor.out]⟩
        by_cases hsm : c.toNat < 128
        · have hmod : c.toNat % 128 = c.toNat := Nat.mod_eq_of_lt hsm
          have hacc := Aside0.mk (hmod ▸ hacc.out)
          rw [hmod] at hp
          by_cases hz : c.toNat = 0 ∧ 0 < i
          · refine ⟨0, a0 + (i + 1), true, ?_, ⟨by omega, by omega⟩, fun _ => rfl, RdP.fault (by omega)⟩
            refine hl0 _ (Ev.step (fun k => ?_) (Ev.step (g := fun k => pack_Reader_Int.j2 k ((u + c.toNat * P : Nat) : Int) (decide ((i : Int) > 0)) b ((a0 + (i + 1) : Nat) : Int) false) (f := fun _ => some (0, b, ((a0 + (i + 1) : Nat) : Int), true)) (fun k => ?_) (Ev.now _)))
            · simp only [pack_Reader_Int.j1]
              rw [if_neg (by decide), if_pos (by rw [hw7.out]; omega), if_pos (by omega), if_pos (by omega), hacc.out]
            · simp only [pack_Reader_Int.j2]
              rw [if_pos (decide_eq_true (by omega))]
              rfl
          · have hU : u + c.toNat * P < 18446744073709551616 := by
              by_cases h9 : i = 9
              · have h1 : c.toNat * P ≤ 1 * P := Nat.mul_le_mul_right _ (by omega)
                omega
              · have h1 : c.toNat * P ≤ 127 * P := Nat.mul_le_mul_right _ (by omega)
                have := hP8 (by omega)
                omega
            obtain ⟨n, hz1, hz2, hz3⟩ := zag_ev _ hU
            have henc : encI n = cs ++ [c] := by
              unfold encI
              rw [hz3, he c.toNat (by omega), encU_small hsm, u8_ofNat]
            have hfin : ∀ q : Bool, q = false → Ev (fun k => pack_Reader_Int.j2 k ((u + c.toNat * P : Nat) : Int) q b ((a0 + (i + 1) : Nat) : Int) false) (n, b, ((a0 + (i + 1) : Nat) : Int), false) := by
              intro q hq
              refine Ev.step (f := fun _ => some (n, b, ((a0 + (i + 1) : Nat) : Int), false)) (fun k => ?_) (Ev.now _)
              simp only [pack_Reader_Int.j2]
              rw [if_neg (by rw [hq]; decide), hz1]
              rfl
            refine ⟨n, a0 + (i + 1), false, ?_, hz2, fun h => by (cases h), by omega, fun _ => ⟨rfl, trivial, ?_⟩⟩
            · by_cases h0 : c.toNat = 0
              · refine hl0 _ (Ev.step (fun k => ?_) (hfin (decide ((i : Int) > 0)) (decide_eq_false (by omega))))
                simp only [pack_Reader_Int.j1]
                rw [if_neg (by decide), if_pos (by rw [hw7.out]; omega), if_pos (by omega), if_pos (by omega), hacc.out]
              · refine hl0 _ (Ev.step (fun k => ?_) (hfin false rfl))
                simp only [pack_Reader_Int.j1]
                rw [if_neg (by decide), if_pos (by rw [hw7.out]; omega), if_pos (by omega), if_neg (by omega), hacc.out]
            · rw [henc, hc, hL, List.append_assoc]
              rfl
        · have hi8 : i ≤ 8 := by omega
          obtain ⟨n, a', x', h1, h2, h3, h4⟩ := ih (i + 1) (u + c.toNat % 128 * P) (cs ++ [c]) (by omega) (by omega) (by
            rw [HPn.out]
            have : c.toNat % 128 * P ≤ 127 * P := Nat.mul_le_mul_right _ (by omega)
            omega) (by rw [hc, hL, List.append_assoc]; rfl) (fun v hv => by
            have hv := hv (by omega)
            have e1 : u + c.toNat % 128 * P + v * 2 ^ (7 * (i + 1)) = u + (c.toNat % 128 + v * 128) * P := by
              rw [HPn.out, Nat.add_mul, Nat.mul_assoc v 128, Nat.mul_comm 128]; omega
            rw [e1, he _ (by omega), encU_big (by omega)]
            have e2 : 128 + (c.toNat % 128 + v * 128) % 128 = c.toNat := by omega
            have e3 : (c.toNat % 128 + v * 128) / 128 = v := by omega
            rw [e2, e3, u8_ofNat]
            simp)
          refine ⟨n, a', x', hl0 _ (Ev.step (fun k => ?_) h1), h2, h3, h4⟩
          simp only [pack_Reader_Int.j1]
          rw [if_neg (by decide), if_pos (by rw [hw7.out]; omega), if_neg (by omega), hacc.out, hwi.out]
theorem int_rd (b : ByteArray) (hb : b.size ≤ 4611686018427387904) (a : Nat) (ha : a ≤ b.size) (x : Bool) :
    ∃ (n : Int) (a' : Nat) (x' : Bool), Ev (fun k => pack_Reader_Int.f k b (a : Int) x) (n, b, (a' : Int), x') ∧ I64 n ∧ (x' = true → n = 0) ∧ RdP b a x a' x' True (encI n) := by
  cases x with
  | true => exact ⟨0, a, true, Ev.congr (fun k => by unfold pack_Reader_Int.f; rw [if_pos rfl]) (Ev.now _), ⟨by omega, by omega⟩, fun _ => rfl, RdP.fault ha⟩
  | false =>
    obtain ⟨n, a', x', h1, h2, h3, h4⟩ := int_loop b hb a 10 0 0 [] (by omega) (by omega) (by decide) (by simp) (fun v _ => by simp)
    exact ⟨n, a', x', Ev.congr (fun k => by unfold pack_Reader_Int.f; rw [if_neg (by decide)]; rfl) h1, h2, h3, h4⟩
end Go.Proofs.YtefdfgmlmjnmlaaDoor.My
end

section
set_option linter.unusedSimpArgs false
set_option linter.unusedVariables false
namespace Go.Proofs.YtefdfgmlmjnmlaaDoor.My
open Go.RowKit Go.Proofs.YtefdfgmlmjnmlaaDoorW.PrintWords Go.Proofs.YtefdfgmlmjnmlaaDoorW.PrintMore Go.Proofs.YtefdfgmlmjnmlaaDoor.Rf
theorem left_now {b : ByteArray} (hb : b.size ≤ 4611686018427387904) {a : Nat} (ha : a ≤ b.size) : wrap64 ((b.size : Int) - (a : Int)) = ((b.size - a : Nat) : Int) := by unfold wrap64; omega
theorem many_rd (b : ByteArray) (hb : b.size ≤ 4611686018427387904) (m : Int) (hm : m ≤ 1000) (a : Nat) (ha : a ≤ b.size) (x : Bool) :
    ∃ (n : Nat) (a' : Nat) (x' : Bool), Ev (fun k => pack_Reader_Many.f k b (a : Int) x m) ((n : Int), b, (a' : Int), x') ∧ n ≤ 1000 ∧ (x' = true → n = 0) ∧ RdP b a x a' x' ((n : Int) ≤ m) (encI (n : Int)) := by
  obtain ⟨n, a1, x1, h1, h2, h3, h4⟩ := int_rd b hb a ha x
  have hf : ∀ r, Ev (fun k => if x1 = true then some (0, b, (a1 : Int), x1) else if n < 0 then (pack_Reader_fail.f b (a1 : Int) x1).bind fun bt => some (bt.1, bt.2.1, bt.2.2.1, bt.2.2.2)
      else if n > m then (pack_Reader_fail.f b (a1 : Int) x1).bind fun bt => some (bt.1, bt.2.1, bt.2.2.1, bt.2.2.2)
      else if n > wrap64 ((b.size : Int) - (a1 : Int)) then (pack_Reader_fail.f b (a1 : Int) x1).bind fun bt => some (bt.1, bt.2.1, bt.2.2.1, bt.2.2.2) else some (n, b, (a1 : Int), x1)) r →
      Ev (fun k => pack_Reader_Many.f k b (a : Int) x m) r := fun r hr => Ev.congr (fun k => rfl) (Ev.bind h1 hr)
  have e0 : ∀ k : Nat, ((pack_Reader_fail.f b (a1 : Int) x1).bind fun bt => some (bt.1, bt.2.1, bt.2.2.1, bt.2.2.2)) = some ((0 : Int), b, (a1 : Int), true) := fun _ => rfl
  cases x1 with
  | true =>
    refine ⟨0, a1, true, hf _ (Ev.congr (fun k => if_pos rfl) (Ev.now _)), by omega, fun _ => rfl, RdP.fault h4.1⟩
  | false =>
    have fault : Ev (fun k => pack_Reader_Many.f k b (a : Int) x m) ((0 : Int), b, (a1 : Int), true) → ∃ (n : Nat) (a' : Nat) (x' : Bool), Ev (fun k => pack_Reader_Many.f k b (a : Int) x m) ((n : Int), b, (a' : Int), x') ∧ n ≤ 1000 ∧ (x' = true → n = 0) ∧ RdP b a x a' x' ((n : Int) ≤ m) (encI (n : Int)) :=
      fun h => ⟨0, a1, true, h, by omega, fun _ => rfl, RdP.fault h4.1⟩
    by_cases c1 : n < 0
    · exact fault (hf _ (Ev.congr (fun k => by rw [if_neg (by decide), if_pos c1, e0 k]) (Ev.now _)))
    · by_cases c2 : n > m
      · exact fault (hf _ (Ev.congr (fun k => by rw [if_neg (by decide), if_neg c1, if_pos c2, e0 k]) (Ev.now _)))
      · by_cases c3 : n > wrap64 ((b.size : Int) - (a1 : Int))
        · exact fault (hf _ (Ev.congr (fun k => by rw [if_neg (by decide), if_neg c1, if_neg c2, if_pos c3, e0 k]) (Ev.now _)))
        · obtain ⟨j, rfl⟩ : ∃ j : Nat, n = (j : Int) := ⟨n.toNat, by omega⟩
          exact ⟨j, a1, false, hf _ (Ev.congr (fun k => by rw [if_neg (by decide), if_neg c1, if_neg c2, if_neg c3]) (Ev.now _)), by omega, fun h => (by cases h), h4.imp (fun _ => by omega) (fun _ => rfl)⟩
theorem LL_cut {b : ByteArray} {a j : Nat} (h : a + j ≤ b.size) : LL b a = (b.extract a (a + j)).data.toList ++ LL b (a + j) := by
  have e : (b.extract a (a + j)).data.toList = (LL b a).take j := by
    simp only [ByteArray.data_extract, Array.toList_extract, LL, List.extract_eq_take_drop, Nat.add_sub_cancel_left]
  rw [e, LL, LL, ← List.drop_drop, List.take_append_drop]
theorem cut_size {b : ByteArray} {a j : Nat} (h : a + j ≤ b.size) : (b.extract a (a + j)).size = j := by
  simp only [ByteArray.size_extract]; omega
theorem str_rd (b : ByteArray) (hb : b.size ≤ 4611686018427387904) (a : Nat) (ha : a ≤ b.size) (x : Bool) :
    ∃ (s : ByteArray) (a' : Nat) (x' : Bool), Ev (fun k => pack_Reader_Str.f k b (a : Int) x) (s, b, (a' : Int), x') ∧ s.size ≤ b.size ∧ RdP b a x a' x' True (encS s) := by
  obtain ⟨n, a1, x1, h1, h2, h3, h4⟩ := int_rd b hb a ha x
  have ha1 := h4.1
  have hf : ∀ r, Ev (fun k => if x1 = true then some ((⟨#[]⟩ : ByteArray), b, (a1 : Int), x1) else if n < 0 then (pack_Reader_fail.f b (a1 : Int) x1).bind fun bt => some ((⟨#[]⟩ : ByteArray), bt.2.1, bt.2.2.1, bt.2.2.2)
      else if n > wrap64 ((b.size : Int) - (a1 : Int)) then (pack_Reader_fail.f b (a1 : Int) x1).bind fun bt => some ((⟨#[]⟩ : ByteArray), bt.2.1, bt.2.2.1, bt.2.2.2)
      else if 0 ≤ (a1 : Int) then if (a1 : Int) ≤ wrap64 ((a1 : Int) + n) then if wrap64 ((a1 : Int) + n) ≤ (b.size : Int) then some (b.extract (a1 : Int).toNat (wrap64 ((a1 : Int) + n)).toNat, b, wrap64 ((a1 : Int) + n), x1) else none else none else none) r →
      Ev (fun k => pack_Reader_Str.f k b (a : Int) x) r := fun r hr => Ev.congr (fun k => rfl) (Ev.bind h1 hr)
  have e0 : ∀ k : Nat, ((pack_Reader_fail.f b (a1 : Int) x1).bind fun bt => some ((⟨#[]⟩ : ByteArray), bt.2.1, bt.2.2.1, bt.2.2.2)) = some ((⟨#[]⟩ : ByteArray), b, (a1 : Int), true) := fun _ => rfl
  have z0 : (⟨#[]⟩ : ByteArray).size ≤ b.size := Nat.zero_le _
  cases x1 with
  | true => exact ⟨⟨#[]⟩, a1, true, hf _ (Ev.congr (fun k => if_pos rfl) (Ev.now _)), z0, RdP.fault ha1⟩
  | false =>
    by_cases c1 : n < 0
    · exact ⟨⟨#[]⟩, a1, true, hf _ (Ev.congr (fun k => by rw [if_neg (by decide), if_pos c1, e0 k]) (Ev.now _)), z0, RdP.fault ha1⟩
    · by_cases c3 : n > wrap64 ((b.size : Int) - (a1 : Int))
      · exact ⟨⟨#[]⟩, a1, true, hf _ (Ev.congr (fun k => by rw [if_neg (by decide), if_neg c1, if_pos c3, e0 k]) (Ev.now _)), z0, RdP.fault ha1⟩
      · obtain ⟨j, rfl⟩ : ∃ j : Nat, n = (j : Int) := ⟨n.toNat, by omega⟩
        have hj : a1 + j ≤ b.size := by rw [left_now hb ha1] at c3; omega
        have e1 : wrap64 ((a1 : Int) + (j : Int)) = ((a1 + j : Nat) : Int) := by unfold wrap64; omega
        refine ⟨b.extract a1 (a1 + j), a1 + j, false, hf _ (Ev.congr (fun k => by rw [if_neg (by decide), if_neg c1, if_neg c3, if_pos (by omega), e1, if_pos (by omega), if_pos (by omega)]; rfl) (Ev.now _)), by rw [cut_size hj]; omega, hj, fun _ => ?_⟩
        obtain ⟨q1, _, q2⟩ := h4.2 rfl
        refine ⟨q1, trivial, ?_⟩
        rw [q2, LL_cut hj, encS, cut_size hj, List.append_assoc]
theorem bool_rd (b : ByteArray) (hb : b.size ≤ 4611686018427387904) (a : Nat) (ha : a ≤ b.size) (x : Bool) :
    ∃ (v : Bool) (a' : Nat) (x' : Bool), Ev (fun k => pack_Reader_Bool.f k b (a : Int) x) (v, b, (a' : Int), x') ∧ RdP b a x a' x' True (encB v) := by
  obtain ⟨n, a1, x1, h1, h2, h3, h4⟩ := int_rd b hb a ha x
  have ha1 := h4.1
  by_cases c0 : n = 0
  · subst c0
    refine ⟨false, a1, x1, Ev.congr (fun k => rfl) (Ev.bind h1 (Ev.congr (fun k => if_pos rfl) (Ev.now _))), h4⟩
  · by_cases c1 : n = 1
    · subst c1
      refine ⟨true, a1, x1, Ev.congr (fun k => rfl) (Ev.bind h1 (Ev.congr (fun k => by rw [if_neg (show ¬((1 : Int) = 0) by decide), if_pos rfl]; rfl) (Ev.now _))), h4⟩
    · refine ⟨n == 1, a1, true, Ev.congr (fun k => rfl) (Ev.bind h1 (Ev.congr (fun k => by rw [if_neg c0, if_neg c1]; rfl) (Ev.now _))), RdP.fault ha1⟩
theorem val_rd (b : ByteArray) (hb : b.size ≤ 4611686018427387904) (a : Nat) (ha : a ≤ b.size) (x : Bool) :
    ∃ (v : S70) (a' : Nat) (x' : Bool), Ev (fun k => value_Take.f k b (a : Int) x) (v.f0, v.f1, v.f2, b, (a' : Int), x') ∧ RdP b a x a' x' (goodV v = true ∧ Q70 v) (encV v) := by
  obtain ⟨n0, a1, x1, h1, i1, _, r1⟩ := int_rd b hb a ha x
  obtain ⟨n1, a2, x2, h2, i2, _, r2⟩ := int_rd b hb a1 r1.1 x1
  obtain ⟨s, a3, x3, h3, i3, r3⟩ := str_rd b hb a2 r2.1 x2
  have hf : ∀ r, Ev (fun k => if goodV ⟨n0, n1, s⟩ = true then some (n0, n1, s, b, (a3 : Int), x3) else (pack_Reader_Many.f k b (a3 : Int) x3 (-1)).bind fun bt => some (0, 0, (⟨#[]⟩ : ByteArray), bt.2.1, bt.2.2.1, bt.2.2.2)) r → Ev (fun k => value_Take.f k b (a : Int) x) r :=
    fun r hr => Ev.congr (fun k => rfl) (Ev.bind h1 (Ev.bind h2 (Ev.bind h3 (Ev.congr (fun k => rfl) hr))))
  cases hg : goodV ⟨n0, n1, s⟩ with
  | true =>
    refine ⟨⟨n0, n1, s⟩, a3, x3, hf _ (Ev.congr (fun k => by rw [if_pos hg]) (Ev.now _)), ((r1.trans r2).trans r3).imp (fun _ => ⟨hg, i1, i2, by show s.size ≤ _; omega⟩) (fun _ => ?_)⟩
    simp [encV]
  | false =>
    obtain ⟨m, a4, x4, h4, _, _, r4⟩ := many_rd b hb (-1) (by omega) a3 r3.1 x3
    have hx4 : x4 = true := by
      cases x4 with
      | true => rfl
      | false => obtain ⟨_, p, _⟩ := r4.2 rfl; omega
    subst hx4
    exact ⟨⟨0, 0, ⟨#[]⟩⟩, a4, true, hf _ (Ev.congr (fun k => by rw [if_neg (by rw [hg]; decide)]) (Ev.bind h4 (Ev.now _))), RdP.fault r4.1⟩
inductive FitE : Nat → S72 → Prop
  | mk (d : Nat) (e : S72) (v : goodV e.f2 = true) (a : I64 e.f0) (b : I64 e.f1) (c : Q70 e.f2) (l : e.f3.length ≤ 2) (z : d = 0 → e.f3 = []) (h : ∀ x, x ∈ e.f3 → FitE (d - 1) x) : FitE d e
theorem take_l0 (b : ByteArray) (hb : b.size ≤ 4611686018427387904) (d n : Nat) (hn : n ≤ 1000) (hd : d < 1000) (z0 z1 z2 z3 : Int) (z4 : ByteArray)
    (h : ∀ (a : Nat) (x : Bool), a ≤ b.size → ∃ (e : S72) (a' : Nat) (x' : Bool), Ev (fun k => schema_take.f k b (a : Int) x (d : Int)) (e.f0, e.f1, e.f2.f0, e.f2.f1, e.f2.f2, e.f3, b, (a' : Int), x') ∧ RdP b a x a' x' (FitE d e) (encE e)) :
    ∀ m i (a : Nat) (x : Bool) (acc : List S72), i + m = n → acc.length ≤ i → a ≤ b.size →
      ∃ (l : List S72) (a' : Nat) (x' : Bool), Ev (fun k => schema_take.l0 k ((d + 1 : Nat) : Int) (n : Int) (i : Int) b (a : Int) x z0 z1 z2 z3 z4 acc) (z0, z1, z2, z3, z4, acc ++ l, b, (a' : Int), x') ∧ RdP b a x a' x' (l.length = m ∧ ∀ y, y ∈ l → FitE d y) (l.map encE).flatten := by
  intro m
  induction m with
  | zero =>
    intro i a x acc hi hacc ha
    refine ⟨[], a, x, ?_, ha, fun hx => ⟨hx, ⟨rfl, fun y hy => by cases hy⟩, rfl⟩⟩
    rw [List.append_nil]
    exact Ev.step (f := fun _ => some (z0, z1, z2, z3, z4, acc, b, (a : Int), x)) (fun k => by simp only [schema_take.l0]; rw [if_neg (by omega)]) (Ev.now _)
  | succ m ih =>
    intro i a x acc hi hacc ha
    obtain ⟨⟨q0, q1, ⟨q2, q3, q4⟩, q5⟩, a1, x1, h1, r1⟩ := h a x ha
    obtain ⟨e, he⟩ : ∃ e : S72, e = ⟨q0, q1, ⟨q2, q3, q4⟩, q5⟩ := ⟨_, rfl⟩
    rw [← he] at r1
    obtain ⟨l, a2, x2, h2, r2⟩ := ih (i + 1) a1 x1 (acc ++ [e]) (by omega) (by simp; omega) r1.1
    refine ⟨e :: l, a2, x2, ?_, (r1.trans r2).imp (fun p => ⟨by simp [p.2.1], fun y hy => ?_⟩) (fun p => by simp)⟩
    · rw [show acc ++ e :: l = (acc ++ [e]) ++ l by simp]
      have e1 : wrap64 (((d + 1 : Nat) : Int) - 1) = (d : Int) := by unfold wrap64; omega
      have e2 : wrap64 ((i : Int) + 1) = ((i + 1 : Nat) : Int) := by unfold wrap64; omega
      refine Ev.step (fun k => by simp only [schema_take.l0]; rw [if_pos (by omega), e1, e2]) (Ev.bind h1 (Ev.congr (fun k => by rw [if_pos (show acc.length < 1954687338268 by omega), he]) h2))
    · rcases List.mem_cons.1 hy with rfl | hy
      · exact p.1
      · exact p.2.2 y hy
theorem take_rd (b : ByteArray) (hb : b.size ≤ 4611686018427387904) : ∀ d : Nat, d < 1000 → ∀ (a : Nat) (x : Bool), a ≤ b.size →
    ∃ (e : S72) (a' : Nat) (x' : Bool), Ev (fun k => schema_take.f k b (a : Int) x (d : Int)) (e.f0, e.f1, e.f2.f0, e.f2.f1, e.f2.f2, e.f3, b, (a' : Int), x') ∧ RdP b a x a' x' (FitE d e) (encE e) := by
  intro d
  induction d with
  | zero =>
    intro hd a x ha
    obtain ⟨n0, a1, x1, h1, i1, _, r1⟩ := int_rd b hb a ha x
    obtain ⟨n1, a2, x2, h2, i2, _, r2⟩ := int_rd b hb a1 r1.1 x1
    obtain ⟨v, a3, x3, h3, r3⟩ := val_rd b hb a2 r2.1 x2
    obtain ⟨n, a4, x4, h4, n4, f4, r4⟩ := many_rd b hb 2 (by omega) a3 r3.1 x3
    have hf : ∀ r, Ev (fun k => if (n : Int) > 0 then schema_take.j0 k 0 (n : Int) ((0 : Int) == 0) b (a4 : Int) x4 n0 n1 v.f0 v.f1 v.f2 else schema_take.j0 k 0 (n : Int) false b (a4 : Int) x4 n0 n1 v.f0 v.f1 v.f2) r → Ev (fun k => schema_take.f k b (a : Int) x ((0 : Nat) : Int)) r :=
      fun r hr => Ev.step (fun k => rfl) (Ev.bind h1 (Ev.bind h2 (Ev.bind h3 (Ev.bind h4 hr))))
    by_cases hn : n = 0
    · subst hn
      refine ⟨⟨n0, n1, v, []⟩, a4, x4, hf _ (Ev.congr (fun k => by rw [if_neg (by omega)]) (Ev.step (g := fun k => schema_take.j0 k 0 ((0 : Nat) : Int) false b (a4 : Int) x4 n0 n1 v.f0 v.f1 v.f2) (fun k => by simp only [schema_take.j0]; rw [if_neg (by decide)]) (Ev.step (f := fun _ => some (n0, n1, v.f0, v.f1, v.f2, ([] : List S72), b, (a4 : Int), x4)) (fun k => by simp only [schema_take.l0]; rw [if_neg (by omega)]) (Ev.now _)))), ?_⟩
      refine (((r1.trans r2).trans r3).trans r4).imp (fun p => FitE.mk 0 _ p.1.2.1 i1 i2 p.1.2.2 (by simp) (fun _ => rfl) (fun y hy => by cases hy)) (fun p => ?_)
      rw [encE_eq]; simp
    · obtain ⟨m, a5, x5, h5, _, _, r5⟩ := many_rd b hb (-1) (by omega) a4 r4.1 x4
      have hx5 : x5 = true := by
        cases x5 with
        | true => rfl
        | false => obtain ⟨_, p, _⟩ := r5.2 rfl; omega
      subst hx5
      refine ⟨⟨n0, n1, v, []⟩, a5, true, hf _ (Ev.congr (fun k => by rw [if_pos (by omega)]) (Ev.step (g := fun k => schema_take.j0 k 0 (n : Int) ((0 : Int) == 0) b (a4 : Int) x4 n0 n1 v.f0 v.f1 v.f2) (fun k => by simp only [schema_take.j0]; rw [if_pos (by decide)]) (Ev.bind h5 (Ev.now _)))), RdP.fault r5.1⟩
  | succ d ih =>
    intro hd a x ha
    obtain ⟨n0, a1, x1, h1, i1, _, r1⟩ := int_rd b hb a ha x
    obtain ⟨n1, a2, x2, h2, i2, _, r2⟩ := int_rd b hb a1 r1.1 x1
    obtain ⟨v, a3, x3, h3, r3⟩ := val_rd b hb a2 r2.1 x2
    obtain ⟨n, a4, x4, h4, n4, f4, r4⟩ := many_rd b hb 2 (by omega) a3 r3.1 x3
    obtain ⟨l, a5, x5, h5, r5⟩ := take_l0 b hb d n n4 (by omega) n0 n1 v.f0 v.f1 v.f2 (ih (by omega)) n 0 a4 x4 [] (by omega) (by simp) r4.1
    rw [List.nil_append] at h5
    have hf : ∀ r, Ev (fun k => if (n : Int) > 0 then schema_take.j0 k ((d + 1 : Nat) : Int) (n : Int) (((d + 1 : Nat) : Int) == 0) b (a4 : Int) x4 n0 n1 v.f0 v.f1 v.f2 else schema_take.j0 k ((d + 1 : Nat) : Int) (n : Int) false b (a4 : Int) x4 n0 n1 v.f0 v.f1 v.f2) r → Ev (fun k => schema_take.f k b (a : Int) x ((d + 1 : Nat) : Int)) r :=
      fun r hr => Ev.step (fun k => rfl) (Ev.bind h1 (Ev.bind h2 (Ev.bind h3 (Ev.bind h4 hr))))
    have hd0 : (((d + 1 : Nat) : Int) == 0) = false := by rw [beq_eq_false_iff_ne]; omega
    refine ⟨⟨n0, n1, v, l⟩, a5, x5, hf _ (Ev.congr (f := fun k => schema_take.j0 k ((d + 1 : Nat) : Int) (n : Int) false b (a4 : Int) x4 n0 n1 v.f0 v.f1 v.f2) (fun k => by rw [hd0]; split <;> rfl) (Ev.step (fun k => by simp only [schema_take.j0]; rw [if_neg (by decide)]; rfl) h5)), ?_⟩
    refine ((((r1.trans r2).trans r3).trans r4).trans r5).imp (fun p => FitE.mk (d + 1) _ p.1.1.2.1 i1 i2 p.1.1.2.2 (by show l.length ≤ 2; have := p.1.2; have := p.2.1; omega) (fun h => by omega) (fun y hy => by rw [Nat.add_sub_cancel]; exact p.2.2 y hy)) (fun p => ?_)
    rw [encE_eq]
    simp [p.2.1]
end Go.Proofs.YtefdfgmlmjnmlaaDoor.My
end

section
set_option linter.unusedSimpArgs false
set_option linter.unusedVariables false
namespace Go.Proofs.YtefdfgmlmjnmlaaDoor.My
open Go.RowKit Go.Proofs.YtefdfgmlmjnmlaaDoorW.PrintWords Go.Proofs.YtefdfgmlmjnmlaaDoorW.PrintMore Go.Proofs.YtefdfgmlmjnmlaaDoor.Rf
theorem fitE_q {d : Nat} {e : S72} (h : FitE d e) : Q72 e ∧ OkE e := by
  induction h with
  | mk d e v a b c l z _ ih => exact ⟨Q72.mk e a b c fun x hx => (ih x hx).1, OkE.mk e (by omega) fun x hx => (ih x hx).2⟩
structure FitT (t : S45) : Prop where
  cols : t.f2.length ≤ 6
  checks : t.f3.length ≤ 4
  each : ∀ x, x ∈ t.f3 → FitE 8 x
  q : Q45 t
theorem FitT.ok {t : S45} (h : FitT t) : OkT t := ⟨by have := h.cols; omega, by have := h.checks; omega, fun x hx => (fitE_q (h.each x hx)).2⟩
theorem chk_l1 (b : ByteArray) (hb : b.size ≤ 4611686018427387904) (n : Nat) (hn : n ≤ 1000) (z0 : ByteArray) (z1 : Int) (z2 : List S59) :
    ∀ m i (a : Nat) (x : Bool) (acc : List S72), i + m = n → acc.length ≤ i → a ≤ b.size →
      ∃ (l : List S72) (a' : Nat) (x' : Bool), Ev (fun k => schema_takeTable.l1 k (n : Int) (i : Int) b (a : Int) x z0 z1 z2 acc) (z0, z1, z2, acc ++ l, b, (a' : Int), x') ∧ RdP b a x a' x' (l.length = m ∧ ∀ y, y ∈ l → FitE 8 y) (l.map encE).flatten := by
  intro m
  induction m with
  | zero =>
    intro i a x acc hi hacc ha
    refine ⟨[], a, x, ?_, ha, fun hx => ⟨hx, ⟨rfl, fun y hy => by cases hy⟩, rfl⟩⟩
    rw [List.append_nil]
    exact Ev.step (f := fun _ => some (z0, z1, z2, acc, b, (a : Int), x)) (fun k => by simp only [schema_takeTable.l1]; rw [if_neg (by omega)]) (Ev.now _)
  | succ m ih =>
    intro i a x acc hi hacc ha
    obtain ⟨⟨q0, q1, ⟨q2, q3, q4⟩, q5⟩, a1, x1, h1, r1⟩ := take_rd b hb 8 (by omega) a x ha
    obtain ⟨e, he⟩ : ∃ e : S72, e = ⟨q0, q1, ⟨q2, q3, q4⟩, q5⟩ := ⟨_, rfl⟩
    rw [← he] at r1
    obtain ⟨l, a2, x2, h2, r2⟩ := ih (i + 1) a1 x1 (acc ++ [e]) (by omega) (by simp; omega) r1.1
    refine ⟨e :: l, a2, x2, ?_, (r1.trans r2).imp (fun p => ⟨by simp [p.2.1], fun y hy => ?_⟩) (fun p => by simp)⟩
    · rw [show acc ++ e :: l = (acc ++ [e]) ++ l by simp]
      have e2 : wrap64 ((i : Int) + 1) = ((i + 1 : Nat) : Int) := by unfold wrap64; omega
      refine Ev.step (fun k => by simp only [schema_takeTable.l1]; rw [if_pos (by omega), e2]) (Ev.bind (g := fun k => schema_take.f k b (a : Int) x 8) h1 (Ev.congr (fun k => by rw [if_pos (show acc.length < 1954687338268 by omega), he]) h2))
    · rcases List.mem_cons.1 hy with rfl | hy
      · exact p.1
      · exact p.2.2 y hy
theorem col_l0 (b : ByteArray) (hb : b.size ≤ 4611686018427387904) (n : Nat) (hn : n ≤ 1000) (z0 : ByteArray) (z1 : Int) :
    ∀ m i (a : Nat) (x : Bool) (acc : List S59), i + m = n → acc.length ≤ i → a ≤ b.size →
      ∃ (l : List S59) (c : List S72) (a' : Nat) (x' : Bool), Ev (fun k => schema_takeTable.l0 k (n : Int) (i : Int) b (a : Int) x z0 z1 acc) (z0, z1, acc ++ l, c, b, (a' : Int), x') ∧
        RdP b a x a' x' (l.length = m ∧ (∀ y, y ∈ l → Q59 y) ∧ c.length ≤ 4 ∧ ∀ y, y ∈ c → FitE 8 y) ((l.map encC).flatten ++ encI (c.length : Int) ++ (c.map encE).flatten) := by
  intro m
  induction m with
  | zero =>
    intro i a x acc hi hacc ha
    obtain ⟨j, a1, x1, h1, j1, f1, r1⟩ := many_rd b hb 4 (by omega) a ha x
    obtain ⟨c, a2, x2, h2, r2⟩ := chk_l1 b hb j j1 z0 z1 acc j 0 a1 x1 [] (by omega) (by simp) r1.1
    rw [List.nil_append] at h2
    refine ⟨[], c, a2, x2, ?_, (r1.trans r2).imp (fun p => ⟨rfl, (fun y hy => by cases hy), ?_, p.2.2⟩) (fun p => ?_)⟩
    · rw [List.append_nil]
      exact Ev.step (fun k => by simp only [schema_takeTable.l0]; rw [if_neg (by omega)]) (Ev.bind h1 h2)
    · have := p.1; have := p.2.1; omega
    · simp [p.2.1]
  | succ m ih =>
    intro i a x acc hi hacc ha
    obtain ⟨s0, a1, x1, h1, i1, r1⟩ := str_rd b hb a ha x
    obtain ⟨s1, a2, x2, h2, i2, r2⟩ := str_rd b hb a1 r1.1 x1
    obtain ⟨n0, a3, x3, h3, i3, _, r3⟩ := int_rd b hb a2 r2.1 x2
    obtain ⟨n1, a4, x4, h4, i4, _, r4⟩ := int_rd b hb a3 r3.1 x3
    obtain ⟨b0, a5, x5, h5, r5⟩ := bool_rd b hb a4 r4.1 x4
    obtain ⟨b1, a6, x6, h6, r6⟩ := bool_rd b hb a5 r5.1 x5
    obtain ⟨l, c, a7, x7, h7, r7⟩ := ih (i + 1) a6 x6 (acc ++ [⟨s0, n0, b0, b1, s1, n1⟩]) (by omega) (by simp; omega) r6.1
    refine ⟨⟨s0, n0, b0, b1, s1, n1⟩ :: l, c, a7, x7, ?_, ((((((r1.trans r2).trans r3).trans r4).trans r5).trans r6).trans r7).imp (fun p => ⟨by simp [p.2.1], fun y hy => ?_, p.2.2.2⟩) (fun p => ?_)⟩
    · rw [show ∀ y : S59, acc ++ y :: l = (acc ++ [y]) ++ l from fun y => by simp]
      have e2 : wrap64 ((i : Int) + 1) = ((i + 1 : Nat) : Int) := by unfold wrap64; omega
      refine Ev.step (fun k => by simp only [schema_takeTable.l0]; rw [if_pos (by omega), e2]) ?_
      exact (Ev.bind h1 (Ev.bind h2 (Ev.bind h3 (Ev.bind h4 (Ev.bind h5 (Ev.bind h6 (Ev.congr (fun k => by rw [if_pos (show acc.length < 2513169434916 by omega)]) h7)))))))
    · rcases List.mem_cons.1 hy with rfl | hy
      · exact ⟨by show s0.size ≤ _; omega, i3, by show s1.size ≤ _; omega, i4⟩
      · exact p.2.2.1 y hy
    · simp [encC]
theorem table_rd (b : ByteArray) (hb : b.size ≤ 4611686018427387904) (a : Nat) (ha : a ≤ b.size) (x : Bool) :
    ∃ (t : S45) (a' : Nat) (x' : Bool), Ev (fun k => schema_takeTable.f k b (a : Int) x) (t.f0, t.f1, t.f2, t.f3, b, (a' : Int), x') ∧ RdP b a x a' x' (FitT t) (encT t) := by
  obtain ⟨s0, a1, x1, h1, i1, r1⟩ := str_rd b hb a ha x
  obtain ⟨n0, a2, x2, h2, i2, _, r2⟩ := int_rd b hb a1 r1.1 x1
  obtain ⟨j, a3, x3, h3, j3, _, r3⟩ := many_rd b hb 6 (by omega) a2 r2.1 x2
  obtain ⟨l, c, a4, x4, h4, r4⟩ := col_l0 b hb j j3 s0 n0 j 0 a3 x3 [] (by omega) (by simp) r3.1
  rw [List.nil_append] at h4
  refine ⟨⟨s0, n0, l, c⟩, a4, x4, Ev.congr (fun k => rfl) (Ev.bind h1 (Ev.bind h2 (Ev.bind h3 h4))), (((r1.trans r2).trans r3).trans r4).imp (fun p => ⟨?_, p.2.2.2.1, p.2.2.2.2, by show s0.size ≤ _; omega, i2, p.2.2.1, fun y hy => (fitE_q (p.2.2.2.2 y hy)).1⟩) (fun p => ?_)⟩
  · show l.length ≤ 6
    have := p.1.2; have := p.2.1; omega
  · simp [encT, p.2.1]
theorem read_l1 (b : ByteArray) (hb : b.size ≤ 4611686018427387904) (n : Nat) (hn : n ≤ 1000) (v : Int) (ts : List S45) :
    ∀ m i (a : Nat) (x : Bool) (acc : List S27), i + m = n → acc.length ≤ i → a ≤ b.size →
      ∃ R, Ev (fun k => schema_Read.l1 k (n : Int) (i : Int) b (a : Int) x v ts acc) R ∧ (R = (0, [], [], 4) ∨ ∃ l : List S27, R = (v, ts, acc ++ l, 0) ∧ x = false ∧ l.length = m ∧ (∀ y, y ∈ l → Q27 y) ∧ LL b a = (l.map encG).flatten) := by
  intro m
  induction m with
  | zero =>
    intro i a x acc hi hacc ha
    have hs : ∀ R, (∀ k : Nat, ((pack_Reader_End.f b (a : Int) x).bind fun bt => if bt.1 = 0 then some (v, ts, acc, (0 : Int)) else some (0, [], [], bt.1)) = some R) → Ev (fun k => schema_Read.l1 k (n : Int) (i : Int) b (a : Int) x v ts acc) R :=
      fun R h => Ev.step (f := fun _ => some R) (fun k => by simp only [schema_Read.l1]; rw [if_neg (by omega)]; exact h k) (Ev.now _)
    cases x with
    | true => exact ⟨_, hs (0, [], [], 4) (fun k => by simp [pack_Reader_End.f]), .inl rfl⟩
    | false =>
      by_cases hend : a = b.size
      · refine ⟨_, hs (v, ts, acc, 0) (fun k => by simp [pack_Reader_End.f, hend]), .inr ⟨[], by simp, rfl, rfl, (fun y hy => by cases hy), ?_⟩⟩
        exact List.drop_eq_nil_of_le (by rw [data_len]; omega)
      · refine ⟨_, hs (0, [], [], 4) (fun k => ?_), .inl rfl⟩
        have : ¬ (a : Int) = (b.size : Int) := by omega
        simp [pack_Reader_End.f, this, hend]
  | succ m ih =>
    intro i a x acc hi hacc ha
    obtain ⟨n0, a1, x1, h1, i1, _, r1⟩ := int_rd b hb a ha x
    obtain ⟨n1, a2, x2, h2, i2, _, r2⟩ := int_rd b hb a1 r1.1 x1
    obtain ⟨s0, a3, x3, h3, i3, r3⟩ := str_rd b hb a2 r2.1 x2
    obtain ⟨R, h4, r4⟩ := ih (i + 1) a3 x3 (acc ++ [⟨n0, s0, n1⟩]) (by omega) (by simp; omega) r3.1
    have e2 : wrap64 ((i : Int) + 1) = ((i + 1 : Nat) : Int) := by unfold wrap64; omega
    have hE : Ev (fun k => schema_Read.l1 k (n : Int) (i : Int) b (a : Int) x v ts acc) R := by
      refine Ev.step (fun k => by simp only [schema_Read.l1]; rw [if_pos (by omega), e2]) ?_
      exact (Ev.bind h1 (Ev.bind h2 (Ev.bind h3 (Ev.congr (fun k => by rw [if_pos (show acc.length < 4398046511104 by omega)]) h4))))
    refine ⟨R, hE, ?_⟩
    rcases r4 with r4 | ⟨l, e, hx, hl, hq, hL⟩
    · exact .inl r4
    · obtain ⟨p1, p2, p3⟩ := ((r1.trans r2).trans r3).2 hx
      refine .inr ⟨⟨n0, s0, n1⟩ :: l, by rw [e]; simp, p1, by simp [hl], fun y hy => ?_, ?_⟩
      · rcases List.mem_cons.1 hy with rfl | hy
        · exact ⟨i1, by show s0.size ≤ _; omega, i2⟩
        · exact hq y hy
      · rw [p3, hL]; simp [encG]
theorem read_l0 (b : ByteArray) (hb : b.size ≤ 4611686018427387904) (n : Nat) (hn : n ≤ 1000) (v : Int) :
    ∀ m i (a : Nat) (x : Bool) (acc : List S45), i + m = n → acc.length ≤ i → a ≤ b.size →
      ∃ R, Ev (fun k => schema_Read.l0 k (n : Int) (i : Int) b (a : Int) x v acc) R ∧ (R = (0, [], [], 4) ∨ ∃ (l : List S45) (g : List S27), R = (v, acc ++ l, g, 0) ∧ x = false ∧ l.length = m ∧ (∀ y, y ∈ l → FitT y) ∧ g.length ≤ 64 ∧ (∀ y, y ∈ g → Q27 y) ∧ LL b a = (l.map encT).flatten ++ encI (g.length : Int) ++ (g.map encG).flatten) := by
  intro m
  induction m with
  | zero =>
    intro i a x acc hi hacc ha
    obtain ⟨j, a1, x1, h1, j1, _, r1⟩ := many_rd b hb 64 (by omega) a ha x
    obtain ⟨R, h2, r2⟩ := read_l1 b hb j j1 v acc j 0 a1 x1 [] (by omega) (by simp) r1.1
    refine ⟨R, Ev.step (fun k => by simp only [schema_Read.l0]; rw [if_neg (by omega)]) (Ev.bind h1 h2), ?_⟩
    rcases r2 with r2 | ⟨l, e, hx, hl, hq, hL⟩
    · exact .inl r2
    · obtain ⟨p1, p2, p3⟩ := r1.2 hx
      refine .inr ⟨[], l, by rw [e]; simp, p1, rfl, (fun y hy => by cases hy), by omega, hq, ?_⟩
      rw [p3, hL, hl]; simp
  | succ m ih =>
    intro i a x acc hi hacc ha
    obtain ⟨t, a1, x1, h1, r1⟩ := table_rd b hb a ha x
    obtain ⟨R, h4, r4⟩ := ih (i + 1) a1 x1 (acc ++ [t]) (by omega) (by simp; omega) r1.1
    have e2 : wrap64 ((i : Int) + 1) = ((i + 1 : Nat) : Int) := by unfold wrap64; omega
    have hE : Ev (fun k => schema_Read.l0 k (n : Int) (i : Int) b (a : Int) x v acc) R := by
      refine Ev.step (fun k => by simp only [schema_Read.l0]; rw [if_pos (by omega), e2]) ?_
      exact (Ev.bind h1 (Ev.congr (fun k => by rw [if_pos (show acc.length < 1954687338268 by omega)]) h4))
    refine ⟨R, hE, ?_⟩
    rcases r4 with r4 | ⟨l, g, e, hx, hl, hq, hg, hqg, hL⟩
    · exact .inl r4
    · obtain ⟨p1, p2, p3⟩ := r1.2 hx
      refine .inr ⟨t :: l, g, by rw [e]; simp, p1, by simp [hl], fun y hy => ?_, hg, hqg, ?_⟩
      · rcases List.mem_cons.1 hy with rfl | hy
        · exact p2
        · exact hq y hy
      · rw [p3, hL]; simp
/-- What schema.Read answers. -/
structure ReadR (b : ByteArray) (v : Int) (ts : List S45) (gs : List S27) (e : Int) : Prop where
  out : (v = 0 ∧ ts = [] ∧ gs = [] ∧ e = 4) ∨ (e = 0 ∧ I64 v ∧ ts.length ≤ 12 ∧ (∀ t, t ∈ ts → FitT t) ∧ gs.length ≤ 64 ∧ (∀ g, g ∈ gs → Q27 g) ∧ encH v ts gs = b.data.toList)
theorem read_rd (b : ByteArray) (hb : b.size ≤ 4611686018427387904) : ∃ v ts gs e, Ev (fun k => schema_Read.f k b) (v, ts, gs, e) ∧ ReadR b v ts gs e := by
  obtain ⟨v, a1, x1, h1, i1, _, r1⟩ := int_rd b hb 0 (by omega) false
  obtain ⟨n, a2, x2, h2, n2, _, r2⟩ := many_rd b hb 12 (by omega) a1 r1.1 x1
  obtain ⟨R, h3, r3⟩ := read_l0 b hb n n2 v n 0 a2 x2 [] (by omega) (by simp) r2.1
  have hE : Ev (fun k => schema_Read.f k b) R := Ev.congr (fun k => rfl) (Ev.bind (g := fun k => pack_Reader_Int.f k b 0 false) h1 (Ev.bind h2 h3))
  rcases r3 with r3 | ⟨l, g, e, hx, hl, hq, hg, hqg, hL⟩
  · subst r3
    exact ⟨0, [], [], 4, hE, ⟨.inl ⟨rfl, rfl, rfl, rfl⟩⟩⟩
  · subst e
    rw [List.nil_append] at hE
    obtain ⟨p1, p2, p3⟩ := (r1.trans r2).2 hx
    refine ⟨v, l, g, 0, hE, ⟨.inr ⟨rfl, i1, by have := p2.2; omega, hq, hg, hqg, ?_⟩⟩⟩
    have : b.data.toList = LL b 0 := by simp [LL]
    rw [this, p3, hL, encH, hl]
    simp
end Go.Proofs.YtefdfgmlmjnmlaaDoor.My
end

section
namespace Go.Proofs.YtefdfgmlmjnmlaaDoor.My
open Go.RowKit Go.Proofs.YtefdfgmlmjnmlaaDoorW.PrintWords Go.Proofs.YtefdfgmlmjnmlaaDoor.Rf
/-- Is this the column of a name? -/
def isC (nm : ByteArray) (t : S59) : Bool := t.f0.toList == nm.toList
def placeC (l : List S59) (nm : ByteArray) : Int := idx (isC nm) l
set_option maxHeartbeats 4000000 in
set_option maxRecDepth 100000 in
theorem isC_calls (t : S59) (nm : ByteArray) (b : Nat) (w : World) (hb : w.heap[b]? = some (.cells #[.string nm] 9 (0, 0))) :
    Calls Tryd.prog 59 #[.agg #[.string t.f0, .int .i64 t.f1, .bool t.f2, .bool t.f3, .string t.f4, .int .i64 t.f5], .pointer (some ⟨b, 0, none⟩)] w fun e w' => e = .returned (.bool (isC nm t)) ∧ Below w.heap.size w w' := by
  have c0 : w.cell? ⟨b, 0, none⟩ = some (.string nm) := blk_cell hb 0
  have hlt := blk_lt hb
  clear hb
  go_enter Tryd.func59, Tryd.ntmps59
  go_wp2
  go_ret
  exact ⟨rfl, (Below.refl _ _).alloc (Nat.le_refl _) _⟩
set_option maxHeartbeats 4000000 in
set_option maxRecDepth 100000 in
theorem idxC_calls (l : List S59) (A : Option Addr) (c : Nat) (nm : ByteArray) (b : Nat) (w : World) (hr : Kd.C k59 w A l.length l) (hb : w.heap[b]? = some (.cells #[.string nm] 9 (0, 0))) :
    Calls Tryd.prog 58 #[.slice A l.length c, .func (.func 59) #[] #[.pointer (some ⟨b, 0, none⟩)]] w fun e w' => e = .returned (.int .i64 (placeC l nm)) ∧ Below w.heap.size w w' := by
  have HR := Aside0.mk hr
  have HBL := Aside0.mk hb
  have hn : l.length ≤ 9223372036854775807 := hr.2.1
  clear hr hb
  go_enter Tryd.func58, Tryd.ntmps58
  go_wp2
  go_loopw [5, 8] (fun _ t8 wr => ∃ k : Nat, t8 = .int .i64 k ∧ k ≤ l.length ∧ Aside0 (∀ j, j < k → isC nm (l.getD j z59) = false) ∧ Aside0 (Below w.heap.size w wr)) (fun _ t8 _ => l.length - (intOf t8).toNat)
  case atStart => exact ⟨0, rfl, Nat.zero_le _, ⟨fun j hj => absurd hj (by omega)⟩, ⟨Below.refl _ _⟩⟩
  case round =>
    obtain ⟨k, rfl, hk, HA, HB⟩ := hrel
    by_cases hlt : k < l.length
    · obtain ⟨ad, e, hc0, hc1, hc2, hc3, hc4, hc5⟩ := at_T59 HR.out (k : Int) (by omega) (by omega)
      subst e
      simp only [Int.toNat_natCast, rd_T59] at hc0 hc1 hc2 hc3 hc4 hc5
      generalize hx : l.getD k z59 = x at hc0 hc1 hc2 hc3 hc4 hc5
      have HXX := Aside0.mk hx
      have d0 := (HB.out.cell (World.block_lt_of_cell? w _ hc0)).trans hc0
      have d1 := (HB.out.cell (World.block_lt_of_cell? w _ hc1)).trans hc1
      have d2 := (HB.out.cell (World.block_lt_of_cell? w _ hc2)).trans hc2
      have d3 := (HB.out.cell (World.block_lt_of_cell? w _ hc3)).trans hc3
      have d4 := (HB.out.cell (World.block_lt_of_cell? w _ hc4)).trans hc4
      have d5 := (HB.out.cell (World.block_lt_of_cell? w _ hc5)).trans hc5
      clear hc0 hc1 hc2 hc3 hc4 hc5 hx
      have hi0 : (0 : Int) ≤ (k : Int) := by omega
      have hi1 : (k : Int) < (l.length : Int) := by omega
      have HBLK := Aside0.mk (blk_below HBL.out HB.out)
      cases hp : isC nm x with
      | true =>
        have hres : placeC l nm = k := idx_hit _ l z59 k hlt HA.out (by rw [HXX.out]; exact hp)
        have HP := Aside0.mk hp
        have HRES := Aside0.mk hres
        clear hp hres
        go_wp2_with (go_at_call 59; refine (isC_calls x nm b _ HBLK.out).mono ?_; rw [HP.out]; rintro e w2 ⟨rfl, hb2⟩)
        go_ret
        exact ⟨by rw [HRES.out]; rfl, HB.out.trans (hb2.mono HB.out.size)⟩
      | false =>
        have hall : ∀ j, j < k + 1 → isC nm (l.getD j z59) = false := fun j hj => by
          rcases Nat.lt_or_ge j k with h | h
          · exact HA.out j h
          · obtain rfl : j = k := by omega
            rw [HXX.out]; exact hp
        have HP := Aside0.mk hp
        have HALL := Aside0.mk hall
        clear hp hall
        go_wp2_with (go_at_call 59; refine (isC_calls x nm b _ HBLK.out).mono ?_; rw [HP.out]; rintro e w2 ⟨rfl, hb2⟩)
        go_roundw
        case rel => exact ⟨k + 1, by go_num, by omega, HALL, ⟨HB.out.trans (hb2.mono HB.out.size)⟩⟩
        case measure => simp [intOf]; omega
    · have hres : placeC l nm = -1 := idx_none _ l z59 (fun j hj => HA.out j (by omega))
      have HRES := Aside0.mk hres
      clear hres
      go_wp2
      go_ret
      exact ⟨by rw [HRES.out]; rfl, HB.out⟩
structure IntPost (b : Int) (w : World) (e : Ending) (w' : World) : Prop where
  out : e = .returned (.int .i64 b) ∧ Below w.heap.size w w'
set_option maxHeartbeats 4000000 in
set_option maxRecDepth 100000 in
theorem place_calls (t : S45) (A : Option Addr) (c : Nat) (A' : Option Addr) (c' : Nat) (nm : ByteArray) (w : World) (hr : Kd.C k59 w A t.f2.length t.f2) :
    Calls Tryd.prog 34 #[.agg #[.string t.f0, .int .i64 t.f1, .slice A t.f2.length c, .slice A' t.f3.length c'], .string nm] w (IntPost (placeC t.f2 nm) w) := by
  have HR := Aside0.mk hr
  clear hr
  go_enter Tryd.func34, Tryd.ntmps34
  go_wp2_with fail
  refine (idxC_calls t.f2 A c nm (w.heap.size + 1) _ ?hC ?hN).mono ?_
  case hC => exact Kd.C_below HR.out (below2 w _ _)
  case hN => exact blk_new1 w _ _
  rintro e w4 ⟨rfl, hb⟩
  go_wp2
  go_ret
  exact ⟨rfl, below_step (below2 w _ _) hb⟩
end Go.Proofs.YtefdfgmlmjnmlaaDoor.My
end

section
set_option linter.unusedSimpArgs false
set_option linter.unusedVariables false
namespace Go.Proofs.YtefdfgmlmjnmlaaDoor.My
open Go.RowKit Go.Proofs.YtefdfgmlmjnmlaaDoorW.PrintWords Go.Proofs.YtefdfgmlmjnmlaaDoor.Rf
theorem add_none (a : Addr) : a.add 0 = a := by simp [Addr.add]
def colBad1 (l : List S59) (i : Nat) (c : S59) : Bool := !isName c.f0 || (decide (placeC l c.f0 ≠ (i : Int)) || (decide (c.f1 < 1) || (decide (3 < c.f1) || (decide (c.f5 < 0) || decide (2 < c.f5)))))
def colBad2 (i : Nat) (c : S59) : Bool := (decide (i = 0) && (!c.f2 || (c.f3 || !c.f4.toList.isEmpty))) || ((c.f4.toList.isEmpty && !decide (c.f5 = 0)) || (decide (c.f5 = 2) && c.f2))
/-- What is wrong with the tables that a column refers to. -/
def colRef (t : S45) (c : S59) (ts : List S45) : Int :=
  let o := if c.f4.toList == t.f0.toList then t else theT ts c.f4
  if ((c.f4.toList == t.f0.toList) = false ∧ findT ts c.f4 < 0) ∨ o.f2.length = 0 then 8
  else if (o.f2.getD 0 z59).f1 ≠ c.f1 then 9 else 0
def colE (t : S45) (i : Nat) (ts : List S45) : Int :=
  let c := t.f2.getD i z59
  if colBad1 t.f2 i c then 4 else if colBad2 i c then 4 else if c.f4.toList.isEmpty then 0 else colRef t c ts
theorem bad2_i0 {i : Nat} {x : S59} (h : i = 0) (he : x.f4.toList.isEmpty = false) : colBad2 i x = true := by
  simp [colBad2, h, he]
theorem bad2_set {i : Nat} {x : S59} (h : x.f5 = 2) (h2 : x.f2 = true) : colBad2 i x = true := by
  simp [colBad2, h, h2]
theorem bad2_no {i : Nat} {x : S59} (he : x.f4.toList.isEmpty = false) (h : ¬ i = 0) (h5 : ¬ x.f5 = 2 ∨ ¬ x.f2 = true) : colBad2 i x = false := by
  rcases h5 with h5 | h5 <;> simp [colBad2, he, h, h5]
theorem ref_self {t : S45} {x y : S59} {ts : List S45} (hs : (x.f4.toList == t.f0.toList) = true) (hz : ¬ t.f2.length = 0) (hy : t.f2.getD 0 z59 = y) : colRef t x ts = if y.f1 ≠ x.f1 then 9 else 0 := by
  unfold colRef
  simp only [hs, if_true]
  rw [if_neg (by intro h; rcases h with h | h; exact absurd h.1 (by decide); exact hz h), hy]
theorem ref_none {t : S45} {x : S59} {ts : List S45} (hs : (x.f4.toList == t.f0.toList) = false) (h : findT ts x.f4 < 0) : colRef t x ts = 8 := by
  unfold colRef
  simp only [hs]
  exact if_pos (.inl ⟨trivial, h⟩)
theorem ref_empty {t : S45} {x : S59} {ts : List S45} (hs : (x.f4.toList == t.f0.toList) = false) (h : (theT ts x.f4).f2.length = 0) : colRef t x ts = 8 := by
  unfold colRef
  simp only [hs]
  rw [if_pos (.inr h)]
theorem ref_other {t : S45} {x z : S59} {ts : List S45} (hs : (x.f4.toList == t.f0.toList) = false) (hn : ¬ findT ts x.f4 < 0) (hz : ¬ (theT ts x.f4).f2.length = 0) (hy : (theT ts x.f4).f2.getD 0 z59 = z) : colRef t x ts = if z.f1 ≠ x.f1 then 9 else 0 := by
  unfold colRef
  simp only [hs]
  rw [if_neg (by intro h; rcases h with h | h; exact hn h.2; exact hz h)]
  simp only [Bool.false_eq_true, if_false, hy]
theorem nine {a b : Int} (h : (a != b) = true) : (if a ≠ b then 9 else 0 : Int) = 9 := if_pos (by simpa using h)
theorem zero0 {a b : Int} (h : (a != b) = false) : (if a ≠ b then 9 else 0 : Int) = 0 := if_neg (by simpa using h)
set_option maxHeartbeats 4000000 in
set_option maxRecDepth 100000 in
theorem column_calls (t : S45) (A : Option Addr) (c : Nat) (A' : Option Addr) (c' : Nat) (i : Nat) (v : Int) (ts : List S45) (B : Option Addr) (d : Nat) (B' : Option Addr) (n' d' : Nat) (w : World)
    (hr : Kd.C k59 w A t.f2.length t.f2) (hts : Kd.C k45 w B ts.length ts) (hT : Tabs w) (hi : i < t.f2.length) (hok : ∀ x, x ∈ t.f2 → x.f0.size ≤ 9223372036854775807) :
    Calls Tryd.prog 60 #[.agg #[.string t.f0, .int .i64 t.f1, .slice A t.f2.length c, .slice A' t.f3.length c'], .int .i64 i, .agg #[.int .i64 v, .slice B ts.length d, .slice B' n' d']] w (IntPost (colE t i ts) w) := by
  have hC0 := hr
  obtain ⟨ad, e, hc0, hc1, hc2, hc3, hc4, hc5⟩ := at_T59 hr (i : Int) (by omega) (by omega)
  subst e
  obtain ⟨_, e', _, hy1, _, _, _, _⟩ := at_T59 hr 0 (by omega) (by omega)
  cases e'
  have hsz : (t.f2.getD i z59).f0.size ≤ 9223372036854775807 := hok _ (by simp [List.getD, List.getElem?_eq_getElem hi])
  simp only [Int.toNat_natCast, rd_T59] at hc0 hc1 hc2 hc3 hc4 hc5
  simp only [Int.toNat_zero, rd_T59, Nat.zero_mul, add_none] at hy1
  have hspec : colE t i ts = (if colBad1 t.f2 i (t.f2.getD i z59) then 4 else if colBad2 i (t.f2.getD i z59) then 4 else if (t.f2.getD i z59).f4.toList.isEmpty then 0 else colRef t (t.f2.getD i z59) ts) := rfl
  generalize hx : t.f2.getD i z59 = x at hc0 hc1 hc2 hc3 hc4 hc5 hsz hspec
  generalize hyy : t.f2.getD 0 z59 = y at hy1
  have HYY := Aside0.mk hyy
  have HXX := Aside0.mk hx
  have HSP := Aside0.mk hspec
  have hi0 : (0 : Int) ≤ (i : Int) := by omega
  have hz0 : 0 < t.f2.length := by omega
  have hz3 : ¬ t.f2.length = 0 := by omega
  have hi1 : (i : Int) < (t.f2.length : Int) := by omega
  have b2 := below2 w (.cells #[.string t.f0, .int .i64 t.f1, .slice (some ad) t.f2.length c, .slice A' t.f3.length c'] 45) (.cells #[.int .i64 v, .slice B ts.length d, .slice B' n' d'] 25)
  have d0 := cell_now b2 hc0
  have d1 := cell_now b2 hc1
  have d2 := cell_now b2 hc2
  have d3 := cell_now b2 hc3
  have d4 := cell_now b2 hc4
  have d5 := cell_now b2 hc5
  have b3 := below3 w (.cells #[.string t.f0, .int .i64 t.f1, .slice (some ad) t.f2.length c, .slice A' t.f3.length c'] 45) (.cells #[.int .i64 v, .slice B ts.length d, .slice B' n' d'] 25) (.cells #[.string x.f0, .int .i64 x.f1, .bool x.f2, .bool x.f3, .string x.f4, .int .i64 x.f5] 59)
  have hk3 := blk_alloc (blk_alloc (blk_new w (.cells #[.string t.f0, .int .i64 t.f1, .slice (some ad) t.f2.length c, .slice A' t.f3.length c'] 45)) (.cells #[.int .i64 v, .slice B ts.length d, .slice B' n' d'] 25)) (.cells #[.string x.f0, .int .i64 x.f1, .bool x.f2, .bool x.f3, .string x.f4, .int .i64 x.f5] 59)
  have hl3 := blk_alloc (blk_new1 w (.cells #[.string t.f0, .int .i64 t.f1, .slice (some ad) t.f2.length c, .slice A' t.f3.length c'] 45) (.cells #[.int .i64 v, .slice B ts.length d, .slice B' n' d'] 25)) (.cells #[.string x.f0, .int .i64 x.f1, .bool x.f2, .bool x.f3, .string x.f4, .int .i64 x.f5] 59)
  have hm3 := blk_new2 w (.cells #[.string t.f0, .int .i64 t.f1, .slice (some ad) t.f2.length c, .slice A' t.f3.length c'] 45) (.cells #[.int .i64 v, .slice B ts.length d, .slice B' n' d'] 25) (.cells #[.string x.f0, .int .i64 x.f1, .bool x.f2, .bool x.f3, .string x.f4, .int .i64 x.f5] 59)
  have HB3 := Aside0.mk b3
  have HK3 := Aside0.mk hk3
  have HL3 := Aside0.mk hl3
  have HM3 := Aside0.mk hm3
  have HR3 := Aside0.mk (Kd.C_below hr b3)
  have HS3 := Aside0.mk (Kd.C_below hts b3)
  have HT3 := Aside0.mk (hT.below b3)
  have HY3 := Aside0.mk (cell_now b3 hy1)
  clear hc0 hc1 hc2 hc3 hc4 hc5 hx hyy hspec b2 b3 hk3 hl3 hm3 hr hts hT hok hC0 hy1
  cases hn : isName x.f0 with
  | false =>
    go_enter Tryd.func60, Tryd.ntmps60
    go_wp2_with (first | (go_at_call 32; refine (name_calls x.f0 _ hsz HT3.out).mono ?_; rintro e wa ⟨rfl, hba⟩; rw [hn]; have HKa := Aside0.mk (blk_below HK3.out hba); have HLa := Aside0.mk (blk_below HL3.out hba); have HMa := Aside0.mk (blk_below HM3.out hba); have HRa := Aside0.mk (Kd.C_below HR3.out hba); have HSa := Aside0.mk (Kd.C_below HS3.out hba); have HTa := Aside0.mk (HT3.out.below hba); have HBa := Aside0.mk (below_step HB3.out hba); have k0a := blk_cell HKa.out 0; have k1a := blk_cell HKa.out 1; have k2a := blk_cell HKa.out 2; have k3a := blk_cell HKa.out 3; have l0a := blk_cell HLa.out 0; have l1a := blk_cell HLa.out 1; have l2a := blk_cell HLa.out 2; have m0a := blk_cell HMa.out 0; have m1a := blk_cell HMa.out 1; have m2a := blk_cell HMa.out 2; have m3a := blk_cell HMa.out 3; have m4a := blk_cell HMa.out 4; have m5a := blk_cell HMa.out 5))
    go_ret
    exact ⟨by rw [HSP.out]; simp only [colBad1, hn]; rfl, HBa.out⟩
  | true =>
    by_cases hp : placeC t.f2 x.f0 = (i : Int)
    · by_cases g1 : x.f1 < 1
      · have hd1 := decide_eq_true g1
        go_enter Tryd.func60, Tryd.ntmps60
        go_wp2_with (first | (go_at_call 32; refine (name_calls x.f0 _ hsz HT3.out).mono ?_; rintro e wa ⟨rfl, hba⟩; rw [hn]; have HKa := Aside0.mk (blk_below HK3.out hba); have HLa := Aside0.mk (blk_below HL3.out hba); have HMa := Aside0.mk (blk_below HM3.out hba); have HRa := Aside0.mk (Kd.C_below HR3.out hba); have HSa := Aside0.mk (Kd.C_below HS3.out hba); have HTa := Aside0.mk (HT3.out.below hba); have HBa := Aside0.mk (below_step HB3.out hba); have k0a := blk_cell HKa.out 0; have k1a := blk_cell HKa.out 1; have k2a := blk_cell HKa.out 2; have k3a := blk_cell HKa.out 3; have l0a := blk_cell HLa.out 0; have l1a := blk_cell HLa.out 1; have l2a := blk_cell HLa.out 2; have m0a := blk_cell HMa.out 0; have m1a := blk_cell HMa.out 1; have m2a := blk_cell HMa.out 2; have m3a := blk_cell HMa.out 3; have m4a := blk_cell HMa.out 4; have m5a := blk_cell HMa.out 5) | (go_at_call 34; refine (place_calls t (some ad) c A' c' x.f0 _ HRa.out).mono ?_; rintro e wb ⟨rfl, hbb⟩; rw [hp]; have HKb := Aside0.mk (blk_below HKa.out hbb); have HLb := Aside0.mk (blk_below HLa.out hbb); have HMb := Aside0.mk (blk_below HMa.out hbb); have HRb := Aside0.mk (Kd.C_below HRa.out hbb); have HSb := Aside0.mk (Kd.C_below HSa.out hbb); have HTb := Aside0.mk (HTa.out.below hbb); have HBb := Aside0.mk (below_step HBa.out hbb); have k0b := blk_cell HKb.out 0; have k1b := blk_cell HKb.out 1; have k2b := blk_cell HKb.out 2; have k3b := blk_cell HKb.out 3; have l0b := blk_cell HLb.out 0; have l1b := blk_cell HLb.out 1; have l2b := blk_cell HLb.out 2; have m0b := blk_cell HMb.out 0; have m1b := blk_cell HMb.out 1; have m2b := blk_cell HMb.out 2; have m3b := blk_cell HMb.out 3; have m4b := blk_cell HMb.out 4; have m5b := blk_cell HMb.out 5; clear k0a k1a k2a k3a l0a l1a l2a m0a m1a m2a m3a m4a m5a))
        go_ret
        exact ⟨by rw [HSP.out]; simp [colBad1, hn, hp, g1], HBb.out⟩
      · have hd1 := decide_eq_false g1
        by_cases g2 : 3 < x.f1
        · have hd2 := decide_eq_true g2
          go_enter Tryd.func60, Tryd.ntmps60
          go_wp2_with (first | (go_at_call 32; refine (name_calls x.f0 _ hsz HT3.out).mono ?_; rintro e wa ⟨rfl, hba⟩; rw [hn]; have HKa := Aside0.mk (blk_below HK3.out hba); have HLa := Aside0.mk (blk_below HL3.out hba); have HMa := Aside0.mk (blk_below HM3.out hba); have HRa := Aside0.mk (Kd.C_below HR3.out hba); have HSa := Aside0.mk (Kd.C_below HS3.out hba); have HTa := Aside0.mk (HT3.out.below hba); have HBa := Aside0.mk (below_step HB3.out hba); have k0a := blk_cell HKa.out 0; have k1a := blk_cell HKa.out 1; have k2a := blk_cell HKa.out 2; have k3a := blk_cell HKa.out 3; have l0a := blk_cell HLa.out 0; have l1a := blk_cell HLa.out 1; have l2a := blk_cell HLa.out 2; have m0a := blk_cell HMa.out 0; have m1a := blk_cell HMa.out 1; have m2a := blk_cell HMa.out 2; have m3a := blk_cell HMa.out 3; have m4a := blk_cell HMa.out 4; have m5a := blk_cell HMa.out 5) | (go_at_call 34; refine (place_calls t (some ad) c A' c' x.f0 _ HRa.out).mono ?_; rintro e wb ⟨rfl, hbb⟩; rw [hp]; have HKb := Aside0.mk (blk_below HKa.out hbb); have HLb := Aside0.mk (blk_below HLa.out hbb); have HMb := Aside0.mk (blk_below HMa.out hbb); have HRb := Aside0.mk (Kd.C_below HRa.out hbb); have HSb := Aside0.mk (Kd.C_below HSa.out hbb); have HTb := Aside0.mk (HTa.out.below hbb); have HBb := Aside0.mk (below_step HBa.out hbb); have k0b := blk_cell HKb.out 0; have k1b := blk_cell HKb.out 1; have k2b := blk_cell HKb.out 2; have k3b := blk_cell HKb.out 3; have l0b := blk_cell HLb.out 0; have l1b := blk_cell HLb.out 1; have l2b := blk_cell HLb.out 2; have m0b := blk_cell HMb.out 0; have m1b := blk_cell HMb.out 1; have m2b := blk_cell HMb.out 2; have m3b := blk_cell HMb.out 3; have m4b := blk_cell HMb.out 4; have m5b := blk_cell HMb.out 5; clear k0a k1a k2a k3a l0a l1a l2a m0a m1a m2a m3a m4a m5a))
          go_ret
          exact ⟨by rw [HSP.out]; simp [colBad1, hn, hp, g2], HBb.out⟩
        · have hd2 := decide_eq_false g2
          by_cases g3 : x.f5 < 0
          · have hd3 := decide_eq_true g3
            go_enter Tryd.func60, Tryd.ntmps60
            go_wp2_with (first | (go_at_call 32; refine (name_calls x.f0 _ hsz HT3.out).mono ?_; rintro e wa ⟨rfl, hba⟩; rw [hn]; have HKa := Aside0.mk (blk_below HK3.out hba); have HLa := Aside0.mk (blk_below HL3.out hba); have HMa := Aside0.mk (blk_below HM3.out hba); have HRa := Aside0.mk (Kd.C_below HR3.out hba); have HSa := Aside0.mk (Kd.C_below HS3.out hba); have HTa := Aside0.mk (HT3.out.below hba); have HBa := Aside0.mk (below_step HB3.out hba); have k0a := blk_cell HKa.out 0; have k1a := blk_cell HKa.out 1; have k2a := blk_cell HKa.out 2; have k3a := blk_cell HKa.out 3; have l0a := blk_cell HLa.out 0; have l1a := blk_cell HLa.out 1; have l2a := blk_cell HLa.out 2; have m0a := blk_cell HMa.out 0; have m1a := blk_cell HMa.out 1; have m2a := blk_cell HMa.out 2; have m3a := blk_cell HMa.out 3; have m4a := blk_cell HMa.out 4; have m5a := blk_cell HMa.out 5) | (go_at_call 34; refine (place_calls t (some ad) c A' c' x.f0 _ HRa.out).mono ?_; rintro e wb ⟨rfl, hbb⟩; rw [hp]; have HKb := Aside0.mk (blk_below HKa.out hbb); have HLb := Aside0.mk (blk_below HLa.out hbb); have HMb := Aside0.mk (blk_below HMa.out hbb); have HRb := Aside0.mk (Kd.C_below HRa.out hbb); have HSb := Aside0.mk (Kd.C_below HSa.out hbb); have HTb := Aside0.mk (HTa.out.below hbb); have HBb := Aside0.mk (below_step HBa.out hbb); have k0b := blk_cell HKb.out 0; have k1b := blk_cell HKb.out 1; have k2b := blk_cell HKb.out 2; have k3b := blk_cell HKb.out 3; have l0b := blk_cell HLb.out 0; have l1b := blk_cell HLb.out 1; have l2b := blk_cell HLb.out 2; have m0b := blk_cell HMb.out 0; have m1b := blk_cell HMb.out 1; have m2b := blk_cell HMb.out 2; have m3b := blk_cell HMb.out 3; have m4b := blk_cell HMb.out 4; have m5b := blk_cell HMb.out 5; clear k0a k1a k2a k3a l0a l1a l2a m0a m1a m2a m3a m4a m5a))
            go_ret
            exact ⟨by rw [HSP.out]; simp [colBad1, hn, hp, g3], HBb.out⟩
          · have hd3 := decide_eq_false g3
            by_cases g4 : 2 < x.f5
            · have hd4 := decide_eq_true g4
              go_enter Tryd.func60, Tryd.ntmps60
              go_wp2_with (first | (go_at_call 32; refine (name_calls x.f0 _ hsz HT3.out).mono ?_; rintro e wa ⟨rfl, hba⟩; rw [hn]; have HKa := Aside0.mk (blk_below HK3.out hba); have HLa := Aside0.mk (blk_below HL3.out hba); have HMa := Aside0.mk (blk_below HM3.out hba); have HRa := Aside0.mk (Kd.C_below HR3.out hba); have HSa := Aside0.mk (Kd.C_below HS3.out hba); have HTa := Aside0.mk (HT3.out.below hba); have HBa := Aside0.mk (below_step HB3.out hba); have k0a := blk_cell HKa.out 0; have k1a := blk_cell HKa.out 1; have k2a := blk_cell HKa.out 2; have k3a := blk_cell HKa.out 3; have l0a := blk_cell HLa.out 0; have l1a := blk_cell HLa.out 1; have l2a := blk_cell HLa.out 2; have m0a := blk_cell HMa.out 0; have m1a := blk_cell HMa.out 1; have m2a := blk_cell HMa.out 2; have m3a := blk_cell HMa.out 3; have m4a := blk_cell HMa.out 4; have m5a := blk_cell HMa.out 5) | (go_at_call 34; refine (place_calls t (some ad) c A' c' x.f0 _ HRa.out).mono ?_; rintro e wb ⟨rfl, hbb⟩; rw [hp]; have HKb := Aside0.mk (blk_below HKa.out hbb); have HLb := Aside0.mk (blk_below HLa.out hbb); have HMb := Aside0.mk (blk_below HMa.out hbb); have HRb := Aside0.mk (Kd.C_below HRa.out hbb); have HSb := Aside0.mk (Kd.C_below HSa.out hbb); have HTb := Aside0.mk (HTa.out.below hbb); have HBb := Aside0.mk (below_step HBa.out hbb); have k0b := blk_cell HKb.out 0; have k1b := blk_cell HKb.out 1; have k2b := blk_cell HKb.out 2; have k3b := blk_cell HKb.out 3; have l0b := blk_cell HLb.out 0; have l1b := blk_cell HLb.out 1; have l2b := blk_cell HLb.out 2; have m0b := blk_cell HMb.out 0; have m1b := blk_cell HMb.out 1; have m2b := blk_cell HMb.out 2; have m3b := blk_cell HMb.out 3; have m4b := blk_cell HMb.out 4; have m5b := blk_cell HMb.out 5; clear k0a k1a k2a k3a l0a l1a l2a m0a m1a m2a m3a m4a m5a))
              go_ret
              exact ⟨by rw [HSP.out]; simp [colBad1, hn, hp, g4], HBb.out⟩
            · have hd4 := decide_eq_false g4
              have hb1 : colBad1 t.f2 i x = false := by simp [colBad1, hn, hp, g1, g2, g3, g4]
              have HB1 := Aside0.mk hb1
              clear hb1
              cases he : x.f4.toList.isEmpty with
              | true =>
                go_enter Tryd.func60, Tryd.ntmps60
                go_wp2_with (first | (go_at_call 32; refine (name_calls x.f0 _ hsz HT3.out).mono ?_; rintro e wa ⟨rfl, hba⟩; rw [hn]; have HKa := Aside0.mk (blk_below HK3.out hba); have HLa := Aside0.mk (blk_below HL3.out hba); have HMa := Aside0.mk (blk_below HM3.out hba); have HRa := Aside0.mk (Kd.C_below HR3.out hba); have HSa := Aside0.mk (Kd.C_below HS3.out hba); have HTa := Aside0.mk (HT3.out.below hba); have HBa := Aside0.mk (below_step HB3.out hba); have k0a := blk_cell HKa.out 0; have k1a := blk_cell HKa.out 1; have k2a := blk_cell HKa.out 2; have k3a := blk_cell HKa.out 3; have l0a := blk_cell HLa.out 0; have l1a := blk_cell HLa.out 1; have l2a := blk_cell HLa.out 2; have m0a := blk_cell HMa.out 0; have m1a := blk_cell HMa.out 1; have m2a := blk_cell HMa.out 2; have m3a := blk_cell HMa.out 3; have m4a := blk_cell HMa.out 4; have m5a := blk_cell HMa.out 5) | (go_at_call 34; refine (place_calls t (some ad) c A' c' x.f0 _ HRa.out).mono ?_; rintro e wb ⟨rfl, hbb⟩; rw [hp]; have HKb := Aside0.mk (blk_below HKa.out hbb); have HLb := Aside0.mk (blk_below HLa.out hbb); have HMb := Aside0.mk (blk_below HMa.out hbb); have HRb := Aside0.mk (Kd.C_below HRa.out hbb); have HSb := Aside0.mk (Kd.C_below HSa.out hbb); have HTb := Aside0.mk (HTa.out.below hbb); have HBb := Aside0.mk (below_step HBa.out hbb); have k0b := blk_cell HKb.out 0; have k1b := blk_cell HKb.out 1; have k2b := blk_cell HKb.out 2; have k3b := blk_cell HKb.out 3; have l0b := blk_cell HLb.out 0; have l1b := blk_cell HLb.out 1; have l2b := blk_cell HLb.out 2; have m0b := blk_cell HMb.out 0; have m1b := blk_cell HMb.out 1; have m2b := blk_cell HMb.out 2; have m3b := blk_cell HMb.out 3; have m4b := blk_cell HMb.out 4; have m5b := blk_cell HMb.out 5; clear k0a k1a k2a k3a l0a l1a l2a m0a m1a m2a m3a m4a m5a))
                all_goals (first | (go_ret; refine ⟨congrArg (fun b => Ending.returned (.int .i64 b)) ?_, HBb.out⟩; rw [HSP.out, HB1.out]))
                all_goals (first | (simp_all [colBad2]; done))
              | false =>
                cases hs : (x.f4.toList == t.f0.toList) with
                | true =>
                  go_enter Tryd.func60, Tryd.ntmps60
                  go_wp2_with (first | (go_at_call 32; refine (name_calls x.f0 _ hsz HT3.out).mono ?_; rintro e wa ⟨rfl, hba⟩; rw [hn]; have HKa := Aside0.mk (blk_below HK3.out hba); have HLa := Aside0.mk (blk_below HL3.out hba); have HMa := Aside0.mk (blk_below HM3.out hba); have HRa := Aside0.mk (Kd.C_below HR3.out hba); have HSa := Aside0.mk (Kd.C_below HS3.out hba); have HTa := Aside0.mk (HT3.out.below hba); have HBa := Aside0.mk (below_step HB3.out hba); have k0a := blk_cell HKa.out 0; have k1a := blk_cell HKa.out 1; have k2a := blk_cell HKa.out 2; have k3a := blk_cell HKa.out 3; have l0a := blk_cell HLa.out 0; have l1a := blk_cell HLa.out 1; have l2a := blk_cell HLa.out 2; have m0a := blk_cell HMa.out 0; have m1a := blk_cell HMa.out 1; have m2a := blk_cell HMa.out 2; have m3a := blk_cell HMa.out 3; have m4a := blk_cell HMa.out 4; have m5a := blk_cell HMa.out 5) | (go_at_call 34; refine (place_calls t (some ad) c A' c' x.f0 _ HRa.out).mono ?_; rintro e wb ⟨rfl, hbb⟩; rw [hp]; have HKb := Aside0.mk (blk_below HKa.out hbb); have HLb := Aside0.mk (blk_below HLa.out hbb); have HMb := Aside0.mk (blk_below HMa.out hbb); have HRb := Aside0.mk (Kd.C_below HRa.out hbb); have HSb := Aside0.mk (Kd.C_below HSa.out hbb); have HTb := Aside0.mk (HTa.out.below hbb); have HBb := Aside0.mk (below_step HBa.out hbb); have k0b := blk_cell HKb.out 0; have k1b := blk_cell HKb.out 1; have k2b := blk_cell HKb.out 2; have k3b := blk_cell HKb.out 3; have l0b := blk_cell HLb.out 0; have l1b := blk_cell HLb.out 1; have l2b := blk_cell HLb.out 2; have m0b := blk_cell HMb.out 0; have m1b := blk_cell HMb.out 1; have m2b := blk_cell HMb.out 2; have m3b := blk_cell HMb.out 3; have m4b := blk_cell HMb.out 4; have m5b := blk_cell HMb.out 5; clear k0a k1a k2a k3a l0a l1a l2a m0a m1a m2a m3a m4a m5a) | (go_at_call 29; refine (find_calls v ts B d B' n' d' x.f4 _ HSb.out).mono ?_; rintro e wc ⟨A2, A3, c2, c3, rfl, hl2, hC2, hl3, hC3, hbc⟩; have HKc := Aside0.mk (blk_below HKb.out hbc); have HLc := Aside0.mk (blk_below HLb.out hbc); have HMc := Aside0.mk (blk_below HMb.out hbc); have HRc := Aside0.mk (Kd.C_below HRb.out hbc); have HSc := Aside0.mk (Kd.C_below HSb.out hbc); have HTc := Aside0.mk (HTb.out.below hbc); have HBc := Aside0.mk (below_step HBb.out hbc); have k0c := blk_cell HKc.out 0; have k1c := blk_cell HKc.out 1; have k2c := blk_cell HKc.out 2; have k3c := blk_cell HKc.out 3; have l0c := blk_cell HLc.out 0; have l1c := blk_cell HLc.out 1; have l2c := blk_cell HLc.out 2; have m0c := blk_cell HMc.out 0; have m1c := blk_cell HMc.out 1; have m2c := blk_cell HMc.out 2; have m3c := blk_cell HMc.out 3; have m4c := blk_cell HMc.out 4; have m5c := blk_cell HMc.out 5; clear k0b k1b k2b k3b l0b l1b l2b m0b m1b m2b m3b m4b m5b; have hyc := cell_now hbc (cell_now hbb (cell_now hba HY3.out)); have HC2 := Aside0.mk hC2; have HC3 := Aside0.mk hC3; clear hl2 hC2 hl3 hC3; have gk := blk_lt HKc.out; have gm := blk_lt HMc.out; have gy := World.block_lt_of_cell? wc _ hyc))
                  all_goals (try (go_quiet (fail); go_wp2))
                  all_goals (go_ret; refine ⟨congrArg (fun b => Ending.returned (.int .i64 b)) ?_, ?_⟩)
                  all_goals (first | exact HBb.out | exact HBc.out | exact below_alloc HBc.out _ | exact pw_below_drewN (below_alloc HBc.out _) _ | skip)
                  all_goals (first
                    | (rw [HSP.out, HB1.out, bad2_i0 (by assumption) he]; rfl)
                    | (rw [HSP.out, HB1.out, bad2_set (by assumption) (by assumption)]; rfl)
                    | (rw [HSP.out, HB1.out, bad2_no he (by assumption) (by first | (left; assumption) | (right; assumption) | (right; simp only [*]; decide)), he]; show _ = colRef t x ts; rw [ref_self hs hz3 HYY.out]; first | exact (nine (by assumption)).symm | exact (zero0 (by assumption)).symm)
                   )
                | false =>
                  by_cases hneg : findT ts x.f4 < 0
                  · have hfd : decide (0 ≤ findT ts x.f4) = false := decide_eq_false (by omega)
                    go_enter Tryd.func60, Tryd.ntmps60
                    go_wp2_with (first | (go_at_call 32; refine (name_calls x.f0 _ hsz HT3.out).mono ?_; rintro e wa ⟨rfl, hba⟩; rw [hn]; have HKa := Aside0.mk (blk_below HK3.out hba); have HLa := Aside0.mk (blk_below HL3.out hba); have HMa := Aside0.mk (blk_below HM3.out hba); have HRa := Aside0.mk (Kd.C_below HR3.out hba); have HSa := Aside0.mk (Kd.C_below HS3.out hba); have HTa := Aside0.mk (HT3.out.below hba); have HBa := Aside0.mk (below_step HB3.out hba); have k0a := blk_cell HKa.out 0; have k1a := blk_cell HKa.out 1; have k2a := blk_cell HKa.out 2; have k3a := blk_cell HKa.out 3; have l0a := blk_cell HLa.out 0; have l1a := blk_cell HLa.out 1; have l2a := blk_cell HLa.out 2; have m0a := blk_cell HMa.out 0; have m1a := blk_cell HMa.out 1; have m2a := blk_cell HMa.out 2; have m3a := blk_cell HMa.out 3; have m4a := blk_cell HMa.out 4; have m5a := blk_cell HMa.out 5) | (go_at_call 34; refine (place_calls t (some ad) c A' c' x.f0 _ HRa.out).mono ?_; rintro e wb ⟨rfl, hbb⟩; rw [hp]; have HKb := Aside0.mk (blk_below HKa.out hbb); have HLb := Aside0.mk (blk_below HLa.out hbb); have HMb := Aside0.mk (blk_below HMa.out hbb); have HRb := Aside0.mk (Kd.C_below HRa.out hbb); have HSb := Aside0.mk (Kd.C_below HSa.out hbb); have HTb := Aside0.mk (HTa.out.below hbb); have HBb := Aside0.mk (below_step HBa.out hbb); have k0b := blk_cell HKb.out 0; have k1b := blk_cell HKb.out 1; have k2b := blk_cell HKb.out 2; have k3b := blk_cell HKb.out 3; have l0b := blk_cell HLb.out 0; have l1b := blk_cell HLb.out 1; have l2b := blk_cell HLb.out 2; have m0b := blk_cell HMb.out 0; have m1b := blk_cell HMb.out 1; have m2b := blk_cell HMb.out 2; have m3b := blk_cell HMb.out 3; have m4b := blk_cell HMb.out 4; have m5b := blk_cell HMb.out 5; clear k0a k1a k2a k3a l0a l1a l2a m0a m1a m2a m3a m4a m5a) | (go_at_call 29; refine (find_calls v ts B d B' n' d' x.f4 _ HSb.out).mono ?_; rintro e wc ⟨A2, A3, c2, c3, rfl, hl2, hC2, hl3, hC3, hbc⟩; rw [hfd]; have HKc := Aside0.mk (blk_below HKb.out hbc); have HLc := Aside0.mk (blk_below HLb.out hbc); have HMc := Aside0.mk (blk_below HMb.out hbc); have HRc := Aside0.mk (Kd.C_below HRb.out hbc); have HSc := Aside0.mk (Kd.C_below HSb.out hbc); have HTc := Aside0.mk (HTb.out.below hbc); have HBc := Aside0.mk (below_step HBb.out hbc); have k0c := blk_cell HKc.out 0; have k1c := blk_cell HKc.out 1; have k2c := blk_cell HKc.out 2; have k3c := blk_cell HKc.out 3; have l0c := blk_cell HLc.out 0; have l1c := blk_cell HLc.out 1; have l2c := blk_cell HLc.out 2; have m0c := blk_cell HMc.out 0; have m1c := blk_cell HMc.out 1; have m2c := blk_cell HMc.out 2; have m3c := blk_cell HMc.out 3; have m4c := blk_cell HMc.out 4; have m5c := blk_cell HMc.out 5; clear k0b k1b k2b k3b l0b l1b l2b m0b m1b m2b m3b m4b m5b; have hyc := cell_now hbc (cell_now hbb (cell_now hba HY3.out)); have HC2 := Aside0.mk hC2; have HC3 := Aside0.mk hC3; clear hl2 hC2 hl3 hC3; have gk := blk_lt HKc.out; have gm := blk_lt HMc.out; have gy := World.block_lt_of_cell? wc _ hyc))
                    all_goals (try (go_quiet (fail); go_wp2))
                    all_goals (go_ret; refine ⟨congrArg (fun b => Ending.returned (.int .i64 b)) ?_, ?_⟩)
                    all_goals (first | exact HBb.out | exact HBc.out | exact below_alloc HBc.out _ | exact pw_below_drewN (below_alloc HBc.out _) _ | skip)
                    all_goals (first
                      | (rw [HSP.out, HB1.out, bad2_i0 (by assumption) he]; rfl)
                      | (rw [HSP.out, HB1.out, bad2_set (by assumption) (by assumption)]; rfl)
                      | (rw [HSP.out, HB1.out, bad2_no he (by assumption) (by first | (left; assumption) | (right; assumption) | (right; simp only [*]; decide)), he]; show _ = colRef t x ts; rw [ref_none hs hneg])
                     )
                  · have hfd : decide (0 ≤ findT ts x.f4) = true := decide_eq_true (by omega)
                    by_cases hz : (theT ts x.f4).f2.length = 0
                    · go_enter Tryd.func60, Tryd.ntmps60
                      go_wp2_with (first | (go_at_call 32; refine (name_calls x.f0 _ hsz HT3.out).mono ?_; rintro e wa ⟨rfl, hba⟩; rw [hn]; have HKa := Aside0.mk (blk_below HK3.out hba); have HLa := Aside0.mk (blk_below HL3.out hba); have HMa := Aside0.mk (blk_below HM3.out hba); have HRa := Aside0.mk (Kd.C_below HR3.out hba); have HSa := Aside0.mk (Kd.C_below HS3.out hba); have HTa := Aside0.mk (HT3.out.below hba); have HBa := Aside0.mk (below_step HB3.out hba); have k0a := blk_cell HKa.out 0; have k1a := blk_cell HKa.out 1; have k2a := blk_cell HKa.out 2; have k3a := blk_cell HKa.out 3; have l0a := blk_cell HLa.out 0; have l1a := blk_cell HLa.out 1; have l2a := blk_cell HLa.out 2; have m0a := blk_cell HMa.out 0; have m1a := blk_cell HMa.out 1; have m2a := blk_cell HMa.out 2; have m3a := blk_cell HMa.out 3; have m4a := blk_cell HMa.out 4; have m5a := blk_cell HMa.out 5) | (go_at_call 34; refine (place_calls t (some ad) c A' c' x.f0 _ HRa.out).mono ?_; rintro e wb ⟨rfl, hbb⟩; rw [hp]; have HKb := Aside0.mk (blk_below HKa.out hbb); have HLb := Aside0.mk (blk_below HLa.out hbb); have HMb := Aside0.mk (blk_below HMa.out hbb); have HRb := Aside0.mk (Kd.C_below HRa.out hbb); have HSb := Aside0.mk (Kd.C_below HSa.out hbb); have HTb := Aside0.mk (HTa.out.below hbb); have HBb := Aside0.mk (below_step HBa.out hbb); have k0b := blk_cell HKb.out 0; have k1b := blk_cell HKb.out 1; have k2b := blk_cell HKb.out 2; have k3b := blk_cell HKb.out 3; have l0b := blk_cell HLb.out 0; have l1b := blk_cell HLb.out 1; have l2b := blk_cell HLb.out 2; have m0b := blk_cell HMb.out 0; have m1b := blk_cell HMb.out 1; have m2b := blk_cell HMb.out 2; have m3b := blk_cell HMb.out 3; have m4b := blk_cell HMb.out 4; have m5b := blk_cell HMb.out 5; clear k0a k1a k2a k3a l0a l1a l2a m0a m1a m2a m3a m4a m5a) | (go_at_call 29; refine (find_calls v ts B d B' n' d' x.f4 _ HSb.out).mono ?_; rintro e wc ⟨A2, A3, c2, c3, rfl, hl2, hC2, hl3, hC3, hbc⟩; rw [hfd]; have HKc := Aside0.mk (blk_below HKb.out hbc); have HLc := Aside0.mk (blk_below HLb.out hbc); have HMc := Aside0.mk (blk_below HMb.out hbc); have HRc := Aside0.mk (Kd.C_below HRb.out hbc); have HSc := Aside0.mk (Kd.C_below HSb.out hbc); have HTc := Aside0.mk (HTb.out.below hbc); have HBc := Aside0.mk (below_step HBb.out hbc); have k0c := blk_cell HKc.out 0; have k1c := blk_cell HKc.out 1; have k2c := blk_cell HKc.out 2; have k3c := blk_cell HKc.out 3; have l0c := blk_cell HLc.out 0; have l1c := blk_cell HLc.out 1; have l2c := blk_cell HLc.out 2; have m0c := blk_cell HMc.out 0; have m1c := blk_cell HMc.out 1; have m2c := blk_cell HMc.out 2; have m3c := blk_cell HMc.out 3; have m4c := blk_cell HMc.out 4; have m5c := blk_cell HMc.out 5; clear k0b k1b k2b k3b l0b l1b l2b m0b m1b m2b m3b m4b m5b; have hyc := cell_now hbc (cell_now hbb (cell_now hba HY3.out)); have HC2 := Aside0.mk hC2; have HC3 := Aside0.mk hC3; clear hl2 hC2 hl3 hC3; have gk := blk_lt HKc.out; have gm := blk_lt HMc.out; have gy := World.block_lt_of_cell? wc _ hyc))
                      all_goals (try (go_quiet (fail); go_wp2))
                      all_goals (go_ret; refine ⟨congrArg (fun b => Ending.returned (.int .i64 b)) ?_, ?_⟩)
                      all_goals (first | exact HBb.out | exact HBc.out | exact below_alloc HBc.out _ | exact pw_below_drewN (below_alloc HBc.out _) _ | skip)
                      all_goals (first
                        | (rw [HSP.out, HB1.out, bad2_i0 (by assumption) he]; rfl)
                        | (rw [HSP.out, HB1.out, bad2_set (by assumption) (by assumption)]; rfl)
                        | (rw [HSP.out, HB1.out, bad2_no he (by assumption) (by first | (left; assumption) | (right; assumption) | (right; simp only [*]; decide)), he]; show _ = colRef t x ts; rw [ref_empty hs hz])
                       )
                    · have hz1 : (0 : Int) < ((theT ts x.f4).f2.length : Int) := by omega
                      have hz4 : 0 < (theT ts x.f4).f2.length := by omega
                      go_enter Tryd.func60, Tryd.ntmps60
                      go_wp2_with (first | (go_at_call 32; refine (name_calls x.f0 _ hsz HT3.out).mono ?_; rintro e wa ⟨rfl, hba⟩; rw [hn]; have HKa := Aside0.mk (blk_below HK3.out hba); have HLa := Aside0.mk (blk_below HL3.out hba); have HMa := Aside0.mk (blk_below HM3.out hba); have HRa := Aside0.mk (Kd.C_below HR3.out hba); have HSa := Aside0.mk (Kd.C_below HS3.out hba); have HTa := Aside0.mk (HT3.out.below hba); have HBa := Aside0.mk (below_step HB3.out hba); have k0a := blk_cell HKa.out 0; have k1a := blk_cell HKa.out 1; have k2a := blk_cell HKa.out 2; have k3a := blk_cell HKa.out 3; have l0a := blk_cell HLa.out 0; have l1a := blk_cell HLa.out 1; have l2a := blk_cell HLa.out 2; have m0a := blk_cell HMa.out 0; have m1a := blk_cell HMa.out 1; have m2a := blk_cell HMa.out 2; have m3a := blk_cell HMa.out 3; have m4a := blk_cell HMa.out 4; have m5a := blk_cell HMa.out 5) | (go_at_call 34; refine (place_calls t (some ad) c A' c' x.f0 _ HRa.out).mono ?_; rintro e wb ⟨rfl, hbb⟩; rw [hp]; have HKb := Aside0.mk (blk_below HKa.out hbb); have HLb := Aside0.mk (blk_below HLa.out hbb); have HMb := Aside0.mk (blk_below HMa.out hbb); have HRb := Aside0.mk (Kd.C_below HRa.out hbb); have HSb := Aside0.mk (Kd.C_below HSa.out hbb); have HTb := Aside0.mk (HTa.out.below hbb); have HBb := Aside0.mk (below_step HBa.out hbb); have k0b := blk_cell HKb.out 0; have k1b := blk_cell HKb.out 1; have k2b := blk_cell HKb.out 2; have k3b := blk_cell HKb.out 3; have l0b := blk_cell HLb.out 0; have l1b := blk_cell HLb.out 1; have l2b := blk_cell HLb.out 2; have m0b := blk_cell HMb.out 0; have m1b := blk_cell HMb.out 1; have m2b := blk_cell HMb.out 2; have m3b := blk_cell HMb.out 3; have m4b := blk_cell HMb.out 4; have m5b := blk_cell HMb.out 5; clear k0a k1a k2a k3a l0a l1a l2a m0a m1a m2a m3a m4a m5a) | (go_at_call 29; refine (find_calls v ts B d B' n' d' x.f4 _ HSb.out).mono ?_; rintro e wc ⟨A2, A3, c2, c3, rfl, hl2, hC2, hl3, hC3, hbc⟩; rw [hfd]; obtain ⟨ad2, eA, _, hz2, _, _, _, _⟩ := at_T59 hC2 0 (by omega) hz1; subst eA; simp only [Int.toNat_zero, rd_T59, Nat.zero_mul, add_none] at hz2; generalize hzz : (theT ts x.f4).f2.getD 0 z59 = z at hz2; have HZZ := Aside0.mk hzz; clear hzz; have hzc := cell_now hbc hz2; have gz := World.block_lt_of_cell? wc _ hzc; have HKc := Aside0.mk (blk_below HKb.out hbc); have HLc := Aside0.mk (blk_below HLb.out hbc); have HMc := Aside0.mk (blk_below HMb.out hbc); have HRc := Aside0.mk (Kd.C_below HRb.out hbc); have HSc := Aside0.mk (Kd.C_below HSb.out hbc); have HTc := Aside0.mk (HTb.out.below hbc); have HBc := Aside0.mk (below_step HBb.out hbc); have k0c := blk_cell HKc.out 0; have k1c := blk_cell HKc.out 1; have k2c := blk_cell HKc.out 2; have k3c := blk_cell HKc.out 3; have l0c := blk_cell HLc.out 0; have l1c := blk_cell HLc.out 1; have l2c := blk_cell HLc.out 2; have m0c := blk_cell HMc.out 0; have m1c := blk_cell HMc.out 1; have m2c := blk_cell HMc.out 2; have m3c := blk_cell HMc.out 3; have m4c := blk_cell HMc.out 4; have m5c := blk_cell HMc.out 5; clear k0b k1b k2b k3b l0b l1b l2b m0b m1b m2b m3b m4b m5b; have hyc := cell_now hbc (cell_now hbb (cell_now hba HY3.out)); have HC2 := Aside0.mk hC2; have HC3 := Aside0.mk hC3; clear hl2 hC2 hl3 hC3; have gk := blk_lt HKc.out; have gm := blk_lt HMc.out; have gy := World.block_lt_of_cell? wc _ hyc))
                      all_goals (try (go_quiet (fail); go_wp2))
                      all_goals (go_ret; refine ⟨congrArg (fun b => Ending.returned (.int .i64 b)) ?_, ?_⟩)
                      all_goals (first | exact HBb.out | exact HBc.out | exact below_alloc HBc.out _ | exact pw_below_drewN (below_alloc HBc.out _) _ | skip)
                      all_goals (first
                        | (rw [HSP.out, HB1.out, bad2_i0 (by assumption) he]; rfl)
                        | (rw [HSP.out, HB1.out, bad2_set (by assumption) (by assumption)]; rfl)
                        | (rw [HSP.out, HB1.out, bad2_no he (by assumption) (by first | (left; assumption) | (right; assumption) | (right; simp only [*]; decide)), he]; show _ = colRef t x ts; rw [ref_other hs (by omega) (by omega) HZZ.out]; first | exact (nine (by assumption)).symm | exact (zero0 (by assumption)).symm)
                       )
    · have hpd : decide (placeC t.f2 x.f0 = (i : Int)) = false := decide_eq_false hp
      go_enter Tryd.func60, Tryd.ntmps60
      go_wp2_with (first | (go_at_call 32; refine (name_calls x.f0 _ hsz HT3.out).mono ?_; rintro e wa ⟨rfl, hba⟩; rw [hn]; have HKa := Aside0.mk (blk_below HK3.out hba); have HLa := Aside0.mk (blk_below HL3.out hba); have HMa := Aside0.mk (blk_below HM3.out hba); have HRa := Aside0.mk (Kd.C_below HR3.out hba); have HSa := Aside0.mk (Kd.C_below HS3.out hba); have HTa := Aside0.mk (HT3.out.below hba); have HBa := Aside0.mk (below_step HB3.out hba); have k0a := blk_cell HKa.out 0; have k1a := blk_cell HKa.out 1; have k2a := blk_cell HKa.out 2; have k3a := blk_cell HKa.out 3; have l0a := blk_cell HLa.out 0; have l1a := blk_cell HLa.out 1; have l2a := blk_cell HLa.out 2; have m0a := blk_cell HMa.out 0; have m1a := blk_cell HMa.out 1; have m2a := blk_cell HMa.out 2; have m3a := blk_cell HMa.out 3; have m4a := blk_cell HMa.out 4; have m5a := blk_cell HMa.out 5) | (go_at_call 34; refine (place_calls t (some ad) c A' c' x.f0 _ HRa.out).mono ?_; rintro e wb ⟨rfl, hbb⟩; have HKb := Aside0.mk (blk_below HKa.out hbb); have HLb := Aside0.mk (blk_below HLa.out hbb); have HMb := Aside0.mk (blk_below HMa.out hbb); have HRb := Aside0.mk (Kd.C_below HRa.out hbb); have HSb := Aside0.mk (Kd.C_below HSa.out hbb); have HTb := Aside0.mk (HTa.out.below hbb); have HBb := Aside0.mk (below_step HBa.out hbb); have k0b := blk_cell HKb.out 0; have k1b := blk_cell HKb.out 1; have k2b := blk_cell HKb.out 2; have k3b := blk_cell HKb.out 3; have l0b := blk_cell HLb.out 0; have l1b := blk_cell HLb.out 1; have l2b := blk_cell HLb.out 2; have m0b := blk_cell HMb.out 0; have m1b := blk_cell HMb.out 1; have m2b := blk_cell HMb.out 2; have m3b := blk_cell HMb.out 3; have m4b := blk_cell HMb.out 4; have m5b := blk_cell HMb.out 5; clear k0a k1a k2a k3a l0a l1a l2a m0a m1a m2a m3a m4a m5a))
      go_ret
      exact ⟨by rw [HSP.out]; simp only [colBad1, hn, decide_eq_true hp]; rfl, HBb.out⟩
end Go.Proofs.YtefdfgmlmjnmlaaDoor.My
end

section
set_option linter.unusedSimpArgs false
set_option linter.unusedVariables false
namespace Go.Proofs.YtefdfgmlmjnmlaaDoor.My
open Go.RowKit Go.Proofs.YtefdfgmlmjnmlaaDoorW.PrintWords Go.Proofs.YtefdfgmlmjnmlaaDoor.Rf
/-- What is wrong with the first column with which something is. -/
def colsE (t : S45) (ts : List S45) : Int := ((List.range t.f2.length).find? (fun i => colE t i ts != 0)).elim 0 (fun i => colE t i ts)
theorem colsE_hit {t : S45} {ts : List S45} {k : Nat} (hk : k < t.f2.length) (ha : ∀ j, j < k → colE t j ts = 0) (h : colE t k ts ≠ 0) : colsE t ts = colE t k ts := by
  have : (List.range t.f2.length).find? (fun i => colE t i ts != 0) = some k := by
    rw [List.find?_range_eq_some]
    exact ⟨by simpa using h, List.mem_range.2 hk, fun j hj => by simp [ha j hj]⟩
  unfold colsE
  rw [this]
  rfl
theorem colsE_none {t : S45} {ts : List S45} (ha : ∀ j, j < t.f2.length → colE t j ts = 0) : colsE t ts = 0 := by
  have : (List.range t.f2.length).find? (fun i => colE t i ts != 0) = none := by
    rw [List.find?_eq_none]
    intro j hj
    simp [ha j (List.mem_range.1 hj)]
  unfold colsE
  rw [this]
  rfl
/-- What is wrong with a table, its checks aside. -/
def goodE0 (t : S45) (ts : List S45) : Int :=
  if !isName t.f0 || (decide (t.f1 < 0) || (decide (8 ≤ t.f1) || decide (t.f2.length = 0))) then 4
  else if decide (6 < t.f2.length) || decide (4 < t.f3.length) then 3
  else colsE t ts
theorem column0_calls (t : S45) (A : Option Addr) (c : Nat) (A' : Option Addr) (c' : Nat) (i : Nat) (v : Int) (ts : List S45) (B : Option Addr) (d : Nat) (B' : Option Addr) (n' d' : Nat) (w : World) (h3 : t.f3.length = 0)
    (hr : Kd.C k59 w A t.f2.length t.f2) (hts : Kd.C k45 w B ts.length ts) (hT : Tabs w) (hi : i < t.f2.length) (hok : ∀ x, x ∈ t.f2 → x.f0.size ≤ 9223372036854775807) :
    Calls Tryd.prog 60 #[.agg #[.string t.f0, .int .i64 t.f1, .slice A t.f2.length c, .slice A' 0 c'], .int .i64 i, .agg #[.int .i64 v, .slice B ts.length d, .slice B' n' d']] w (IntPost (colE t i ts) w) := by
  have h := column_calls t A c A' c' i v ts B d B' n' d' w hr hts hT hi hok
  rw [h3] at h
  exact h
set_option maxHeartbeats 4000000 in
set_option maxRecDepth 100000 in
theorem good0_calls (t : S45) (A : Option Addr) (c : Nat) (A' : Option Addr) (c' : Nat) (v : Int) (ts : List S45) (B : Option Addr) (d : Nat) (B' : Option Addr) (n' d' : Nat) (w : World)
    (hr : Kd.C k59 w A t.f2.length t.f2) (h3 : t.f3 = []) (hts : Kd.C k45 w B ts.length ts) (hT : Tabs w) (hs0 : t.f0.size ≤ 9223372036854775807) (hok : ∀ x, x ∈ t.f2 → x.f0.size ≤ 9223372036854775807) :
    Calls Tryd.prog 36 #[.agg #[.string t.f0, .int .i64 t.f1, .slice A t.f2.length c, .slice A' 0 c'], .agg #[.int .i64 v, .slice B ts.length d, .slice B' n' d']] w (IntPost (goodE0 t ts) w) := by
  have b2 := below2 w (.cells #[.string t.f0, .int .i64 t.f1, .slice A t.f2.length c, .slice A' 0 c'] 45) (.cells #[.int .i64 v, .slice B ts.length d, .slice B' n' d'] 25)
  have HB := Aside0.mk b2
  have HK := Aside0.mk (blk_alloc (blk_new w (.cells #[.string t.f0, .int .i64 t.f1, .slice A t.f2.length c, .slice A' 0 c'] 45)) (.cells #[.int .i64 v, .slice B ts.length d, .slice B' n' d'] 25))
  have HL := Aside0.mk (blk_new1 w (.cells #[.string t.f0, .int .i64 t.f1, .slice A t.f2.length c, .slice A' 0 c'] 45) (.cells #[.int .i64 v, .slice B ts.length d, .slice B' n' d'] 25))
  have HR := Aside0.mk (Kd.C_below hr b2)
  have HS := Aside0.mk (Kd.C_below hts b2)
  have HT := Aside0.mk (hT.below b2)
  have HO := Aside0.mk hok
  have hn := hr.2.1
  have hl3 : t.f3.length = 0 := by rw [h3]; rfl
  have HL3 := Aside0.mk hl3
  clear b2 hr hts hT hok hl3 h3
  cases hnm : isName t.f0 with
  | false =>
    go_enter Tryd.func36, Tryd.ntmps36
    go_wp2_with (first | (go_at_call 32; refine (name_calls t.f0 _ hs0 HT.out).mono ?_; rintro e wa ⟨rfl, hba⟩; rw [hnm]))
    go_ret
    exact ⟨by unfold goodE0; rw [hnm]; rfl, below_step HB.out hba⟩
  | true =>
    by_cases g1 : t.f1 < 0
    · have q1 := decide_eq_true g1
      have hres : goodE0 t ts = 4 := by unfold goodE0; rw [hnm]; simp [g1]
      have HRES := Aside0.mk hres
      clear hres
      go_enter Tryd.func36, Tryd.ntmps36
      go_wp2_with (first | (go_at_call 32; refine (name_calls t.f0 _ hs0 HT.out).mono ?_; rintro e wa ⟨rfl, hba⟩; rw [hnm]; have HKa := Aside0.mk (blk_below HK.out hba); have HLa := Aside0.mk (blk_below HL.out hba); have HBa := Aside0.mk (below_step HB.out hba); have a0 := blk_cell HKa.out 0; have a1 := blk_cell HKa.out 1; have a2 := blk_cell HKa.out 2; have a3 := blk_cell HKa.out 3))
      go_ret
      exact ⟨by rw [HRES.out]; rfl, HBa.out⟩
    · have q1 := decide_eq_false g1
      by_cases g2 : 8 ≤ t.f1
      · have q2 := decide_eq_true g2
        have hres : goodE0 t ts = 4 := by unfold goodE0; rw [hnm]; simp [g2]
        have HRES := Aside0.mk hres
        clear hres
        go_enter Tryd.func36, Tryd.ntmps36
        go_wp2_with (first | (go_at_call 32; refine (name_calls t.f0 _ hs0 HT.out).mono ?_; rintro e wa ⟨rfl, hba⟩; rw [hnm]; have HKa := Aside0.mk (blk_below HK.out hba); have HLa := Aside0.mk (blk_below HL.out hba); have HBa := Aside0.mk (below_step HB.out hba); have a0 := blk_cell HKa.out 0; have a1 := blk_cell HKa.out 1; have a2 := blk_cell HKa.out 2; have a3 := blk_cell HKa.out 3))
        go_ret
        exact ⟨by rw [HRES.out]; rfl, HBa.out⟩
      · have q2 := decide_eq_false g2
        by_cases g3 : t.f2.length = 0
        · have q3 : ((t.f2.length : Int) == 0) = true := by simp [g3]
          have hres : goodE0 t ts = 4 := by unfold goodE0; rw [hnm]; simp [g3]
          clear g3
          have HRES := Aside0.mk hres
          clear hres
          go_enter Tryd.func36, Tryd.ntmps36
          go_wp2_with (first | (go_at_call 32; refine (name_calls t.f0 _ hs0 HT.out).mono ?_; rintro e wa ⟨rfl, hba⟩; rw [hnm]; have HKa := Aside0.mk (blk_below HK.out hba); have HLa := Aside0.mk (blk_below HL.out hba); have HBa := Aside0.mk (below_step HB.out hba); have a0 := blk_cell HKa.out 0; have a1 := blk_cell HKa.out 1; have a2 := blk_cell HKa.out 2; have a3 := blk_cell HKa.out 3))
          go_ret
          exact ⟨by rw [HRES.out]; rfl, HBa.out⟩
        · have q3 : ((t.f2.length : Int) == 0) = false := by simp [g3]
          by_cases g4 : 6 < t.f2.length
          · have q4 : decide (6 < (t.f2.length : Int)) = true := decide_eq_true (by omega)
            have hres : goodE0 t ts = 3 := by unfold goodE0; rw [hnm]; simp [g1, g2, g3, g4]
            have HRES := Aside0.mk hres
            clear hres
            go_enter Tryd.func36, Tryd.ntmps36
            go_wp2_with (first | (go_at_call 32; refine (name_calls t.f0 _ hs0 HT.out).mono ?_; rintro e wa ⟨rfl, hba⟩; rw [hnm]; have HKa := Aside0.mk (blk_below HK.out hba); have HLa := Aside0.mk (blk_below HL.out hba); have HBa := Aside0.mk (below_step HB.out hba); have a0 := blk_cell HKa.out 0; have a1 := blk_cell HKa.out 1; have a2 := blk_cell HKa.out 2; have a3 := blk_cell HKa.out 3))
            go_ret
            exact ⟨by rw [HRES.out]; rfl, HBa.out⟩
          · have q4 : decide (6 < (t.f2.length : Int)) = false := decide_eq_false (by omega)
            have hres : goodE0 t ts = colsE t ts := by unfold goodE0; rw [hnm, HL3.out]; simp [g1, g2, g3, g4]
            have HRES := Aside0.mk hres
            clear hres
            have HBW : Aside0 (∀ wa : World, Below ((w.alloc (.cells #[.string t.f0, .int .i64 t.f1, .slice A t.f2.length c, .slice A' 0 c'] 45)).alloc (.cells #[.int .i64 v, .slice B ts.length d, .slice B' n' d'] 25)).heap.size ((w.alloc (.cells #[.string t.f0, .int .i64 t.f1, .slice A t.f2.length c, .slice A' 0 c'] 45)).alloc (.cells #[.int .i64 v, .slice B ts.length d, .slice B' n' d'] 25)) wa → True) := ⟨fun _ _ => trivial⟩
            go_enter Tryd.func36, Tryd.ntmps36
            go_wp2_with (first | (go_at_call 32; refine (name_calls t.f0 _ hs0 HT.out).mono ?_; rintro e wa ⟨rfl, hba⟩; rw [hnm]; have HKa := Aside0.mk (blk_below HK.out hba); have HLa := Aside0.mk (blk_below HL.out hba); have HBa := Aside0.mk (below_step HB.out hba); have a0 := blk_cell HKa.out 0; have a1 := blk_cell HKa.out 1; have a2 := blk_cell HKa.out 2; have a3 := blk_cell HKa.out 3))
            go_loopw [5, 6, 46] (fun _ _ t46 wr => ∃ k : Nat, t46 = .int .i64 k ∧ k ≤ t.f2.length ∧ Aside0 (∀ j, j < k → colE t j ts = 0) ∧ Aside0 (Below ((w.alloc (.cells #[.string t.f0, .int .i64 t.f1, .slice A t.f2.length c, .slice A' 0 c'] 45)).alloc (.cells #[.int .i64 v, .slice B ts.length d, .slice B' n' d'] 25)).heap.size ((w.alloc (.cells #[.string t.f0, .int .i64 t.f1, .slice A t.f2.length c, .slice A' 0 c'] 45)).alloc (.cells #[.int .i64 v, .slice B ts.length d, .slice B' n' d'] 25)) wr)) (fun _ _ t46 _ => t.f2.length - (intOf t46).toNat)
            case atStart => exact ⟨0, rfl, Nat.zero_le _, ⟨fun j hj => absurd hj (by omega)⟩, ⟨hba⟩⟩
            case round =>
              obtain ⟨k, rfl, hk, HA, HBr⟩ := hrel
              have HKr := Aside0.mk (blk_below HK.out HBr.out)
              have HLr := Aside0.mk (blk_below HL.out HBr.out)
              clear a0 a1 a2 a3
              have a0 := blk_cell HKr.out 0
              have a1 := blk_cell HKr.out 1
              have a2 := blk_cell HKr.out 2
              have a3 := blk_cell HKr.out 3
              have b0 := blk_cell HLr.out 0
              have b1 := blk_cell HLr.out 1
              have b2 := blk_cell HLr.out 2
              have HRr := Aside0.mk (Kd.C_below HR.out HBr.out)
              have HSr := Aside0.mk (Kd.C_below HS.out HBr.out)
              have HTr := Aside0.mk (HT.out.below HBr.out)
              by_cases hlt : k < t.f2.length
              · have hi1 : (k : Int) < (t.f2.length : Int) := by omega
                by_cases hce0 : colE t k ts = 0
                · have hce := hce0
                  have hall : ∀ j, j < k + 1 → colE t j ts = 0 := fun j hj => by
                    rcases Nat.lt_or_ge j k with h | h
                    · exact HA.out j h
                    · obtain rfl : j = k := by omega
                      exact hce0
                  have HALL := Aside0.mk hall
                  clear hall hce0
                  go_wp2_with (first | (go_at_call 60; refine (column0_calls t A c A' c' k v ts B d B' n' d' _ HL3.out HRr.out HSr.out HTr.out (by omega) HO.out).mono ?_; rintro e wc ⟨rfl, hbc⟩; rw [hce]))
                  go_roundw
                  case rel => exact ⟨k + 1, by go_num, by omega, HALL, ⟨below_step HBr.out hbc⟩⟩
                  case measure => simp [intOf]; omega
                · have hfin := colsE_hit hlt HA.out hce0
                  have HFIN := Aside0.mk hfin
                  generalize hce : colE t k ts = ce at hfin hce0
                  have HCE := Aside0.mk hce
                  clear hfin
                  have q5 : (ce != 0) = true := by simpa using hce0
                  go_wp2_with (first | (go_at_call 60; refine (column0_calls t A c A' c' k v ts B d B' n' d' _ HL3.out HRr.out HSr.out HTr.out (by omega) HO.out).mono ?_; rintro e wc ⟨rfl, hbc⟩; rw [hce]))
                  go_ret
                  exact ⟨by rw [HRES.out, HFIN.out, HCE.out]; rfl, below_step HB.out (below_step HBr.out hbc)⟩
              · have hfin := colsE_none (t := t) (ts := ts) (fun j hj => HA.out j (by omega))
                have HFIN := Aside0.mk hfin
                clear hfin
                have hkk : k = t.f2.length := by omega
                subst hkk
                go_wp2
                go_loopw [8, 60] (fun _ t60 w2 => t60 = .int .i64 0 ∧ w2 = wr) (fun _ _ _ => 0)
                case atStart => exact ⟨rfl, rfl⟩
                case round =>
                  obtain ⟨rfl, rfl⟩ := hrel
                  go_wp2
                  go_ret
                  exact ⟨by rw [HRES.out, HFIN.out]; rfl, below_step HB.out HBr.out⟩
end Go.Proofs.YtefdfgmlmjnmlaaDoor.My
end

section
namespace Go.Proofs.YtefdfgmlmjnmlaaDoor.My
open Go.RowKit Go.Proofs.YtefdfgmlmjnmlaaDoorW.PrintWords Go.Proofs.YtefdfgmlmjnmlaaDoor.Rf
theorem row1 {α : Type} (d : Kd α) {w : World} {t : TypeId} {x : α} {cs : List Value} (hK : d.K w x cs) (hl : cs.length = d.sz) {g : Nat} (hb : w.heap[g]? = some (.cells cs.toArray t (0, 0))) : Kd.C d w (some ⟨g, 0, none⟩) [x].length [x] := by
  refine ⟨rfl, by simp, fun _ => ⟨⟨g, 0, none⟩, rfl, fun j p hp => ?_⟩⟩
  cases j with
  | succ j => simp at hp
  | zero =>
    simp only [List.getElem?_cons_zero, Option.some.injEq] at hp
    subst hp
    refine ⟨cs, hl, hK, fun i u hu => ?_⟩
    have := blk_cell hb i
    have hu' := this.trans (show cs.toArray[i]? = some u by simpa using hu)
    cases i <;> simpa [Addr.add] using hu'
end Go.Proofs.YtefdfgmlmjnmlaaDoor.My
end

section
namespace Go.Proofs.YtefdfgmlmjnmlaaDoor.My
open Go.RowKit Go.Proofs.YtefdfgmlmjnmlaaDoorW.PrintWords Go.Proofs.YtefdfgmlmjnmlaaDoor.Rf
def cId : S59 := ⟨⟨#[105, 100]⟩, 1, true, false, ⟨#[]⟩, 0⟩
def tId : S45 := ⟨⟨#[97]⟩, 0, [cId], []⟩
def tNo : S45 := ⟨⟨#[97]⟩, 0, [], []⟩
theorem rowId {g : Nat} (w : World) (hb : w.heap[g]? = some (.cells #[.string ⟨#[105, 100]⟩, .int .i64 1, .bool true, .bool false, .string ⟨#[]⟩, .int .i64 0] 59 (0, 0))) : Kd.C k59 w (some ⟨g, 0, none⟩) [cId].length [cId] :=
  row1 k59 (k59_mk w cId) rfl hb
theorem good_no (w : World) (hT : Tabs w) : Calls Tryd.prog 36 #[.agg #[.string ⟨#[97]⟩, .int .i64 0, .slice none 0 0, .slice none 0 0], .agg #[.int .i64 0, .slice none 0 0, .slice none 0 0]] w (IntPost 4 w) := by
  have h := good0_calls tNo none 0 none 0 0 [] none 0 none 0 0 w (Kd.C_nil _ _) rfl (Kd.C_nil _ _) hT (by decide) (fun x hx => by cases hx)
  rw [show goodE0 tNo [] = 4 by kernel_rfl] at h
  exact h
theorem good_id {g : Nat} (w : World) (hT : Tabs w) (hb : w.heap[g]? = some (.cells #[.string ⟨#[105, 100]⟩, .int .i64 1, .bool true, .bool false, .string ⟨#[]⟩, .int .i64 0] 59 (0, 0))) : Calls Tryd.prog 36 #[.agg #[.string ⟨#[97]⟩, .int .i64 0, .slice (some ⟨g, 0, none⟩) 1 1, .slice none 0 0], .agg #[.int .i64 0, .slice none 0 0, .slice none 0 0]] w (IntPost 0 w) := by
  have h := good0_calls tId (some ⟨g, 0, none⟩) 1 none 0 0 [] none 0 none 0 0 w (rowId w hb) rfl (Kd.C_nil _ _) hT (by decide) (fun x hx => by have hx : x ∈ [cId] := hx; simp at hx; subst hx; decide)
  rw [show goodE0 tId [] = 0 by kernel_rfl] at h
  exact h
theorem name_a1 (w : World) (hT : Tabs w) : Calls Tryd.prog 32 #[.string ⟨#[97, 95, 49]⟩] w (BoolPost true w) := by
  refine (name_calls ⟨#[97, 95, 49]⟩ w (by decide) hT).mono ?_
  rintro e w' ⟨rfl, hb⟩
  exact ⟨by rw [show isName ⟨#[97, 95, 49]⟩ = true by kernel_rfl], hb⟩
theorem place_id {g : Nat} (w : World) (hb : w.heap[g]? = some (.cells #[.string ⟨#[105, 100]⟩, .int .i64 1, .bool true, .bool false, .string ⟨#[]⟩, .int .i64 0] 59 (0, 0))) : Calls Tryd.prog 34 #[.agg #[.string ⟨#[97]⟩, .int .i64 0, .slice (some ⟨g, 0, none⟩) 1 1, .slice none 0 0], .string ⟨#[120]⟩] w (IntPost (-1) w) := by
  have h := place_calls tId (some ⟨g, 0, none⟩) 1 none 0 ⟨#[120]⟩ w (rowId w hb)
  rw [show placeC tId.f2 ⟨#[120]⟩ = -1 by kernel_rfl] at h
  exact h
set_option maxRecDepth 100000 in
theorem alive9_calls (w : World) (hT : Tabs w) : Calls Tryd.prog 27 #[] w (BoolPost true w) := by
  have hb := below2 w (.cells #[.string ⟨#[105, 100]⟩, .int .i64 1, .bool true, .bool false, .string ⟨#[]⟩, .int .i64 0] 59) (.cells #[.string ⟨#[97]⟩, .int .i64 0, .slice (some ⟨w.heap.size, 0, none⟩) 1 1, .slice none 0 0] 45)
  have HK := Aside0.mk (blk_alloc (blk_new w (.cells #[.string ⟨#[105, 100]⟩, .int .i64 1, .bool true, .bool false, .string ⟨#[]⟩, .int .i64 0] 59)) (.cells #[.string ⟨#[97]⟩, .int .i64 0, .slice (some ⟨w.heap.size, 0, none⟩) 1 1, .slice none 0 0] 45))
  have HK1 := Aside0.mk (blk_new1 w (.cells #[.string ⟨#[105, 100]⟩, .int .i64 1, .bool true, .bool false, .string ⟨#[]⟩, .int .i64 0] 59) (.cells #[.string ⟨#[97]⟩, .int .i64 0, .slice (some ⟨w.heap.size, 0, none⟩) 1 1, .slice none 0 0] 45))
  have HT := Aside0.mk (hT.below hb)
  have HB := Aside0.mk hb
  clear hb hT
  go_enter Tryd.func27, Tryd.ntmps27
  go_wp2_with (first
    | (go_at_call 34; refine (place_id _ HK4.out).mono ?_; rintro e w5 ⟨rfl, hb5⟩)
    | (go_at_call 32; refine (name_a1 _ HT3.out).mono ?_; rintro e w4 ⟨rfl, hb4⟩; have HK4 := Aside0.mk (blk_below HK3.out hb4); have HL4 := Aside0.mk (blk_below HL3.out hb4); have c0 := blk_cell HL4.out 0; have c1 := blk_cell HL4.out 1; have c2 := blk_cell HL4.out 2; have c3 := blk_cell HL4.out 3)
    | (go_at_call 36; refine (good_id _ HT2.out HK2.out).mono ?_; rintro e w3 ⟨rfl, hb3⟩; have HK3 := Aside0.mk (blk_below HK2.out hb3); have HL3 := Aside0.mk (blk_below HL2.out hb3); have HT3 := Aside0.mk (HT2.out.below hb3))
    | (go_at_call 36; refine (good_no _ HT.out).mono ?_; rintro e w2 ⟨rfl, hb2⟩; have HK2 := Aside0.mk (blk_below HK.out hb2); have HL2 := Aside0.mk (blk_below HK1.out hb2); have HT2 := Aside0.mk (HT.out.below hb2); have a0 := blk_cell HL2.out 0; have a1 := blk_cell HL2.out 1; have a2 := blk_cell HL2.out 2; have a3 := blk_cell HL2.out 3))
  go_ret
  exact ⟨rfl, below_step (below_step (below_step (below_step HB.out hb2) hb3) hb4) hb5⟩
end Go.Proofs.YtefdfgmlmjnmlaaDoor.My
end

section
set_option linter.unusedVariables false
set_option linter.unusedSimpArgs false
namespace Go.Proofs.YtefdfgmlmjnmlaaDoor.Rf
open Go.RowKit Go.Proofs.YtefdfgmlmjnmlaaDoorW.PrintWords Go.Proofs.YtefdfgmlmjnmlaaDoorW.PrintLast Go.Proofs.YtefdfgmlmjnmlaaDoorW.PrintMore
theorem eqA27 (d : Nat) (w : World) (x0 y0 : Int) (x1 y1 : ByteArray) (x2 y2 : Int) :
    (Op.equalIn (d + 2) 27 (.agg #[.int .i64 x0, .string x1, .int .i64 x2]) (.agg #[.int .i64 y0, .string y1, .int .i64 y2])).run Tryd.prog w = .ok (x0 == y0 && (x1.toList == y1.toList && (x2 == y2))) w := by
  refine eqA_of Tryd.underlying27 (by kernel_rfl) ?_
  refine eqf_cons (by rfl) (by go_simp; rfl) (by go_simp; rfl) (by go_simp) ?_
  refine eqf_cons (by rfl) (by go_simp; rfl) (by go_simp; rfl) (by go_simp) ?_
  exact eqf_last (by rfl) (by go_simp; rfl) (by go_simp; rfl) (by go_simp)
end Go.Proofs.YtefdfgmlmjnmlaaDoor.Rf
end

section
set_option linter.unusedVariables false
set_option linter.unusedSimpArgs false
namespace Go.Proofs.YtefdfgmlmjnmlaaDoor.Rf
open Go.RowKit Go.Proofs.YtefdfgmlmjnmlaaDoorW.PrintWords Go.Proofs.YtefdfgmlmjnmlaaDoorW.PrintLast Go.Proofs.YtefdfgmlmjnmlaaDoorW.PrintMore
theorem eqA59 (d : Nat) (w : World) (x0 y0 : ByteArray) (x1 y1 : Int) (x2 y2 : Bool) (x3 y3 : Bool) (x4 y4 : ByteArray) (x5 y5 : Int) :
    (Op.equalIn (d + 2) 59 (.agg #[.string x0, .int .i64 x1, .bool x2, .bool x3, .string x4, .int .i64 x5]) (.agg #[.string y0, .int .i64 y1, .bool y2, .bool y3, .string y4, .int .i64 y5])).run Tryd.prog w = .ok (x0.toList == y0.toList && (x1 == y1 && (x2 == y2 && (x3 == y3 && (x4.toList == y4.toList && (x5 == y5)))))) w := by
  refine eqA_of Tryd.underlying59 (by kernel_rfl) ?_
  refine eqf_cons (by rfl) (by go_simp; rfl) (by go_simp; rfl) (by go_simp) ?_
  refine eqf_cons (by rfl) (by go_simp; rfl) (by go_simp; rfl) (by go_simp) ?_
  refine eqf_cons (by rfl) (by go_simp; rfl) (by go_simp; rfl) (by go_simp) ?_
  refine eqf_cons (by rfl) (by go_simp; rfl) (by go_simp; rfl) (by go_simp) ?_
  refine eqf_cons (by rfl) (by go_simp; rfl) (by go_simp; rfl) (by go_simp) ?_
  exact eqf_last (by rfl) (by go_simp; rfl) (by go_simp; rfl) (by go_simp)
end Go.Proofs.YtefdfgmlmjnmlaaDoor.Rf
end

section
set_option linter.unusedVariables false
set_option linter.unusedSimpArgs false
namespace Go.Proofs.YtefdfgmlmjnmlaaDoor.Rf
open Go.RowKit Go.Proofs.YtefdfgmlmjnmlaaDoorW.PrintWords Go.Proofs.YtefdfgmlmjnmlaaDoorW.PrintLast Go.Proofs.YtefdfgmlmjnmlaaDoorW.PrintMore
theorem eqA70 (d : Nat) (w : World) (x0 y0 : Int) (x1 y1 : Int) (x2 y2 : ByteArray) :
    (Op.equalIn (d + 2) 70 (.agg #[.int .i64 x0, .int .i64 x1, .string x2]) (.agg #[.int .i64 y0, .int .i64 y1, .string y2])).run Tryd.prog w = .ok (x0 == y0 && (x1 == y1 && (x2.toList == y2.toList))) w := by
  refine eqA_of Tryd.underlying70 (by kernel_rfl) ?_
  refine eqf_cons (by rfl) (by go_simp; rfl) (by go_simp; rfl) (by go_simp) ?_
  refine eqf_cons (by rfl) (by go_simp; rfl) (by go_simp; rfl) (by go_simp) ?_
  exact eqf_last (by rfl) (by go_simp; rfl) (by go_simp; rfl) (by go_simp)
end Go.Proofs.YtefdfgmlmjnmlaaDoor.Rf
end

section
set_option linter.unusedVariables false
set_option linter.unusedSimpArgs false
namespace Go.Proofs.YtefdfgmlmjnmlaaDoor.Rf
open Go.RowKit Go.Proofs.YtefdfgmlmjnmlaaDoorW.PrintWords Go.Proofs.YtefdfgmlmjnmlaaDoorW.PrintLast Go.Proofs.YtefdfgmlmjnmlaaDoorW.PrintMore
attribute [local go_sem high] eqA70
mutual
def mortmainref09_sameExpr.j0 : Nat → Bool → Int → Int → Int → Int → ByteArray → List (S72) → Int → Int → Int → Int → ByteArray → List (S72) → Option (Bool)
 | 0, _, _, _, _, _, _, _, _, _, _, _, _, _ => none
 | k + 1, x33, x205000, x205001, x205002, x205003, x205004, x205005, x206000, x206001, x206002, x206003, x206004, x206005 => if x33 = true then (some false) else (mortmainref09_sameExpr.l0 k (x205005.length : Int) 0 x205000 x205001 x205002 x205003 x205004 x205005 x206000 x206001 x206002 x206003 x206004 x206005)
def mortmainref09_sameExpr.l0 : Nat → Int → Int → Int → Int → Int → Int → ByteArray → List (S72) → Int → Int → Int → Int → ByteArray → List (S72) → Option (Bool)
 | 0, _, _, _, _, _, _, _, _, _, _, _, _, _, _ => none
 | k + 1, x36, x37, x205000, x205001, x205002, x205003, x205004, x205005, x206000, x206001, x206002, x206003, x206004, x206005 => if x37 < x36 then (if 0 ≤ x37 then (if x37 < (x205005.length : Int) then (if x37 < (x206005.length : Int) then ((mortmainref09_sameExpr.f k ((rd_T72 x205005 x37).f0) ((rd_T72 x205005 x37).f1) ((rd_T72 x205005 x37).f2.f0) ((rd_T72 x205005 x37).f2.f1) ((rd_T72 x205005 x37).f2.f2) ((rd_T72 x205005 x37).f3) ((rd_T72 x206005 x37).f0) ((rd_T72 x206005 x37).f1) ((rd_T72 x206005 x37).f2.f0) ((rd_T72 x206005 x37).f2.f1) ((rd_T72 x206005 x37).f2.f2) ((rd_T72 x206005 x37).f3)).bind fun t208 => (if t208 = true then (mortmainref09_sameExpr.l0 k x36 (wrap64 (x37 + 1)) x205000 x205001 x205002 x205003 x205004 x205005 x206000 x206001 x206002 x206003 x206004 x206005) else (some false))) else (none)) else (none)) else (none)) else (some true)
def mortmainref09_sameExpr.f : Nat → Int → Int → Int → Int → ByteArray → List (S72) → Int → Int → Int → Int → ByteArray → List (S72) → Option (Bool)
 | 0, _, _, _, _, _, _, _, _, _, _, _, _ => none
 | k + 1, a0_0, a0_1, a0_2, a0_3, a0_4, l0_5, a1_0, a1_1, a1_2, a1_3, a1_4, l1_5 => if a0_0 = a1_0 then (if a0_1 = a1_1 then (if (!(a0_2 == a1_2) || (!(a0_3 == a1_3) || (!(a0_4.toList == a1_4.toList)))) = true then (mortmainref09_sameExpr.j0 k true a0_0 a0_1 a0_2 a0_3 a0_4 l0_5 a1_0 a1_1 a1_2 a1_3 a1_4 l1_5) else (mortmainref09_sameExpr.j0 k ((l0_5.length : Int) != (l1_5.length : Int)) a0_0 a0_1 a0_2 a0_3 a0_4 l0_5 a1_0 a1_1 a1_2 a1_3 a1_4 l1_5)) else (mortmainref09_sameExpr.j0 k true a0_0 a0_1 a0_2 a0_3 a0_4 l0_5 a1_0 a1_1 a1_2 a1_3 a1_4 l1_5)) else (mortmainref09_sameExpr.j0 k true a0_0 a0_1 a0_2 a0_3 a0_4 l0_5 a1_0 a1_1 a1_2 a1_3 a1_4 l1_5)
end
def mortmainref09_sameExpr.T6 : Bool × List (List Nat × List Nat) := (true, [([], []), ([0], [0]), ([], []), ([1, 2], [1, 2]), ([3], [3]), ([], []), ([5], [5]), ([], []), ([6, 7], [6, 7]), ([8], [8]), ([4, 9], [4, 9]), ([10], [10])])
def mortmainref09_sameExpr.B6 : List Nat := [0, 1, 0, 7, 15, 0, 32, 0, 224, 480, 1023, 2047]
theorem mortmainref09_sameExpr.tab6 : rtab .any (opsOf Tryd.f54 6) = mortmainref09_sameExpr.T6 := by kernel_rfl
theorem mortmainref09_sameExpr.bits6 : waitsOk mortmainref09_sameExpr.T6.2 mortmainref09_sameExpr.B6 = true := by kernel_rfl
set_option maxHeartbeats 8000000 in
set_option maxRecDepth 100000 in
theorem mortmainref09_sameExpr.calls (k : Nat) : ∀ (a0_0 : Int) (a0_1 : Int) (a0_2 : Int) (a0_3 : Int) (a0_4 : ByteArray) (A0_5 : Option Addr) (c0_5 : Nat) (l0_5 : List (S72)) (a1_0 : Int) (a1_1 : Int) (a1_2 : Int) (a1_3 : Int) (a1_4 : ByteArray) (A1_5 : Option Addr) (c1_5 : Nat) (l1_5 : List (S72)) (r : Bool) (w : World) (hr0_5 : Kd.C k72 w A0_5 l0_5.length l0_5) (hc0_5 : l0_5.length ≤ c0_5) (hr1_5 : Kd.C k72 w A1_5 l1_5.length l1_5) (hc1_5 : l1_5.length ≤ c1_5) (h : mortmainref09_sameExpr.f k a0_0 a0_1 a0_2 a0_3 a0_4 l0_5 a1_0 a1_1 a1_2 a1_3 a1_4 l1_5 = some r),
  Calls Tryd.prog 54 #[.agg #[.int .i64 a0_0, .int .i64 a0_1, .int .i64 a0_2, .int .i64 a0_3, .string a0_4, .slice A0_5 l0_5.length c0_5], .agg #[.int .i64 a1_0, .int .i64 a1_1, .int .i64 a1_2, .int .i64 a1_3, .string a1_4, .slice A1_5 l1_5.length c1_5]] w fun e w' => e = .returned (.bool r) ∧ Below w.heap.size w w' := by
 induction k using Nat.strongRecOn with
 | _ k ih =>
 intro a0_0 a0_1 a0_2 a0_3 a0_4 A0_5 c0_5 l0_5 a1_0 a1_1 a1_2 a1_3 a1_4 A1_5 c1_5 l1_5 r w hr0_5 hc0_5 hr1_5 hc1_5 h
 cases k with
 | zero => exact absurd h (by simp [mortmainref09_sameExpr.f])
 | succ k =>
 simp only [mortmainref09_sameExpr.f] at h
 have hu72 := Tryd.underlying72
 have hu70 := Tryd.underlying70
 have HR0_5 := Aside0.mk hr0_5
 have HC0_5 := Aside0.mk hc0_5
 clear hr0_5 hc0_5
 have HR1_5 := Aside0.mk hr1_5
 have HC1_5 := Aside0.mk hc1_5
 clear hr1_5 hc1_5
 have HB := Aside0.mk (Below.refl w.heap.size w)
 have H : (if a0_0 = a1_0 then (if a0_1 = a1_1 then (if (!(a0_2 == a1_2) || (!(a0_3 == a1_3) || (!(a0_4.toList == a1_4.toList)))) = true then (mortmainref09_sameExpr.j0 k true a0_0 a0_1 a0_2 a0_3 a0_4 l0_5 a1_0 a1_1 a1_2 a1_3 a1_4 l1_5) else (mortmainref09_sameExpr.j0 k ((l0_5.length : Int) != (l1_5.length : Int)) a0_0 a0_1 a0_2 a0_3 a0_4 l0_5 a1_0 a1_1 a1_2 a1_3 a1_4 l1_5)) else (mortmainref09_sameExpr.j0 k true a0_0 a0_1 a0_2 a0_3 a0_4 l0_5 a1_0 a1_1 a1_2 a1_3 a1_4 l1_5)) else (mortmainref09_sameExpr.j0 k true a0_0 a0_1 a0_2 a0_3 a0_4 l0_5 a1_0 a1_1 a1_2 a1_3 a1_4 l1_5)) = some r := h
 clear h
 have HC3 := Aside0.mk H
 clear H
 go_enter Tryd.func54, Tryd.ntmps54
 go_upto_region 1 with (first | ((with_reducible refine gate_dst (N := 2) rfl ?_); (try (refine gate_guard (by rfl) ?_; dsimp only)); refine box_event ?hg (N := 2) ?hd (cs := #[.int .i64 a0_0, .int .i64 a0_1, .int .i64 a0_2, .int .i64 a0_3, .string a0_4, .slice A0_5 l0_5.length c0_5]) (t := 72) ?hr ?_; (case hd => rfl); (case hg => rfl); (case hr => first | (go_simp; done) | (go_simp; rfl)); intro gb204 hg w4 hbox hb; have n0_ := Aside0.mk (below_step (by repeat (first | (with_reducible first | exact HB.out | apply below_alloc | apply pw_below_drewN | apply below_drew1) | exact HB.out)) hb); have n1_ := Aside0.mk (hbox); have n2_ := Aside0.mk ((by rw [hg]; exact (below_size (by repeat (first | (with_reducible first | exact HB.out | apply below_alloc | apply pw_below_drewN | apply below_drew1) | exact HB.out))) : w.heap.size ≤ gb204)); have n3_ := Aside0.mk ((by rw [hg]; exact (below_size (by repeat (first | (with_reducible first | exact HB.out | apply below_alloc | apply pw_below_drewN | apply below_drew1) | exact HB.out))) : w.heap.size ≤ gb204)); clear HB; have HB := n0_; have BK204 := n1_; have GW204 := n2_; have GE204 := n3_; clear n0_ n1_ n2_ n3_; clear hb hbox hg) | ((with_reducible refine gate_dst (N := 3) rfl ?_); (try (refine gate_guard (by rfl) ?_; dsimp only)); refine box_event ?hg (N := 3) ?hd (cs := #[.int .i64 a1_0, .int .i64 a1_1, .int .i64 a1_2, .int .i64 a1_3, .string a1_4, .slice A1_5 l1_5.length c1_5]) (t := 72) ?hr ?_; (case hd => rfl); (case hg => rfl); (case hr => first | (go_simp; done) | (go_simp; rfl)); intro gb205 hg w5 hbox hb; have n0_ := Aside0.mk (blk_below (g := gb204) (o := .cells #[.int .i64 a0_0, .int .i64 a0_1, .int .i64 a0_2, .int .i64 a0_3, .string a0_4, .slice A0_5 l0_5.length c0_5] 72 (0, 0)) (by (with_reducible repeat (first | refine blk_drewN ?_ _ | refine blk_drew ?_ | refine blk_alloc ?_ _)); exact BK204.out) hb); have n1_ := Aside0.mk (below_step (by repeat (first | (with_reducible first | exact HB.out | apply below_alloc | apply pw_below_drewN | apply below_drew1 | refine below_set ?_ GE204.out) | exact HB.out)) hb); have n2_ := Aside0.mk (hbox); have n3_ := Aside0.mk ((by rw [hg]; exact (below_size (by repeat (first | (with_reducible first | exact HB.out | apply below_alloc | apply pw_below_drewN | apply below_drew1 | refine below_set ?_ GE204.out) | exact HB.out))) : w.heap.size ≤ gb205)); have n4_ := Aside0.mk ((by rw [hg]; exact (below_size (by repeat (first | (with_reducible first | exact HB.out | apply below_alloc | apply pw_below_drewN | apply below_drew1 | refine below_set ?_ GE204.out) | exact HB.out))) : w.heap.size ≤ gb205)); have n5_ := Aside0.mk ((by rw [hg]; exact Nat.ne_of_lt (blk_lt (g := gb204) (o := .cells #[.int .i64 a0_0, .int .i64 a0_1, .int .i64 a0_2, .int .i64 a0_3, .string a0_4, .slice A0_5 l0_5.length c0_5] 72 (0, 0)) (by (with_reducible repeat (first | refine blk_drewN ?_ _ | refine blk_drew ?_ | refine blk_alloc ?_ _)); exact BK204.out)) : gb204 ≠ gb205)); have n6_ := Aside0.mk ((by rw [hg]; exact Nat.ne_of_gt (blk_lt (g := gb204) (o := .cells #[.int .i64 a0_0, .int .i64 a0_1, .int .i64 a0_2, .int .i64 a0_3, .string a0_4, .slice A0_5 l0_5.length c0_5] 72 (0, 0)) (by (with_reducible repeat (first | refine blk_drewN ?_ _ | refine blk_drew ?_ | refine blk_alloc ?_ _)); exact BK204.out)) : gb205 ≠ gb204)); clear BK204; clear HB; have BK204 := n0_; have HB := n1_; have BK205 := n2_; have GW205 := n3_; have GE205 := n4_; have NB204_205 := n5_; have NB205_204 := n6_; clear n0_ n1_ n2_ n3_ n4_ n5_ n6_; clear hb hbox hg))
 (try simp only [Act.put, List.setIfInBounds_toArray, List.set_cons_zero, List.set_cons_succ])
 go_cut [33] (fun v33 wc => ∃ (kq : Nat) (x33_2 : Bool), v33 = .bool x33_2 ∧ Aside0 (mortmainref09_sameExpr.j0 kq x33_2 a0_0 a0_1 a0_2 a0_3 a0_4 l0_5 a1_0 a1_1 a1_2 a1_3 a1_4 l1_5 = some r) ∧ Aside0 (kq ≤ k) ∧ Aside0 (wc.heap[gb204]? = some (.cells #[.int .i64 a0_0, .int .i64 a0_1, .int .i64 a0_2, .int .i64 a0_3, .string a0_4, (.slice A0_5 l0_5.length c0_5)] 72 (0, 0))) ∧ Aside0 (wc.heap[gb205]? = some (.cells #[.int .i64 a1_0, .int .i64 a1_1, .int .i64 a1_2, .int .i64 a1_3, .string a1_4, (.slice A1_5 l1_5.length c1_5)] 72 (0, 0))) ∧ Aside0 (Below w.heap.size w wc))
 case first =>
  have H := HC3.out
  clear HC3
  by_cases c6 : a0_0 = a1_0
  ·rw [if_pos c6] at H
   have c6b0 : (a0_0 == a1_0) = true := beq_iff_eq.mpr c6
   have c6b1 : (a0_0 != a1_0) = false := bne_eq_false_iff_eq.mpr c6
   clear c6
   (first | rw [c6b0] | (simp only [i64_w, i32_w]; rw [c6b0]) | skip)
   by_cases c7 : a0_1 = a1_1
   ·rw [if_pos c7] at H
    have c7b0 : (a0_1 == a1_1) = true := beq_iff_eq.mpr c7
    have c7b1 : (a0_1 != a1_1) = false := bne_eq_false_iff_eq.mpr c7
    clear c7
    by_cases c8 : (!(a0_2 == a1_2) || (!(a0_3 == a1_3) || (!(a0_4.toList == a1_4.toList)))) = true
    ·rw [if_pos c8] at H
     have c8b0 : (!(a0_2 == a1_2) || (!(a0_3 == a1_3) || (!(a0_4.toList == a1_4.toList)))) = true := c8
     clear c8
     have H' := Aside0.mk H
     clear H
     have hnb9 := NB204_205.out
     have hnc9 := NB205_204.out
     have hcz10_0 : w5.cell? ⟨gb204, 0, none⟩ = some (.int .i64 a0_0) := (blk_cell BK204.out 0).trans rfl
     have hcz10_1 : w5.cell? ⟨gb204, 1, none⟩ = some (.int .i64 a0_1) := (blk_cell BK204.out 1).trans rfl
     have hcz10_2 : w5.cell? ⟨gb204, 2, none⟩ = some (.int .i64 a0_2) := (blk_cell BK204.out 2).trans rfl
     have hcz10_3 : w5.cell? ⟨gb204, 3, none⟩ = some (.int .i64 a0_3) := (blk_cell BK204.out 3).trans rfl
     have hcz10_4 : w5.cell? ⟨gb204, 4, none⟩ = some (.string a0_4) := (blk_cell BK204.out 4).trans rfl
     have hcz10_5 : w5.cell? ⟨gb204, 5, none⟩ = some (.slice A0_5 l0_5.length c0_5) := (blk_cell BK204.out 5).trans rfl
     have hfz10_0 := blk_frozen BK204.out 0
     have hfz10_1 := blk_frozen BK204.out 1
     have hfz10_2 := blk_frozen BK204.out 2
     have hfz10_3 := blk_frozen BK204.out 3
     have hfz10_4 := blk_frozen BK204.out 4
     have hfz10_5 := blk_frozen BK204.out 5
     have hcz11_0 : w5.cell? ⟨gb205, 0, none⟩ = some (.int .i64 a1_0) := (blk_cell BK205.out 0).trans rfl
     have hcz11_1 : w5.cell? ⟨gb205, 1, none⟩ = some (.int .i64 a1_1) := (blk_cell BK205.out 1).trans rfl
     have hcz11_2 : w5.cell? ⟨gb205, 2, none⟩ = some (.int .i64 a1_2) := (blk_cell BK205.out 2).trans rfl
     have hcz11_3 : w5.cell? ⟨gb205, 3, none⟩ = some (.int .i64 a1_3) := (blk_cell BK205.out 3).trans rfl
     have hcz11_4 : w5.cell? ⟨gb205, 4, none⟩ = some (.string a1_4) := (blk_cell BK205.out 4).trans rfl
     have hcz11_5 : w5.cell? ⟨gb205, 5, none⟩ = some (.slice A1_5 l1_5.length c1_5) := (blk_cell BK205.out 5).trans rfl
     have hfz11_0 := blk_frozen BK205.out 0
     have hfz11_1 := blk_frozen BK205.out 1
     have hfz11_2 := blk_frozen BK205.out 2
     have hfz11_3 := blk_frozen BK205.out 3
     have hfz11_4 := blk_frozen BK205.out 4
     have hfz11_5 := blk_frozen BK205.out 5
     go_wp2
     go_meet
     case rel => exact ⟨_, (true), (by first | rfl | (simp; done) | (simp [*]; done)), H', ⟨by first | omega | exact Nat.le_refl _⟩, ⟨by (with_reducible repeat (first | refine blk_drewN ?_ _ | refine blk_drew ?_ | refine blk_alloc ?_ _)); exact BK204.out⟩, ⟨by (with_reducible repeat (first | refine blk_drewN ?_ _ | refine blk_drew ?_ | refine blk_alloc ?_ _)); exact BK205.out⟩, ⟨by repeat (first | (with_reducible first | exact HB.out | apply below_alloc | apply pw_below_drewN | apply below_drew1 | refine below_set ?_ GE204.out | refine below_set ?_ GE205.out) | exact HB.out)⟩⟩
    ·rw [if_neg c8] at H
     have c8b0 : (!(a0_2 == a1_2) || (!(a0_3 == a1_3) || (!(a0_4.toList == a1_4.toList)))) = false := by simpa using c8
     clear c8
     have H' := Aside0.mk H
     clear H
     have hnb12 := NB204_205.out
     have hnc12 := NB205_204.out
     have hcz13_0 : w5.cell? ⟨gb204, 0, none⟩ = some (.int .i64 a0_0) := (blk_cell BK204.out 0).trans rfl
     have hcz13_1 : w5.cell? ⟨gb204, 1, none⟩ = some (.int .i64 a0_1) := (blk_cell BK204.out 1).trans rfl
     have hcz13_2 : w5.cell? ⟨gb204, 2, none⟩ = some (.int .i64 a0_2) := (blk_cell BK204.out 2).trans rfl
     have hcz13_3 : w5.cell? ⟨gb204, 3, none⟩ = some (.int .i64 a0_3) := (blk_cell BK204.out 3).trans rfl
     have hcz13_4 : w5.cell? ⟨gb204, 4, none⟩ = some (.string a0_4) := (blk_cell BK204.out 4).trans rfl
     have hcz13_5 : w5.cell? ⟨gb204, 5, none⟩ = some (.slice A0_5 l0_5.length c0_5) := (blk_cell BK204.out 5).trans rfl
     have hfz13_0 := blk_frozen BK204.out 0
     have hfz13_1 := blk_frozen BK204.out 1
     have hfz13_2 := blk_frozen BK204.out 2
     have hfz13_3 := blk_frozen BK204.out 3
     have hfz13_4 := blk_frozen BK204.out 4
     have hfz13_5 := blk_frozen BK204.out 5
     have hcz14_0 : w5.cell? ⟨gb205, 0, none⟩ = some (.int .i64 a1_0) := (blk_cell BK205.out 0).trans rfl
     have hcz14_1 : w5.cell? ⟨gb205, 1, none⟩ = some (.int .i64 a1_1) := (blk_cell BK205.out 1).trans rfl
     have hcz14_2 : w5.cell? ⟨gb205, 2, none⟩ = some (.int .i64 a1_2) := (blk_cell BK205.out 2).trans rfl
     have hcz14_3 : w5.cell? ⟨gb205, 3, none⟩ = some (.int .i64 a1_3) := (blk_cell BK205.out 3).trans rfl
     have hcz14_4 : w5.cell? ⟨gb205, 4, none⟩ = some (.string a1_4) := (blk_cell BK205.out 4).trans rfl
     have hcz14_5 : w5.cell? ⟨gb205, 5, none⟩ = some (.slice A1_5 l1_5.length c1_5) := (blk_cell BK205.out 5).trans rfl
     have hfz14_0 := blk_frozen BK205.out 0
     have hfz14_1 := blk_frozen BK205.out 1
     have hfz14_2 := blk_frozen BK205.out 2
     have hfz14_3 := blk_frozen BK205.out 3
     have hfz14_4 := blk_frozen BK205.out 4
     have hfz14_5 := blk_frozen BK205.out 5
     go_wp2
     go_meet
     case rel => exact ⟨_, (((l0_5.length : Int) != (l1_5.length : Int))), (by first | rfl | (simp; done) | (simp [*]; done)), H', ⟨by first | omega | exact Nat.le_refl _⟩, ⟨by (with_reducible repeat (first | refine blk_drewN ?_ _ | refine blk_drew ?_ | refine blk_alloc ?_ _)); exact BK204.out⟩, ⟨by (with_reducible repeat (first | refine blk_drewN ?_ _ | refine blk_drew ?_ | refine blk_alloc ?_ _)); exact BK205.out⟩, ⟨by repeat (first | (with_reducible first | exact HB.out | apply below_alloc | apply pw_below_drewN | apply below_drew1 | refine below_set ?_ GE204.out | refine below_set ?_ GE205.out) | exact HB.out)⟩⟩
   ·rw [if_neg c7] at H
    have c7b0 : (a0_1 == a1_1) = false := beq_eq_false_iff_ne.mpr c7
    have c7b1 : (a0_1 != a1_1) = true := bne_iff_ne.mpr c7
    have H' := Aside0.mk H
    clear H
    have hnb15 := NB204_205.out
    have hnc15 := NB205_204.out
    have hcz16_0 : w5.cell? ⟨gb204, 0, none⟩ = some (.int .i64 a0_0) := (blk_cell BK204.out 0).trans rfl
    have hcz16_1 : w5.cell? ⟨gb204, 1, none⟩ = some (.int .i64 a0_1) := (blk_cell BK204.out 1).trans rfl
    have hcz16_2 : w5.cell? ⟨gb204, 2, none⟩ = some (.int .i64 a0_2) := (blk_cell BK204.out 2).trans rfl
    have hcz16_3 : w5.cell? ⟨gb204, 3, none⟩ = some (.int .i64 a0_3) := (blk_cell BK204.out 3).trans rfl
    have hcz16_4 : w5.cell? ⟨gb204, 4, none⟩ = some (.string a0_4) := (blk_cell BK204.out 4).trans rfl
    have hcz16_5 : w5.cell? ⟨gb204, 5, none⟩ = some (.slice A0_5 l0_5.length c0_5) := (blk_cell BK204.out 5).trans rfl
    have hfz16_0 := blk_frozen BK204.out 0
    have hfz16_1 := blk_frozen BK204.out 1
    have hfz16_2 := blk_frozen BK204.out 2
    have hfz16_3 := blk_frozen BK204.out 3
    have hfz16_4 := blk_frozen BK204.out 4
    have hfz16_5 := blk_frozen BK204.out 5
    have hcz17_0 : w5.cell? ⟨gb205, 0, none⟩ = some (.int .i64 a1_0) := (blk_cell BK205.out 0).trans rfl
    have hcz17_1 : w5.cell? ⟨gb205, 1, none⟩ = some (.int .i64 a1_1) := (blk_cell BK205.out 1).trans rfl
    have hcz17_2 : w5.cell? ⟨gb205, 2, none⟩ = some (.int .i64 a1_2) := (blk_cell BK205.out 2).trans rfl
    have hcz17_3 : w5.cell? ⟨gb205, 3, none⟩ = some (.int .i64 a1_3) := (blk_cell BK205.out 3).trans rfl
    have hcz17_4 : w5.cell? ⟨gb205, 4, none⟩ = some (.string a1_4) := (blk_cell BK205.out 4).trans rfl
    have hcz17_5 : w5.cell? ⟨gb205, 5, none⟩ = some (.slice A1_5 l1_5.length c1_5) := (blk_cell BK205.out 5).trans rfl
    have hfz17_0 := blk_frozen BK205.out 0
    have hfz17_1 := blk_frozen BK205.out 1
    have hfz17_2 := blk_frozen BK205.out 2
    have hfz17_3 := blk_frozen BK205.out 3
    have hfz17_4 := blk_frozen BK205.out 4
    have hfz17_5 := blk_frozen BK205.out 5
    go_wp2
    go_meet
    case rel => exact ⟨_, (true), (by first | rfl | (simp; done) | (simp [*]; done)), H', ⟨by first | omega | exact Nat.le_refl _⟩, ⟨by (with_reducible repeat (first | refine blk_drewN ?_ _ | refine blk_drew ?_ | refine blk_alloc ?_ _)); exact BK204.out⟩, ⟨by (with_reducible repeat (first | refine blk_drewN ?_ _ | refine blk_drew ?_ | refine blk_alloc ?_ _)); exact BK205.out⟩, ⟨by repeat (first | (with_reducible first | exact HB.out | apply below_alloc | apply pw_below_drewN | apply below_drew1 | refine below_set ?_ GE204.out | refine below_set ?_ GE205.out) | exact HB.out)⟩⟩
  ·rw [if_neg c6] at H
   have c6b0 : (a0_0 == a1_0) = false := beq_eq_false_iff_ne.mpr c6
   have c6b1 : (a0_0 != a1_0) = true := bne_iff_ne.mpr c6
   (first | rw [c6b0] | (simp only [i64_w, i32_w]; rw [c6b0]) | skip)
   have H' := Aside0.mk H
   clear H
   have hnb18 := NB204_205.out
   have hnc18 := NB205_204.out
   have hcz19_0 : w5.cell? ⟨gb204, 0, none⟩ = some (.int .i64 a0_0) := (blk_cell BK204.out 0).trans rfl
   have hcz19_1 : w5.cell? ⟨gb204, 1, none⟩ = some (.int .i64 a0_1) := (blk_cell BK204.out 1).trans rfl
   have hcz19_2 : w5.cell? ⟨gb204, 2, none⟩ = some (.int .i64 a0_2) := (blk_cell BK204.out 2).trans rfl
   have hcz19_3 : w5.cell? ⟨gb204, 3, none⟩ = some (.int .i64 a0_3) := (blk_cell BK204.out 3).trans rfl
   have hcz19_4 : w5.cell? ⟨gb204, 4, none⟩ = some (.string a0_4) := (blk_cell BK204.out 4).trans rfl
   have hcz19_5 : w5.cell? ⟨gb204, 5, none⟩ = some (.slice A0_5 l0_5.length c0_5) := (blk_cell BK204.out 5).trans rfl
   have hfz19_0 := blk_frozen BK204.out 0
   have hfz19_1 := blk_frozen BK204.out 1
   have hfz19_2 := blk_frozen BK204.out 2
   have hfz19_3 := blk_frozen BK204.out 3
   have hfz19_4 := blk_frozen BK204.out 4
   have hfz19_5 := blk_frozen BK204.out 5
   have hcz20_0 : w5.cell? ⟨gb205, 0, none⟩ = some (.int .i64 a1_0) := (blk_cell BK205.out 0).trans rfl
   have hcz20_1 : w5.cell? ⟨gb205, 1, none⟩ = some (.int .i64 a1_1) := (blk_cell BK205.out 1).trans rfl
   have hcz20_2 : w5.cell? ⟨gb205, 2, none⟩ = some (.int .i64 a1_2) := (blk_cell BK205.out 2).trans rfl
   have hcz20_3 : w5.cell? ⟨gb205, 3, none⟩ = some (.int .i64 a1_3) := (blk_cell BK205.out 3).trans rfl
   have hcz20_4 : w5.cell? ⟨gb205, 4, none⟩ = some (.string a1_4) := (blk_cell BK205.out 4).trans rfl
   have hcz20_5 : w5.cell? ⟨gb205, 5, none⟩ = some (.slice A1_5 l1_5.length c1_5) := (blk_cell BK205.out 5).trans rfl
   have hfz20_0 := blk_frozen BK205.out 0
   have hfz20_1 := blk_frozen BK205.out 1
   have hfz20_2 := blk_frozen BK205.out 2
   have hfz20_3 := blk_frozen BK205.out 3
   have hfz20_4 := blk_frozen BK205.out 4
   have hfz20_5 := blk_frozen BK205.out 5
   go_wp2
   go_meet
   case rel => exact ⟨_, (true), (by first | rfl | (simp; done) | (simp [*]; done)), H', ⟨by first | omega | exact Nat.le_refl _⟩, ⟨by (with_reducible repeat (first | refine blk_drewN ?_ _ | refine blk_drew ?_ | refine blk_alloc ?_ _)); exact BK204.out⟩, ⟨by (with_reducible repeat (first | refine blk_drewN ?_ _ | refine blk_drew ?_ | refine blk_alloc ?_ _)); exact BK205.out⟩, ⟨by repeat (first | (with_reducible first | exact HB.out | apply below_alloc | apply pw_below_drewN | apply below_drew1 | refine below_set ?_ GE204.out | refine below_set ?_ GE205.out) | exact HB.out)⟩⟩
 case rest =>
  clear HC3
  try clear c1
  try clear p2
  try clear c5
  try clear c6
  try clear c6b0
  try clear c6b1
  try clear c7
  try clear c7b0
  try clear c7b1
  try clear c8
  try clear c8b0
  try clear c9
  try clear c12
  try clear c15
  try clear c18
  try clear hcz10_0
  try clear hcz10_1
  try clear hcz10_2
  try clear hcz10_3
  try clear hcz10_4
  try clear hcz10_5
  try clear hcz11_0
  try clear hcz11_1
  try clear hcz11_2
  try clear hcz11_3
  try clear hcz11_4
  try clear hcz11_5
  try clear hcz13_0
  try clear hcz13_1
  try clear hcz13_2
  try clear hcz13_3
  try clear hcz13_4
  try clear hcz13_5
  try clear hcz14_0
  try clear hcz14_1
  try clear hcz14_2
  try clear hcz14_3
  try clear hcz14_4
  try clear hcz14_5
  try clear hcz16_0
  try clear hcz16_1
  try clear hcz16_2
  try clear hcz16_3
  try clear hcz16_4
  try clear hcz16_5
  try clear hcz17_0
  try clear hcz17_1
  try clear hcz17_2
  try clear hcz17_3
  try clear hcz17_4
  try clear hcz17_5
  try clear hcz19_0
  try clear hcz19_1
  try clear hcz19_2
  try clear hcz19_3
  try clear hcz19_4
  try clear hcz19_5
  try clear hcz20_0
  try clear hcz20_1
  try clear hcz20_2
  try clear hcz20_3
  try clear hcz20_4
  try clear hcz20_5
  try clear hfz10_0
  try clear hfz10_1
  try clear hfz10_2
  try clear hfz10_3
  try clear hfz10_4
  try clear hfz10_5
  try clear hfz11_0
  try clear hfz11_1
  try clear hfz11_2
  try clear hfz11_3
  try clear hfz11_4
  try clear hfz11_5
  try clear hfz13_0
  try clear hfz13_1
  try clear hfz13_2
  try clear hfz13_3
  try clear hfz13_4
  try clear hfz13_5
  try clear hfz14_0
  try clear hfz14_1
  try clear hfz14_2
  try clear hfz14_3
  try clear hfz14_4
  try clear hfz14_5
  try clear hfz16_0
  try clear hfz16_1
  try clear hfz16_2
  try clear hfz16_3
  try clear hfz16_4
  try clear hfz16_5
  try clear hfz17_0
  try clear hfz17_1
  try clear hfz17_2
  try clear hfz17_3
  try clear hfz17_4
  try clear hfz17_5
  try clear hfz19_0
  try clear hfz19_1
  try clear hfz19_2
  try clear hfz19_3
  try clear hfz19_4
  try clear hfz19_5
  try clear hfz20_0
  try clear hfz20_1
  try clear hfz20_2
  try clear hfz20_3
  try clear hfz20_4
  try clear hfz20_5
  obtain ⟨kq, x33_2, rfl, HA, HJ2, BK204, BK205, HB⟩ := hcut
  cases kq with
  | zero => exact absurd HA.out (by simp [mortmainref09_sameExpr.j0])
  | succ kj2 =>
   have H := HA.out
   clear HA
   simp only [mortmainref09_sameExpr.j0] at H
   by_cases c21 : x33_2 = true
   ·subst c21
    have H1 : (some false) = some r := by rw [if_pos rfl] at H; exact H
    clear H
    have H := H1
    clear H1
    obtain rfl := Option.some.inj H
    go_wp2
    go_ret
    exact ⟨by first | rfl | (simp [errW_none, errW_some] <;> rfl) | (simp [*, errW_none, errW_some] <;> rfl), by repeat (first | (with_reducible first | exact HB.out | apply below_alloc | apply pw_below_drewN | apply below_drew1 | refine below_set ?_ GE204.out | refine below_set ?_ GE205.out) | exact HB.out)⟩
   ·replace c21 := Bool.eq_false_iff.mpr c21
    subst c21
    have H1 : (mortmainref09_sameExpr.l0 kj2 (l0_5.length : Int) 0 a0_0 a0_1 a0_2 a0_3 a0_4 l0_5 a1_0 a1_1 a1_2 a1_3 a1_4 l1_5) = some r := by rw [if_neg (show ¬ (false = true) by decide)] at H; exact H
    clear H
    have H := H1
    clear H1
    have H' := Aside0.mk H
    clear H
    have hnb22 := NB204_205.out
    have hnc22 := NB205_204.out
    have hcz23_0 : wc.cell? ⟨gb204, 0, none⟩ = some (.int .i64 a0_0) := (blk_cell BK204.out 0).trans rfl
    have hcz23_1 : wc.cell? ⟨gb204, 1, none⟩ = some (.int .i64 a0_1) := (blk_cell BK204.out 1).trans rfl
    have hcz23_2 : wc.cell? ⟨gb204, 2, none⟩ = some (.int .i64 a0_2) := (blk_cell BK204.out 2).trans rfl
    have hcz23_3 : wc.cell? ⟨gb204, 3, none⟩ = some (.int .i64 a0_3) := (blk_cell BK204.out 3).trans rfl
    have hcz23_4 : wc.cell? ⟨gb204, 4, none⟩ = some (.string a0_4) := (blk_cell BK204.out 4).trans rfl
    have hcz23_5 : wc.cell? ⟨gb204, 5, none⟩ = some (.slice A0_5 l0_5.length c0_5) := (blk_cell BK204.out 5).trans rfl
    have hfz23_0 := blk_frozen BK204.out 0
    have hfz23_1 := blk_frozen BK204.out 1
    have hfz23_2 := blk_frozen BK204.out 2
    have hfz23_3 := blk_frozen BK204.out 3
    have hfz23_4 := blk_frozen BK204.out 4
    have hfz23_5 := blk_frozen BK204.out 5
    go_wp2
    go_loopg [37] kj2 (fun kq v37 w' => ∃ (x37_2 : Int), v37 = .int .i64 x37_2 ∧ Aside0 (mortmainref09_sameExpr.l0 kq (l0_5.length : Int) x37_2 a0_0 a0_1 a0_2 a0_3 a0_4 l0_5 a1_0 a1_1 a1_2 a1_3 a1_4 l1_5 = some r) ∧ Aside0 (kq ≤ kj2) ∧ Aside0 (w'.heap[gb204]? = some (.cells #[.int .i64 a0_0, .int .i64 a0_1, .int .i64 a0_2, .int .i64 a0_3, .string a0_4, (.slice A0_5 l0_5.length c0_5)] 72 (0, 0))) ∧ Aside0 (w'.heap[gb205]? = some (.cells #[.int .i64 a1_0, .int .i64 a1_1, .int .i64 a1_2, .int .i64 a1_3, .string a1_4, (.slice A1_5 l1_5.length c1_5)] 72 (0, 0))) ∧ Aside0 (Below w.heap.size w w'))
    case atStart => exact ⟨(0), (by first | rfl | (simp; done) | (simp [*]; done)), H', ⟨Nat.le_refl _⟩, ⟨by (with_reducible repeat (first | refine blk_drewN ?_ _ | refine blk_drew ?_ | refine blk_alloc ?_ _)); exact BK204.out⟩, ⟨by (with_reducible repeat (first | refine blk_drewN ?_ _ | refine blk_drew ?_ | refine blk_alloc ?_ _)); exact BK205.out⟩, ⟨by repeat (first | (with_reducible first | exact HB.out | apply below_alloc | apply pw_below_drewN | apply below_drew1 | refine below_set ?_ GE204.out | refine below_set ?_ GE205.out) | exact HB.out)⟩⟩
    case round =>
     clear H'
     try clear c1
     try clear c2
     try clear p2
     try clear c5
     try clear c6
     try clear c6b0
     try clear c6b1
     try clear c7
     try clear c7b0
     try clear c7b1
     try clear c8
     try clear c8b0
     try clear c9
     try clear c12
     try clear c15
     try clear c18
     try clear c21
     try clear c22
     try clear hcz10_0
     try clear hcz10_1
     try clear hcz10_2
     try clear hcz10_3
     try clear hcz10_4
     try clear hcz10_5
     try clear hcz11_0
     try clear hcz11_1
     try clear hcz11_2
     try clear hcz11_3
     try clear hcz11_4
     try clear hcz11_5
     try clear hcz13_0
     try clear hcz13_1
     try clear hcz13_2
     try clear hcz13_3
     try clear hcz13_4
     try clear hcz13_5
     try clear hcz14_0
     try clear hcz14_1
     try clear hcz14_2
     try clear hcz14_3
     try clear hcz14_4
     try clear hcz14_5
     try clear hcz16_0
     try clear hcz16_1
     try clear hcz16_2
     try clear hcz16_3
     try clear hcz16_4
     try clear hcz16_5
     try clear hcz17_0
     try clear hcz17_1
     try clear hcz17_2
     try clear hcz17_3
     try clear hcz17_4
     try clear hcz17_5
     try clear hcz19_0
     try clear hcz19_1
     try clear hcz19_2
     try clear hcz19_3
     try clear hcz19_4
     try clear hcz19_5
     try clear hcz20_0
     try clear hcz20_1
     try clear hcz20_2
     try clear hcz20_3
     try clear hcz20_4
     try clear hcz20_5
     try clear hcz23_0
     try clear hcz23_1
     try clear hcz23_2
     try clear hcz23_3
     try clear hcz23_4
     try clear hcz23_5
     try clear hfz10_0
     try clear hfz10_1
     try clear hfz10_2
     try clear hfz10_3
     try clear hfz10_4
     try clear hfz10_5
     try clear hfz11_0
     try clear hfz11_1
     try clear hfz11_2
     try clear hfz11_3
     try clear hfz11_4
     try clear hfz11_5
     try clear hfz13_0
     try clear hfz13_1
     try clear hfz13_2
     try clear hfz13_3
     try clear hfz13_4
     try clear hfz13_5
     try clear hfz14_0
     try clear hfz14_1
     try clear hfz14_2
     try clear hfz14_3
     try clear hfz14_4
     try clear hfz14_5
     try clear hfz16_0
     try clear hfz16_1
     try clear hfz16_2
     try clear hfz16_3
     try clear hfz16_4
     try clear hfz16_5
     try clear hfz17_0
     try clear hfz17_1
     try clear hfz17_2
     try clear hfz17_3
     try clear hfz17_4
     try clear hfz17_5
     try clear hfz19_0
     try clear hfz19_1
     try clear hfz19_2
     try clear hfz19_3
     try clear hfz19_4
     try clear hfz19_5
     try clear hfz20_0
     try clear hfz20_1
     try clear hfz20_2
     try clear hfz20_3
     try clear hfz20_4
     try clear hfz20_5
     try clear hfz23_0
     try clear hfz23_1
     try clear hfz23_2
     try clear hfz23_3
     try clear hfz23_4
     try clear hfz23_5
     try clear p2
     obtain ⟨x37_2, rfl, HA, HK2, BK204, BK205, HB⟩ := hrel
     cases gk with
     | zero => exact absurd HA.out (by simp [mortmainref09_sameExpr.l0])
     | succ k2 =>
      have H := HA.out
      clear HA
      simp only [mortmainref09_sameExpr.l0] at H
      by_cases c24 : x37_2 < (l0_5.length : Int)
      ·rw [if_pos c24] at H
       have c24b0 : decide (x37_2 < (l0_5.length : Int)) = true := decide_eq_true c24
       clear c24
       by_cases c25 : 0 ≤ x37_2
       ·rw [if_pos c25] at H
        have c25b0 : decide (0 ≤ x37_2) = true := decide_eq_true c25
        clear c25
        by_cases c26 : x37_2 < (l0_5.length : Int)
        ·rw [if_pos c26] at H
         have c26b0 : decide (x37_2 < (l0_5.length : Int)) = true := decide_eq_true c26
         clear c26
         by_cases c27 : x37_2 < (l1_5.length : Int)
         ·rw [if_pos c27] at H
          have c27b0 : decide (x37_2 < (l1_5.length : Int)) = true := decide_eq_true c27
          clear c27
          replace H := Option.bind_eq_some_iff.mp H
          obtain ⟨t208, A280, H⟩ := H
          replace H : (if t208 = true then (mortmainref09_sameExpr.l0 k2 (l0_5.length : Int) (wrap64 (x37_2 + 1)) a0_0 a0_1 a0_2 a0_3 a0_4 l0_5 a1_0 a1_1 a1_2 a1_3 a1_4 l1_5) else (some false)) = some r := H
          have A28 := Aside0.mk A280
          clear A280
          by_cases c29 : t208 = true
          ·subst c29
           have H1 : (mortmainref09_sameExpr.l0 k2 (l0_5.length : Int) (wrap64 (x37_2 + 1)) a0_0 a0_1 a0_2 a0_3 a0_4 l0_5 a1_0 a1_1 a1_2 a1_3 a1_4 l1_5) = some r := by rw [if_pos rfl] at H; exact H
           clear H
           have H := H1
           clear H1
           have H' := Aside0.mk H
           clear H
           try go_wp2
           have n0_ := Aside0.mk (blk_drew BK204.out)
           have n1_ := Aside0.mk (blk_drew BK205.out)
           have n2_ := Aside0.mk (below_drew1 HB.out)
           clear BK204
           clear BK205
           clear HB
           have BK204 := n0_
           have BK205 := n1_
           have HB := n2_
           clear n0_ n1_ n2_
           have p206 : 0 ≤ (x37_2 : Int) := of_decide_eq_true (by first | (with_reducible assumption) | assumption)
           have q206 : x37_2 < (l0_5.length : Int) := of_decide_eq_true (by first | (with_reducible assumption) | assumption)
           obtain ⟨ad206, A206_5, c206_5, e206, hx206_0, hx206_1, hx206_2, hx206_3, hx206_4, hx206_5, hl206_5, hi206_5⟩ := at_T72 HR0_5.out x37_2 p206 q206
           have hw206_5 := hx206_5
           have hw206_4 := hx206_4
           have hw206_3 := hx206_3
           have hw206_2 := hx206_2
           have hw206_1 := hx206_1
           have hw206_0 := hx206_0
           cases e206
           replace hx206_0 := (HB.out.cell (World.block_lt_of_cell? w _ hx206_0)).trans hx206_0
           replace hx206_1 := (HB.out.cell (World.block_lt_of_cell? w _ hx206_1)).trans hx206_1
           replace hx206_2 := (HB.out.cell (World.block_lt_of_cell? w _ hx206_2)).trans hx206_2
           replace hx206_3 := (HB.out.cell (World.block_lt_of_cell? w _ hx206_3)).trans hx206_3
           replace hx206_4 := (HB.out.cell (World.block_lt_of_cell? w _ hx206_4)).trans hx206_4
           replace hx206_5 := (HB.out.cell (World.block_lt_of_cell? w _ hx206_5)).trans hx206_5
           have HR206_5 := Aside0.mk hi206_5
           have HC206_5 := Aside0.mk hl206_5
           clear hi206_5 hl206_5
           replace p206 := eq_true p206
           replace q206 := eq_true q206
           have p207 : 0 ≤ (x37_2 : Int) := of_decide_eq_true (by first | (with_reducible assumption) | assumption)
           have q207 : x37_2 < (l1_5.length : Int) := of_decide_eq_true (by first | (with_reducible assumption) | assumption)
           obtain ⟨ad207, A207_5, c207_5, e207, hx207_0, hx207_1, hx207_2, hx207_3, hx207_4, hx207_5, hl207_5, hi207_5⟩ := at_T72 HR1_5.out x37_2 p207 q207
           have hw207_5 := hx207_5
           have hw207_4 := hx207_4
           have hw207_3 := hx207_3
           have hw207_2 := hx207_2
           have hw207_1 := hx207_1
           have hw207_0 := hx207_0
           cases e207
           replace hx207_0 := (HB.out.cell (World.block_lt_of_cell? w _ hx207_0)).trans hx207_0
           replace hx207_1 := (HB.out.cell (World.block_lt_of_cell? w _ hx207_1)).trans hx207_1
           replace hx207_2 := (HB.out.cell (World.block_lt_of_cell? w _ hx207_2)).trans hx207_2
           replace hx207_3 := (HB.out.cell (World.block_lt_of_cell? w _ hx207_3)).trans hx207_3
           replace hx207_4 := (HB.out.cell (World.block_lt_of_cell? w _ hx207_4)).trans hx207_4
           replace hx207_5 := (HB.out.cell (World.block_lt_of_cell? w _ hx207_5)).trans hx207_5
           have HR207_5 := Aside0.mk hi207_5
           have HC207_5 := Aside0.mk hl207_5
           clear hi207_5 hl207_5
           replace p207 := eq_true p207
           replace q207 := eq_true q207
           refine start_ (n := 12) (S := fun w' => w'.cell? ⟨gb204, 0, none⟩ = some (.int .i64 a0_0) ∧ w'.cell? ⟨gb204, 1, none⟩ = some (.int .i64 a0_1) ∧ w'.cell? ⟨gb204, 2, none⟩ = some (.int .i64 a0_2) ∧ w'.cell? ⟨gb204, 3, none⟩ = some (.int .i64 a0_3) ∧ w'.cell? ⟨gb204, 4, none⟩ = some (.string a0_4) ∧ w'.cell? ⟨gb204, 5, none⟩ = some (.slice (some ad206) l0_5.length c0_5) ∧ w'.cell? ⟨gb205, 0, none⟩ = some (.int .i64 a1_0) ∧ w'.cell? ⟨gb205, 1, none⟩ = some (.int .i64 a1_1) ∧ w'.cell? ⟨gb205, 2, none⟩ = some (.int .i64 a1_2) ∧ w'.cell? ⟨gb205, 3, none⟩ = some (.int .i64 a1_3) ∧ w'.cell? ⟨gb205, 4, none⟩ = some (.string a1_4) ∧ w'.cell? ⟨gb205, 5, none⟩ = some (.slice (some ad207) l1_5.length c1_5) ∧ w'.cell? (ad206.add ((x37_2).toNat * 6)) = some (.int .i64 ((rd_T72 l0_5 x37_2).f0)) ∧ w'.cell? ⟨(ad206.add ((x37_2).toNat * 6)).block, (ad206.add ((x37_2).toNat * 6)).off + 1, none⟩ = some (.int .i64 ((rd_T72 l0_5 x37_2).f1)) ∧ w'.cell? ⟨(ad206.add ((x37_2).toNat * 6)).block, (ad206.add ((x37_2).toNat * 6)).off + 2, none⟩ = some (.int .i64 ((rd_T72 l0_5 x37_2).f2.f0)) ∧ w'.cell? ⟨(ad206.add ((x37_2).toNat * 6)).block, (ad206.add ((x37_2).toNat * 6)).off + 3, none⟩ = some (.int .i64 ((rd_T72 l0_5 x37_2).f2.f1)) ∧ w'.cell? ⟨(ad206.add ((x37_2).toNat * 6)).block, (ad206.add ((x37_2).toNat * 6)).off + 4, none⟩ = some (.string ((rd_T72 l0_5 x37_2).f2.f2)) ∧ w'.cell? ⟨(ad206.add ((x37_2).toNat * 6)).block, (ad206.add ((x37_2).toNat * 6)).off + 5, none⟩ = some (.slice A206_5 ((rd_T72 l0_5 x37_2).f3).length c206_5) ∧ w'.cell? (ad207.add ((x37_2).toNat * 6)) = some (.int .i64 ((rd_T72 l1_5 x37_2).f0)) ∧ w'.cell? ⟨(ad207.add ((x37_2).toNat * 6)).block, (ad207.add ((x37_2).toNat * 6)).off + 1, none⟩ = some (.int .i64 ((rd_T72 l1_5 x37_2).f1)) ∧ w'.cell? ⟨(ad207.add ((x37_2).toNat * 6)).block, (ad207.add ((x37_2).toNat * 6)).off + 2, none⟩ = some (.int .i64 ((rd_T72 l1_5 x37_2).f2.f0)) ∧ w'.cell? ⟨(ad207.add ((x37_2).toNat * 6)).block, (ad207.add ((x37_2).toNat * 6)).off + 3, none⟩ = some (.int .i64 ((rd_T72 l1_5 x37_2).f2.f1)) ∧ w'.cell? ⟨(ad207.add ((x37_2).toNat * 6)).block, (ad207.add ((x37_2).toNat * 6)).off + 4, none⟩ = some (.string ((rd_T72 l1_5 x37_2).f2.f2)) ∧ w'.cell? ⟨(ad207.add ((x37_2).toNat * 6)).block, (ad207.add ((x37_2).toNat * 6)).off + 5, none⟩ = some (.slice A207_5 ((rd_T72 l1_5 x37_2).f3).length c207_5)) (ds := []) #[false, false, false, false, false, false, false, false, false, false, false, false] (by kernel_rfl) rfl rfl ⟨(blk_cell BK204.out 0).trans rfl, (blk_cell BK204.out 1).trans rfl, (blk_cell BK204.out 2).trans rfl, (blk_cell BK204.out 3).trans rfl, (blk_cell BK204.out 4).trans rfl, (blk_cell BK204.out 5).trans rfl, (blk_cell BK205.out 0).trans rfl, (blk_cell BK205.out 1).trans rfl, (blk_cell BK205.out 2).trans rfl, (blk_cell BK205.out 3).trans rfl, (blk_cell BK205.out 4).trans rfl, (blk_cell BK205.out 5).trans rfl, ((HB.out.cell (World.block_lt_of_cell? w _ hw206_0)).trans hw206_0), ((HB.out.cell (World.block_lt_of_cell? w _ hw206_1)).trans hw206_1), ((HB.out.cell (World.block_lt_of_cell? w _ hw206_2)).trans hw206_2), ((HB.out.cell (World.block_lt_of_cell? w _ hw206_3)).trans hw206_3), ((HB.out.cell (World.block_lt_of_cell? w _ hw206_4)).trans hw206_4), ((HB.out.cell (World.block_lt_of_cell? w _ hw206_5)).trans hw206_5), ((HB.out.cell (World.block_lt_of_cell? w _ hw207_0)).trans hw207_0), ((HB.out.cell (World.block_lt_of_cell? w _ hw207_1)).trans hw207_1), ((HB.out.cell (World.block_lt_of_cell? w _ hw207_2)).trans hw207_2), ((HB.out.cell (World.block_lt_of_cell? w _ hw207_3)).trans hw207_3), ((HB.out.cell (World.block_lt_of_cell? w _ hw207_4)).trans hw207_4), ((HB.out.cell (World.block_lt_of_cell? w _ hw207_5)).trans hw207_5)⟩ (fun hHeld => ?_); refine with_tabW mortmainref09_sameExpr.tab6 mortmainref09_sameExpr.bits6 (fun HT_ HW_ => ?_)
           generalize wr.drew = w30 at BK204 BK205 HB HR206_5 HR207_5 hx206_0 hx206_1 hx206_2 hx206_3 hx206_4 hx206_5 hx207_0 hx207_1 hx207_2 hx207_3 hx207_4 hx207_5 hHeld ⊢
           refine pure_ (i := 0) (N := some 40) (v := ?_) (a' := ?_) #[true, false, false, false, false, false, false, false, false, false, false, false] rfl rfl (any_of HT_.out (by kernel_rfl)) (fun _ _ _ h => h) (Or.inl ⟨by rfl, ?_⟩) ?_ ?_
           rotate_left
           ·intro w'
            go_simp
            with_reducible rfl
           rotate_left
           ·simp only [Act.put, List.setIfInBounds_toArray, List.set_cons_zero, List.set_cons_succ, i64_w, i32_w]
            rfl
           refine pure_ (i := 2) (N := some 42) (v := ?_) (a' := ?_) #[true, false, true, false, false, false, false, false, false, false, false, false] rfl rfl (any_of HT_.out (by kernel_rfl)) (fun _ _ _ h => h) (Or.inl ⟨by rfl, ?_⟩) ?_ ?_
           rotate_left
           ·intro w'
            go_simp
            with_reducible rfl
           rotate_left
           ·simp only [Act.put, List.setIfInBounds_toArray, List.set_cons_zero, List.set_cons_succ, i64_w, i32_w]
            rfl
           refine pure_ (i := 5) (N := some 45) (v := ?_) (a' := ?_) #[true, false, true, false, false, true, false, false, false, false, false, false] rfl rfl (any_of HT_.out (by kernel_rfl)) (fun _ _ _ h => h) (Or.inl ⟨by rfl, ?_⟩) ?_ ?_
           rotate_left
           ·intro w'
            go_simp
            with_reducible rfl
           rotate_left
           ·simp only [Act.put, List.setIfInBounds_toArray, List.set_cons_zero, List.set_cons_succ, i64_w, i32_w]
            rfl
           refine pure_ (i := 7) (N := some 47) (v := ?_) (a' := ?_) #[true, false, true, false, false, true, false, true, false, false, false, false] rfl rfl (any_of HT_.out (by kernel_rfl)) (fun _ _ _ h => h) (Or.inl ⟨by rfl, ?_⟩) ?_ ?_
           rotate_left
           ·intro w'
            go_simp
            with_reducible rfl
           rotate_left
           ·simp only [Act.put, List.setIfInBounds_toArray, List.set_cons_zero, List.set_cons_succ, i64_w, i32_w]
            rfl
           refine take_ (i := 1) (N := some 41) (v := ?_) (a' := ?_) #[true, true, true, false, false, true, false, true, false, false, false, false] rfl rfl (take_ofW HT_.out HW_.out (by kernel_rfl)) (fun _ _ _ h => h) (Or.inl ⟨by rfl, ?_⟩) hHeld ?_ ?_
           rotate_left
           ·rintro w' ⟨s0, s1, s2, s3, s4, s5, s6, s7, s8, s9, s10, s11, s12, s13, s14, s15, s16, s17, s18, s19, s20, s21, s22, s23⟩
            go_simp
            with_reducible rfl
           rotate_left
           ·simp only [Act.put, List.setIfInBounds_toArray, List.set_cons_zero, List.set_cons_succ, i64_w, i32_w]
            rfl
           refine pure_ (i := 3) (N := some 43) (v := ?_) (a' := ?_) #[true, true, true, true, false, true, false, true, false, false, false, false] rfl rfl (any_of HT_.out (by kernel_rfl)) (fun _ _ _ h => h) (Or.inl ⟨by rfl, ?_⟩) ?_ ?_
           rotate_left
           ·intro w'
            go_simp
            with_reducible rfl
           rotate_left
           ·simp only [Act.put, List.setIfInBounds_toArray, List.set_cons_zero, List.set_cons_succ, i64_w, i32_w]
            rfl
           refine take_ (i := 4) (N := some 44) (v := ?_) (a' := ?_) #[true, true, true, true, true, true, false, true, false, false, false, false] rfl rfl (take_ofW HT_.out HW_.out (by kernel_rfl)) (fun _ _ _ h => h) (Or.inl ⟨by rfl, ?_⟩) hHeld ?_ ?_
           rotate_left
           ·rintro w' ⟨s0, s1, s2, s3, s4, s5, s6, s7, s8, s9, s10, s11, s12, s13, s14, s15, s16, s17, s18, s19, s20, s21, s22, s23⟩
            go_simp
            with_reducible rfl
           rotate_left
           ·simp only [Act.put, List.setIfInBounds_toArray, List.set_cons_zero, List.set_cons_succ, i64_w, i32_w]
            rfl
           refine take_ (i := 6) (N := some 46) (v := ?_) (a' := ?_) #[true, true, true, true, true, true, true, true, false, false, false, false] rfl rfl (take_ofW HT_.out HW_.out (by kernel_rfl)) (fun _ _ _ h => h) (Or.inl ⟨by rfl, ?_⟩) hHeld ?_ ?_
           rotate_left
           ·rintro w' ⟨s0, s1, s2, s3, s4, s5, s6, s7, s8, s9, s10, s11, s12, s13, s14, s15, s16, s17, s18, s19, s20, s21, s22, s23⟩
            go_simp
            with_reducible rfl
           rotate_left
           ·simp only [Act.put, List.setIfInBounds_toArray, List.set_cons_zero, List.set_cons_succ, i64_w, i32_w]
            rfl
           refine pure_ (i := 8) (N := some 48) (v := ?_) (a' := ?_) #[true, true, true, true, true, true, true, true, true, false, false, false] rfl rfl (any_of HT_.out (by kernel_rfl)) (fun _ _ _ h => h) (Or.inl ⟨by rfl, ?_⟩) ?_ ?_
           rotate_left
           ·intro w'
            go_simp
            with_reducible rfl
           rotate_left
           ·simp only [Act.put, List.setIfInBounds_toArray, List.set_cons_zero, List.set_cons_succ, i64_w, i32_w]
            rfl
           refine take_ (i := 9) (N := some 49) (v := ?_) (a' := ?_) #[true, true, true, true, true, true, true, true, true, true, false, false] rfl rfl (take_ofW HT_.out HW_.out (by kernel_rfl)) (fun _ _ _ h => h) (Or.inl ⟨by rfl, ?_⟩) hHeld ?_ ?_
           rotate_left
           ·rintro w' ⟨s0, s1, s2, s3, s4, s5, s6, s7, s8, s9, s10, s11, s12, s13, s14, s15, s16, s17, s18, s19, s20, s21, s22, s23⟩
            go_simp
            with_reducible rfl
           rotate_left
           ·simp only [Act.put, List.setIfInBounds_toArray, List.set_cons_zero, List.set_cons_succ, i64_w, i32_w]
            rfl
           refine one_ (i := 10) (N := some 50) #[true, true, true, true, true, true, true, true, true, true, true, false] rfl rfl (one_of HT_.out (by kernel_rfl)) (by decide) (fun K hK => ?_)
           refine goes_ Tryd.func54 (by kernel_rfl) rfl #[.agg #[.int .i64 ((rd_T72 l0_5 x37_2).f0), .int .i64 ((rd_T72 l0_5 x37_2).f1), .int .i64 ((rd_T72 l0_5 x37_2).f2.f0), .int .i64 ((rd_T72 l0_5 x37_2).f2.f1), .string ((rd_T72 l0_5 x37_2).f2.f2), .slice A206_5 ((rd_T72 l0_5 x37_2).f3).length c206_5], .agg #[.int .i64 ((rd_T72 l1_5 x37_2).f0), .int .i64 ((rd_T72 l1_5 x37_2).f1), .int .i64 ((rd_T72 l1_5 x37_2).f2.f0), .int .i64 ((rd_T72 l1_5 x37_2).f2.f1), .string ((rd_T72 l1_5 x37_2).f2.f2), .slice A207_5 ((rd_T72 l1_5 x37_2).f3).length c207_5]] (by rfl) rfl rfl (by (try simp only [List.map_toArray, List.map_cons, List.map_nil]); first | done | rfl | (simp only [List.length_drop, List.length_take]; rfl)) ?_
           with_reducible refine (ih k2 (by have := HJ2.out; have := HK2.out; omega) ((rd_T72 l0_5 x37_2).f0) ((rd_T72 l0_5 x37_2).f1) ((rd_T72 l0_5 x37_2).f2.f0) ((rd_T72 l0_5 x37_2).f2.f1) ((rd_T72 l0_5 x37_2).f2.f2) _ _ ((rd_T72 l0_5 x37_2).f3) ((rd_T72 l1_5 x37_2).f0) ((rd_T72 l1_5 x37_2).f1) ((rd_T72 l1_5 x37_2).f2.f0) ((rd_T72 l1_5 x37_2).f2.f1) ((rd_T72 l1_5 x37_2).f2.f2) _ _ ((rd_T72 l1_5 x37_2).f3) true _ ?side1 ?side2 ?side3 ?side4 A28.out).mono ?_
           (case side1 => repeat (first | exact (Kd.C_below HR206_5.out HB.out) | (with_reducible refine Kd.C_alloc ?_ _) | (with_reducible refine Kd.C_drewN ?_ _) | (with_reducible refine Kd.C_drew ?_)))
           (case side2 => exact HC206_5.out)
           (case side3 => repeat (first | exact (Kd.C_below HR207_5.out HB.out) | (with_reducible refine Kd.C_alloc ?_ _) | (with_reducible refine Kd.C_drewN ?_ _) | (with_reducible refine Kd.C_drew ?_)))
           (case side4 => exact HC207_5.out)
           rintro e w31 ⟨rfl, hb⟩
           refine ⟨_, rfl, ?_⟩
           have n0_ := Aside0.mk (blk_below (g := gb204) (o := .cells #[.int .i64 a0_0, .int .i64 a0_1, .int .i64 a0_2, .int .i64 a0_3, .string a0_4, .slice (some ad206) l0_5.length c0_5] 72 (0, 0)) (by (with_reducible repeat (first | refine blk_drewN ?_ _ | refine blk_drew ?_ | refine blk_alloc ?_ _)); exact BK204.out) hb)
           have n1_ := Aside0.mk (blk_below (g := gb205) (o := .cells #[.int .i64 a1_0, .int .i64 a1_1, .int .i64 a1_2, .int .i64 a1_3, .string a1_4, .slice (some ad207) l1_5.length c1_5] 72 (0, 0)) (by (with_reducible repeat (first | refine blk_drewN ?_ _ | refine blk_drew ?_ | refine blk_alloc ?_ _)); exact BK205.out) hb)
           have n2_ := Aside0.mk (below_step (by repeat (first | (with_reducible first | exact HB.out | apply below_alloc | apply pw_below_drewN | apply below_drew1 | refine below_set ?_ GE204.out | refine below_set ?_ GE205.out) | exact HB.out)) hb)
           clear BK204
           clear BK205
           clear HB
           have BK204 := n0_
           have BK205 := n1_
           have HB := n2_
           clear n0_ n1_ n2_
           (try clear hb)
           (try clear hb2)
           (try clear hk)
           (try clear hi)
           refine hK.out _ _ ⟨(blk_cell BK204.out 0).trans rfl, (blk_cell BK204.out 1).trans rfl, (blk_cell BK204.out 2).trans rfl, (blk_cell BK204.out 3).trans rfl, (blk_cell BK204.out 4).trans rfl, (blk_cell BK204.out 5).trans rfl, (blk_cell BK205.out 0).trans rfl, (blk_cell BK205.out 1).trans rfl, (blk_cell BK205.out 2).trans rfl, (blk_cell BK205.out 3).trans rfl, (blk_cell BK205.out 4).trans rfl, (blk_cell BK205.out 5).trans rfl, ((HB.out.cell (World.block_lt_of_cell? w _ hw206_0)).trans hw206_0), ((HB.out.cell (World.block_lt_of_cell? w _ hw206_1)).trans hw206_1), ((HB.out.cell (World.block_lt_of_cell? w _ hw206_2)).trans hw206_2), ((HB.out.cell (World.block_lt_of_cell? w _ hw206_3)).trans hw206_3), ((HB.out.cell (World.block_lt_of_cell? w _ hw206_4)).trans hw206_4), ((HB.out.cell (World.block_lt_of_cell? w _ hw206_5)).trans hw206_5), ((HB.out.cell (World.block_lt_of_cell? w _ hw207_0)).trans hw207_0), ((HB.out.cell (World.block_lt_of_cell? w _ hw207_1)).trans hw207_1), ((HB.out.cell (World.block_lt_of_cell? w _ hw207_2)).trans hw207_2), ((HB.out.cell (World.block_lt_of_cell? w _ hw207_3)).trans hw207_3), ((HB.out.cell (World.block_lt_of_cell? w _ hw207_4)).trans hw207_4), ((HB.out.cell (World.block_lt_of_cell? w _ hw207_5)).trans hw207_5)⟩ (fun hHeld => ?_)
           clear hK K
           refine norm_ (a' := ?_) ?_ ?_
           rotate_left
           ·show Act.put _ (some 50) _ = _
            simp only [Act.put, List.setIfInBounds_toArray, List.set_cons_zero, List.set_cons_succ, i64_w, i32_w]
            rfl
           refine pure_ (i := 11) (N := some 51) (v := ?_) (a' := ?_) #[true, true, true, true, true, true, true, true, true, true, true, true] rfl rfl (any_of HT_.out (by kernel_rfl)) (fun _ _ _ h => h) (Or.inl ⟨by rfl, ?_⟩) ?_ ?_
           rotate_left
           ·intro w'
            go_simp
            with_reducible rfl
           rotate_left
           ·simp only [Act.put, List.setIfInBounds_toArray, List.set_cons_zero, List.set_cons_succ, i64_w, i32_w]
            rfl
           refine done_ (done_of HT_.out (by kernel_rfl)) ?_
           try go_wp2
           go_roundg k2
           case measure => have := HJ2.out; have := HK2.out; omega
           case rel => exact ⟨(wrap64 (x37_2 + 1)), (by first | rfl | (simp; done) | (simp [*]; done)), H', ⟨by have := HJ2.out; have := HK2.out; omega⟩, ⟨by (with_reducible repeat (first | refine blk_drewN ?_ _ | refine blk_drew ?_ | refine blk_alloc ?_ _)); exact BK204.out⟩, ⟨by (with_reducible repeat (first | refine blk_drewN ?_ _ | refine blk_drew ?_ | refine blk_alloc ?_ _)); exact BK205.out⟩, ⟨by repeat (first | (with_reducible first | exact HB.out | apply below_alloc | apply pw_below_drewN | apply below_drew1 | refine below_set ?_ GE204.out | refine below_set ?_ GE205.out) | exact HB.out)⟩⟩
          ·replace c29 := Bool.eq_false_iff.mpr c29
           subst c29
           have H1 : (some false) = some r := by rw [if_neg (show ¬ (false = true) by decide)] at H; exact H
           clear H
           have H := H1
           clear H1
           obtain rfl := Option.some.inj H
           try go_wp2
           have n0_ := Aside0.mk (blk_drew BK204.out)
           have n1_ := Aside0.mk (blk_drew BK205.out)
           have n2_ := Aside0.mk (below_drew1 HB.out)
           clear BK204
           clear BK205
           clear HB
           have BK204 := n0_
           have BK205 := n1_
           have HB := n2_
           clear n0_ n1_ n2_
           have p206 : 0 ≤ (x37_2 : Int) := of_decide_eq_true (by first | (with_reducible assumption) | assumption)
           have q206 : x37_2 < (l0_5.length : Int) := of_decide_eq_true (by first | (with_reducible assumption) | assumption)
           obtain ⟨ad206, A206_5, c206_5, e206, hx206_0, hx206_1, hx206_2, hx206_3, hx206_4, hx206_5, hl206_5, hi206_5⟩ := at_T72 HR0_5.out x37_2 p206 q206
           have hw206_5 := hx206_5
           have hw206_4 := hx206_4
           have hw206_3 := hx206_3
           have hw206_2 := hx206_2
           have hw206_1 := hx206_1
           have hw206_0 := hx206_0
           cases e206
           replace hx206_0 := (HB.out.cell (World.block_lt_of_cell? w _ hx206_0)).trans hx206_0
           replace hx206_1 := (HB.out.cell (World.block_lt_of_cell? w _ hx206_1)).trans hx206_1
           replace hx206_2 := (HB.out.cell (World.block_lt_of_cell? w _ hx206_2)).trans hx206_2
           replace hx206_3 := (HB.out.cell (World.block_lt_of_cell? w _ hx206_3)).trans hx206_3
           replace hx206_4 := (HB.out.cell (World.block_lt_of_cell? w _ hx206_4)).trans hx206_4
           replace hx206_5 := (HB.out.cell (World.block_lt_of_cell? w _ hx206_5)).trans hx206_5
           have HR206_5 := Aside0.mk hi206_5
           have HC206_5 := Aside0.mk hl206_5
           clear hi206_5 hl206_5
           replace p206 := eq_true p206
           replace q206 := eq_true q206
           have p207 : 0 ≤ (x37_2 : Int) := of_decide_eq_true (by first | (with_reducible assumption) | assumption)
           have q207 : x37_2 < (l1_5.length : Int) := of_decide_eq_true (by first | (with_reducible assumption) | assumption)
           obtain ⟨ad207, A207_5, c207_5, e207, hx207_0, hx207_1, hx207_2, hx207_3, hx207_4, hx207_5, hl207_5, hi207_5⟩ := at_T72 HR1_5.out x37_2 p207 q207
           have hw207_5 := hx207_5
           have hw207_4 := hx207_4
           have hw207_3 := hx207_3
           have hw207_2 := hx207_2
           have hw207_1 := hx207_1
           have hw207_0 := hx207_0
           cases e207
           replace hx207_0 := (HB.out.cell (World.block_lt_of_cell? w _ hx207_0)).trans hx207_0
           replace hx207_1 := (HB.out.cell (World.block_lt_of_cell? w _ hx207_1)).trans hx207_1
           replace hx207_2 := (HB.out.cell (World.block_lt_of_cell? w _ hx207_2)).trans hx207_2
           replace hx207_3 := (HB.out.cell (World.block_lt_of_cell? w _ hx207_3)).trans hx207_3
           replace hx207_4 := (HB.out.cell (World.block_lt_of_cell? w _ hx207_4)).trans hx207_4
           replace hx207_5 := (HB.out.cell (World.block_lt_of_cell? w _ hx207_5)).trans hx207_5
           have HR207_5 := Aside0.mk hi207_5
           have HC207_5 := Aside0.mk hl207_5
           clear hi207_5 hl207_5
           replace p207 := eq_true p207
           replace q207 := eq_true q207
           refine start_ (n := 12) (S := fun w' => w'.cell? ⟨gb204, 0, none⟩ = some (.int .i64 a0_0) ∧ w'.cell? ⟨gb204, 1, none⟩ = some (.int .i64 a0_1) ∧ w'.cell? ⟨gb204, 2, none⟩ = some (.int .i64 a0_2) ∧ w'.cell? ⟨gb204, 3, none⟩ = some (.int .i64 a0_3) ∧ w'.cell? ⟨gb204, 4, none⟩ = some (.string a0_4) ∧ w'.cell? ⟨gb204, 5, none⟩ = some (.slice (some ad206) l0_5.length c0_5) ∧ w'.cell? ⟨gb205, 0, none⟩ = some (.int .i64 a1_0) ∧ w'.cell? ⟨gb205, 1, none⟩ = some (.int .i64 a1_1) ∧ w'.cell? ⟨gb205, 2, none⟩ = some (.int .i64 a1_2) ∧ w'.cell? ⟨gb205, 3, none⟩ = some (.int .i64 a1_3) ∧ w'.cell? ⟨gb205, 4, none⟩ = some (.string a1_4) ∧ w'.cell? ⟨gb205, 5, none⟩ = some (.slice (some ad207) l1_5.length c1_5) ∧ w'.cell? (ad206.add ((x37_2).toNat * 6)) = some (.int .i64 ((rd_T72 l0_5 x37_2).f0)) ∧ w'.cell? ⟨(ad206.add ((x37_2).toNat * 6)).block, (ad206.add ((x37_2).toNat * 6)).off + 1, none⟩ = some (.int .i64 ((rd_T72 l0_5 x37_2).f1)) ∧ w'.cell? ⟨(ad206.add ((x37_2).toNat * 6)).block, (ad206.add ((x37_2).toNat * 6)).off + 2, none⟩ = some (.int .i64 ((rd_T72 l0_5 x37_2).f2.f0)) ∧ w'.cell? ⟨(ad206.add ((x37_2).toNat * 6)).block, (ad206.add ((x37_2).toNat * 6)).off + 3, none⟩ = some (.int .i64 ((rd_T72 l0_5 x37_2).f2.f1)) ∧ w'.cell? ⟨(ad206.add ((x37_2).toNat * 6)).block, (ad206.add ((x37_2).toNat * 6)).off + 4, none⟩ = some (.string ((rd_T72 l0_5 x37_2).f2.f2)) ∧ w'.cell? ⟨(ad206.add ((x37_2).toNat * 6)).block, (ad206.add ((x37_2).toNat * 6)).off + 5, none⟩ = some (.slice A206_5 ((rd_T72 l0_5 x37_2).f3).length c206_5) ∧ w'.cell? (ad207.add ((x37_2).toNat * 6)) = some (.int .i64 ((rd_T72 l1_5 x37_2).f0)) ∧ w'.cell? ⟨(ad207.add ((x37_2).toNat * 6)).block, (ad207.add ((x37_2).toNat * 6)).off + 1, none⟩ = some (.int .i64 ((rd_T72 l1_5 x37_2).f1)) ∧ w'.cell? ⟨(ad207.add ((x37_2).toNat * 6)).block, (ad207.add ((x37_2).toNat * 6)).off + 2, none⟩ = some (.int .i64 ((rd_T72 l1_5 x37_2).f2.f0)) ∧ w'.cell? ⟨(ad207.add ((x37_2).toNat * 6)).block, (ad207.add ((x37_2).toNat * 6)).off + 3, none⟩ = some (.int .i64 ((rd_T72 l1_5 x37_2).f2.f1)) ∧ w'.cell? ⟨(ad207.add ((x37_2).toNat * 6)).block, (ad207.add ((x37_2).toNat * 6)).off + 4, none⟩ = some (.string ((rd_T72 l1_5 x37_2).f2.f2)) ∧ w'.cell? ⟨(ad207.add ((x37_2).toNat * 6)).block, (ad207.add ((x37_2).toNat * 6)).off + 5, none⟩ = some (.slice A207_5 ((rd_T72 l1_5 x37_2).f3).length c207_5)) (ds := []) #[false, false, false, false, false, false, false, false, false, false, false, false] (by kernel_rfl) rfl rfl ⟨(blk_cell BK204.out 0).trans rfl, (blk_cell BK204.out 1).trans rfl, (blk_cell BK204.out 2).trans rfl, (blk_cell BK204.out 3).trans rfl, (blk_cell BK204.out 4).trans rfl, (blk_cell BK204.out 5).trans rfl, (blk_cell BK205.out 0).trans rfl, (blk_cell BK205.out 1).trans rfl, (blk_cell BK205.out 2).trans rfl, (blk_cell BK205.out 3).trans rfl, (blk_cell BK205.out 4).trans rfl, (blk_cell BK205.out 5).trans rfl, ((HB.out.cell (World.block_lt_of_cell? w _ hw206_0)).trans hw206_0), ((HB.out.cell (World.block_lt_of_cell? w _ hw206_1)).trans hw206_1), ((HB.out.cell (World.block_lt_of_cell? w _ hw206_2)).trans hw206_2), ((HB.out.cell (World.block_lt_of_cell? w _ hw206_3)).trans hw206_3), ((HB.out.cell (World.block_lt_of_cell? w _ hw206_4)).trans hw206_4), ((HB.out.cell (World.block_lt_of_cell? w _ hw206_5)).trans hw206_5), ((HB.out.cell (World.block_lt_of_cell? w _ hw207_0)).trans hw207_0), ((HB.out.cell (World.block_lt_of_cell? w _ hw207_1)).trans hw207_1), ((HB.out.cell (World.block_lt_of_cell? w _ hw207_2)).trans hw207_2), ((HB.out.cell (World.block_lt_of_cell? w _ hw207_3)).trans hw207_3), ((HB.out.cell (World.block_lt_of_cell? w _ hw207_4)).trans hw207_4), ((HB.out.cell (World.block_lt_of_cell? w _ hw207_5)).trans hw207_5)⟩ (fun hHeld => ?_); refine with_tabW mortmainref09_sameExpr.tab6 mortmainref09_sameExpr.bits6 (fun HT_ HW_ => ?_)
           generalize wr.drew = w32 at BK204 BK205 HB HR206_5 HR207_5 hx206_0 hx206_1 hx206_2 hx206_3 hx206_4 hx206_5 hx207_0 hx207_1 hx207_2 hx207_3 hx207_4 hx207_5 hHeld ⊢
           refine pure_ (i := 0) (N := some 40) (v := ?_) (a' := ?_) #[true, false, false, false, false, false, false, false, false, false, false, false] rfl rfl (any_of HT_.out (by kernel_rfl)) (fun _ _ _ h => h) (Or.inl ⟨by rfl, ?_⟩) ?_ ?_
           rotate_left
           ·intro w'
            go_simp
            with_reducible rfl
           rotate_left
           ·simp only [Act.put, List.setIfInBounds_toArray, List.set_cons_zero, List.set_cons_succ, i64_w, i32_w]
            rfl
           refine pure_ (i := 2) (N := some 42) (v := ?_) (a' := ?_) #[true, false, true, false, false, false, false, false, false, false, false, false] rfl rfl (any_of HT_.out (by kernel_rfl)) (fun _ _ _ h => h) (Or.inl ⟨by rfl, ?_⟩) ?_ ?_
           rotate_left
           ·intro w'
            go_simp
            with_reducible rfl
           rotate_left
           ·simp only [Act.put, List.setIfInBounds_toArray, List.set_cons_zero, List.set_cons_succ, i64_w, i32_w]
            rfl
           refine pure_ (i := 5) (N := some 45) (v := ?_) (a' := ?_) #[true, false, true, false, false, true, false, false, false, false, false, false] rfl rfl (any_of HT_.out (by kernel_rfl)) (fun _ _ _ h => h) (Or.inl ⟨by rfl, ?_⟩) ?_ ?_
           rotate_left
           ·intro w'
            go_simp
            with_reducible rfl
           rotate_left
           ·simp only [Act.put, List.setIfInBounds_toArray, List.set_cons_zero, List.set_cons_succ, i64_w, i32_w]
            rfl
           refine pure_ (i := 7) (N := some 47) (v := ?_) (a' := ?_) #[true, false, true, false, false, true, false, true, false, false, false, false] rfl rfl (any_of HT_.out (by kernel_rfl)) (fun _ _ _ h => h) (Or.inl ⟨by rfl, ?_⟩) ?_ ?_
           rotate_left
           ·intro w'
            go_simp
            with_reducible rfl
           rotate_left
           ·simp only [Act.put, List.setIfInBounds_toArray, List.set_cons_zero, List.set_cons_succ, i64_w, i32_w]
            rfl
           refine take_ (i := 1) (N := some 41) (v := ?_) (a' := ?_) #[true, true, true, false, false, true, false, true, false, false, false, false] rfl rfl (take_ofW HT_.out HW_.out (by kernel_rfl)) (fun _ _ _ h => h) (Or.inl ⟨by rfl, ?_⟩) hHeld ?_ ?_
           rotate_left
           ·rintro w' ⟨s0, s1, s2, s3, s4, s5, s6, s7, s8, s9, s10, s11, s12, s13, s14, s15, s16, s17, s18, s19, s20, s21, s22, s23⟩
            go_simp
            with_reducible rfl
           rotate_left
           ·simp only [Act.put, List.setIfInBounds_toArray, List.set_cons_zero, List.set_cons_succ, i64_w, i32_w]
            rfl
           refine pure_ (i := 3) (N := some 43) (v := ?_) (a' := ?_) #[true, true, true, true, false, true, false, true, false, false, false, false] rfl rfl (any_of HT_.out (by kernel_rfl)) (fun _ _ _ h => h) (Or.inl ⟨by rfl, ?_⟩) ?_ ?_
           rotate_left
           ·intro w'
            go_simp
            with_reducible rfl
           rotate_left
           ·simp only [Act.put, List.setIfInBounds_toArray, List.set_cons_zero, List.set_cons_succ, i64_w, i32_w]
            rfl
           refine take_ (i := 4) (N := some 44) (v := ?_) (a' := ?_) #[true, true, true, true, true, true, false, true, false, false, false, false] rfl rfl (take_ofW HT_.out HW_.out (by kernel_rfl)) (fun _ _ _ h => h) (Or.inl ⟨by rfl, ?_⟩) hHeld ?_ ?_
           rotate_left
           ·rintro w' ⟨s0, s1, s2, s3, s4, s5, s6, s7, s8, s9, s10, s11, s12, s13, s14, s15, s16, s17, s18, s19, s20, s21, s22, s23⟩
            go_simp
            with_reducible rfl
           rotate_left
           ·simp only [Act.put, List.setIfInBounds_toArray, List.set_cons_zero, List.set_cons_succ, i64_w, i32_w]
            rfl
           refine take_ (i := 6) (N := some 46) (v := ?_) (a' := ?_) #[true, true, true, true, true, true, true, true, false, false, false, false] rfl rfl (take_ofW HT_.out HW_.out (by kernel_rfl)) (fun _ _ _ h => h) (Or.inl ⟨by rfl, ?_⟩) hHeld ?_ ?_
           rotate_left
           ·rintro w' ⟨s0, s1, s2, s3, s4, s5, s6, s7, s8, s9, s10, s11, s12, s13, s14, s15, s16, s17, s18, s19, s20, s21, s22, s23⟩
            go_simp
            with_reducible rfl
           rotate_left
           ·simp only [Act.put, List.setIfInBounds_toArray, List.set_cons_zero, List.set_cons_succ, i64_w, i32_w]
            rfl
           refine pure_ (i := 8) (N := some 48) (v := ?_) (a' := ?_) #[true, true, true, true, true, true, true, true, true, false, false, false] rfl rfl (any_of HT_.out (by kernel_rfl)) (fun _ _ _ h => h) (Or.inl ⟨by rfl, ?_⟩) ?_ ?_
           rotate_left
           ·intro w'
            go_simp
            with_reducible rfl
           rotate_left
           ·simp only [Act.put, List.setIfInBounds_toArray, List.set_cons_zero, List.set_cons_succ, i64_w, i32_w]
            rfl
           refine take_ (i := 9) (N := some 49) (v := ?_) (a' := ?_) #[true, true, true, true, true, true, true, true, true, true, false, false] rfl rfl (take_ofW HT_.out HW_.out (by kernel_rfl)) (fun _ _ _ h => h) (Or.inl ⟨by rfl, ?_⟩) hHeld ?_ ?_
           rotate_left
           ·rintro w' ⟨s0, s1, s2, s3, s4, s5, s6, s7, s8, s9, s10, s11, s12, s13, s14, s15, s16, s17, s18, s19, s20, s21, s22, s23⟩
            go_simp
            with_reducible rfl
           rotate_left
           ·simp only [Act.put, List.setIfInBounds_toArray, List.set_cons_zero, List.set_cons_succ, i64_w, i32_w]
            rfl
           refine one_ (i := 10) (N := some 50) #[true, true, true, true, true, true, true, true, true, true, true, false] rfl rfl (one_of HT_.out (by kernel_rfl)) (by decide) (fun K hK => ?_)
           refine goes_ Tryd.func54 (by kernel_rfl) rfl #[.agg #[.int .i64 ((rd_T72 l0_5 x37_2).f0), .int .i64 ((rd_T72 l0_5 x37_2).f1), .int .i64 ((rd_T72 l0_5 x37_2).f2.f0), .int .i64 ((rd_T72 l0_5 x37_2).f2.f1), .string ((rd_T72 l0_5 x37_2).f2.f2), .slice A206_5 ((rd_T72 l0_5 x37_2).f3).length c206_5], .agg #[.int .i64 ((rd_T72 l1_5 x37_2).f0), .int .i64 ((rd_T72 l1_5 x37_2).f1), .int .i64 ((rd_T72 l1_5 x37_2).f2.f0), .int .i64 ((rd_T72 l1_5 x37_2).f2.f1), .string ((rd_T72 l1_5 x37_2).f2.f2), .slice A207_5 ((rd_T72 l1_5 x37_2).f3).length c207_5]] (by rfl) rfl rfl (by (try simp only [List.map_toArray, List.map_cons, List.map_nil]); first | done | rfl | (simp only [List.length_drop, List.length_take]; rfl)) ?_
           with_reducible refine (ih k2 (by have := HJ2.out; have := HK2.out; omega) ((rd_T72 l0_5 x37_2).f0) ((rd_T72 l0_5 x37_2).f1) ((rd_T72 l0_5 x37_2).f2.f0) ((rd_T72 l0_5 x37_2).f2.f1) ((rd_T72 l0_5 x37_2).f2.f2) _ _ ((rd_T72 l0_5 x37_2).f3) ((rd_T72 l1_5 x37_2).f0) ((rd_T72 l1_5 x37_2).f1) ((rd_T72 l1_5 x37_2).f2.f0) ((rd_T72 l1_5 x37_2).f2.f1) ((rd_T72 l1_5 x37_2).f2.f2) _ _ ((rd_T72 l1_5 x37_2).f3) false _ ?side1 ?side2 ?side3 ?side4 A28.out).mono ?_
           (case side1 => repeat (first | exact (Kd.C_below HR206_5.out HB.out) | (with_reducible refine Kd.C_alloc ?_ _) | (with_reducible refine Kd.C_drewN ?_ _) | (with_reducible refine Kd.C_drew ?_)))
           (case side2 => exact HC206_5.out)
           (case side3 => repeat (first | exact (Kd.C_below HR207_5.out HB.out) | (with_reducible refine Kd.C_alloc ?_ _) | (with_reducible refine Kd.C_drewN ?_ _) | (with_reducible refine Kd.C_drew ?_)))
           (case side4 => exact HC207_5.out)
           rintro e w33 ⟨rfl, hb⟩
           refine ⟨_, rfl, ?_⟩
           have n0_ := Aside0.mk (blk_below (g := gb204) (o := .cells #[.int .i64 a0_0, .int .i64 a0_1, .int .i64 a0_2, .int .i64 a0_3, .string a0_4, .slice (some ad206) l0_5.length c0_5] 72 (0, 0)) (by (with_reducible repeat (first | refine blk_drewN ?_ _ | refine blk_drew ?_ | refine blk_alloc ?_ _)); exact BK204.out) hb)
           have n1_ := Aside0.mk (blk_below (g := gb205) (o := .cells #[.int .i64 a1_0, .int .i64 a1_1, .int .i64 a1_2, .int .i64 a1_3, .string a1_4, .slice (some ad207) l1_5.length c1_5] 72 (0, 0)) (by (with_reducible repeat (first | refine blk_drewN ?_ _ | refine blk_drew ?_ | refine blk_alloc ?_ _)); exact BK205.out) hb)
           have n2_ := Aside0.mk (below_step (by repeat (first | (with_reducible first | exact HB.out | apply below_alloc | apply pw_below_drewN | apply below_drew1 | refine below_set ?_ GE204.out | refine below_set ?_ GE205.out) | exact HB.out)) hb)
           clear BK204
           clear BK205
           clear HB
           have BK204 := n0_
           have BK205 := n1_
           have HB := n2_
           clear n0_ n1_ n2_
           (try clear hb)
           (try clear hb2)
           (try clear hk)
           (try clear hi)
           refine hK.out _ _ ⟨(blk_cell BK204.out 0).trans rfl, (blk_cell BK204.out 1).trans rfl, (blk_cell BK204.out 2).trans rfl, (blk_cell BK204.out 3).trans rfl, (blk_cell BK204.out 4).trans rfl, (blk_cell BK204.out 5).trans rfl, (blk_cell BK205.out 0).trans rfl, (blk_cell BK205.out 1).trans rfl, (blk_cell BK205.out 2).trans rfl, (blk_cell BK205.out 3).trans rfl, (blk_cell BK205.out 4).trans rfl, (blk_cell BK205.out 5).trans rfl, ((HB.out.cell (World.block_lt_of_cell? w _ hw206_0)).trans hw206_0), ((HB.out.cell (World.block_lt_of_cell? w _ hw206_1)).trans hw206_1), ((HB.out.cell (World.block_lt_of_cell? w _ hw206_2)).trans hw206_2), ((HB.out.cell (World.block_lt_of_cell? w _ hw206_3)).trans hw206_3), ((HB.out.cell (World.block_lt_of_cell? w _ hw206_4)).trans hw206_4), ((HB.out.cell (World.block_lt_of_cell? w _ hw206_5)).trans hw206_5), ((HB.out.cell (World.block_lt_of_cell? w _ hw207_0)).trans hw207_0), ((HB.out.cell (World.block_lt_of_cell? w _ hw207_1)).trans hw207_1), ((HB.out.cell (World.block_lt_of_cell? w _ hw207_2)).trans hw207_2), ((HB.out.cell (World.block_lt_of_cell? w _ hw207_3)).trans hw207_3), ((HB.out.cell (World.block_lt_of_cell? w _ hw207_4)).trans hw207_4), ((HB.out.cell (World.block_lt_of_cell? w _ hw207_5)).trans hw207_5)⟩ (fun hHeld => ?_)
           clear hK K
           refine norm_ (a' := ?_) ?_ ?_
           rotate_left
           ·show Act.put _ (some 50) _ = _
            simp only [Act.put, List.setIfInBounds_toArray, List.set_cons_zero, List.set_cons_succ, i64_w, i32_w]
            rfl
           refine pure_ (i := 11) (N := some 51) (v := ?_) (a' := ?_) #[true, true, true, true, true, true, true, true, true, true, true, true] rfl rfl (any_of HT_.out (by kernel_rfl)) (fun _ _ _ h => h) (Or.inl ⟨by rfl, ?_⟩) ?_ ?_
           rotate_left
           ·intro w'
            go_simp
            with_reducible rfl
           rotate_left
           ·simp only [Act.put, List.setIfInBounds_toArray, List.set_cons_zero, List.set_cons_succ, i64_w, i32_w]
            rfl
           refine done_ (done_of HT_.out (by kernel_rfl)) ?_
           try go_wp2
           go_ret
           exact ⟨by first | rfl | (simp [errW_none, errW_some] <;> rfl) | (simp [*, errW_none, errW_some] <;> rfl), by repeat (first | (with_reducible first | exact HB.out | apply below_alloc | apply pw_below_drewN | apply below_drew1 | refine below_set ?_ GE204.out | refine below_set ?_ GE205.out) | exact HB.out)⟩
         ·rw [if_neg c27] at H
          exact absurd H (by simp)
        ·rw [if_neg c26] at H
         exact absurd H (by simp)
       ·rw [if_neg c25] at H
        exact absurd H (by simp)
      ·rw [if_neg c24] at H
       have c24b0 : decide (x37_2 < (l0_5.length : Int)) = false := decide_eq_false c24
       clear c24
       obtain rfl := Option.some.inj H
       go_wp2
       go_ret
       exact ⟨by first | rfl | (simp [errW_none, errW_some] <;> rfl) | (simp [*, errW_none, errW_some] <;> rfl), by repeat (first | (with_reducible first | exact HB.out | apply below_alloc | apply pw_below_drewN | apply below_drew1 | refine below_set ?_ GE204.out | refine below_set ?_ GE205.out) | exact HB.out)⟩
end Go.Proofs.YtefdfgmlmjnmlaaDoor.Rf
end
