/- Lemmas for the law SchemaReads: what the functions that it reaches compute, with those words of the kit's print that they use. No condition. Joined out of this session's smaller texts (part 4 of 7). -/
import Derived.Test.YtefdfgmlmjnmlaaDoorZSchemaReads2
import Derived.Test.YtefdfgmlmjnmlaaDoorZSchemaReads3
import Derived.Laws.Cover2
import Derived.Laws.Externs
section
set_option linter.unusedVariables false
set_option linter.unusedSimpArgs false
namespace Go.Proofs.YtefdfgmlmjnmlaaDoor.Rf
open Go.RowKit Go.Proofs.YtefdfgmlmjnmlaaDoorW.PrintWords Go.Proofs.YtefdfgmlmjnmlaaDoorW.PrintLast Go.Proofs.YtefdfgmlmjnmlaaDoorW.PrintMore
def pack_Reader_Str.f (k : Nat) (s0_0 : ByteArray) (s0_1 : Int) (s0_2 : Bool) : Option (ByteArray × ByteArray × Int × Bool) := (pack_Reader_Int.f k s0_0 s0_1 s0_2).bind fun bt157 => (if bt157.2.2.2 = true then (some ((⟨#[]⟩ : ByteArray), bt157.2.1, bt157.2.2.1, bt157.2.2.2)) else (if bt157.1 < 0 then ((pack_Reader_fail.f bt157.2.1 bt157.2.2.1 bt157.2.2.2).bind fun bt161 => (some ((⟨#[]⟩ : ByteArray), bt161.2.1, bt161.2.2.1, bt161.2.2.2))) else (if bt157.1 > (wrap64 ((bt157.2.1.size : Int) - bt157.2.2.1)) then ((pack_Reader_fail.f bt157.2.1 bt157.2.2.1 bt157.2.2.2).bind fun bt165 => (some ((⟨#[]⟩ : ByteArray), bt165.2.1, bt165.2.2.1, bt165.2.2.2))) else (if 0 ≤ bt157.2.2.1 then (if bt157.2.2.1 ≤ (wrap64 (bt157.2.2.1 + bt157.1)) then (if (wrap64 (bt157.2.2.1 + bt157.1)) ≤ (bt157.2.1.size : Int) then (some (bt157.2.1.extract (bt157.2.2.1 : Int).toNat ((wrap64 (bt157.2.2.1 + bt157.1)) : Int).toNat, bt157.2.1, wrap64 (bt157.2.2.1 + bt157.1), bt157.2.2.2)) else (none)) else (none)) else (none)))))
set_option maxHeartbeats 8000000 in
set_option maxRecDepth 100000 in
theorem pack_Reader_Str.calls (k : Nat) (g : Nat) (s0_0 : ByteArray) (s0_1 : Int) (s0_2 : Bool) (r1 : ByteArray) (r2 : ByteArray) (r3 : Int) (r4 : Bool) (w0 w : World) (hI : IsS129 w0 w g s0_0 s0_1 s0_2) (hB : Below w0.heap.size w0 w) (h : pack_Reader_Str.f k s0_0 s0_1 s0_2 = some (r1, r2, r3, r4)) :
  Calls Tryd.prog 68 #[.pointer (some ⟨g, 0, none⟩)] w fun e w' => e = .returned (.string r1) ∧ IsS129 w0 w' g r2 r3 r4 ∧ Below w0.heap.size w0 w' ∧ KeepBut w w' g none := by
 have HI0 := Aside0.mk hI
 have HK := Aside0.mk (KeepBut.refl w g none)
 have HL := Aside0.mk hB.size
 clear hI
 have HW0 := Aside0.mk hB.size
 have HB := Aside0.mk hB
 clear hB
 have H : ((pack_Reader_Int.f k s0_0 s0_1 s0_2).bind fun bt157 => (if bt157.2.2.2 = true then (some ((⟨#[]⟩ : ByteArray), bt157.2.1, bt157.2.2.1, bt157.2.2.2)) else (if bt157.1 < 0 then ((pack_Reader_fail.f bt157.2.1 bt157.2.2.1 bt157.2.2.2).bind fun bt161 => (some ((⟨#[]⟩ : ByteArray), bt161.2.1, bt161.2.2.1, bt161.2.2.2))) else (if bt157.1 > (wrap64 ((bt157.2.1.size : Int) - bt157.2.2.1)) then ((pack_Reader_fail.f bt157.2.1 bt157.2.2.1 bt157.2.2.2).bind fun bt165 => (some ((⟨#[]⟩ : ByteArray), bt165.2.1, bt165.2.2.1, bt165.2.2.2))) else (if 0 ≤ bt157.2.2.1 then (if bt157.2.2.1 ≤ (wrap64 (bt157.2.2.1 + bt157.1)) then (if (wrap64 (bt157.2.2.1 + bt157.1)) ≤ (bt157.2.1.size : Int) then (some (bt157.2.1.extract (bt157.2.2.1 : Int).toNat ((wrap64 (bt157.2.2.1 + bt157.1)) : Int).toNat, bt157.2.1, wrap64 (bt157.2.2.1 + bt157.1), bt157.2.2.2)) else (none)) else (none)) else (none)))))) = some (r1, r2, r3, r4) := h
 clear h
 replace H := Option.bind_eq_some_iff.mp H
 obtain ⟨⟨t157, t158, t159, t160⟩, A20, H⟩ := H
 replace H : (if t160 = true then (some ((⟨#[]⟩ : ByteArray), t158, t159, t160)) else (if t157 < 0 then ((pack_Reader_fail.f t158 t159 t160).bind fun bt161 => (some ((⟨#[]⟩ : ByteArray), bt161.2.1, bt161.2.2.1, bt161.2.2.2))) else (if t157 > (wrap64 ((t158.size : Int) - t159)) then ((pack_Reader_fail.f t158 t159 t160).bind fun bt165 => (some ((⟨#[]⟩ : ByteArray), bt165.2.1, bt165.2.2.1, bt165.2.2.2))) else (if 0 ≤ t159 then (if t159 ≤ (wrap64 (t159 + t157)) then (if (wrap64 (t159 + t157)) ≤ (t158.size : Int) then (some (t158.extract (t159 : Int).toNat ((wrap64 (t159 + t157)) : Int).toNat, t158, wrap64 (t159 + t157), t160)) else (none)) else (none)) else (none))))) = some (r1, r2, r3, r4) := H
 have A2 := Aside0.mk A20
 clear A20
 by_cases c3 : t160 = true
 ·subst c3
  have H1 : (some ((⟨#[]⟩ : ByteArray), t158, t159, true)) = some (r1, r2, r3, r4) := by rw [if_pos rfl] at H; exact H
  clear H
  have H := H1
  clear H1
  simp only [Option.some.injEq, Prod.mk.injEq] at H
  obtain ⟨rfl, rfl, rfl, rfl⟩ := H
  go_enter Tryd.func68, Tryd.ntmps68
  go_wp2_with (first | (go_at_call 65; (with_reducible refine (pack_Reader_Int.calls k g s0_0 s0_1 s0_2 t157 t158 t159 true w0 _ ?side1 ?side2 A2.out).mono ?_); (case side1 => repeat (first | (with_reducible first | exact HI0.out | apply IsS129.alloc | apply IsS129.drewN | apply IsS129.drew | apply IsS129.set_0 | apply IsS129.set_1 | apply IsS129.set_2) | exact HI0.out)); (case side2 => repeat (first | (with_reducible first | exact HB.out | apply below_alloc | apply pw_below_drewN | apply below_drew1 | refine below_set ?_ (IsS129.ge HI0.out)) | exact HB.out)); rintro e w4 ⟨rfl, hi, hb, hk⟩; have n0_ := Aside0.mk (KeepBut.trans (by repeat (first | (with_reducible first | exact HK.out | apply KeepBut.set_ | apply keep_drewN | apply keep_drew | apply keep_alloc) | exact HK.out)) hk (.inl rfl)); have n1_ := Aside0.mk (hb); have n2_ := Aside0.mk (hi); clear HK; clear HB; clear HI0; have HK := n0_; have HB := n1_; have HI0 := n2_; clear n0_ n1_ n2_; (try clear hb); (try clear hb2); (try clear hk); (try clear hi); obtain ⟨HGz5, hgz5⟩ := HI0.out; have hcz5_0 := cellS129_0 HGz5; have hcz5_1 := cellS129_1 HGz5; have hcz5_2 := cellS129_2 HGz5; have hfz5_0 := blk_frozen HGz5 0; have hfz5_1 := blk_frozen HGz5 1; have hfz5_2 := blk_frozen HGz5 2; clear HGz5 hgz5))
  repeat (go_quiet (first | (go_at_call 65; (with_reducible refine (pack_Reader_Int.calls k g s0_0 s0_1 s0_2 t157 t158 t159 true w0 _ ?side1 ?side2 A2.out).mono ?_); (case side1 => repeat (first | (with_reducible first | exact HI0.out | apply IsS129.alloc | apply IsS129.drewN | apply IsS129.drew | apply IsS129.set_0 | apply IsS129.set_1 | apply IsS129.set_2) | exact HI0.out)); (case side2 => repeat (first | (with_reducible first | exact HB.out | apply below_alloc | apply pw_below_drewN | apply below_drew1 | refine below_set ?_ (IsS129.ge HI0.out)) | exact HB.out)); rintro e w4 ⟨rfl, hi, hb, hk⟩; have n0_ := Aside0.mk (KeepBut.trans (by repeat (first | (with_reducible first | exact HK.out | apply KeepBut.set_ | apply keep_drewN | apply keep_drew | apply keep_alloc) | exact HK.out)) hk (.inl rfl)); have n1_ := Aside0.mk (hb); have n2_ := Aside0.mk (hi); clear HK; clear HB; clear HI0; have HK := n0_; have HB := n1_; have HI0 := n2_; clear n0_ n1_ n2_; (try clear hb); (try clear hb2); (try clear hk); (try clear hi); obtain ⟨HGz5, hgz5⟩ := HI0.out; have hcz5_0 := cellS129_0 HGz5; have hcz5_1 := cellS129_1 HGz5; have hcz5_2 := cellS129_2 HGz5; have hfz5_0 := blk_frozen HGz5 0; have hfz5_1 := blk_frozen HGz5 1; have hfz5_2 := blk_frozen HGz5 2; clear HGz5 hgz5)); try go_wp2_with (first | (go_at_call 65; (with_reducible refine (pack_Reader_Int.calls k g s0_0 s0_1 s0_2 t157 t158 t159 true w0 _ ?side1 ?side2 A2.out).mono ?_); (case side1 => repeat (first | (with_reducible first | exact HI0.out | apply IsS129.alloc | apply IsS129.drewN | apply IsS129.drew | apply IsS129.set_0 | apply IsS129.set_1 | apply IsS129.set_2) | exact HI0.out)); (case side2 => repeat (first | (with_reducible first | exact HB.out | apply below_alloc | apply pw_below_drewN | apply below_drew1 | refine below_set ?_ (IsS129.ge HI0.out)) | exact HB.out)); rintro e w4 ⟨rfl, hi, hb, hk⟩; have n0_ := Aside0.mk (KeepBut.trans (by repeat (first | (with_reducible first | exact HK.out | apply KeepBut.set_ | apply keep_drewN | apply keep_drew | apply keep_alloc) | exact HK.out)) hk (.inl rfl)); have n1_ := Aside0.mk (hb); have n2_ := Aside0.mk (hi); clear HK; clear HB; clear HI0; have HK := n0_; have HB := n1_; have HI0 := n2_; clear n0_ n1_ n2_; (try clear hb); (try clear hb2); (try clear hk); (try clear hi); obtain ⟨HGz5, hgz5⟩ := HI0.out; have hcz5_0 := cellS129_0 HGz5; have hcz5_1 := cellS129_1 HGz5; have hcz5_2 := cellS129_2 HGz5; have hfz5_0 := blk_frozen HGz5 0; have hfz5_1 := blk_frozen HGz5 1; have hfz5_2 := blk_frozen HGz5 2; clear HGz5 hgz5)))
  go_ret
  exact ⟨by first | rfl | (simp [errW_none, errW_some] <;> rfl) | (simp [*, errW_none, errW_some] <;> rfl), by repeat (first | (with_reducible first | exact HI0.out | apply IsS129.alloc | apply IsS129.drewN | apply IsS129.drew | apply IsS129.set_0 | apply IsS129.set_1 | apply IsS129.set_2) | exact HI0.out), by repeat (first | (with_reducible first | exact HB.out | apply below_alloc | apply pw_below_drewN | apply below_drew1 | refine below_set ?_ (IsS129.ge HI0.out)) | exact HB.out), by repeat (first | (with_reducible first | exact HK.out | apply KeepBut.set_ | apply keep_drewN | apply keep_drew | apply keep_alloc) | exact HK.out)⟩
 ·replace c3 := Bool.eq_false_iff.mpr c3
  subst c3
  have H1 : (if t157 < 0 then ((pack_Reader_fail.f t158 t159 false).bind fun bt161 => (some ((⟨#[]⟩ : ByteArray), bt161.2.1, bt161.2.2.1, bt161.2.2.2))) else (if t157 > (wrap64 ((t158.size : Int) - t159)) then ((pack_Reader_fail.f t158 t159 false).bind fun bt165 => (some ((⟨#[]⟩ : ByteArray), bt165.2.1, bt165.2.2.1, bt165.2.2.2))) else (if 0 ≤ t159 then (if t159 ≤ (wrap64 (t159 + t157)) then (if (wrap64 (t159 + t157)) ≤ (t158.size : Int) then (some (t158.extract (t159 : Int).toNat ((wrap64 (t159 + t157)) : Int).toNat, t158, wrap64 (t159 + t157), false)) else (none)) else (none)) else (none)))) = some (r1, r2, r3, r4) := by rw [if_neg (show ¬ (false = true) by decide)] at H; exact H
  clear H
  have H := H1
  clear H1
  by_cases c6 : t157 < 0
  ·rw [if_pos c6] at H
   have c6b0 : decide (t157 < 0) = true := decide_eq_true c6
   clear c6
   replace H := Option.bind_eq_some_iff.mp H
   obtain ⟨⟨t161, t162, t163, t164⟩, A70, H⟩ := H
   replace H : (some ((⟨#[]⟩ : ByteArray), t162, t163, t164)) = some (r1, r2, r3, r4) := H
   have A7 := Aside0.mk A70
   clear A70
   simp only [Option.some.injEq, Prod.mk.injEq] at H
   obtain ⟨rfl, rfl, rfl, rfl⟩ := H
   go_enter Tryd.func68, Tryd.ntmps68
   go_wp2_with (first | (go_at_call 65; (with_reducible refine (pack_Reader_Int.calls k g s0_0 s0_1 s0_2 t157 t158 t159 false w0 _ ?side1 ?side2 A2.out).mono ?_); (case side1 => repeat (first | (with_reducible first | exact HI0.out | apply IsS129.alloc | apply IsS129.drewN | apply IsS129.drew | apply IsS129.set_0 | apply IsS129.set_1 | apply IsS129.set_2) | exact HI0.out)); (case side2 => repeat (first | (with_reducible first | exact HB.out | apply below_alloc | apply pw_below_drewN | apply below_drew1 | refine below_set ?_ (IsS129.ge HI0.out)) | exact HB.out)); rintro e w8 ⟨rfl, hi, hb, hk⟩; have n0_ := Aside0.mk (KeepBut.trans (by repeat (first | (with_reducible first | exact HK.out | apply KeepBut.set_ | apply keep_drewN | apply keep_drew | apply keep_alloc) | exact HK.out)) hk (.inl rfl)); have n1_ := Aside0.mk (hb); have n2_ := Aside0.mk (hi); clear HK; clear HB; clear HI0; have HK := n0_; have HB := n1_; have HI0 := n2_; clear n0_ n1_ n2_; (try clear hb); (try clear hb2); (try clear hk); (try clear hi); obtain ⟨HGz9, hgz9⟩ := HI0.out; have hcz9_0 := cellS129_0 HGz9; have hcz9_1 := cellS129_1 HGz9; have hcz9_2 := cellS129_2 HGz9; have hfz9_0 := blk_frozen HGz9 0; have hfz9_1 := blk_frozen HGz9 1; have hfz9_2 := blk_frozen HGz9 2; clear HGz9 hgz9) | (go_at_call 94; (with_reducible refine (pack_Reader_fail.calls g t158 t159 false t161 t162 t163 t164 w0 _ ?side1 ?side2 A7.out).mono ?_); (case side1 => repeat (first | (with_reducible first | exact HI0.out | apply IsS129.alloc | apply IsS129.drewN | apply IsS129.drew | apply IsS129.set_0 | apply IsS129.set_1 | apply IsS129.set_2) | exact HI0.out)); (case side2 => repeat (first | (with_reducible first | exact HB.out | apply below_alloc | apply pw_below_drewN | apply below_drew1 | refine below_set ?_ (IsS129.ge HI0.out)) | exact HB.out)); rintro e w10 ⟨rfl, hi, hb, hk⟩; have n0_ := Aside0.mk (KeepBut.trans (by repeat (first | (with_reducible first | exact HK.out | apply KeepBut.set_ | apply keep_drewN | apply keep_drew | apply keep_alloc) | exact HK.out)) hk (.inl rfl)); have n1_ := Aside0.mk (hb); have n2_ := Aside0.mk (hi); clear HK; clear HB; clear HI0; have HK := n0_; have HB := n1_; have HI0 := n2_; clear n0_ n1_ n2_; (try clear hb); (try clear hb2); (try clear hk); (try clear hi)))
   repeat (go_quiet (first | (go_at_call 65; (with_reducible refine (pack_Reader_Int.calls k g s0_0 s0_1 s0_2 t157 t158 t159 false w0 _ ?side1 ?side2 A2.out).mono ?_); (case side1 => repeat (first | (with_reducible first | exact HI0.out | apply IsS129.alloc | apply IsS129.drewN | apply IsS129.drew | apply IsS129.set_0 | apply IsS129.set_1 | apply IsS129.set_2) | exact HI0.out)); (case side2 => repeat (first | (with_reducible first | exact HB.out | apply below_alloc | apply pw_below_drewN | apply below_drew1 | refine below_set ?_ (IsS129.ge HI0.out)) | exact HB.out)); rintro e w8 ⟨rfl, hi, hb, hk⟩; have n0_ := Aside0.mk (KeepBut.trans (by repeat (first | (with_reducible first | exact HK.out | apply KeepBut.set_ | apply keep_drewN | apply keep_drew | apply keep_alloc) | exact HK.out)) hk (.inl rfl)); have n1_ := Aside0.mk (hb); have n2_ := Aside0.mk (hi); clear HK; clear HB; clear HI0; have HK := n0_; have HB := n1_; have HI0 := n2_; clear n0_ n1_ n2_; (try clear hb); (try clear hb2); (try clear hk); (try clear hi); obtain ⟨HGz9, hgz9⟩ := HI0.out; have hcz9_0 := cellS129_0 HGz9; have hcz9_1 := cellS129_1 HGz9; have hcz9_2 := cellS129_2 HGz9; have hfz9_0 := blk_frozen HGz9 0; have hfz9_1 := blk_frozen HGz9 1; have hfz9_2 := blk_frozen HGz9 2; clear HGz9 hgz9) | (go_at_call 94; (with_reducible refine (pack_Reader_fail.calls g t158 t159 false t161 t162 t163 t164 w0 _ ?side1 ?side2 A7.out).mono ?_); (case side1 => repeat (first | (with_reducible first | exact HI0.out | apply IsS129.alloc | apply IsS129.drewN | apply IsS129.drew | apply IsS129.set_0 | apply IsS129.set_1 | apply IsS129.set_2) | exact HI0.out)); (case side2 => repeat (first | (with_reducible first | exact HB.out | apply below_alloc | apply pw_below_drewN | apply below_drew1 | refine below_set ?_ (IsS129.ge HI0.out)) | exact HB.out)); rintro e w10 ⟨rfl, hi, hb, hk⟩; have n0_ := Aside0.mk (KeepBut.trans (by repeat (first | (with_reducible first | exact HK.out | apply KeepBut.set_ | apply keep_drewN | apply keep_drew | apply keep_alloc) | exact HK.out)) hk (.inl rfl)); have n1_ := Aside0.mk (hb); have n2_ := Aside0.mk (hi); clear HK; clear HB; clear HI0; have HK := n0_; have HB := n1_; have HI0 := n2_; clear n0_ n1_ n2_; (try clear hb); (try clear hb2); (try clear hk); (try clear hi))); try go_wp2_with (first | (go_at_call 65; (with_reducible refine (pack_Reader_Int.calls k g s0_0 s0_1 s0_2 t157 t158 t159 false w0 _ ?side1 ?side2 A2.out).mono ?_); (case side1 => repeat (first | (with_reducible first | exact HI0.out | apply IsS129.alloc | apply IsS129.drewN | apply IsS129.drew | apply IsS129.set_0 | apply IsS129.set_1 | apply IsS129.set_2) | exact HI0.out)); (case side2 => repeat (first | (with_reducible first | exact HB.out | apply below_alloc | apply pw_below_drewN | apply below_drew1 | refine below_set ?_ (IsS129.ge HI0.out)) | exact HB.out)); rintro e w8 ⟨rfl, hi, hb, hk⟩; have n0_ := Aside0.mk (KeepBut.trans (by repeat (first | (with_reducible first | exact HK.out | apply KeepBut.set_ | apply keep_drewN | apply keep_drew | apply keep_alloc) | exact HK.out)) hk (.inl rfl)); have n1_ := Aside0.mk (hb); have n2_ := Aside0.mk (hi); clear HK; clear HB; clear HI0; have HK := n0_; have HB := n1_; have HI0 := n2_; clear n0_ n1_ n2_; (try clear hb); (try clear hb2); (try clear hk); (try clear hi); obtain ⟨HGz9, hgz9⟩ := HI0.out; have hcz9_0 := cellS129_0 HGz9; have hcz9_1 := cellS129_1 HGz9; have hcz9_2 := cellS129_2 HGz9; have hfz9_0 := blk_frozen HGz9 0; have hfz9_1 := blk_frozen HGz9 1; have hfz9_2 := blk_frozen HGz9 2; clear HGz9 hgz9) | (go_at_call 94; (with_reducible refine (pack_Reader_fail.calls g t158 t159 false t161 t162 t163 t164 w0 _ ?side1 ?side2 A7.out).mono ?_); (case side1 => repeat (first | (with_reducible first | exact HI0.out | apply IsS129.alloc | apply IsS129.drewN | apply IsS129.drew | apply IsS129.set_0 | apply IsS129.set_1 | apply IsS129.set_2) | exact HI0.out)); (case side2 => repeat (first | (with_reducible first | exact HB.out | apply below_alloc | apply pw_below_drewN | apply below_drew1 | refine below_set ?_ (IsS129.ge HI0.out)) | exact HB.out)); rintro e w10 ⟨rfl, hi, hb, hk⟩; have n0_ := Aside0.mk (KeepBut.trans (by repeat (first | (with_reducible first | exact HK.out | apply KeepBut.set_ | apply keep_drewN | apply keep_drew | apply keep_alloc) | exact HK.out)) hk (.inl rfl)); have n1_ := Aside0.mk (hb); have n2_ := Aside0.mk (hi); clear HK; clear HB; clear HI0; have HK := n0_; have HB := n1_; have HI0 := n2_; clear n0_ n1_ n2_; (try clear hb); (try clear hb2); (try clear hk); (try clear hi))))
   go_ret
   exact ⟨by first | rfl | (simp [errW_none, errW_some] <;> rfl) | (simp [*, errW_none, errW_some] <;> rfl), by repeat (first | (with_reducible first | exact HI0.out | apply IsS129.alloc | apply IsS129.drewN | apply IsS129.drew | apply IsS129.set_0 | apply IsS129.set_1 | apply IsS129.set_2) | exact HI0.out), by repeat (first | (with_reducible first | exact HB.out | apply below_alloc | apply pw_below_drewN | apply below_drew1 | refine below_set ?_ (IsS129.ge HI0.out)) | exact HB.out), by repeat (first | (with_reducible first | exact HK.out | apply KeepBut.set_ | apply keep_drewN | apply keep_drew | apply keep_alloc) | exact HK.out)⟩
  ·rw [if_neg c6] at H
   have c6b0 : decide (t157 < 0) = false := decide_eq_false c6
   clear c6
   by_cases c11 : t157 > (wrap64 ((t158.size : Int) - t159))
   ·rw [if_pos c11] at H
    have c11b0 : decide ((wrap64 ((t158.size : Int) - t159)) < t157) = true := decide_eq_true c11
    clear c11
    replace H := Option.bind_eq_some_iff.mp H
    obtain ⟨⟨t165, t166, t167, t168⟩, A120, H⟩ := H
    replace H : (some ((⟨#[]⟩ : ByteArray), t166, t167, t168)) = some (r1, r2, r3, r4) := H
    have A12 := Aside0.mk A120
    clear A120
    simp only [Option.some.injEq, Prod.mk.injEq] at H
    obtain ⟨rfl, rfl, rfl, rfl⟩ := H
    go_enter Tryd.func68, Tryd.ntmps68
    go_wp2_with (first | (go_at_call 65; (with_reducible refine (pack_Reader_Int.calls k g s0_0 s0_1 s0_2 t157 t158 t159 false w0 _ ?side1 ?side2 A2.out).mono ?_); (case side1 => repeat (first | (with_reducible first | exact HI0.out | apply IsS129.alloc | apply IsS129.drewN | apply IsS129.drew | apply IsS129.set_0 | apply IsS129.set_1 | apply IsS129.set_2) | exact HI0.out)); (case side2 => repeat (first | (with_reducible first | exact HB.out | apply below_alloc | apply pw_below_drewN | apply below_drew1 | refine below_set ?_ (IsS129.ge HI0.out)) | exact HB.out)); rintro e w13 ⟨rfl, hi, hb, hk⟩; have n0_ := Aside0.mk (KeepBut.trans (by repeat (first | (with_reducible first | exact HK.out | apply KeepBut.set_ | apply keep_drewN | apply keep_drew | apply keep_alloc) | exact HK.out)) hk (.inl rfl)); have n1_ := Aside0.mk (hb); have n2_ := Aside0.mk (hi); clear HK; clear HB; clear HI0; have HK := n0_; have HB := n1_; have HI0 := n2_; clear n0_ n1_ n2_; (try clear hb); (try clear hb2); (try clear hk); (try clear hi); obtain ⟨HGz14, hgz14⟩ := HI0.out; have hcz14_0 := cellS129_0 HGz14; have hcz14_1 := cellS129_1 HGz14; have hcz14_2 := cellS129_2 HGz14; have hfz14_0 := blk_frozen HGz14 0; have hfz14_1 := blk_frozen HGz14 1; have hfz14_2 := blk_frozen HGz14 2; clear HGz14 hgz14) | (go_at_call 94; (with_reducible refine (pack_Reader_fail.calls g t158 t159 false t165 t166 t167 t168 w0 _ ?side1 ?side2 A12.out).mono ?_); (case side1 => repeat (first | (with_reducible first | exact HI0.out | apply IsS129.alloc | apply IsS129.drewN | apply IsS129.drew | apply IsS129.set_0 | apply IsS129.set_1 | apply IsS129.set_2) | exact HI0.out)); (case side2 => repeat (first | (with_reducible first | exact HB.out | apply below_alloc | apply pw_below_drewN | apply below_drew1 | refine below_set ?_ (IsS129.ge HI0.out)) | exact HB.out)); rintro e w15 ⟨rfl, hi, hb, hk⟩; have n0_ := Aside0.mk (KeepBut.trans (by repeat (first | (with_reducible first | exact HK.out | apply KeepBut.set_ | apply keep_drewN | apply keep_drew | apply keep_alloc) | exact HK.out)) hk (.inl rfl)); have n1_ := Aside0.mk (hb); have n2_ := Aside0.mk (hi); clear HK; clear HB; clear HI0; have HK := n0_; have HB := n1_; have HI0 := n2_; clear n0_ n1_ n2_; (try clear hb); (try clear hb2); (try clear hk); (try clear hi)))
    repeat (go_quiet (first | (go_at_call 65; (with_reducible refine (pack_Reader_Int.calls k g s0_0 s0_1 s0_2 t157 t158 t159 false w0 _ ?side1 ?side2 A2.out).mono ?_); (case side1 => repeat (first | (with_reducible first | exact HI0.out | apply IsS129.alloc | apply IsS129.drewN | apply IsS129.drew | apply IsS129.set_0 | apply IsS129.set_1 | apply IsS129.set_2) | exact HI0.out)); (case side2 => repeat (first | (with_reducible first | exact HB.out | apply below_alloc | apply pw_below_drewN | apply below_drew1 | refine below_set ?_ (IsS129.ge HI0.out)) | exact HB.out)); rintro e w13 ⟨rfl, hi, hb, hk⟩; have n0_ := Aside0.mk (KeepBut.trans (by repeat (first | (with_reducible first | exact HK.out | apply KeepBut.set_ | apply keep_drewN | apply keep_drew | apply keep_alloc) | exact HK.out)) hk (.inl rfl)); have n1_ := Aside0.mk (hb); have n2_ := Aside0.mk (hi); clear HK; clear HB; clear HI0; have HK := n0_; have HB := n1_; have HI0 := n2_; clear n0_ n1_ n2_; (try clear hb); (try clear hb2); (try clear hk); (try clear hi); obtain ⟨HGz14, hgz14⟩ := HI0.out; have hcz14_0 := cellS129_0 HGz14; have hcz14_1 := cellS129_1 HGz14; have hcz14_2 := cellS129_2 HGz14; have hfz14_0 := blk_frozen HGz14 0; have hfz14_1 := blk_frozen HGz14 1; have hfz14_2 := blk_frozen HGz14 2; clear HGz14 hgz14) | (go_at_call 94; (with_reducible refine (pack_Reader_fail.calls g t158 t159 false t165 t166 t167 t168 w0 _ ?side1 ?side2 A12.out).mono ?_); (case side1 => repeat (first | (with_reducible first | exact HI0.out | apply IsS129.alloc | apply IsS129.drewN | apply IsS129.drew | apply IsS129.set_0 | apply IsS129.set_1 | apply IsS129.set_2) | exact HI0.out)); (case side2 => repeat (first | (with_reducible first | exact HB.out | apply below_alloc | apply pw_below_drewN | apply below_drew1 | refine below_set ?_ (IsS129.ge HI0.out)) | exact HB.out)); rintro e w15 ⟨rfl, hi, hb, hk⟩; have n0_ := Aside0.mk (KeepBut.trans (by repeat (first | (with_reducible first | exact HK.out | apply KeepBut.set_ | apply keep_drewN | apply keep_drew | apply keep_alloc) | exact HK.out)) hk (.inl rfl)); have n1_ := Aside0.mk (hb); have n2_ := Aside0.mk (hi); clear HK; clear HB; clear HI0; have HK := n0_; have HB := n1_; have HI0 := n2_; clear n0_ n1_ n2_; (try clear hb); (try clear hb2); (try clear hk); (try clear hi))); try go_wp2_with (first | (go_at_call 65; (with_reducible refine (pack_Reader_Int.calls k g s0_0 s0_1 s0_2 t157 t158 t159 false w0 _ ?side1 ?side2 A2.out).mono ?_); (case side1 => repeat (first | (with_reducible first | exact HI0.out | apply IsS129.alloc | apply IsS129.drewN | apply IsS129.drew | apply IsS129.set_0 | apply IsS129.set_1 | apply IsS129.set_2) | exact HI0.out)); (case side2 => repeat (first | (with_reducible first | exact HB.out | apply below_alloc | apply pw_below_drewN | apply below_drew1 | refine below_set ?_ (IsS129.ge HI0.out)) | exact HB.out)); rintro e w13 ⟨rfl, hi, hb, hk⟩; have n0_ := Aside0.mk (KeepBut.trans (by repeat (first | (with_reducible first | exact HK.out | apply KeepBut.set_ | apply keep_drewN | apply keep_drew | apply keep_alloc) | exact HK.out)) hk (.inl rfl)); have n1_ := Aside0.mk (hb); have n2_ := Aside0.mk (hi); clear HK; clear HB; clear HI0; have HK := n0_; have HB := n1_; have HI0 := n2_; clear n0_ n1_ n2_; (try clear hb); (try clear hb2); (try clear hk); (try clear hi); obtain ⟨HGz14, hgz14⟩ := HI0.out; have hcz14_0 := cellS129_0 HGz14; have hcz14_1 := cellS129_1 HGz14; have hcz14_2 := cellS129_2 HGz14; have hfz14_0 := blk_frozen HGz14 0; have hfz14_1 := blk_frozen HGz14 1; have hfz14_2 := blk_frozen HGz14 2; clear HGz14 hgz14) | (go_at_call 94; (with_reducible refine (pack_Reader_fail.calls g t158 t159 false t165 t166 t167 t168 w0 _ ?side1 ?side2 A12.out).mono ?_); (case side1 => repeat (first | (with_reducible first | exact HI0.out | apply IsS129.alloc | apply IsS129.drewN | apply IsS129.drew | apply IsS129.set_0 | apply IsS129.set_1 | apply IsS129.set_2) | exact HI0.out)); (case side2 => repeat (first | (with_reducible first | exact HB.out | apply below_alloc | apply pw_below_drewN | apply below_drew1 | refine below_set ?_ (IsS129.ge HI0.out)) | exact HB.out)); rintro e w15 ⟨rfl, hi, hb, hk⟩; have n0_ := Aside0.mk (KeepBut.trans (by repeat (first | (with_reducible first | exact HK.out | apply KeepBut.set_ | apply keep_drewN | apply keep_drew | apply keep_alloc) | exact HK.out)) hk (.inl rfl)); have n1_ := Aside0.mk (hb); have n2_ := Aside0.mk (hi); clear HK; clear HB; clear HI0; have HK := n0_; have HB := n1_; have HI0 := n2_; clear n0_ n1_ n2_; (try clear hb); (try clear hb2); (try clear hk); (try clear hi))))
    go_ret
    exact ⟨by first | rfl | (simp [errW_none, errW_some] <;> rfl) | (simp [*, errW_none, errW_some] <;> rfl), by repeat (first | (with_reducible first | exact HI0.out | apply IsS129.alloc | apply IsS129.drewN | apply IsS129.drew | apply IsS129.set_0 | apply IsS129.set_1 | apply IsS129.set_2) | exact HI0.out), by repeat (first | (with_reducible first | exact HB.out | apply below_alloc | apply pw_below_drewN | apply below_drew1 | refine below_set ?_ (IsS129.ge HI0.out)) | exact HB.out), by repeat (first | (with_reducible first | exact HK.out | apply KeepBut.set_ | apply keep_drewN | apply keep_drew | apply keep_alloc) | exact HK.out)⟩
   ·rw [if_neg c11] at H
    have c11b0 : decide ((wrap64 ((t158.size : Int) - t159)) < t157) = false := decide_eq_false c11
    clear c11
    by_cases c16 : 0 ≤ t159
    ·rw [if_pos c16] at H
     have c16b0 := eq_true c16
     have c16b1 : decide (0 ≤ t159) = true := decide_eq_true c16
     clear c16
     by_cases c17 : t159 ≤ (wrap64 (t159 + t157))
     ·rw [if_pos c17] at H
      have c17b0 := eq_true c17
      have c17b1 : decide (t159 ≤ (wrap64 (t159 + t157))) = true := decide_eq_true c17
      by_cases c18 : (wrap64 (t159 + t157)) ≤ (t158.size : Int)
      ·rw [if_pos c18] at H
       have c18b0 := eq_true c18
       have c18b1 : decide ((wrap64 (t159 + t157)) ≤ (t158.size : Int)) = true := decide_eq_true c18
       simp only [Option.some.injEq, Prod.mk.injEq] at H
       obtain ⟨rfl, rfl, rfl, rfl⟩ := H
       go_enter Tryd.func68, Tryd.ntmps68
       go_wp2_with (first | (go_at_call 65; (with_reducible refine (pack_Reader_Int.calls k g s0_0 s0_1 s0_2 t157 t158 t159 false w0 _ ?side1 ?side2 A2.out).mono ?_); (case side1 => repeat (first | (with_reducible first | exact HI0.out | apply IsS129.alloc | apply IsS129.drewN | apply IsS129.drew | apply IsS129.set_0 | apply IsS129.set_1 | apply IsS129.set_2) | exact HI0.out)); (case side2 => repeat (first | (with_reducible first | exact HB.out | apply below_alloc | apply pw_below_drewN | apply below_drew1 | refine below_set ?_ (IsS129.ge HI0.out)) | exact HB.out)); rintro e w19 ⟨rfl, hi, hb, hk⟩; have n0_ := Aside0.mk (KeepBut.trans (by repeat (first | (with_reducible first | exact HK.out | apply KeepBut.set_ | apply keep_drewN | apply keep_drew | apply keep_alloc) | exact HK.out)) hk (.inl rfl)); have n1_ := Aside0.mk (hb); have n2_ := Aside0.mk (hi); clear HK; clear HB; clear HI0; have HK := n0_; have HB := n1_; have HI0 := n2_; clear n0_ n1_ n2_; (try clear hb); (try clear hb2); (try clear hk); (try clear hi); obtain ⟨HGz20, hgz20⟩ := HI0.out; have hcz20_0 := cellS129_0 HGz20; have hcz20_1 := cellS129_1 HGz20; have hcz20_2 := cellS129_2 HGz20; have hfz20_0 := blk_frozen HGz20 0; have hfz20_1 := blk_frozen HGz20 1; have hfz20_2 := blk_frozen HGz20 2; clear HGz20 hgz20))
       repeat (go_quiet (first | (go_at_call 65; (with_reducible refine (pack_Reader_Int.calls k g s0_0 s0_1 s0_2 t157 t158 t159 false w0 _ ?side1 ?side2 A2.out).mono ?_); (case side1 => repeat (first | (with_reducible first | exact HI0.out | apply IsS129.alloc | apply IsS129.drewN | apply IsS129.drew | apply IsS129.set_0 | apply IsS129.set_1 | apply IsS129.set_2) | exact HI0.out)); (case side2 => repeat (first | (with_reducible first | exact HB.out | apply below_alloc | apply pw_below_drewN | apply below_drew1 | refine below_set ?_ (IsS129.ge HI0.out)) | exact HB.out)); rintro e w19 ⟨rfl, hi, hb, hk⟩; have n0_ := Aside0.mk (KeepBut.trans (by repeat (first | (with_reducible first | exact HK.out | apply KeepBut.set_ | apply keep_drewN | apply keep_drew | apply keep_alloc) | exact HK.out)) hk (.inl rfl)); have n1_ := Aside0.mk (hb); have n2_ := Aside0.mk (hi); clear HK; clear HB; clear HI0; have HK := n0_; have HB := n1_; have HI0 := n2_; clear n0_ n1_ n2_; (try clear hb); (try clear hb2); (try clear hk); (try clear hi); obtain ⟨HGz20, hgz20⟩ := HI0.out; have hcz20_0 := cellS129_0 HGz20; have hcz20_1 := cellS129_1 HGz20; have hcz20_2 := cellS129_2 HGz20; have hfz20_0 := blk_frozen HGz20 0; have hfz20_1 := blk_frozen HGz20 1; have hfz20_2 := blk_frozen HGz20 2; clear HGz20 hgz20)); try go_wp2_with (first | (go_at_call 65; (with_reducible refine (pack_Reader_Int.calls k g s0_0 s0_1 s0_2 t157 t158 t159 false w0 _ ?side1 ?side2 A2.out).mono ?_); (case side1 => repeat (first | (with_reducible first | exact HI0.out | apply IsS129.alloc | apply IsS129.drewN | apply IsS129.drew | apply IsS129.set_0 | apply IsS129.set_1 | apply IsS129.set_2) | exact HI0.out)); (case side2 => repeat (first | (with_reducible first | exact HB.out | apply below_alloc | apply pw_below_drewN | apply below_drew1 | refine below_set ?_ (IsS129.ge HI0.out)) | exact HB.out)); rintro e w19 ⟨rfl, hi, hb, hk⟩; have n0_ := Aside0.mk (KeepBut.trans (by repeat (first | (with_reducible first | exact HK.out | apply KeepBut.set_ | apply keep_drewN | apply keep_drew | apply keep_alloc) | exact HK.out)) hk (.inl rfl)); have n1_ := Aside0.mk (hb); have n2_ := Aside0.mk (hi); clear HK; clear HB; clear HI0; have HK := n0_; have HB := n1_; have HI0 := n2_; clear n0_ n1_ n2_; (try clear hb); (try clear hb2); (try clear hk); (try clear hi); obtain ⟨HGz20, hgz20⟩ := HI0.out; have hcz20_0 := cellS129_0 HGz20; have hcz20_1 := cellS129_1 HGz20; have hcz20_2 := cellS129_2 HGz20; have hfz20_0 := blk_frozen HGz20 0; have hfz20_1 := blk_frozen HGz20 1; have hfz20_2 := blk_frozen HGz20 2; clear HGz20 hgz20)))
       go_ret
       exact ⟨by first | rfl | (simp [errW_none, errW_some] <;> rfl) | (simp [*, errW_none, errW_some] <;> rfl), by repeat (first | (with_reducible first | exact HI0.out | apply IsS129.alloc | apply IsS129.drewN | apply IsS129.drew | apply IsS129.set_0 | apply IsS129.set_1 | apply IsS129.set_2) | exact HI0.out), by repeat (first | (with_reducible first | exact HB.out | apply below_alloc | apply pw_below_drewN | apply below_drew1 | refine below_set ?_ (IsS129.ge HI0.out)) | exact HB.out), by repeat (first | (with_reducible first | exact HK.out | apply KeepBut.set_ | apply keep_drewN | apply keep_drew | apply keep_alloc) | exact HK.out)⟩
      ·rw [if_neg c18] at H
       exact absurd H (by simp)
     ·rw [if_neg c17] at H
      exact absurd H (by simp)
    ·rw [if_neg c16] at H
     exact absurd H (by simp)
end Go.Proofs.YtefdfgmlmjnmlaaDoor.Rf
end

section
set_option linter.unusedVariables false
set_option linter.unusedSimpArgs false
namespace Go.Proofs.YtefdfgmlmjnmlaaDoor.Rf
open Go.RowKit Go.Proofs.YtefdfgmlmjnmlaaDoorW.PrintWords Go.Proofs.YtefdfgmlmjnmlaaDoorW.PrintLast Go.Proofs.YtefdfgmlmjnmlaaDoorW.PrintMore
def pack_Reader_Bool.f (k : Nat) (s0_0 : ByteArray) (s0_1 : Int) (s0_2 : Bool) : Option (Bool × ByteArray × Int × Bool) := (pack_Reader_Int.f k s0_0 s0_1 s0_2).bind fun bt169 => (if bt169.1 = 0 then (some ((bt169.1 == 1), bt169.2.1, bt169.2.2.1, bt169.2.2.2)) else (if bt169.1 = 1 then (some ((bt169.1 == 1), bt169.2.1, bt169.2.2.1, bt169.2.2.2)) else ((pack_Reader_fail.f bt169.2.1 bt169.2.2.1 bt169.2.2.2).bind fun bt173 => (some ((bt169.1 == 1), bt173.2.1, bt173.2.2.1, bt173.2.2.2)))))
set_option maxHeartbeats 8000000 in
set_option maxRecDepth 100000 in
theorem pack_Reader_Bool.calls (k : Nat) (g : Nat) (s0_0 : ByteArray) (s0_1 : Int) (s0_2 : Bool) (r1 : Bool) (r2 : ByteArray) (r3 : Int) (r4 : Bool) (w0 w : World) (hI : IsS129 w0 w g s0_0 s0_1 s0_2) (hB : Below w0.heap.size w0 w) (h : pack_Reader_Bool.f k s0_0 s0_1 s0_2 = some (r1, r2, r3, r4)) :
  Calls Tryd.prog 96 #[.pointer (some ⟨g, 0, none⟩)] w fun e w' => e = .returned (.bool r1) ∧ IsS129 w0 w' g r2 r3 r4 ∧ Below w0.heap.size w0 w' ∧ KeepBut w w' g none := by
 have HI0 := Aside0.mk hI
 have HK := Aside0.mk (KeepBut.refl w g none)
 have HL := Aside0.mk hB.size
 clear hI
 have HW0 := Aside0.mk hB.size
 have HB := Aside0.mk hB
 clear hB
 have H : ((pack_Reader_Int.f k s0_0 s0_1 s0_2).bind fun bt169 => (if bt169.1 = 0 then (some ((bt169.1 == 1), bt169.2.1, bt169.2.2.1, bt169.2.2.2)) else (if bt169.1 = 1 then (some ((bt169.1 == 1), bt169.2.1, bt169.2.2.1, bt169.2.2.2)) else ((pack_Reader_fail.f bt169.2.1 bt169.2.2.1 bt169.2.2.2).bind fun bt173 => (some ((bt169.1 == 1), bt173.2.1, bt173.2.2.1, bt173.2.2.2)))))) = some (r1, r2, r3, r4) := h
 clear h
 replace H := Option.bind_eq_some_iff.mp H
 obtain ⟨⟨t169, t170, t171, t172⟩, A20, H⟩ := H
 replace H : (if t169 = 0 then (some ((t169 == 1), t170, t171, t172)) else (if t169 = 1 then (some ((t169 == 1), t170, t171, t172)) else ((pack_Reader_fail.f t170 t171 t172).bind fun bt173 => (some ((t169 == 1), bt173.2.1, bt173.2.2.1, bt173.2.2.2))))) = some (r1, r2, r3, r4) := H
 have A2 := Aside0.mk A20
 clear A20
 by_cases c3 : t169 = 0
 ·rw [if_pos c3] at H
  have c3b0 : (t169 == 0) = true := beq_iff_eq.mpr c3
  have c3b1 : (t169 != 0) = false := bne_eq_false_iff_eq.mpr c3
  clear c3
  simp only [Option.some.injEq, Prod.mk.injEq] at H
  obtain ⟨rfl, rfl, rfl, rfl⟩ := H
  go_enter Tryd.func96, Tryd.ntmps96
  go_wp2_with (first | ((with_reducible refine gate_callee (f := 65) rfl ?_); refine goesL_ (some 5) rfl rfl Tryd.func65 (by kernel_rfl) rfl #[.pointer (some ⟨g, 0, none⟩)] rfl (by (try simp only [List.map_toArray, List.map_cons, List.map_nil]); first | done | rfl | (simp only [List.length_drop, List.length_take]; rfl)) ?_; (with_reducible refine (pack_Reader_Int.calls k g s0_0 s0_1 s0_2 t169 t170 t171 t172 w0 _ ?side1 ?side2 A2.out).mono ?_); (case side1 => repeat (first | (with_reducible first | exact HI0.out | apply IsS129.alloc | apply IsS129.drewN | apply IsS129.drew | apply IsS129.set_0 | apply IsS129.set_1 | apply IsS129.set_2) | exact HI0.out)); (case side2 => repeat (first | (with_reducible first | exact HB.out | apply below_alloc | apply pw_below_drewN | apply below_drew1 | refine below_set ?_ (IsS129.ge HI0.out)) | exact HB.out)); rintro e w4 ⟨rfl, hi, hb, hk⟩; refine ⟨_, rfl, ?_⟩; have n0_ := Aside0.mk (KeepBut.trans (by repeat (first | (with_reducible first | exact HK.out | apply KeepBut.set_ | apply keep_drewN | apply keep_drew | apply keep_alloc) | exact HK.out)) hk (.inl rfl)); have n1_ := Aside0.mk (hb); have n2_ := Aside0.mk (hi); clear HK; clear HB; clear HI0; have HK := n0_; have HB := n1_; have HI0 := n2_; clear n0_ n1_ n2_; (try clear hb); (try clear hb2); (try clear hk); (try clear hi)))
  go_ret
  exact ⟨by first | rfl | (simp [errW_none, errW_some] <;> rfl) | (simp [*, errW_none, errW_some] <;> rfl), by repeat (first | (with_reducible first | exact HI0.out | apply IsS129.alloc | apply IsS129.drewN | apply IsS129.drew | apply IsS129.set_0 | apply IsS129.set_1 | apply IsS129.set_2) | exact HI0.out), by repeat (first | (with_reducible first | exact HB.out | apply below_alloc | apply pw_below_drewN | apply below_drew1 | refine below_set ?_ (IsS129.ge HI0.out)) | exact HB.out), by repeat (first | (with_reducible first | exact HK.out | apply KeepBut.set_ | apply keep_drewN | apply keep_drew | apply keep_alloc) | exact HK.out)⟩
 ·rw [if_neg c3] at H
  have c3b0 : (t169 == 0) = false := beq_eq_false_iff_ne.mpr c3
  have c3b1 : (t169 != 0) = true := bne_iff_ne.mpr c3
  by_cases c5 : t169 = 1
  ·rw [if_pos c5] at H
   have c5b0 : (t169 == 1) = true := beq_iff_eq.mpr c5
   have c5b1 : (t169 != 1) = false := bne_eq_false_iff_eq.mpr c5
   clear c5
   simp only [Option.some.injEq, Prod.mk.injEq] at H
   obtain ⟨rfl, rfl, rfl, rfl⟩ := H
   go_enter Tryd.func96, Tryd.ntmps96
   go_wp2_with (first | ((with_reducible refine gate_callee (f := 65) rfl ?_); refine goesL_ (some 5) rfl rfl Tryd.func65 (by kernel_rfl) rfl #[.pointer (some ⟨g, 0, none⟩)] rfl (by (try simp only [List.map_toArray, List.map_cons, List.map_nil]); first | done | rfl | (simp only [List.length_drop, List.length_take]; rfl)) ?_; (with_reducible refine (pack_Reader_Int.calls k g s0_0 s0_1 s0_2 t169 t170 t171 t172 w0 _ ?side1 ?side2 A2.out).mono ?_); (case side1 => repeat (first | (with_reducible first | exact HI0.out | apply IsS129.alloc | apply IsS129.drewN | apply IsS129.drew | apply IsS129.set_0 | apply IsS129.set_1 | apply IsS129.set_2) | exact HI0.out)); (case side2 => repeat (first | (with_reducible first | exact HB.out | apply below_alloc | apply pw_below_drewN | apply below_drew1 | refine below_set ?_ (IsS129.ge HI0.out)) | exact HB.out)); rintro e w6 ⟨rfl, hi, hb, hk⟩; refine ⟨_, rfl, ?_⟩; have n0_ := Aside0.mk (KeepBut.trans (by repeat (first | (with_reducible first | exact HK.out | apply KeepBut.set_ | apply keep_drewN | apply keep_drew | apply keep_alloc) | exact HK.out)) hk (.inl rfl)); have n1_ := Aside0.mk (hb); have n2_ := Aside0.mk (hi); clear HK; clear HB; clear HI0; have HK := n0_; have HB := n1_; have HI0 := n2_; clear n0_ n1_ n2_; (try clear hb); (try clear hb2); (try clear hk); (try clear hi)))
   go_ret
   exact ⟨by first | rfl | (simp [errW_none, errW_some] <;> rfl) | (simp [*, errW_none, errW_some] <;> rfl), by repeat (first | (with_reducible first | exact HI0.out | apply IsS129.alloc | apply IsS129.drewN | apply IsS129.drew | apply IsS129.set_0 | apply IsS129.set_1 | apply IsS129.set_2) | exact HI0.out), by repeat (first | (with_reducible first | exact HB.out | apply below_alloc | apply pw_below_drewN | apply below_drew1 | refine below_set ?_ (IsS129.ge HI0.out)) | exact HB.out), by repeat (first | (with_reducible first | exact HK.out | apply KeepBut.set_ | apply keep_drewN | apply keep_drew | apply keep_alloc) | exact HK.out)⟩
  ·rw [if_neg c5] at H
   have c5b0 : (t169 == 1) = false := beq_eq_false_iff_ne.mpr c5
   have c5b1 : (t169 != 1) = true := bne_iff_ne.mpr c5
   replace H := Option.bind_eq_some_iff.mp H
   obtain ⟨⟨t173, t174, t175, t176⟩, A70, H⟩ := H
   replace H : (some ((t169 == 1), t174, t175, t176)) = some (r1, r2, r3, r4) := H
   have A7 := Aside0.mk A70
   clear A70
   simp only [Option.some.injEq, Prod.mk.injEq] at H
   obtain ⟨rfl, rfl, rfl, rfl⟩ := H
   go_enter Tryd.func96, Tryd.ntmps96
   go_wp2_with (first | ((with_reducible refine gate_callee (f := 65) rfl ?_); refine goesL_ (some 5) rfl rfl Tryd.func65 (by kernel_rfl) rfl #[.pointer (some ⟨g, 0, none⟩)] rfl (by (try simp only [List.map_toArray, List.map_cons, List.map_nil]); first | done | rfl | (simp only [List.length_drop, List.length_take]; rfl)) ?_; (with_reducible refine (pack_Reader_Int.calls k g s0_0 s0_1 s0_2 t169 t170 t171 t172 w0 _ ?side1 ?side2 A2.out).mono ?_); (case side1 => repeat (first | (with_reducible first | exact HI0.out | apply IsS129.alloc | apply IsS129.drewN | apply IsS129.drew | apply IsS129.set_0 | apply IsS129.set_1 | apply IsS129.set_2) | exact HI0.out)); (case side2 => repeat (first | (with_reducible first | exact HB.out | apply below_alloc | apply pw_below_drewN | apply below_drew1 | refine below_set ?_ (IsS129.ge HI0.out)) | exact HB.out)); rintro e w8 ⟨rfl, hi, hb, hk⟩; refine ⟨_, rfl, ?_⟩; have n0_ := Aside0.mk (KeepBut.trans (by repeat (first | (with_reducible first | exact HK.out | apply KeepBut.set_ | apply keep_drewN | apply keep_drew | apply keep_alloc) | exact HK.out)) hk (.inl rfl)); have n1_ := Aside0.mk (hb); have n2_ := Aside0.mk (hi); clear HK; clear HB; clear HI0; have HK := n0_; have HB := n1_; have HI0 := n2_; clear n0_ n1_ n2_; (try clear hb); (try clear hb2); (try clear hk); (try clear hi)) | ((with_reducible refine gate_callee (f := 94) rfl ?_); refine goesL_ (some 17) rfl rfl Tryd.func94 (by kernel_rfl) rfl #[.pointer (some ⟨g, 0, none⟩)] rfl (by (try simp only [List.map_toArray, List.map_cons, List.map_nil]); first | done | rfl | (simp only [List.length_drop, List.length_take]; rfl)) ?_; (with_reducible refine (pack_Reader_fail.calls g t170 t171 t172 t173 t174 t175 t176 w0 _ ?side1 ?side2 A7.out).mono ?_); (case side1 => repeat (first | (with_reducible first | exact HI0.out | apply IsS129.alloc | apply IsS129.drewN | apply IsS129.drew | apply IsS129.set_0 | apply IsS129.set_1 | apply IsS129.set_2) | exact HI0.out)); (case side2 => repeat (first | (with_reducible first | exact HB.out | apply below_alloc | apply pw_below_drewN | apply below_drew1 | refine below_set ?_ (IsS129.ge HI0.out)) | exact HB.out)); rintro e w9 ⟨rfl, hi, hb, hk⟩; refine ⟨_, rfl, ?_⟩; have n0_ := Aside0.mk (KeepBut.trans (by repeat (first | (with_reducible first | exact HK.out | apply KeepBut.set_ | apply keep_drewN | apply keep_drew | apply keep_alloc) | exact HK.out)) hk (.inl rfl)); have n1_ := Aside0.mk (hb); have n2_ := Aside0.mk (hi); clear HK; clear HB; clear HI0; have HK := n0_; have HB := n1_; have HI0 := n2_; clear n0_ n1_ n2_; (try clear hb); (try clear hb2); (try clear hk); (try clear hi)))
   go_ret
   exact ⟨by first | rfl | (simp [errW_none, errW_some] <;> rfl) | (simp [*, errW_none, errW_some] <;> rfl), by repeat (first | (with_reducible first | exact HI0.out | apply IsS129.alloc | apply IsS129.drewN | apply IsS129.drew | apply IsS129.set_0 | apply IsS129.set_1 | apply IsS129.set_2) | exact HI0.out), by repeat (first | (with_reducible first | exact HB.out | apply below_alloc | apply pw_below_drewN | apply below_drew1 | refine below_set ?_ (IsS129.ge HI0.out)) | exact HB.out), by repeat (first | (with_reducible first | exact HK.out | apply KeepBut.set_ | apply keep_drewN | apply keep_drew | apply keep_alloc) | exact HK.out)⟩
end Go.Proofs.YtefdfgmlmjnmlaaDoor.Rf
end

section
set_option linter.unusedSimpArgs false
set_option linter.unusedVariables false
namespace Go.Proofs.YtefdfgmlmjnmlaaDoor.My
open Go.RowKit Go.Proofs.YtefdfgmlmjnmlaaDoorW.PrintWords Go.Proofs.YtefdfgmlmjnmlaaDoor.Rf
def keptF (b : Nat) : Int := if (FloatKind.f64.format.order b b != some .eq) = true then 9221120237041090560 else if (FloatKind.f64.format.order b 0 == some .eq) = true then 0 else wrap64 (b : Int)
def bitsF (n : Int) : Nat := (IntKind.u64.wrap n).toNat
def goodF (n : Int) : Bool := keptF (bitsF n) == n
theorem frombits (n : Int) (w : World) : (callFunc 127 #[.int .u64 n]).run Tryd.prog w = .ok (.value (.float .f64 n.toNat)) w := by
  rw [run_callFunc_extern Tryd.func127 (by kernel_rfl) (by kernel_rfl) (by kernel_rfl) (e := Extern.MathFloatBits.float64frombits) (by kernel_rfl)]
  rfl
theorem tobits (n : Nat) (w : World) : (callFunc 126 #[.float .f64 n]).run Tryd.prog w = .ok (.value (.int .u64 n)) w := by
  rw [run_callFunc_extern Tryd.func126 (by kernel_rfl) (by kernel_rfl) (by kernel_rfl) (e := Extern.MathFloatBits.float64bits) (by kernel_rfl)]
  rfl
set_option maxRecDepth 100000 in
theorem of_calls (n : Int) (w : World) : Calls Tryd.prog 130 #[.int .i64 n] w fun e w' => e = .returned (.float .f64 (bitsF n)) ∧ Below w.heap.size w w' := by
  have hd := frombits
  go_enter Tryd.func130, Tryd.ntmps130
  go_wp2_with (simp only [hd])
  go_ret
  exact ⟨rfl, Below.refl _ _⟩
set_option maxRecDepth 100000 in
theorem ofR_calls (n : Int) (w : World) : Calls Tryd.prog 119 #[.int .i64 n] w fun e w' => e = .returned (.float .f64 (bitsF n)) ∧ Below w.heap.size w w' := by
  have hd := frombits
  go_enter Tryd.func119, Tryd.ntmps119
  go_wp2_with (simp only [hd])
  go_ret
  exact ⟨rfl, Below.refl _ _⟩
set_option maxRecDepth 100000 in
theorem nan_calls (b : Nat) (w : World) : Calls Tryd.prog 125 #[.float .f64 b] w fun e w' => e = .returned (.bool (FloatKind.f64.format.order b b != some .eq)) ∧ Below w.heap.size w w' := by
  go_enter Tryd.func125, Tryd.ntmps125
  go_wp2
  go_ret
  exact ⟨rfl, Below.refl _ _⟩
set_option maxRecDepth 100000 in
theorem canon_calls (b : Nat) (w : World) : Calls Tryd.prog 129 #[.float .f64 b] w fun e w' => e = .returned (.int .i64 (keptF b)) ∧ Below w.heap.size w w' := by
  have hd := tobits
  unfold keptF
  cases h1 : (FloatKind.f64.format.order b b != some .eq) with
  | true =>
    go_enter Tryd.func129, Tryd.ntmps129
    go_wp2
    go_ret
    exact ⟨rfl, Below.refl _ _⟩
  | false =>
    cases h2 : (FloatKind.f64.format.order b 0 == some .eq) with
    | true =>
      go_enter Tryd.func129, Tryd.ntmps129
      go_wp2
      go_ret
      exact ⟨rfl, Below.refl _ _⟩
    | false =>
      go_enter Tryd.func129, Tryd.ntmps129
      go_wp2_with (simp only [hd])
      go_ret
      exact ⟨rfl, Below.refl _ _⟩
set_option maxRecDepth 100000 in
theorem kept_calls (b : Nat) (w : World) : Calls Tryd.prog 118 #[.float .f64 b] w fun e w' => e = .returned (.int .i64 (keptF b)) ∧ Below w.heap.size w w' := by
  have hd := tobits
  unfold keptF
  cases h1 : (FloatKind.f64.format.order b b != some .eq) with
  | true =>
    go_enter Tryd.func118, Tryd.ntmps118
    go_wp2_with (go_at_call 125; refine (nan_calls b _).mono ?_; rw [h1]; rintro e w2 ⟨rfl, hb2⟩)
    go_ret
    exact ⟨rfl, hb2⟩
  | false =>
    cases h2 : (FloatKind.f64.format.order b 0 == some .eq) with
    | true =>
      go_enter Tryd.func118, Tryd.ntmps118
      go_wp2_with (go_at_call 125; refine (nan_calls b _).mono ?_; rw [h1]; rintro e w2 ⟨rfl, hb2⟩)
      go_ret
      exact ⟨rfl, hb2⟩
    | false =>
      go_enter Tryd.func118, Tryd.ntmps118
      go_wp2_with (first | (go_at_call 125; refine (nan_calls b _).mono ?_; rw [h1]; rintro e w2 ⟨rfl, hb2⟩) | (simp only [hd]))
      go_ret
      exact ⟨rfl, hb2⟩
set_option maxRecDepth 100000 in
theorem realGood_calls (n : Int) (w : World) : Calls Tryd.prog 123 #[.int .i64 n] w fun e w' => e = .returned (.bool (goodF n)) ∧ Below w.heap.size w w' := by
  go_enter Tryd.func123, Tryd.ntmps123
  go_wp2_with (first
    | (go_at_call 130; refine (of_calls n _).mono ?_; rintro e w2 ⟨rfl, hb2⟩)
    | (go_at_call 129; refine (canon_calls (bitsF n) _).mono ?_; rintro e w3 ⟨rfl, hb3⟩))
  go_ret
  exact ⟨rfl, below_step hb2 hb3⟩
end Go.Proofs.YtefdfgmlmjnmlaaDoor.My
end

section
set_option linter.unusedSimpArgs false
set_option linter.unusedVariables false
namespace Go.Proofs.YtefdfgmlmjnmlaaDoor.My
open Go.RowKit Go.Proofs.YtefdfgmlmjnmlaaDoorW.PrintWords Go.Proofs.YtefdfgmlmjnmlaaDoor.Rf
open Go.Proofs.YtefdfgmlmjnmlaaDoorW.PrintLast Go.Proofs.YtefdfgmlmjnmlaaDoorW.PrintMore
theorem eqA70 (d : Nat) (w : World) (x0 y0 x1 y1 : Int) (x2 y2 : ByteArray) :
    (Op.equalIn (d + 2) 70 (.agg #[.int .i64 x0, .int .i64 x1, .string x2]) (.agg #[.int .i64 y0, .int .i64 y1, .string y2])).run Tryd.prog w = .ok (x0 == y0 && (x1 == y1 && (x2.toList == y2.toList))) w := by
  refine eqA_of Tryd.underlying70 (by kernel_rfl) ?_
  refine eqf_cons (by rfl) (by go_simp; rfl) (by go_simp; rfl) (by go_simp) ?_
  refine eqf_cons (by rfl) (by go_simp; rfl) (by go_simp; rfl) (by go_simp) ?_
  exact eqf_last (by rfl) (by go_simp; rfl) (by go_simp; rfl) (by go_simp)
attribute [local go_sem high] eqA70
def goodV (v : S70) : Bool :=
  if v.f0 = 0 then v.f1 == 0 && v.f2.toList.isEmpty
  else if v.f0 = 1 then v.f2.toList.isEmpty
  else if v.f0 = 2 then v.f2.toList.isEmpty && goodF v.f1
  else if v.f0 = 3 then v.f1 == 0 && decide ((v.f2.size : Int) ≤ 24)
  else false
set_option maxHeartbeats 4000000 in
set_option maxRecDepth 100000 in
theorem val_calls (v : S70) (w : World) : Calls Tryd.prog 113 #[.agg #[.int .i64 v.f0, .int .i64 v.f1, .string v.f2]] w fun e w' => e = .returned (.bool (goodV v)) ∧ Below w.heap.size w w' := by
  obtain ⟨f0, f1, f2⟩ := v
  unfold goodV
  dsimp only
  have hb1 := below1 w (.cells #[.int .i64 f0, .int .i64 f1, .string f2] 70)
  have HB := Aside0.mk hb1
  clear hb1
  by_cases h0 : f0 = 0
  · subst h0
    cases h1 : (f1 == 0) with
    | true =>
      go_enter Tryd.func113, Tryd.ntmps113
      go_wp2
      go_ret
      exact ⟨by simp, HB.out⟩
    | false =>
      go_enter Tryd.func113, Tryd.ntmps113
      go_wp2
      go_ret
      exact ⟨by simp, HB.out⟩
  · by_cases h1 : f0 = 1
    · subst h1
      go_enter Tryd.func113, Tryd.ntmps113
      go_wp2
      go_ret
      exact ⟨by simp, HB.out⟩
    · by_cases h2 : f0 = 2
      · subst h2
        rw [if_neg h0, if_neg h1, if_pos rfl]
        have HK := Aside0.mk (blk_new w (.cells #[.int .i64 2, .int .i64 f1, .string f2] 70))
        cases h4 : f2.toList.isEmpty with
        | true =>
          go_enter Tryd.func113, Tryd.ntmps113
          go_wp2_with (go_at_call 123; refine (realGood_calls f1 _).mono ?_; rintro e w2 ⟨rfl, hb2⟩)
          go_ret
          exact ⟨by simp, below_step HB.out hb2⟩
        | false =>
          go_enter Tryd.func113, Tryd.ntmps113
          go_wp2
          go_ret
          exact ⟨by simp, HB.out⟩
      · by_cases h3 : f0 = 3
        · subst h3
          cases h1 : (f1 == 0) with
          | true =>
            go_enter Tryd.func113, Tryd.ntmps113
            go_wp2
            go_ret
            exact ⟨by simp, HB.out⟩
          | false =>
            go_enter Tryd.func113, Tryd.ntmps113
            go_wp2
            go_ret
            exact ⟨by simp, HB.out⟩
        · rw [if_neg h0, if_neg h1, if_neg h2, if_neg h3]
          have e0 : (f0 == 0) = false := beq_eq_false_iff_ne.2 h0
          have e1 : (f0 == 1) = false := beq_eq_false_iff_ne.2 h1
          have e2 : (f0 == 2) = false := beq_eq_false_iff_ne.2 h2
          have e3 : (f0 == 3) = false := beq_eq_false_iff_ne.2 h3
          go_enter Tryd.func113, Tryd.ntmps113
          go_wp2
          go_ret
          exact ⟨rfl, HB.out⟩
set_option maxHeartbeats 4000000 in
set_option maxRecDepth 100000 in
theorem valR_calls (v : S70) (w : World) : Calls Tryd.prog 98 #[.agg #[.int .i64 v.f0, .int .i64 v.f1, .string v.f2]] w fun e w' => e = .returned (.bool (goodV v)) ∧ Below w.heap.size w w' := by
  obtain ⟨f0, f1, f2⟩ := v
  unfold goodV
  dsimp only
  have hb1 := below1 w (.cells #[.int .i64 f0, .int .i64 f1, .string f2] 70)
  have HB := Aside0.mk hb1
  clear hb1
  by_cases h0 : f0 = 0
  · subst h0
    cases h1 : (f1 == 0) with
    | true =>
      go_enter Tryd.func98, Tryd.ntmps98
      go_wp2
      go_ret
      exact ⟨by simp, HB.out⟩
    | false =>
      go_enter Tryd.func98, Tryd.ntmps98
      go_wp2
      go_ret
      exact ⟨by simp, HB.out⟩
  · by_cases h1 : f0 = 1
    · subst h1
      go_enter Tryd.func98, Tryd.ntmps98
      go_wp2
      go_ret
      exact ⟨by simp, HB.out⟩
    · by_cases h2 : f0 = 2
      · subst h2
        rw [if_neg h0, if_neg h1, if_pos rfl]
        have HK := Aside0.mk (blk_new w (.cells #[.int .i64 2, .int .i64 f1, .string f2] 70))
        cases h4 : f2.toList.isEmpty with
        | true =>
          go_enter Tryd.func98, Tryd.ntmps98
          go_wp2_with (fail)
          refine start_ (n := 13) (S := (fun w' => w'.cell? ⟨w.heap.size, 0, none⟩ = some (.int .i64 2) ∧ w'.cell? ⟨w.heap.size, 1, none⟩ = some (.int .i64 f1) ∧ w'.cell? ⟨w.heap.size, 2, none⟩ = some (.string f2))) (ds := []) #[false, false, false, false, false, false, false, false, false, false, false, false, false] (by kernel_rfl) rfl rfl ⟨blk_cell HK.out 0, blk_cell HK.out 1, blk_cell HK.out 2⟩ (fun hHeld => ?_)
          refine pure_ (i := 0) (N := some 22) (v := ?_) (a' := ?_) #[true, false, false, false, false, false, false, false, false, false, false, false, false] rfl rfl (by kernel_rfl) (fun _ _ _ h => h) (Or.inl ⟨by rfl, ?_⟩) ?_ ?_
          rotate_left
          · intro w'
            go_simp
            with_reducible rfl
          rotate_left
          · simp only [Act.put, List.setIfInBounds_toArray, List.set_cons_zero, List.set_cons_succ, i64_w, i32_w]
            rfl
          refine take_ (i := 1) (N := some 23) (v := ?_) (a' := ?_) #[true, true, false, false, false, false, false, false, false, false, false, false, false] rfl rfl (by kernel_rfl) (fun _ _ _ h => h) (Or.inl ⟨by rfl, ?_⟩) hHeld ?_ ?_
          rotate_left
          · rintro w' ⟨s0, s1, s2⟩
            go_simp
            with_reducible rfl
          rotate_left
          · simp only [Act.put, List.setIfInBounds_toArray, List.set_cons_zero, List.set_cons_succ, i64_w, i32_w]
            rfl
          refine pure_ (i := 2) (N := some 24) (v := ?_) (a' := ?_) #[true, true, true, false, false, false, false, false, false, false, false, false, false] rfl rfl (by kernel_rfl) (fun _ _ _ h => h) (Or.inl ⟨by rfl, ?_⟩) ?_ ?_
          rotate_left
          · intro w'
            go_simp
            with_reducible rfl
          rotate_left
          · simp only [Act.put, List.setIfInBounds_toArray, List.set_cons_zero, List.set_cons_succ, i64_w, i32_w]
            rfl
          refine pure_ (i := 3) (N := some 25) (v := ?_) (a' := ?_) #[true, true, true, true, false, false, false, false, false, false, false, false, false] rfl rfl (by kernel_rfl) (fun _ _ _ h => h) (Or.inl ⟨by rfl, ?_⟩) ?_ ?_
          rotate_left
          · intro w'
            go_simp
            with_reducible rfl
          rotate_left
          · simp only [Act.put, List.setIfInBounds_toArray, List.set_cons_zero, List.set_cons_succ, i64_w, i32_w]
            rfl
          refine pure_ (i := 4) (N := some 26) (v := ?_) (a' := ?_) #[true, true, true, true, true, false, false, false, false, false, false, false, false] rfl rfl (by kernel_rfl) (fun _ _ _ h => h) (Or.inl ⟨by rfl, ?_⟩) ?_ ?_
          rotate_left
          · intro w'
            go_simp
            with_reducible rfl
          rotate_left
          · simp only [Act.put, List.setIfInBounds_toArray, List.set_cons_zero, List.set_cons_succ, i64_w, i32_w]
            rfl
          refine pure_ (i := 8) (N := some 30) (v := ?_) (a' := ?_) #[true, true, true, true, true, false, false, false, true, false, false, false, false] rfl rfl (by kernel_rfl) (fun _ _ _ h => h) (Or.inl ⟨by rfl, ?_⟩) ?_ ?_
          rotate_left
          · intro w'
            go_simp
            with_reducible rfl
          rotate_left
          · simp only [Act.put, List.setIfInBounds_toArray, List.set_cons_zero, List.set_cons_succ, i64_w, i32_w]
            rfl
          refine take_ (i := 5) (N := some 27) (v := ?_) (a' := ?_) #[true, true, true, true, true, true, false, false, true, false, false, false, false] rfl rfl (by kernel_rfl) (fun _ _ _ h => h) (Or.inl ⟨by rfl, ?_⟩) hHeld ?_ ?_
          rotate_left
          · rintro w' ⟨s0, s1, s2⟩
            go_simp
            with_reducible rfl
          rotate_left
          · simp only [Act.put, List.setIfInBounds_toArray, List.set_cons_zero, List.set_cons_succ, i64_w, i32_w]
            rfl
          refine take_ (i := 9) (N := some 31) (v := ?_) (a' := ?_) #[true, true, true, true, true, true, false, false, true, true, false, false, false] rfl rfl (by kernel_rfl) (fun _ _ _ h => h) (Or.inl ⟨by rfl, ?_⟩) hHeld ?_ ?_
          rotate_left
          · rintro w' ⟨s0, s1, s2⟩
            go_simp
            with_reducible rfl
          rotate_left
          · simp only [Act.put, List.setIfInBounds_toArray, List.set_cons_zero, List.set_cons_succ, i64_w, i32_w]
            rfl
          refine one_ (i := 6) (N := some 28) #[true, true, true, true, true, true, true, false, true, true, false, false, false] rfl rfl (by kernel_rfl) (by decide) (fun K hK => ?_)
          refine goes_ Tryd.func119 (by kernel_rfl) rfl #[.int .i64 f1] (by rfl) rfl rfl (by first | rfl | (simp only [List.map_toArray, List.map_cons, List.map_nil]; rfl)) ?_
          refine (ofR_calls f1 _).mono ?_
          rintro e w2 ⟨rfl, hb2⟩
          have hb2 := undrew hb2
          have HK2 := Aside0.mk (blk_below HK.out hb2)
          refine ⟨_, rfl, ?_⟩
          refine hK.out _ _ ⟨blk_cell HK2.out 0, blk_cell HK2.out 1, blk_cell HK2.out 2⟩ (fun hHeld => ?_)
          clear hK K
          refine norm_ (a' := ?_) ?_ ?_
          rotate_left
          · show Act.put _ (some 28) _ = _
            simp only [Act.put, List.setIfInBounds_toArray, List.set_cons_zero, List.set_cons_succ, i64_w, i32_w]
            rfl
          refine one_ (i := 7) (N := some 29) #[true, true, true, true, true, true, true, true, true, true, false, false, false] rfl rfl (by kernel_rfl) (by decide) (fun K hK => ?_)
          refine goes_ Tryd.func118 (by kernel_rfl) rfl #[.float .f64 (bitsF f1)] (by rfl) rfl rfl (by first | rfl | (simp only [List.map_toArray, List.map_cons, List.map_nil]; rfl)) ?_
          refine (kept_calls (bitsF f1) _).mono ?_
          rintro e w3 ⟨rfl, hb3⟩
          have HK3 := Aside0.mk (blk_below HK2.out hb3)
          refine ⟨_, rfl, ?_⟩
          refine hK.out _ _ ⟨blk_cell HK3.out 0, blk_cell HK3.out 1, blk_cell HK3.out 2⟩ (fun hHeld => ?_)
          clear hK K
          refine norm_ (a' := ?_) ?_ ?_
          rotate_left
          · show Act.put _ (some 29) _ = _
            simp only [Act.put, List.setIfInBounds_toArray, List.set_cons_zero, List.set_cons_succ, i64_w, i32_w]
            rfl
          refine pure_ (i := 10) (N := some 32) (v := ?_) (a' := ?_) #[true, true, true, true, true, true, true, true, true, true, true, false, false] rfl rfl (by kernel_rfl) (fun _ _ _ h => h) (Or.inl ⟨by rfl, ?_⟩) ?_ ?_
          rotate_left
          · intro w'
            go_simp
            with_reducible rfl
          rotate_left
          · simp only [Act.put, List.setIfInBounds_toArray, List.set_cons_zero, List.set_cons_succ, i64_w, i32_w]
            rfl
          refine pure_ (i := 11) (N := some 33) (v := ?_) (a' := ?_) #[true, true, true, true, true, true, true, true, true, true, true, true, false] rfl rfl (by kernel_rfl) (fun _ _ _ h => h) (Or.inl ⟨by rfl, ?_⟩) ?_ ?_
          rotate_left
          · intro w'
            go_simp
            with_reducible rfl
          rotate_left
          · simp only [Act.put, List.setIfInBounds_toArray, List.set_cons_zero, List.set_cons_succ, i64_w, i32_w]
            rfl
          refine pure_ (i := 12) (N := some 2) (v := ?_) (a' := ?_) #[true, true, true, true, true, true, true, true, true, true, true, true, true] rfl rfl (by kernel_rfl) (fun _ _ _ h => h) (Or.inl ⟨by rfl, ?_⟩) ?_ ?_
          rotate_left
          · intro w'
            go_simp
            with_reducible rfl
          rotate_left
          · simp only [Act.put, List.setIfInBounds_toArray, List.set_cons_zero, List.set_cons_succ, i64_w, i32_w]
            rfl
          refine done_ (by kernel_rfl) ?_
          go_wp2
          go_ret
          exact ⟨by simp [goodF], below_step (below_step HB.out hb2) hb3⟩
        | false =>
          go_enter Tryd.func98, Tryd.ntmps98
          go_wp2_with (fail)
          refine start_ (n := 13) (S := (fun w' => w'.cell? ⟨w.heap.size, 0, none⟩ = some (.int .i64 2) ∧ w'.cell? ⟨w.heap.size, 1, none⟩ = some (.int .i64 f1) ∧ w'.cell? ⟨w.heap.size, 2, none⟩ = some (.string f2))) (ds := []) #[false, false, false, false, false, false, false, false, false, false, false, false, false] (by kernel_rfl) rfl rfl ⟨blk_cell HK.out 0, blk_cell HK.out 1, blk_cell HK.out 2⟩ (fun hHeld => ?_)
          refine pure_ (i := 0) (N := some 22) (v := ?_) (a' := ?_) #[true, false, false, false, false, false, false, false, false, false, false, false, false] rfl rfl (by kernel_rfl) (fun _ _ _ h => h) (Or.inl ⟨by rfl, ?_⟩) ?_ ?_
          rotate_left
          · intro w'
            go_simp
            with_reducible rfl
          rotate_left
          · simp only [Act.put, List.setIfInBounds_toArray, List.set_cons_zero, List.set_cons_succ, i64_w, i32_w]
            rfl
          refine take_ (i := 1) (N := some 23) (v := ?_) (a' := ?_) #[true, true, false, false, false, false, false, false, false, false, false, false, false] rfl rfl (by kernel_rfl) (fun _ _ _ h => h) (Or.inl ⟨by rfl, ?_⟩) hHeld ?_ ?_
          rotate_left
          · rintro w' ⟨s0, s1, s2⟩
            go_simp
            with_reducible rfl
          rotate_left
          · simp only [Act.put, List.setIfInBounds_toArray, List.set_cons_zero, List.set_cons_succ, i64_w, i32_w]
            rfl
          refine pure_ (i := 2) (N := some 24) (v := ?_) (a' := ?_) #[true, true, true, false, false, false, false, false, false, false, false, false, false] rfl rfl (by kernel_rfl) (fun _ _ _ h => h) (Or.inl ⟨by rfl, ?_⟩) ?_ ?_
          rotate_left
          · intro w'
            go_simp
            with_reducible rfl
          rotate_left
          · simp only [Act.put, List.setIfInBounds_toArray, List.set_cons_zero, List.set_cons_succ, i64_w, i32_w]
            rfl
          refine pure_ (i := 3) (N := some 25) (v := ?_) (a' := ?_) #[true, true, true, true, false, false, false, false, false, false, false, false, false] rfl rfl (by kernel_rfl) (fun _ _ _ h => h) (Or.inl ⟨by rfl, ?_⟩) ?_ ?_
          rotate_left
          · intro w'
            go_simp
            with_reducible rfl
          rotate_left
          · simp only [Act.put, List.setIfInBounds_toArray, List.set_cons_zero, List.set_cons_succ, i64_w, i32_w]
            rfl
          refine pure_ (i := 4) (N := some 26) (v := undef) (a' := ?_) #[true, true, true, true, true, false, false, false, false, false, false, false, false] rfl rfl (by kernel_rfl) (fun _ _ _ h => h) (Or.inr ⟨by rfl, rfl⟩) ?_ ?_
          rotate_left
          · simp only [Act.put, List.setIfInBounds_toArray, List.set_cons_zero, List.set_cons_succ, i64_w, i32_w]
            rfl
          refine pure_ (i := 5) (N := some 27) (v := undef) (a' := ?_) #[true, true, true, true, true, true, false, false, false, false, false, false, false] rfl rfl (by kernel_rfl) (fun _ _ _ h => h) (Or.inr ⟨by rfl, rfl⟩) ?_ ?_
          rotate_left
          · simp only [Act.put, List.setIfInBounds_toArray, List.set_cons_zero, List.set_cons_succ, i64_w, i32_w]
            rfl
          refine pure_ (i := 6) (N := some 28) (v := undef) (a' := ?_) #[true, true, true, true, true, true, true, false, false, false, false, false, false] rfl rfl (by kernel_rfl) (fun _ _ _ h => h) (Or.inr ⟨by rfl, rfl⟩) ?_ ?_
          rotate_left
          · simp only [Act.put, List.setIfInBounds_toArray, List.set_cons_zero, List.set_cons_succ, i64_w, i32_w]
            rfl
          refine pure_ (i := 7) (N := some 29) (v := undef) (a' := ?_) #[true, true, true, true, true, true, true, true, false, false, false, false, false] rfl rfl (by kernel_rfl) (fun _ _ _ h => h) (Or.inr ⟨by rfl, rfl⟩) ?_ ?_
          rotate_left
          · simp only [Act.put, List.setIfInBounds_toArray, List.set_cons_zero, List.set_cons_succ, i64_w, i32_w]
            rfl
          refine pure_ (i := 8) (N := some 30) (v := undef) (a' := ?_) #[true, true, true, true, true, true, true, true, true, false, false, false, false] rfl rfl (by kernel_rfl) (fun _ _ _ h => h) (Or.inr ⟨by rfl, rfl⟩) ?_ ?_
          rotate_left
          · simp only [Act.put, List.setIfInBounds_toArray, List.set_cons_zero, List.set_cons_succ, i64_w, i32_w]
            rfl
          refine pure_ (i := 9) (N := some 31) (v := undef) (a' := ?_) #[true, true, true, true, true, true, true, true, true, true, false, false, false] rfl rfl (by kernel_rfl) (fun _ _ _ h => h) (Or.inr ⟨by rfl, rfl⟩) ?_ ?_
          rotate_left
          · simp only [Act.put, List.setIfInBounds_toArray, List.set_cons_zero, List.set_cons_succ, i64_w, i32_w]
            rfl
          refine pure_ (i := 10) (N := some 32) (v := undef) (a' := ?_) #[true, true, true, true, true, true, true, true, true, true, true, false, false] rfl rfl (by kernel_rfl) (fun _ _ _ h => h) (Or.inr ⟨by rfl, rfl⟩) ?_ ?_
          rotate_left
          · simp only [Act.put, List.setIfInBounds_toArray, List.set_cons_zero, List.set_cons_succ, i64_w, i32_w]
            rfl
          refine pure_ (i := 11) (N := some 33) (v := ?_) (a' := ?_) #[true, true, true, true, true, true, true, true, true, true, true, true, false] rfl rfl (by kernel_rfl) (fun _ _ _ h => h) (Or.inl ⟨by rfl, ?_⟩) ?_ ?_
          rotate_left
          · intro w'
            go_simp
            with_reducible rfl
          rotate_left
          · simp only [Act.put, List.setIfInBounds_toArray, List.set_cons_zero, List.set_cons_succ, i64_w, i32_w]
            rfl
          refine pure_ (i := 12) (N := some 2) (v := ?_) (a' := ?_) #[true, true, true, true, true, true, true, true, true, true, true, true, true] rfl rfl (by kernel_rfl) (fun _ _ _ h => h) (Or.inl ⟨by rfl, ?_⟩) ?_ ?_
          rotate_left
          · intro w'
            go_simp
            with_reducible rfl
          rotate_left
          · simp only [Act.put, List.setIfInBounds_toArray, List.set_cons_zero, List.set_cons_succ, i64_w, i32_w]
            rfl
          refine done_ (by kernel_rfl) ?_
          go_wp2
          go_ret
          exact ⟨by simp, below_drew HB.out⟩
      · by_cases h3 : f0 = 3
        · subst h3
          cases h1 : (f1 == 0) with
          | true =>
            go_enter Tryd.func98, Tryd.ntmps98
            go_wp2
            go_ret
            exact ⟨by simp, HB.out⟩
          | false =>
            go_enter Tryd.func98, Tryd.ntmps98
            go_wp2
            go_ret
            exact ⟨by simp, HB.out⟩
        · rw [if_neg h0, if_neg h1, if_neg h2, if_neg h3]
          have e0 : (f0 == 0) = false := beq_eq_false_iff_ne.2 h0
          have e1 : (f0 == 1) = false := beq_eq_false_iff_ne.2 h1
          have e2 : (f0 == 2) = false := beq_eq_false_iff_ne.2 h2
          have e3 : (f0 == 3) = false := beq_eq_false_iff_ne.2 h3
          go_enter Tryd.func98, Tryd.ntmps98
          go_wp2
          go_ret
          exact ⟨rfl, HB.out⟩
end Go.Proofs.YtefdfgmlmjnmlaaDoor.My
end

section
namespace Go.Proofs.YtefdfgmlmjnmlaaDoor.Rf
open Go.RowKit Go.Proofs.YtefdfgmlmjnmlaaDoorW.PrintWords Go.Proofs.YtefdfgmlmjnmlaaDoorW.PrintLast Go.Proofs.YtefdfgmlmjnmlaaDoorW.PrintMore
def value_Good.f (a0_0 : Int) (a0_1 : Int) (a0_2 : ByteArray) : Option (Bool) := some (My.goodV ⟨a0_0, a0_1, a0_2⟩)
theorem value_Good.calls (a0_0 : Int) (a0_1 : Int) (a0_2 : ByteArray) (r : Bool) (w : World) (h : value_Good.f a0_0 a0_1 a0_2 = some r) :
  Calls Tryd.prog 113 #[.agg #[.int .i64 a0_0, .int .i64 a0_1, .string a0_2]] w fun e w' => e = .returned (.bool r) ∧ Below w.heap.size w w' := by
 obtain rfl := Option.some.inj h
 exact My.val_calls ⟨a0_0, a0_1, a0_2⟩ w
end Go.Proofs.YtefdfgmlmjnmlaaDoor.Rf
end

section
set_option linter.unusedVariables false
set_option linter.unusedSimpArgs false
namespace Go.Proofs.YtefdfgmlmjnmlaaDoor.Rf
open Go.RowKit Go.Proofs.YtefdfgmlmjnmlaaDoorW.PrintWords Go.Proofs.YtefdfgmlmjnmlaaDoorW.PrintLast Go.Proofs.YtefdfgmlmjnmlaaDoorW.PrintMore
def value_Take.f (k : Nat) (s0_0 : ByteArray) (s0_1 : Int) (s0_2 : Bool) : Option (Int × Int × ByteArray × ByteArray × Int × Bool) := (pack_Reader_Int.f k s0_0 s0_1 s0_2).bind fun bt179 => ((pack_Reader_Int.f k bt179.2.1 bt179.2.2.1 bt179.2.2.2).bind fun bt183 => ((pack_Reader_Str.f k bt183.2.1 bt183.2.2.1 bt183.2.2.2).bind fun bt187 => ((value_Good.f bt179.1 bt183.1 bt187.1).bind fun t191 => (if t191 = true then (some (bt179.1, bt183.1, bt187.1, bt187.2.1, bt187.2.2.1, bt187.2.2.2)) else ((pack_Reader_Many.f k bt187.2.1 bt187.2.2.1 bt187.2.2.2 (-1)).bind fun bt192 => (some (0, 0, (⟨#[]⟩ : ByteArray), bt192.2.1, bt192.2.2.1, bt192.2.2.2)))))))
set_option maxHeartbeats 8000000 in
set_option maxRecDepth 100000 in
theorem value_Take.calls (k : Nat) (g : Nat) (s0_0 : ByteArray) (s0_1 : Int) (s0_2 : Bool) (r1 : Int) (r2 : Int) (r3 : ByteArray) (r4 : ByteArray) (r5 : Int) (r6 : Bool) (w0 w : World) (hI : IsS129 w0 w g s0_0 s0_1 s0_2) (hB : Below w0.heap.size w0 w) (h : value_Take.f k s0_0 s0_1 s0_2 = some (r1, r2, r3, r4, r5, r6)) :
  Calls Tryd.prog 117 #[.pointer (some ⟨g, 0, none⟩)] w fun e w' => e = .returned (.agg #[.int .i64 r1, .int .i64 r2, .string r3]) ∧ IsS129 w0 w' g r4 r5 r6 ∧ Below w0.heap.size w0 w' ∧ KeepBut w w' g none := by
 have hu70 := Tryd.underlying70
 have HI0 := Aside0.mk hI
 have HK := Aside0.mk (KeepBut.refl w g none)
 have HL := Aside0.mk hB.size
 clear hI
 have HW0 := Aside0.mk hB.size
 have HB := Aside0.mk hB
 clear hB
 have H : ((pack_Reader_Int.f k s0_0 s0_1 s0_2).bind fun bt179 => ((pack_Reader_Int.f k bt179.2.1 bt179.2.2.1 bt179.2.2.2).bind fun bt183 => ((pack_Reader_Str.f k bt183.2.1 bt183.2.2.1 bt183.2.2.2).bind fun bt187 => ((value_Good.f bt179.1 bt183.1 bt187.1).bind fun t191 => (if t191 = true then (some (bt179.1, bt183.1, bt187.1, bt187.2.1, bt187.2.2.1, bt187.2.2.2)) else ((pack_Reader_Many.f k bt187.2.1 bt187.2.2.1 bt187.2.2.2 (-1)).bind fun bt192 => (some (0, 0, (⟨#[]⟩ : ByteArray), bt192.2.1, bt192.2.2.1, bt192.2.2.2)))))))) = some (r1, r2, r3, r4, r5, r6) := h
 clear h
 replace H := Option.bind_eq_some_iff.mp H
 obtain ⟨⟨t179, t180, t181, t182⟩, A20, H⟩ := H
 replace H : ((pack_Reader_Int.f k t180 t181 t182).bind fun bt183 => ((pack_Reader_Str.f k bt183.2.1 bt183.2.2.1 bt183.2.2.2).bind fun bt187 => ((value_Good.f t179 bt183.1 bt187.1).bind fun t191 => (if t191 = true then (some (t179, bt183.1, bt187.1, bt187.2.1, bt187.2.2.1, bt187.2.2.2)) else ((pack_Reader_Many.f k bt187.2.1 bt187.2.2.1 bt187.2.2.2 (-1)).bind fun bt192 => (some (0, 0, (⟨#[]⟩ : ByteArray), bt192.2.1, bt192.2.2.1, bt192.2.2.2))))))) = some (r1, r2, r3, r4, r5, r6) := H
 have A2 := Aside0.mk A20
 clear A20
 replace H := Option.bind_eq_some_iff.mp H
 obtain ⟨⟨t183, t184, t185, t186⟩, A30, H⟩ := H
 replace H : ((pack_Reader_Str.f k t184 t185 t186).bind fun bt187 => ((value_Good.f t179 t183 bt187.1).bind fun t191 => (if t191 = true then (some (t179, t183, bt187.1, bt187.2.1, bt187.2.2.1, bt187.2.2.2)) else ((pack_Reader_Many.f k bt187.2.1 bt187.2.2.1 bt187.2.2.2 (-1)).bind fun bt192 => (some (0, 0, (⟨#[]⟩ : ByteArray), bt192.2.1, bt192.2.2.1, bt192.2.2.2)))))) = some (r1, r2, r3, r4, r5, r6) := H
 have A3 := Aside0.mk A30
 clear A30
 replace H := Option.bind_eq_some_iff.mp H
 obtain ⟨⟨t187, t188, t189, t190⟩, A40, H⟩ := H
 replace H : ((value_Good.f t179 t183 t187).bind fun t191 => (if t191 = true then (some (t179, t183, t187, t188, t189, t190)) else ((pack_Reader_Many.f k t188 t189 t190 (-1)).bind fun bt192 => (some (0, 0, (⟨#[]⟩ : ByteArray), bt192.2.1, bt192.2.2.1, bt192.2.2.2))))) = some (r1, r2, r3, r4, r5, r6) := H
 have A4 := Aside0.mk A40
 clear A40
 replace H := Option.bind_eq_some_iff.mp H
 obtain ⟨t191, A50, H⟩ := H
 replace H : (if t191 = true then (some (t179, t183, t187, t188, t189, t190)) else ((pack_Reader_Many.f k t188 t189 t190 (-1)).bind fun bt192 => (some (0, 0, (⟨#[]⟩ : ByteArray), bt192.2.1, bt192.2.2.1, bt192.2.2.2)))) = some (r1, r2, r3, r4, r5, r6) := H
 have A5 := Aside0.mk A50
 clear A50
 by_cases c6 : t191 = true
 ·subst c6
  have H1 : (some (t179, t183, t187, t188, t189, t190)) = some (r1, r2, r3, r4, r5, r6) := by rw [if_pos rfl] at H; exact H
  clear H
  have H := H1
  clear H1
  simp only [Option.some.injEq, Prod.mk.injEq] at H
  obtain ⟨rfl, rfl, rfl, rfl, rfl, rfl⟩ := H
  go_enter Tryd.func117, Tryd.ntmps117
  go_wp2_with (first | ((with_reducible refine gate_dst (N := 2) rfl ?_); refine box_event ?hg (N := 2) ?hd (cs := #[.int .i64 0, .int .i64 0, .string (⟨#[]⟩ : ByteArray)]) (t := 70) ?hr ?_; (case hd => rfl); (case hg => rfl); (case hr => first | (go_simp; done) | (go_simp; rfl)); intro gb177 hg w7 hbox hb; have n0_ := Aside0.mk (IsS129.below (by repeat (first | (with_reducible first | exact HI0.out | apply IsS129.alloc | apply IsS129.drewN | apply IsS129.drew | apply IsS129.set_0 | apply IsS129.set_1 | apply IsS129.set_2) | exact HI0.out)) hb); have n1_ := Aside0.mk (KeepBut.trans (by repeat (first | (with_reducible first | exact HK.out | apply KeepBut.set_ | apply keep_drewN | apply keep_drew | apply keep_alloc) | exact HK.out)) (KeepBut.of_below hb g none) (.inl rfl)); have n2_ := Aside0.mk (below_step (by repeat (first | (with_reducible first | exact HB.out | apply below_alloc | apply pw_below_drewN | apply below_drew1 | refine below_set ?_ (IsS129.ge HI0.out)) | exact HB.out)) hb); have n3_ := Aside0.mk (hbox); have n4_ := Aside0.mk ((by rw [hg]; exact (keep_size (w := w) (g := g) (row := none) (by repeat (first | (with_reducible first | exact HK.out | apply KeepBut.set_ | apply keep_drewN | apply keep_drew | apply keep_alloc) | exact HK.out))) : w.heap.size ≤ gb177)); have n5_ := Aside0.mk ((Nat.le_trans HW0.out (by rw [hg]; exact (keep_size (w := w) (g := g) (row := none) (by repeat (first | (with_reducible first | exact HK.out | apply KeepBut.set_ | apply keep_drewN | apply keep_drew | apply keep_alloc) | exact HK.out))) : w.heap.size ≤ gb177) : w0.heap.size ≤ gb177)); have n6_ := Aside0.mk ((by rw [hg]; exact Nat.ne_of_lt (IsS129.lt (show IsS129 w0 _ g s0_0 s0_1 s0_2 from by repeat (first | (with_reducible first | exact HI0.out | apply IsS129.alloc | apply IsS129.drewN | apply IsS129.drew | apply IsS129.set_0 | apply IsS129.set_1 | apply IsS129.set_2) | exact HI0.out))) : g ≠ gb177)); have n7_ := Aside0.mk ((by rw [hg]; exact Nat.ne_of_gt (IsS129.lt (show IsS129 w0 _ g s0_0 s0_1 s0_2 from by repeat (first | (with_reducible first | exact HI0.out | apply IsS129.alloc | apply IsS129.drewN | apply IsS129.drew | apply IsS129.set_0 | apply IsS129.set_1 | apply IsS129.set_2) | exact HI0.out))) : gb177 ≠ g)); clear HI0; clear HK; clear HB; have HI0 := n0_; have HK := n1_; have HB := n2_; have BK177 := n3_; have GW177 := n4_; have GE177 := n5_; have NB0_177 := n6_; have NB177_0 := n7_; clear n0_ n1_ n2_ n3_ n4_ n5_ n6_ n7_; clear hb hbox hg) | ((with_reducible refine gate_dst (N := 3) rfl ?_); refine box_event ?hg (N := 3) ?hd (cs := #[.int .i64 0, .int .i64 0, .string (⟨#[]⟩ : ByteArray)]) (t := 70) ?hr ?_; (case hd => rfl); (case hg => rfl); (case hr => first | (go_simp; done) | (go_simp; rfl)); intro gb178 hg w8 hbox hb; have n0_ := Aside0.mk (IsS129.below (by repeat (first | (with_reducible first | exact HI0.out | apply IsS129.alloc | apply IsS129.drewN | apply IsS129.drew | apply IsS129.set_0 | apply IsS129.set_1 | apply IsS129.set_2 | refine IsS129.far ?_ NB0_177.out _) | exact HI0.out)) hb); have n1_ := Aside0.mk (blk_below (g := gb177) (o := .cells #[.int .i64 0, .int .i64 0, .string (⟨#[]⟩ : ByteArray)] 70 (0, 0)) (by (with_reducible repeat (first | refine blk_drewN ?_ _ | refine blk_drew ?_ | refine blk_alloc ?_ _)); exact BK177.out) hb); have n2_ := Aside0.mk (KeepBut.trans (by repeat (first | (with_reducible first | exact HK.out | apply KeepBut.set_ | apply keep_drewN | apply keep_drew | apply keep_alloc | refine keep_far ?_ GW177.out _) | exact HK.out)) (KeepBut.of_below hb g none) (.inl rfl)); have n3_ := Aside0.mk (below_step (by repeat (first | (with_reducible first | exact HB.out | apply below_alloc | apply pw_below_drewN | apply below_drew1 | refine below_set ?_ (IsS129.ge HI0.out) | refine below_set ?_ GE177.out) | exact HB.out)) hb); have n4_ := Aside0.mk (hbox); have n5_ := Aside0.mk ((by rw [hg]; exact (keep_size (w := w) (g := g) (row := none) (by repeat (first | (with_reducible first | exact HK.out | apply KeepBut.set_ | apply keep_drewN | apply keep_drew | apply keep_alloc | refine keep_far ?_ GW177.out _) | exact HK.out))) : w.heap.size ≤ gb178)); have n6_ := Aside0.mk ((Nat.le_trans HW0.out (by rw [hg]; exact (keep_size (w := w) (g := g) (row := none) (by repeat (first | (with_reducible first | exact HK.out | apply KeepBut.set_ | apply keep_drewN | apply keep_drew | apply keep_alloc | refine keep_far ?_ GW177.out _) | exact HK.out))) : w.heap.size ≤ gb178) : w0.heap.size ≤ gb178)); have n7_ := Aside0.mk ((by rw [hg]; exact Nat.ne_of_lt (blk_lt (g := gb177) (o := .cells #[.int .i64 0, .int .i64 0, .string (⟨#[]⟩ : ByteArray)] 70 (0, 0)) (by (with_reducible repeat (first | refine blk_drewN ?_ _ | refine blk_drew ?_ | refine blk_alloc ?_ _)); exact BK177.out)) : gb177 ≠ gb178)); have n8_ := Aside0.mk ((by rw [hg]; exact Nat.ne_of_gt (blk_lt (g := gb177) (o := .cells #[.int .i64 0, .int .i64 0, .string (⟨#[]⟩ : ByteArray)] 70 (0, 0)) (by (with_reducible repeat (first | refine blk_drewN ?_ _ | refine blk_drew ?_ | refine blk_alloc ?_ _)); exact BK177.out)) : gb178 ≠ gb177)); have n9_ := Aside0.mk ((by rw [hg]; exact Nat.ne_of_lt (IsS129.lt (show IsS129 w0 _ g s0_0 s0_1 s0_2 from by repeat (first | (with_reducible first | exact HI0.out | apply IsS129.alloc | apply IsS129.drewN | apply IsS129.drew | apply IsS129.set_0 | apply IsS129.set_1 | apply IsS129.set_2 | refine IsS129.far ?_ NB0_177.out _) | exact HI0.out))) : g ≠ gb178)); have n10_ := Aside0.mk ((by rw [hg]; exact Nat.ne_of_gt (IsS129.lt (show IsS129 w0 _ g s0_0 s0_1 s0_2 from by repeat (first | (with_reducible first | exact HI0.out | apply IsS129.alloc | apply IsS129.drewN | apply IsS129.drew | apply IsS129.set_0 | apply IsS129.set_1 | apply IsS129.set_2 | refine IsS129.far ?_ NB0_177.out _) | exact HI0.out))) : gb178 ≠ g)); clear HI0; clear BK177; clear HK; clear HB; have HI0 := n0_; have BK177 := n1_; have HK := n2_; have HB := n3_; have BK178 := n4_; have GW178 := n5_; have GE178 := n6_; have NB177_178 := n7_; have NB178_177 := n8_; have NB0_178 := n9_; have NB178_0 := n10_; clear n0_ n1_ n2_ n3_ n4_ n5_ n6_ n7_ n8_ n9_ n10_; clear hb hbox hg) | ((with_reducible refine gate_callee (f := 65) rfl ?_); refine goesL_ (some 5) rfl rfl Tryd.func65 (by kernel_rfl) rfl #[.pointer (some ⟨g, 0, none⟩)] rfl (by (try simp only [List.map_toArray, List.map_cons, List.map_nil]); first | done | rfl | (simp only [List.length_drop, List.length_take]; rfl)) ?_; (with_reducible refine (pack_Reader_Int.calls k g s0_0 s0_1 s0_2 t179 t180 t181 t182 w0 _ ?side1 ?side2 A2.out).mono ?_); (case side1 => repeat (first | (with_reducible first | exact HI0.out | apply IsS129.alloc | apply IsS129.drewN | apply IsS129.drew | apply IsS129.set_0 | apply IsS129.set_1 | apply IsS129.set_2 | refine IsS129.far ?_ NB0_177.out _ | refine IsS129.far ?_ NB0_178.out _) | exact HI0.out)); (case side2 => repeat (first | (with_reducible first | exact HB.out | apply below_alloc | apply pw_below_drewN | apply below_drew1 | refine below_set ?_ (IsS129.ge HI0.out) | refine below_set ?_ GE177.out | refine below_set ?_ GE178.out) | exact HB.out)); rintro e w9 ⟨rfl, hi, hb, hk⟩; refine ⟨_, rfl, ?_⟩; have n0_ := Aside0.mk (KeepBut.blk hk (g' := gb177) (o := .cells #[.int .i64 0, .int .i64 0, .string (⟨#[]⟩ : ByteArray)] 70 (0, 0)) (by (with_reducible repeat (first | refine blk_drewN ?_ _ | refine blk_drew ?_ | refine blk_alloc ?_ _)); exact BK177.out) NB177_0.out (by simp)); have n1_ := Aside0.mk (KeepBut.blk hk (g' := gb178) (o := .cells #[.int .i64 0, .int .i64 0, .string (⟨#[]⟩ : ByteArray)] 70 (0, 0)) (by (with_reducible repeat (first | refine blk_drewN ?_ _ | refine blk_drew ?_ | refine blk_alloc ?_ _)); exact BK178.out) NB178_0.out (by simp)); have n2_ := Aside0.mk (KeepBut.trans (by repeat (first | (with_reducible first | exact HK.out | apply KeepBut.set_ | apply keep_drewN | apply keep_drew | apply keep_alloc | refine keep_far ?_ GW177.out _ | refine keep_far ?_ GW178.out _) | exact HK.out)) hk (.inl rfl)); have n3_ := Aside0.mk (hb); have n4_ := Aside0.mk (hi); clear BK177; clear BK178; clear HK; clear HB; clear HI0; have BK177 := n0_; have BK178 := n1_; have HK := n2_; have HB := n3_; have HI0 := n4_; clear n0_ n1_ n2_ n3_ n4_; (try clear hb); (try clear hb2); (try clear hk); (try clear hi); have hnb10 := NB178_177.out; have hnc10 := NB177_178.out; have hnb11 := NB178_0.out; have hnc11 := NB0_178.out; have hcz12_0 : w9.cell? ⟨gb178, 0, none⟩ = some (.int .i64 0) := (blk_cell BK178.out 0).trans rfl; have hcz12_1 : w9.cell? ⟨gb178, 1, none⟩ = some (.int .i64 0) := (blk_cell BK178.out 1).trans rfl; have hcz12_2 : w9.cell? ⟨gb178, 2, none⟩ = some (.string (⟨#[]⟩ : ByteArray)) := (blk_cell BK178.out 2).trans rfl; have hfz12_0 := blk_frozen BK178.out 0; have hfz12_1 := blk_frozen BK178.out 1; have hfz12_2 := blk_frozen BK178.out 2) | ((with_reducible refine gate_callee (f := 65) rfl ?_); refine goesL_ (some 8) rfl rfl Tryd.func65 (by kernel_rfl) rfl #[.pointer (some ⟨g, 0, none⟩)] rfl (by (try simp only [List.map_toArray, List.map_cons, List.map_nil]); first | done | rfl | (simp only [List.length_drop, List.length_take]; rfl)) ?_; (with_reducible refine (pack_Reader_Int.calls k g t180 t181 t182 t183 t184 t185 t186 w0 _ ?side1 ?side2 A3.out).mono ?_); (case side1 => repeat (first | (with_reducible first | exact HI0.out | apply IsS129.alloc | apply IsS129.drewN | apply IsS129.drew | apply IsS129.set_0 | apply IsS129.set_1 | apply IsS129.set_2 | refine IsS129.far ?_ NB0_177.out _ | refine IsS129.far ?_ NB0_178.out _) | exact HI0.out)); (case side2 => repeat (first | (with_reducible first | exact HB.out | apply below_alloc | apply pw_below_drewN | apply below_drew1 | refine below_set ?_ (IsS129.ge HI0.out) | refine below_set ?_ GE177.out | refine below_set ?_ GE178.out) | exact HB.out)); rintro e w13 ⟨rfl, hi, hb, hk⟩; refine ⟨_, rfl, ?_⟩; have n0_ := Aside0.mk (KeepBut.blk hk (g' := gb177) (o := .cells #[.int .i64 0, .int .i64 0, .string (⟨#[]⟩ : ByteArray)] 70 (0, 0)) (by (with_reducible repeat (first | refine blk_drewN ?_ _ | refine blk_drew ?_ | refine blk_alloc ?_ _)); refine blk_far ?_ NB177_178.out _; (with_reducible repeat (first | refine blk_drewN ?_ _ | refine blk_drew ?_ | refine blk_alloc ?_ _)); exact BK177.out) NB177_0.out (by simp)); have n1_ := Aside0.mk (KeepBut.blk hk (g' := gb178) (o := .cells #[.int .i64 t179, .int .i64 0, .string (⟨#[]⟩ : ByteArray)] 70 (0, 0)) (by (with_reducible repeat (first | refine blk_drewN ?_ _ | refine blk_drew ?_ | refine blk_alloc ?_ _)); refine blk_put (cs := #[.int .i64 0, .int .i64 0, .string (⟨#[]⟩ : ByteArray)]) ?_ 0 _ rfl; (with_reducible repeat (first | refine blk_drewN ?_ _ | refine blk_drew ?_ | refine blk_alloc ?_ _)); exact BK178.out) NB178_0.out (by simp)); have n2_ := Aside0.mk (KeepBut.trans (by repeat (first | (with_reducible first | exact HK.out | apply KeepBut.set_ | apply keep_drewN | apply keep_drew | apply keep_alloc | refine keep_far ?_ GW177.out _ | refine keep_far ?_ GW178.out _) | exact HK.out)) hk (.inl rfl)); have n3_ := Aside0.mk (hb); have n4_ := Aside0.mk (hi); clear BK177; clear BK178; clear HK; clear HB; clear HI0; have BK177 := n0_; have BK178 := n1_; have HK := n2_; have HB := n3_; have HI0 := n4_; clear n0_ n1_ n2_ n3_ n4_; (try clear hb); (try clear hb2); (try clear hk); (try clear hi); have hcz14_0 : w13.cell? ⟨gb178, 0, none⟩ = some (.int .i64 t179) := (blk_cell BK178.out 0).trans rfl; have hcz14_1 : w13.cell? ⟨gb178, 1, none⟩ = some (.int .i64 0) := (blk_cell BK178.out 1).trans rfl; have hcz14_2 : w13.cell? ⟨gb178, 2, none⟩ = some (.string (⟨#[]⟩ : ByteArray)) := (blk_cell BK178.out 2).trans rfl; have hfz14_0 := blk_frozen BK178.out 0; have hfz14_1 := blk_frozen BK178.out 1; have hfz14_2 := blk_frozen BK178.out 2) | ((with_reducible refine gate_callee (f := 68) rfl ?_); refine goesL_ (some 11) rfl rfl Tryd.func68 (by kernel_rfl) rfl #[.pointer (some ⟨g, 0, none⟩)] rfl (by (try simp only [List.map_toArray, List.map_cons, List.map_nil]); first | done | rfl | (simp only [List.length_drop, List.length_take]; rfl)) ?_; (with_reducible refine (pack_Reader_Str.calls k g t184 t185 t186 t187 t188 t189 t190 w0 _ ?side1 ?side2 A4.out).mono ?_); (case side1 => repeat (first | (with_reducible first | exact HI0.out | apply IsS129.alloc | apply IsS129.drewN | apply IsS129.drew | apply IsS129.set_0 | apply IsS129.set_1 | apply IsS129.set_2 | refine IsS129.far ?_ NB0_177.out _ | refine IsS129.far ?_ NB0_178.out _) | exact HI0.out)); (case side2 => repeat (first | (with_reducible first | exact HB.out | apply below_alloc | apply pw_below_drewN | apply below_drew1 | refine below_set ?_ (IsS129.ge HI0.out) | refine below_set ?_ GE177.out | refine below_set ?_ GE178.out) | exact HB.out)); rintro e w15 ⟨rfl, hi, hb, hk⟩; refine ⟨_, rfl, ?_⟩; have n0_ := Aside0.mk (KeepBut.blk hk (g' := gb177) (o := .cells #[.int .i64 0, .int .i64 0, .string (⟨#[]⟩ : ByteArray)] 70 (0, 0)) (by (with_reducible repeat (first | refine blk_drewN ?_ _ | refine blk_drew ?_ | refine blk_alloc ?_ _)); refine blk_far ?_ NB177_178.out _; (with_reducible repeat (first | refine blk_drewN ?_ _ | refine blk_drew ?_ | refine blk_alloc ?_ _)); exact BK177.out) NB177_0.out (by simp)); have n1_ := Aside0.mk (KeepBut.blk hk (g' := gb178) (o := .cells #[.int .i64 t179, .int .i64 t183, .string (⟨#[]⟩ : ByteArray)] 70 (0, 0)) (by (with_reducible repeat (first | refine blk_drewN ?_ _ | refine blk_drew ?_ | refine blk_alloc ?_ _)); refine blk_put (cs := #[.int .i64 t179, .int .i64 0, .string (⟨#[]⟩ : ByteArray)]) ?_ 1 _ rfl; (with_reducible repeat (first | refine blk_drewN ?_ _ | refine blk_drew ?_ | refine blk_alloc ?_ _)); exact BK178.out) NB178_0.out (by simp)); have n2_ := Aside0.mk (KeepBut.trans (by repeat (first | (with_reducible first | exact HK.out | apply KeepBut.set_ | apply keep_drewN | apply keep_drew | apply keep_alloc | refine keep_far ?_ GW177.out _ | refine keep_far ?_ GW178.out _) | exact HK.out)) hk (.inl rfl)); have n3_ := Aside0.mk (hb); have n4_ := Aside0.mk (hi); clear BK177; clear BK178; clear HK; clear HB; clear HI0; have BK177 := n0_; have BK178 := n1_; have HK := n2_; have HB := n3_; have HI0 := n4_; clear n0_ n1_ n2_ n3_ n4_; (try clear hb); (try clear hb2); (try clear hk); (try clear hi); have hcz16_0 : w15.cell? ⟨gb178, 0, none⟩ = some (.int .i64 t179) := (blk_cell BK178.out 0).trans rfl; have hcz16_1 : w15.cell? ⟨gb178, 1, none⟩ = some (.int .i64 t183) := (blk_cell BK178.out 1).trans rfl; have hcz16_2 : w15.cell? ⟨gb178, 2, none⟩ = some (.string (⟨#[]⟩ : ByteArray)) := (blk_cell BK178.out 2).trans rfl; have hfz16_0 := blk_frozen BK178.out 0; have hfz16_1 := blk_frozen BK178.out 1; have hfz16_2 := blk_frozen BK178.out 2) | ((with_reducible refine gate_callee (f := 113) rfl ?_); refine goesL_ (some 14) rfl rfl Tryd.func113 (by kernel_rfl) rfl #[.agg #[.int .i64 t179, .int .i64 t183, .string t187]] rfl (by (try simp only [List.map_toArray, List.map_cons, List.map_nil]); first | done | rfl | (simp only [List.length_drop, List.length_take]; rfl)) ?_; (with_reducible refine (value_Good.calls t179 t183 t187 true _ A5.out).mono ?_); rintro e w17 ⟨rfl, hb⟩; refine ⟨_, rfl, ?_⟩; have n0_ := Aside0.mk (IsS129.below (show IsS129 w0 (w15.setCell ⟨gb178, 2, none⟩ (.string t187)) g t188 t189 t190 from by repeat (first | (with_reducible first | exact HI0.out | apply IsS129.alloc | apply IsS129.drewN | apply IsS129.drew | apply IsS129.set_0 | apply IsS129.set_1 | apply IsS129.set_2 | refine IsS129.far ?_ NB0_177.out _ | refine IsS129.far ?_ NB0_178.out _) | exact HI0.out)) hb); have n1_ := Aside0.mk (blk_below (g := gb177) (o := .cells #[.int .i64 0, .int .i64 0, .string (⟨#[]⟩ : ByteArray)] 70 (0, 0)) (by (with_reducible repeat (first | refine blk_drewN ?_ _ | refine blk_drew ?_ | refine blk_alloc ?_ _)); refine blk_far ?_ NB177_178.out _; (with_reducible repeat (first | refine blk_drewN ?_ _ | refine blk_drew ?_ | refine blk_alloc ?_ _)); exact BK177.out) hb); have n2_ := Aside0.mk (blk_below (g := gb178) (o := .cells #[.int .i64 t179, .int .i64 t183, .string t187] 70 (0, 0)) (by (with_reducible repeat (first | refine blk_drewN ?_ _ | refine blk_drew ?_ | refine blk_alloc ?_ _)); refine blk_put (cs := #[.int .i64 t179, .int .i64 t183, .string (⟨#[]⟩ : ByteArray)]) ?_ 2 _ rfl; (with_reducible repeat (first | refine blk_drewN ?_ _ | refine blk_drew ?_ | refine blk_alloc ?_ _)); exact BK178.out) hb); have n3_ := Aside0.mk (KeepBut.trans (by repeat (first | (with_reducible first | exact HK.out | apply KeepBut.set_ | apply keep_drewN | apply keep_drew | apply keep_alloc | refine keep_far ?_ GW177.out _ | refine keep_far ?_ GW178.out _) | exact HK.out)) (KeepBut.of_below hb g none) (.inl rfl)); have n4_ := Aside0.mk (below_step (by repeat (first | (with_reducible first | exact HB.out | apply below_alloc | apply pw_below_drewN | apply below_drew1 | refine below_set ?_ (IsS129.ge HI0.out) | refine below_set ?_ GE177.out | refine below_set ?_ GE178.out) | exact HB.out)) hb); clear HI0; clear BK177; clear BK178; clear HK; clear HB; have HI0 := n0_; have BK177 := n1_; have BK178 := n2_; have HK := n3_; have HB := n4_; clear n0_ n1_ n2_ n3_ n4_; (try clear hb); (try clear hb2); (try clear hk); (try clear hi); have hcz18_0 : w17.cell? ⟨gb178, 0, none⟩ = some (.int .i64 t179) := (blk_cell BK178.out 0).trans rfl; have hcz18_1 : w17.cell? ⟨gb178, 1, none⟩ = some (.int .i64 t183) := (blk_cell BK178.out 1).trans rfl; have hcz18_2 : w17.cell? ⟨gb178, 2, none⟩ = some (.string t187) := (blk_cell BK178.out 2).trans rfl; have hfz18_0 := blk_frozen BK178.out 0; have hfz18_1 := blk_frozen BK178.out 1; have hfz18_2 := blk_frozen BK178.out 2; have hnb19 := NB177_0.out; have hnc19 := NB0_177.out; have hcz20_0 : w17.cell? ⟨gb177, 0, none⟩ = some (.int .i64 0) := (blk_cell BK177.out 0).trans rfl; have hcz20_1 : w17.cell? ⟨gb177, 1, none⟩ = some (.int .i64 0) := (blk_cell BK177.out 1).trans rfl; have hcz20_2 : w17.cell? ⟨gb177, 2, none⟩ = some (.string (⟨#[]⟩ : ByteArray)) := (blk_cell BK177.out 2).trans rfl; have hfz20_0 := blk_frozen BK177.out 0; have hfz20_1 := blk_frozen BK177.out 1; have hfz20_2 := blk_frozen BK177.out 2))
  refine bodyPost_ret (results_cell_row rfl _ _ gb177 70 #[.int .i64 t179, .int .i64 t183, .string t187] (0, 0) _ rfl (by (with_reducible repeat (first | refine blk_drewN ?_ _ | refine blk_drew ?_ | refine blk_alloc ?_ _)); refine blk_put (cs := #[.int .i64 t179, .int .i64 t183, .string (⟨#[]⟩ : ByteArray)]) ?_ 2 _ rfl; (with_reducible repeat (first | refine blk_drewN ?_ _ | refine blk_drew ?_ | refine blk_alloc ?_ _)); refine blk_put (cs := #[.int .i64 t179, .int .i64 0, .string (⟨#[]⟩ : ByteArray)]) ?_ 1 _ rfl; (with_reducible repeat (first | refine blk_drewN ?_ _ | refine blk_drew ?_ | refine blk_alloc ?_ _)); refine blk_put (cs := #[.int .i64 0, .int .i64 0, .string (⟨#[]⟩ : ByteArray)]) ?_ 0 _ rfl; (with_reducible repeat (first | refine blk_drewN ?_ _ | refine blk_drew ?_ | refine blk_alloc ?_ _)); exact BK177.out) Tryd.underlying70 rfl (by kernel_rfl)) rfl ?_
  exact ⟨by first | rfl | (simp [errW_none, errW_some] <;> rfl) | (simp [*, errW_none, errW_some] <;> rfl), by repeat (first | (with_reducible first | exact HI0.out | apply IsS129.alloc | apply IsS129.drewN | apply IsS129.drew | apply IsS129.set_0 | apply IsS129.set_1 | apply IsS129.set_2 | refine IsS129.far ?_ NB0_177.out _ | refine IsS129.far ?_ NB0_178.out _) | exact HI0.out), by repeat (first | (with_reducible first | exact HB.out | apply below_alloc | apply pw_below_drewN | apply below_drew1 | refine below_set ?_ (IsS129.ge HI0.out) | refine below_set ?_ GE177.out | refine below_set ?_ GE178.out) | exact HB.out), by repeat (first | (with_reducible first | exact HK.out | apply KeepBut.set_ | apply keep_drewN | apply keep_drew | apply keep_alloc | refine keep_far ?_ GW177.out _ | refine keep_far ?_ GW178.out _) | exact HK.out)⟩
 ·replace c6 := Bool.eq_false_iff.mpr c6
  subst c6
  have H1 : ((pack_Reader_Many.f k t188 t189 t190 (-1)).bind fun bt192 => (some (0, 0, (⟨#[]⟩ : ByteArray), bt192.2.1, bt192.2.2.1, bt192.2.2.2))) = some (r1, r2, r3, r4, r5, r6) := by rw [if_neg (show ¬ (false = true) by decide)] at H; exact H
  clear H
  have H := H1
  clear H1
  replace H := Option.bind_eq_some_iff.mp H
  obtain ⟨⟨t192, t193, t194, t195⟩, A210, H⟩ := H
  replace H : (some (0, 0, (⟨#[]⟩ : ByteArray), t193, t194, t195)) = some (r1, r2, r3, r4, r5, r6) := H
  have A21 := Aside0.mk A210
  clear A210
  simp only [Option.some.injEq, Prod.mk.injEq] at H
  obtain ⟨rfl, rfl, rfl, rfl, rfl, rfl⟩ := H
  go_enter Tryd.func117, Tryd.ntmps117
  go_wp2_with (first | ((with_reducible refine gate_dst (N := 2) rfl ?_); refine box_event ?hg (N := 2) ?hd (cs := #[.int .i64 0, .int .i64 0, .string (⟨#[]⟩ : ByteArray)]) (t := 70) ?hr ?_; (case hd => rfl); (case hg => rfl); (case hr => first | (go_simp; done) | (go_simp; rfl)); intro gb177 hg w22 hbox hb; have n0_ := Aside0.mk (IsS129.below (by repeat (first | (with_reducible first | exact HI0.out | apply IsS129.alloc | apply IsS129.drewN | apply IsS129.drew | apply IsS129.set_0 | apply IsS129.set_1 | apply IsS129.set_2) | exact HI0.out)) hb); have n1_ := Aside0.mk (KeepBut.trans (by repeat (first | (with_reducible first | exact HK.out | apply KeepBut.set_ | apply keep_drewN | apply keep_drew | apply keep_alloc) | exact HK.out)) (KeepBut.of_below hb g none) (.inl rfl)); have n2_ := Aside0.mk (below_step (by repeat (first | (with_reducible first | exact HB.out | apply below_alloc | apply pw_below_drewN | apply below_drew1 | refine below_set ?_ (IsS129.ge HI0.out)) | exact HB.out)) hb); have n3_ := Aside0.mk (hbox); have n4_ := Aside0.mk ((by rw [hg]; exact (keep_size (w := w) (g := g) (row := none) (by repeat (first | (with_reducible first | exact HK.out | apply KeepBut.set_ | apply keep_drewN | apply keep_drew | apply keep_alloc) | exact HK.out))) : w.heap.size ≤ gb177)); have n5_ := Aside0.mk ((Nat.le_trans HW0.out (by rw [hg]; exact (keep_size (w := w) (g := g) (row := none) (by repeat (first | (with_reducible first | exact HK.out | apply KeepBut.set_ | apply keep_drewN | apply keep_drew | apply keep_alloc) | exact HK.out))) : w.heap.size ≤ gb177) : w0.heap.size ≤ gb177)); have n6_ := Aside0.mk ((by rw [hg]; exact Nat.ne_of_lt (IsS129.lt (show IsS129 w0 _ g s0_0 s0_1 s0_2 from by repeat (first | (with_reducible first | exact HI0.out | apply IsS129.alloc | apply IsS129.drewN | apply IsS129.drew | apply IsS129.set_0 | apply IsS129.set_1 | apply IsS129.set_2) | exact HI0.out))) : g ≠ gb177)); have n7_ := Aside0.mk ((by rw [hg]; exact Nat.ne_of_gt (IsS129.lt (show IsS129 w0 _ g s0_0 s0_1 s0_2 from by repeat (first | (with_reducible first | exact HI0.out | apply IsS129.alloc | apply IsS129.drewN | apply IsS129.drew | apply IsS129.set_0 | apply IsS129.set_1 | apply IsS129.set_2) | exact HI0.out))) : gb177 ≠ g)); clear HI0; clear HK; clear HB; have HI0 := n0_; have HK := n1_; have HB := n2_; have BK177 := n3_; have GW177 := n4_; have GE177 := n5_; have NB0_177 := n6_; have NB177_0 := n7_; clear n0_ n1_ n2_ n3_ n4_ n5_ n6_ n7_; clear hb hbox hg) | ((with_reducible refine gate_dst (N := 3) rfl ?_); refine box_event ?hg (N := 3) ?hd (cs := #[.int .i64 0, .int .i64 0, .string (⟨#[]⟩ : ByteArray)]) (t := 70) ?hr ?_; (case hd => rfl); (case hg => rfl); (case hr => first | (go_simp; done) | (go_simp; rfl)); intro gb178 hg w23 hbox hb; have n0_ := Aside0.mk (IsS129.below (by repeat (first | (with_reducible first | exact HI0.out | apply IsS129.alloc | apply IsS129.drewN | apply IsS129.drew | apply IsS129.set_0 | apply IsS129.set_1 | apply IsS129.set_2 | refine IsS129.far ?_ NB0_177.out _) | exact HI0.out)) hb); have n1_ := Aside0.mk (blk_below (g := gb177) (o := .cells #[.int .i64 0, .int .i64 0, .string (⟨#[]⟩ : ByteArray)] 70 (0, 0)) (by (with_reducible repeat (first | refine blk_drewN ?_ _ | refine blk_drew ?_ | refine blk_alloc ?_ _)); exact BK177.out) hb); have n2_ := Aside0.mk (KeepBut.trans (by repeat (first | (with_reducible first | exact HK.out | apply KeepBut.set_ | apply keep_drewN | apply keep_drew | apply keep_alloc | refine keep_far ?_ GW177.out _) | exact HK.out)) (KeepBut.of_below hb g none) (.inl rfl)); have n3_ := Aside0.mk (below_step (by repeat (first | (with_reducible first | exact HB.out | apply below_alloc | apply pw_below_drewN | apply below_drew1 | refine below_set ?_ (IsS129.ge HI0.out) | refine below_set ?_ GE177.out) | exact HB.out)) hb); have n4_ := Aside0.mk (hbox); have n5_ := Aside0.mk ((by rw [hg]; exact (keep_size (w := w) (g := g) (row := none) (by repeat (first | (with_reducible first | exact HK.out | apply KeepBut.set_ | apply keep_drewN | apply keep_drew | apply keep_alloc | refine keep_far ?_ GW177.out _) | exact HK.out))) : w.heap.size ≤ gb178)); have n6_ := Aside0.mk ((Nat.le_trans HW0.out (by rw [hg]; exact (keep_size (w := w) (g := g) (row := none) (by repeat (first | (with_reducible first | exact HK.out | apply KeepBut.set_ | apply keep_drewN | apply keep_drew | apply keep_alloc | refine keep_far ?_ GW177.out _) | exact HK.out))) : w.heap.size ≤ gb178) : w0.heap.size ≤ gb178)); have n7_ := Aside0.mk ((by rw [hg]; exact Nat.ne_of_lt (blk_lt (g := gb177) (o := .cells #[.int .i64 0, .int .i64 0, .string (⟨#[]⟩ : ByteArray)] 70 (0, 0)) (by (with_reducible repeat (first | refine blk_drewN ?_ _ | refine blk_drew ?_ | refine blk_alloc ?_ _)); exact BK177.out)) : gb177 ≠ gb178)); have n8_ := Aside0.mk ((by rw [hg]; exact Nat.ne_of_gt (blk_lt (g := gb177) (o := .cells #[.int .i64 0, .int .i64 0, .string (⟨#[]⟩ : ByteArray)] 70 (0, 0)) (by (with_reducible repeat (first | refine blk_drewN ?_ _ | refine blk_drew ?_ | refine blk_alloc ?_ _)); exact BK177.out)) : gb178 ≠ gb177)); have n9_ := Aside0.mk ((by rw [hg]; exact Nat.ne_of_lt (IsS129.lt (show IsS129 w0 _ g s0_0 s0_1 s0_2 from by repeat (first | (with_reducible first | exact HI0.out | apply IsS129.alloc | apply IsS129.drewN | apply IsS129.drew | apply IsS129.set_0 | apply IsS129.set_1 | apply IsS129.set_2 | refine IsS129.far ?_ NB0_177.out _) | exact HI0.out))) : g ≠ gb178)); have n10_ := Aside0.mk ((by rw [hg]; exact Nat.ne_of_gt (IsS129.lt (show IsS129 w0 _ g s0_0 s0_1 s0_2 from by repeat (first | (with_reducible first | exact HI0.out | apply IsS129.alloc | apply IsS129.drewN | apply IsS129.drew | apply IsS129.set_0 | apply IsS129.set_1 | apply IsS129.set_2 | refine IsS129.far ?_ NB0_177.out _) | exact HI0.out))) : gb178 ≠ g)); clear HI0; clear BK177; clear HK; clear HB; have HI0 := n0_; have BK177 := n1_; have HK := n2_; have HB := n3_; have BK178 := n4_; have GW178 := n5_; have GE178 := n6_; have NB177_178 := n7_; have NB178_177 := n8_; have NB0_178 := n9_; have NB178_0 := n10_; clear n0_ n1_ n2_ n3_ n4_ n5_ n6_ n7_ n8_ n9_ n10_; clear hb hbox hg) | ((with_reducible refine gate_callee (f := 65) rfl ?_); refine goesL_ (some 5) rfl rfl Tryd.func65 (by kernel_rfl) rfl #[.pointer (some ⟨g, 0, none⟩)] rfl (by (try simp only [List.map_toArray, List.map_cons, List.map_nil]); first | done | rfl | (simp only [List.length_drop, List.length_take]; rfl)) ?_; (with_reducible refine (pack_Reader_Int.calls k g s0_0 s0_1 s0_2 t179 t180 t181 t182 w0 _ ?side1 ?side2 A2.out).mono ?_); (case side1 => repeat (first | (with_reducible first | exact HI0.out | apply IsS129.alloc | apply IsS129.drewN | apply IsS129.drew | apply IsS129.set_0 | apply IsS129.set_1 | apply IsS129.set_2 | refine IsS129.far ?_ NB0_177.out _ | refine IsS129.far ?_ NB0_178.out _) | exact HI0.out)); (case side2 => repeat (first | (with_reducible first | exact HB.out | apply below_alloc | apply pw_below_drewN | apply below_drew1 | refine below_set ?_ (IsS129.ge HI0.out) | refine below_set ?_ GE177.out | refine below_set ?_ GE178.out) | exact HB.out)); rintro e w24 ⟨rfl, hi, hb, hk⟩; refine ⟨_, rfl, ?_⟩; have n0_ := Aside0.mk (KeepBut.blk hk (g' := gb177) (o := .cells #[.int .i64 0, .int .i64 0, .string (⟨#[]⟩ : ByteArray)] 70 (0, 0)) (by (with_reducible repeat (first | refine blk_drewN ?_ _ | refine blk_drew ?_ | refine blk_alloc ?_ _)); exact BK177.out) NB177_0.out (by simp)); have n1_ := Aside0.mk (KeepBut.blk hk (g' := gb178) (o := .cells #[.int .i64 0, .int .i64 0, .string (⟨#[]⟩ : ByteArray)] 70 (0, 0)) (by (with_reducible repeat (first | refine blk_drewN ?_ _ | refine blk_drew ?_ | refine blk_alloc ?_ _)); exact BK178.out) NB178_0.out (by simp)); have n2_ := Aside0.mk (KeepBut.trans (by repeat (first | (with_reducible first | exact HK.out | apply KeepBut.set_ | apply keep_drewN | apply keep_drew | apply keep_alloc | refine keep_far ?_ GW177.out _ | refine keep_far ?_ GW178.out _) | exact HK.out)) hk (.inl rfl)); have n3_ := Aside0.mk (hb); have n4_ := Aside0.mk (hi); clear BK177; clear BK178; clear HK; clear HB; clear HI0; have BK177 := n0_; have BK178 := n1_; have HK := n2_; have HB := n3_; have HI0 := n4_; clear n0_ n1_ n2_ n3_ n4_; (try clear hb); (try clear hb2); (try clear hk); (try clear hi); have hnb25 := NB178_177.out; have hnc25 := NB177_178.out; have hnb26 := NB178_0.out; have hnc26 := NB0_178.out; have hcz27_0 : w24.cell? ⟨gb178, 0, none⟩ = some (.int .i64 0) := (blk_cell BK178.out 0).trans rfl; have hcz27_1 : w24.cell? ⟨gb178, 1, none⟩ = some (.int .i64 0) := (blk_cell BK178.out 1).trans rfl; have hcz27_2 : w24.cell? ⟨gb178, 2, none⟩ = some (.string (⟨#[]⟩ : ByteArray)) := (blk_cell BK178.out 2).trans rfl; have hfz27_0 := blk_frozen BK178.out 0; have hfz27_1 := blk_frozen BK178.out 1; have hfz27_2 := blk_frozen BK178.out 2) | ((with_reducible refine gate_callee (f := 65) rfl ?_); refine goesL_ (some 8) rfl rfl Tryd.func65 (by kernel_rfl) rfl #[.pointer (some ⟨g, 0, none⟩)] rfl (by (try simp only [List.map_toArray, List.map_cons, List.map_nil]); first | done | rfl | (simp only [List.length_drop, List.length_take]; rfl)) ?_; (with_reducible refine (pack_Reader_Int.calls k g t180 t181 t182 t183 t184 t185 t186 w0 _ ?side1 ?side2 A3.out).mono ?_); (case side1 => repeat (first | (with_reducible first | exact HI0.out | apply IsS129.alloc | apply IsS129.drewN | apply IsS129.drew | apply IsS129.set_0 | apply IsS129.set_1 | apply IsS129.set_2 | refine IsS129.far ?_ NB0_177.out _ | refine IsS129.far ?_ NB0_178.out _) | exact HI0.out)); (case side2 => repeat (first | (with_reducible first | exact HB.out | apply below_alloc | apply pw_below_drewN | apply below_drew1 | refine below_set ?_ (IsS129.ge HI0.out) | refine below_set ?_ GE177.out | refine below_set ?_ GE178.out) | exact HB.out)); rintro e w28 ⟨rfl, hi, hb, hk⟩; refine ⟨_, rfl, ?_⟩; have n0_ := Aside0.mk (KeepBut.blk hk (g' := gb177) (o := .cells #[.int .i64 0, .int .i64 0, .string (⟨#[]⟩ : ByteArray)] 70 (0, 0)) (by (with_reducible repeat (first | refine blk_drewN ?_ _ | refine blk_drew ?_ | refine blk_alloc ?_ _)); refine blk_far ?_ NB177_178.out _; (with_reducible repeat (first | refine blk_drewN ?_ _ | refine blk_drew ?_ | refine blk_alloc ?_ _)); exact BK177.out) NB177_0.out (by simp)); have n1_ := Aside0.mk (KeepBut.blk hk (g' := gb178) (o := .cells #[.int .i64 t179, .int .i64 0, .string (⟨#[]⟩ : ByteArray)] 70 (0, 0)) (by (with_reducible repeat (first | refine blk_drewN ?_ _ | refine blk_drew ?_ | refine blk_alloc ?_ _)); refine blk_put (cs := #[.int .i64 0, .int .i64 0, .string (⟨#[]⟩ : ByteArray)]) ?_ 0 _ rfl; (with_reducible repeat (first | refine blk_drewN ?_ _ | refine blk_drew ?_ | refine blk_alloc ?_ _)); exact BK178.out) NB178_0.out (by simp)); have n2_ := Aside0.mk (KeepBut.trans (by repeat (first | (with_reducible first | exact HK.out | apply KeepBut.set_ | apply keep_drewN | apply keep_drew | apply keep_alloc | refine keep_far ?_ GW177.out _ | refine keep_far ?_ GW178.out _) | exact HK.out)) hk (.inl rfl)); have n3_ := Aside0.mk (hb); have n4_ := Aside0.mk (hi); clear BK177; clear BK178; clear HK; clear HB; clear HI0; have BK177 := n0_; have BK178 := n1_; have HK := n2_; have HB := n3_; have HI0 := n4_; clear n0_ n1_ n2_ n3_ n4_; (try clear hb); (try clear hb2); (try clear hk); (try clear hi); have hcz29_0 : w28.cell? ⟨gb178, 0, none⟩ = some (.int .i64 t179) := (blk_cell BK178.out 0).trans rfl; have hcz29_1 : w28.cell? ⟨gb178, 1, none⟩ = some (.int .i64 0) := (blk_cell BK178.out 1).trans rfl; have hcz29_2 : w28.cell? ⟨gb178, 2, none⟩ = some (.string (⟨#[]⟩ : ByteArray)) := (blk_cell BK178.out 2).trans rfl; have hfz29_0 := blk_frozen BK178.out 0; have hfz29_1 := blk_frozen BK178.out 1; have hfz29_2 := blk_frozen BK178.out 2) | ((with_reducible refine gate_callee (f := 68) rfl ?_); refine goesL_ (some 11) rfl rfl Tryd.func68 (by kernel_rfl) rfl #[.pointer (some ⟨g, 0, none⟩)] rfl (by (try simp only [List.map_toArray, List.map_cons, List.map_nil]); first | done | rfl | (simp only [List.length_drop, List.length_take]; rfl)) ?_; (with_reducible refine (pack_Reader_Str.calls k g t184 t185 t186 t187 t188 t189 t190 w0 _ ?side1 ?side2 A4.out).mono ?_); (case side1 => repeat (first | (with_reducible first | exact HI0.out | apply IsS129.alloc | apply IsS129.drewN | apply IsS129.drew | apply IsS129.set_0 | apply IsS129.set_1 | apply IsS129.set_2 | refine IsS129.far ?_ NB0_177.out _ | refine IsS129.far ?_ NB0_178.out _) | exact HI0.out)); (case side2 => repeat (first | (with_reducible first | exact HB.out | apply below_alloc | apply pw_below_drewN | apply below_drew1 | refine below_set ?_ (IsS129.ge HI0.out) | refine below_set ?_ GE177.out | refine below_set ?_ GE178.out) | exact HB.out)); rintro e w30 ⟨rfl, hi, hb, hk⟩; refine ⟨_, rfl, ?_⟩; have n0_ := Aside0.mk (KeepBut.blk hk (g' := gb177) (o := .cells #[.int .i64 0, .int .i64 0, .string (⟨#[]⟩ : ByteArray)] 70 (0, 0)) (by (with_reducible repeat (first | refine blk_drewN ?_ _ | refine blk_drew ?_ | refine blk_alloc ?_ _)); refine blk_far ?_ NB177_178.out _; (with_reducible repeat (first | refine blk_drewN ?_ _ | refine blk_drew ?_ | refine blk_alloc ?_ _)); exact BK177.out) NB177_0.out (by simp)); have n1_ := Aside0.mk (KeepBut.blk hk (g' := gb178) (o := .cells #[.int .i64 t179, .int .i64 t183, .string (⟨#[]⟩ : ByteArray)] 70 (0, 0)) (by (with_reducible repeat (first | refine blk_drewN ?_ _ | refine blk_drew ?_ | refine blk_alloc ?_ _)); refine blk_put (cs := #[.int .i64 t179, .int .i64 0, .string (⟨#[]⟩ : ByteArray)]) ?_ 1 _ rfl; (with_reducible repeat (first | refine blk_drewN ?_ _ | refine blk_drew ?_ | refine blk_alloc ?_ _)); exact BK178.out) NB178_0.out (by simp)); have n2_ := Aside0.mk (KeepBut.trans (by repeat (first | (with_reducible first | exact HK.out | apply KeepBut.set_ | apply keep_drewN | apply keep_drew | apply keep_alloc | refine keep_far ?_ GW177.out _ | refine keep_far ?_ GW178.out _) | exact HK.out)) hk (.inl rfl)); have n3_ := Aside0.mk (hb); have n4_ := Aside0.mk (hi); clear BK177; clear BK178; clear HK; clear HB; clear HI0; have BK177 := n0_; have BK178 := n1_; have HK := n2_; have HB := n3_; have HI0 := n4_; clear n0_ n1_ n2_ n3_ n4_; (try clear hb); (try clear hb2); (try clear hk); (try clear hi); have hcz31_0 : w30.cell? ⟨gb178, 0, none⟩ = some (.int .i64 t179) := (blk_cell BK178.out 0).trans rfl; have hcz31_1 : w30.cell? ⟨gb178, 1, none⟩ = some (.int .i64 t183) := (blk_cell BK178.out 1).trans rfl; have hcz31_2 : w30.cell? ⟨gb178, 2, none⟩ = some (.string (⟨#[]⟩ : ByteArray)) := (blk_cell BK178.out 2).trans rfl; have hfz31_0 := blk_frozen BK178.out 0; have hfz31_1 := blk_frozen BK178.out 1; have hfz31_2 := blk_frozen BK178.out 2) | ((with_reducible refine gate_callee (f := 113) rfl ?_); refine goesL_ (some 14) rfl rfl Tryd.func113 (by kernel_rfl) rfl #[.agg #[.int .i64 t179, .int .i64 t183, .string t187]] rfl (by (try simp only [List.map_toArray, List.map_cons, List.map_nil]); first | done | rfl | (simp only [List.length_drop, List.length_take]; rfl)) ?_; (with_reducible refine (value_Good.calls t179 t183 t187 false _ A5.out).mono ?_); rintro e w32 ⟨rfl, hb⟩; refine ⟨_, rfl, ?_⟩; have n0_ := Aside0.mk (IsS129.below (show IsS129 w0 (w30.setCell ⟨gb178, 2, none⟩ (.string t187)) g t188 t189 t190 from by repeat (first | (with_reducible first | exact HI0.out | apply IsS129.alloc | apply IsS129.drewN | apply IsS129.drew | apply IsS129.set_0 | apply IsS129.set_1 | apply IsS129.set_2 | refine IsS129.far ?_ NB0_177.out _ | refine IsS129.far ?_ NB0_178.out _) | exact HI0.out)) hb); have n1_ := Aside0.mk (blk_below (g := gb177) (o := .cells #[.int .i64 0, .int .i64 0, .string (⟨#[]⟩ : ByteArray)] 70 (0, 0)) (by (with_reducible repeat (first | refine blk_drewN ?_ _ | refine blk_drew ?_ | refine blk_alloc ?_ _)); refine blk_far ?_ NB177_178.out _; (with_reducible repeat (first | refine blk_drewN ?_ _ | refine blk_drew ?_ | refine blk_alloc ?_ _)); exact BK177.out) hb); have n2_ := Aside0.mk (blk_below (g := gb178) (o := .cells #[.int .i64 t179, .int .i64 t183, .string t187] 70 (0, 0)) (by (with_reducible repeat (first | refine blk_drewN ?_ _ | refine blk_drew ?_ | refine blk_alloc ?_ _)); refine blk_put (cs := #[.int .i64 t179, .int .i64 t183, .string (⟨#[]⟩ : ByteArray)]) ?_ 2 _ rfl; (with_reducible repeat (first | refine blk_drewN ?_ _ | refine blk_drew ?_ | refine blk_alloc ?_ _)); exact BK178.out) hb); have n3_ := Aside0.mk (KeepBut.trans (by repeat (first | (with_reducible first | exact HK.out | apply KeepBut.set_ | apply keep_drewN | apply keep_drew | apply keep_alloc | refine keep_far ?_ GW177.out _ | refine keep_far ?_ GW178.out _) | exact HK.out)) (KeepBut.of_below hb g none) (.inl rfl)); have n4_ := Aside0.mk (below_step (by repeat (first | (with_reducible first | exact HB.out | apply below_alloc | apply pw_below_drewN | apply below_drew1 | refine below_set ?_ (IsS129.ge HI0.out) | refine below_set ?_ GE177.out | refine below_set ?_ GE178.out) | exact HB.out)) hb); clear HI0; clear BK177; clear BK178; clear HK; clear HB; have HI0 := n0_; have BK177 := n1_; have BK178 := n2_; have HK := n3_; have HB := n4_; clear n0_ n1_ n2_ n3_ n4_; (try clear hb); (try clear hb2); (try clear hk); (try clear hi)) | ((with_reducible refine gate_callee (f := 66) rfl ?_); refine goesL_ (some 17) rfl rfl Tryd.func66 (by kernel_rfl) rfl #[.pointer (some ⟨g, 0, none⟩), .int .i64 (-1)] rfl (by (try simp only [List.map_toArray, List.map_cons, List.map_nil]); first | done | rfl | (simp only [List.length_drop, List.length_take]; rfl)) ?_; (with_reducible refine (pack_Reader_Many.calls k g t188 t189 t190 (-1) t192 t193 t194 t195 w0 _ ?side1 ?side2 A21.out).mono ?_); (case side1 => repeat (first | (with_reducible first | exact HI0.out | apply IsS129.alloc | apply IsS129.drewN | apply IsS129.drew | apply IsS129.set_0 | apply IsS129.set_1 | apply IsS129.set_2 | refine IsS129.far ?_ NB0_177.out _ | refine IsS129.far ?_ NB0_178.out _) | exact HI0.out)); (case side2 => repeat (first | (with_reducible first | exact HB.out | apply below_alloc | apply pw_below_drewN | apply below_drew1 | refine below_set ?_ (IsS129.ge HI0.out) | refine below_set ?_ GE177.out | refine below_set ?_ GE178.out) | exact HB.out)); rintro e w33 ⟨rfl, hi, hb, hk⟩; refine ⟨_, rfl, ?_⟩; have n0_ := Aside0.mk (KeepBut.blk hk (g' := gb177) (o := .cells #[.int .i64 0, .int .i64 0, .string (⟨#[]⟩ : ByteArray)] 70 (0, 0)) (by (with_reducible repeat (first | refine blk_drewN ?_ _ | refine blk_drew ?_ | refine blk_alloc ?_ _)); exact BK177.out) NB177_0.out (by simp)); have n1_ := Aside0.mk (KeepBut.blk hk (g' := gb178) (o := .cells #[.int .i64 t179, .int .i64 t183, .string t187] 70 (0, 0)) (by (with_reducible repeat (first | refine blk_drewN ?_ _ | refine blk_drew ?_ | refine blk_alloc ?_ _)); exact BK178.out) NB178_0.out (by simp)); have n2_ := Aside0.mk (KeepBut.trans (by repeat (first | (with_reducible first | exact HK.out | apply KeepBut.set_ | apply keep_drewN | apply keep_drew | apply keep_alloc | refine keep_far ?_ GW177.out _ | refine keep_far ?_ GW178.out _) | exact HK.out)) hk (.inl rfl)); have n3_ := Aside0.mk (hb); have n4_ := Aside0.mk (hi); clear BK177; clear BK178; clear HK; clear HB; clear HI0; have BK177 := n0_; have BK178 := n1_; have HK := n2_; have HB := n3_; have HI0 := n4_; clear n0_ n1_ n2_ n3_ n4_; (try clear hb); (try clear hb2); (try clear hk); (try clear hi); have hnb34 := NB177_0.out; have hnc34 := NB0_177.out; have hcz35_0 : w33.cell? ⟨gb177, 0, none⟩ = some (.int .i64 0) := (blk_cell BK177.out 0).trans rfl; have hcz35_1 : w33.cell? ⟨gb177, 1, none⟩ = some (.int .i64 0) := (blk_cell BK177.out 1).trans rfl; have hcz35_2 : w33.cell? ⟨gb177, 2, none⟩ = some (.string (⟨#[]⟩ : ByteArray)) := (blk_cell BK177.out 2).trans rfl; have hfz35_0 := blk_frozen BK177.out 0; have hfz35_1 := blk_frozen BK177.out 1; have hfz35_2 := blk_frozen BK177.out 2))
  refine bodyPost_ret (results_cell_row rfl _ _ gb177 70 #[.int .i64 0, .int .i64 0, .string (⟨#[]⟩ : ByteArray)] (0, 0) _ rfl (by (with_reducible repeat (first | refine blk_drewN ?_ _ | refine blk_drew ?_ | refine blk_alloc ?_ _)); refine blk_put (cs := #[.int .i64 0, .int .i64 0, .string (⟨#[]⟩ : ByteArray)]) ?_ 2 _ rfl; (with_reducible repeat (first | refine blk_drewN ?_ _ | refine blk_drew ?_ | refine blk_alloc ?_ _)); refine blk_put (cs := #[.int .i64 0, .int .i64 0, .string (⟨#[]⟩ : ByteArray)]) ?_ 1 _ rfl; (with_reducible repeat (first | refine blk_drewN ?_ _ | refine blk_drew ?_ | refine blk_alloc ?_ _)); refine blk_put (cs := #[.int .i64 0, .int .i64 0, .string (⟨#[]⟩ : ByteArray)]) ?_ 0 _ rfl; (with_reducible repeat (first | refine blk_drewN ?_ _ | refine blk_drew ?_ | refine blk_alloc ?_ _)); exact BK177.out) Tryd.underlying70 rfl (by kernel_rfl)) rfl ?_
  exact ⟨by first | rfl | (simp [errW_none, errW_some] <;> rfl) | (simp [*, errW_none, errW_some] <;> rfl), by repeat (first | (with_reducible first | exact HI0.out | apply IsS129.alloc | apply IsS129.drewN | apply IsS129.drew | apply IsS129.set_0 | apply IsS129.set_1 | apply IsS129.set_2 | refine IsS129.far ?_ NB0_177.out _ | refine IsS129.far ?_ NB0_178.out _) | exact HI0.out), by repeat (first | (with_reducible first | exact HB.out | apply below_alloc | apply pw_below_drewN | apply below_drew1 | refine below_set ?_ (IsS129.ge HI0.out) | refine below_set ?_ GE177.out | refine below_set ?_ GE178.out) | exact HB.out), by repeat (first | (with_reducible first | exact HK.out | apply KeepBut.set_ | apply keep_drewN | apply keep_drew | apply keep_alloc | refine keep_far ?_ GW177.out _ | refine keep_far ?_ GW178.out _) | exact HK.out)⟩
end Go.Proofs.YtefdfgmlmjnmlaaDoor.Rf
end

section
set_option linter.unusedVariables false
set_option linter.unusedSimpArgs false
namespace Go.Proofs.YtefdfgmlmjnmlaaDoor.Rf
open Go.RowKit Go.Proofs.YtefdfgmlmjnmlaaDoorW.PrintWords Go.Proofs.YtefdfgmlmjnmlaaDoorW.PrintLast Go.Proofs.YtefdfgmlmjnmlaaDoorW.PrintMore
mutual
def schema_take.j0 : Nat → Int → Int → Bool → ByteArray → Int → Bool → Int → Int → Int → Int → ByteArray → Option (Int × Int × Int × Int × ByteArray × (List (S72)) × ByteArray × Int × Bool)
 | 0, _, _, _, _, _, _, _, _, _, _, _ => none
 | k + 1, x1, x6, x23, x1000, x1001, x1002, x198000, x198001, x198002, x198003, x198004 => if x23 = true then ((pack_Reader_Many.f k x1000 x1001 x1002 (-1)).bind fun bt216 => (some (x198000, x198001, x198002, x198003, x198004, ([] : List (S72)), bt216.2.1, bt216.2.2.1, bt216.2.2.2))) else (schema_take.l0 k x1 x6 0 x1000 x1001 x1002 x198000 x198001 x198002 x198003 x198004 ([] : List (S72)))
def schema_take.l0 : Nat → Int → Int → Int → ByteArray → Int → Bool → Int → Int → Int → Int → ByteArray → List (S72) → Option (Int × Int × Int × Int × ByteArray × (List (S72)) × ByteArray × Int × Bool)
 | 0, _, _, _, _, _, _, _, _, _, _, _, _ => none
 | k + 1, x1, x27, x28, x1000, x1001, x1002, x198000, x198001, x198002, x198003, x198004, x198005 => if x28 < x27 then ((schema_take.f k x1000 x1001 x1002 (wrap64 (x1 - 1))).bind fun bt220 => (if x198005.length < 1954687338268 then (schema_take.l0 k x1 x27 (wrap64 (x28 + 1)) bt220.2.2.2.2.2.2.1 bt220.2.2.2.2.2.2.2.1 bt220.2.2.2.2.2.2.2.2 x198000 x198001 x198002 x198003 x198004 (x198005 ++ [(⟨bt220.1, bt220.2.1, (⟨bt220.2.2.1, bt220.2.2.2.1, bt220.2.2.2.2.1⟩ : S70), bt220.2.2.2.2.2.1⟩ : S72)])) else (none))) else (some (x198000, x198001, x198002, x198003, x198004, x198005, x1000, x1001, x1002))
def schema_take.f : Nat → ByteArray → Int → Bool → Int → Option (Int × Int × Int × Int × ByteArray × (List (S72)) × ByteArray × Int × Bool)
 | 0, _, _, _, _ => none
 | k + 1, s0_0, s0_1, s0_2, a1 => (pack_Reader_Int.f k s0_0 s0_1 s0_2).bind fun bt198 => ((pack_Reader_Int.f k bt198.2.1 bt198.2.2.1 bt198.2.2.2).bind fun bt202 => ((value_Take.f k bt202.2.1 bt202.2.2.1 bt202.2.2.2).bind fun bt206 => ((pack_Reader_Many.f k bt206.2.2.2.1 bt206.2.2.2.2.1 bt206.2.2.2.2.2 2).bind fun bt212 => (if bt212.1 > 0 then (schema_take.j0 k a1 bt212.1 (a1 == 0) bt212.2.1 bt212.2.2.1 bt212.2.2.2 bt198.1 bt202.1 bt206.1 bt206.2.1 bt206.2.2.1) else (schema_take.j0 k a1 bt212.1 false bt212.2.1 bt212.2.2.1 bt212.2.2.2 bt198.1 bt202.1 bt206.1 bt206.2.1 bt206.2.2.1)))))
end
def schema_take.T11 : Bool × List (List Nat × List Nat) := (true, [([], []), ([0], [0]), ([], []), ([], []), ([3], [3]), ([2, 4], [2, 4]), ([5], [5]), ([1, 6, 5], [1, 6]), ([0, 1, 2, 3, 4, 5, 6, 7], []), ([8, 7, 7, 0, 1, 2, 3, 4, 5, 6, 7], [7, 8])])
def schema_take.B11 : List Nat := [0, 1, 0, 0, 8, 28, 60, 127, 255, 511]
theorem schema_take.tab11 : rtab .any (opsOf Tryd.f97 11) = schema_take.T11 := by kernel_rfl
theorem schema_take.bits11 : waitsOk schema_take.T11.2 schema_take.B11 = true := by kernel_rfl
set_option maxHeartbeats 8000000 in
set_option maxRecDepth 100000 in
theorem schema_take.calls (k : Nat) : ∀ (g : Nat) (s0_0 : ByteArray) (s0_1 : Int) (s0_2 : Bool) (a1 : Int) (r1 : Int) (r2 : Int) (r3 : Int) (r4 : Int) (r5 : ByteArray) (r6 : List (S72)) (r7 : ByteArray) (r8 : Int) (r9 : Bool) (w0 w : World) (hI : IsS129 w0 w g s0_0 s0_1 s0_2) (hB : Below w0.heap.size w0 w) (h : schema_take.f k s0_0 s0_1 s0_2 a1 = some (r1, r2, r3, r4, r5, r6, r7, r8, r9)),
  Calls Tryd.prog 97 #[.pointer (some ⟨g, 0, none⟩), .int .i64 a1] w fun e w' => ∃ v5_ : Value, e = .returned (.agg #[.int .i64 r1, .int .i64 r2, .int .i64 r3, .int .i64 r4, .string r5, v5_]) ∧ Kd.R k72 72 w' w.heap.size (fun _ => True) v5_ r6 ∧ IsS129 w0 w' g r7 r8 r9 ∧ Below w0.heap.size w0 w' ∧ KeepBut w w' g none := by
 induction k using Nat.strongRecOn with
 | _ k ih =>
 intro g s0_0 s0_1 s0_2 a1 r1 r2 r3 r4 r5 r6 r7 r8 r9 w0 w hI hB h
 cases k with
 | zero => exact absurd h (by simp [schema_take.f])
 | succ k =>
 simp only [schema_take.f] at h
 have hu72 := Tryd.underlying72
 have hu70 := Tryd.underlying70
 have HI0 := Aside0.mk hI
 have HK := Aside0.mk (KeepBut.refl w g none)
 have HL := Aside0.mk hB.size
 clear hI
 have HW0 := Aside0.mk hB.size
 have HB := Aside0.mk hB
 clear hB
 have H : ((pack_Reader_Int.f k s0_0 s0_1 s0_2).bind fun bt198 => ((pack_Reader_Int.f k bt198.2.1 bt198.2.2.1 bt198.2.2.2).bind fun bt202 => ((value_Take.f k bt202.2.1 bt202.2.2.1 bt202.2.2.2).bind fun bt206 => ((pack_Reader_Many.f k bt206.2.2.2.1 bt206.2.2.2.2.1 bt206.2.2.2.2.2 2).bind fun bt212 => (if bt212.1 > 0 then (schema_take.j0 k a1 bt212.1 (a1 == 0) bt212.2.1 bt212.2.2.1 bt212.2.2.2 bt198.1 bt202.1 bt206.1 bt206.2.1 bt206.2.2.1) else (schema_take.j0 k a1 bt212.1 false bt212.2.1 bt212.2.2.1 bt212.2.2.2 bt198.1 bt202.1 bt206.1 bt206.2.1 bt206.2.2.1)))))) = some (r1, r2, r3, r4, r5, r6, r7, r8, r9) := h
 clear h
 replace H := Option.bind_eq_some_iff.mp H
 obtain ⟨⟨t198, t199, t200, t201⟩, A30, H⟩ := H
 replace H : ((pack_Reader_Int.f k t199 t200 t201).bind fun bt202 => ((value_Take.f k bt202.2.1 bt202.2.2.1 bt202.2.2.2).bind fun bt206 => ((pack_Reader_Many.f k bt206.2.2.2.1 bt206.2.2.2.2.1 bt206.2.2.2.2.2 2).bind fun bt212 => (if bt212.1 > 0 then (schema_take.j0 k a1 bt212.1 (a1 == 0) bt212.2.1 bt212.2.2.1 bt212.2.2.2 t198 bt202.1 bt206.1 bt206.2.1 bt206.2.2.1) else (schema_take.j0 k a1 bt212.1 false bt212.2.1 bt212.2.2.1 bt212.2.2.2 t198 bt202.1 bt206.1 bt206.2.1 bt206.2.2.1))))) = some (r1, r2, r3, r4, r5, r6, r7, r8, r9) := H
 have A3 := Aside0.mk A30
 clear A30
 replace H := Option.bind_eq_some_iff.mp H
 obtain ⟨⟨t202, t203, t204, t205⟩, A40, H⟩ := H
 replace H : ((value_Take.f k t203 t204 t205).bind fun bt206 => ((pack_Reader_Many.f k bt206.2.2.2.1 bt206.2.2.2.2.1 bt206.2.2.2.2.2 2).bind fun bt212 => (if bt212.1 > 0 then (schema_take.j0 k a1 bt212.1 (a1 == 0) bt212.2.1 bt212.2.2.1 bt212.2.2.2 t198 t202 bt206.1 bt206.2.1 bt206.2.2.1) else (schema_take.j0 k a1 bt212.1 false bt212.2.1 bt212.2.2.1 bt212.2.2.2 t198 t202 bt206.1 bt206.2.1 bt206.2.2.1)))) = some (r1, r2, r3, r4, r5, r6, r7, r8, r9) := H
 have A4 := Aside0.mk A40
 clear A40
 replace H := Option.bind_eq_some_iff.mp H
 obtain ⟨⟨t206, t207, t208, t209, t210, t211⟩, A50, H⟩ := H
 replace H : ((pack_Reader_Many.f k t209 t210 t211 2).bind fun bt212 => (if bt212.1 > 0 then (schema_take.j0 k a1 bt212.1 (a1 == 0) bt212.2.1 bt212.2.2.1 bt212.2.2.2 t198 t202 t206 t207 t208) else (schema_take.j0 k a1 bt212.1 false bt212.2.1 bt212.2.2.1 bt212.2.2.2 t198 t202 t206 t207 t208))) = some (r1, r2, r3, r4, r5, r6, r7, r8, r9) := H
 have A5 := Aside0.mk A50
 clear A50
 replace H := Option.bind_eq_some_iff.mp H
 obtain ⟨⟨t212, t213, t214, t215⟩, A60, H⟩ := H
 replace H : (if t212 > 0 then (schema_take.j0 k a1 t212 (a1 == 0) t213 t214 t215 t198 t202 t206 t207 t208) else (schema_take.j0 k a1 t212 false t213 t214 t215 t198 t202 t206 t207 t208)) = some (r1, r2, r3, r4, r5, r6, r7, r8, r9) := H
 have A6 := Aside0.mk A60
 clear A60
 have HC7 := Aside0.mk H
 clear H
 go_enter Tryd.func97, Tryd.ntmps97
 go_upto_region 6 with (first | ((with_reducible refine gate_dst (N := 4) rfl ?_); refine box_event ?hg (N := 4) ?hd (cs := #[.int .i64 0, .int .i64 0, .int .i64 0, .int .i64 0, .string (⟨#[]⟩ : ByteArray), .slice none 0 0]) (t := 72) ?hr ?_; (case hd => rfl); (case hg => rfl); (case hr => first | (go_simp; done) | (go_simp; rfl)); intro gb196 hg w8 hbox hb; have n0_ := Aside0.mk (IsS129.below (by repeat (first | (with_reducible first | exact HI0.out | apply IsS129.alloc | apply IsS129.drewN | apply IsS129.drew | apply IsS129.set_0 | apply IsS129.set_1 | apply IsS129.set_2) | exact HI0.out)) hb); have n1_ := Aside0.mk (KeepBut.trans (by repeat (first | (with_reducible first | exact HK.out | apply KeepBut.set_ | apply keep_drewN | apply keep_drew | apply keep_alloc) | exact HK.out)) (KeepBut.of_below hb g none) (.inl rfl)); have n2_ := Aside0.mk (below_step (by repeat (first | (with_reducible first | exact HB.out | apply below_alloc | apply pw_below_drewN | apply below_drew1 | refine below_set ?_ (IsS129.ge HI0.out)) | exact HB.out)) hb); have n3_ := Aside0.mk (hbox); have n4_ := Aside0.mk ((by rw [hg]; exact (keep_size (w := w) (g := g) (row := none) (by repeat (first | (with_reducible first | exact HK.out | apply KeepBut.set_ | apply keep_drewN | apply keep_drew | apply keep_alloc) | exact HK.out))) : w.heap.size ≤ gb196)); have n5_ := Aside0.mk ((Nat.le_trans HW0.out (by rw [hg]; exact (keep_size (w := w) (g := g) (row := none) (by repeat (first | (with_reducible first | exact HK.out | apply KeepBut.set_ | apply keep_drewN | apply keep_drew | apply keep_alloc) | exact HK.out))) : w.heap.size ≤ gb196) : w0.heap.size ≤ gb196)); have n6_ := Aside0.mk ((by rw [hg]; exact Nat.ne_of_lt (IsS129.lt (show IsS129 w0 _ g s0_0 s0_1 s0_2 from by repeat (first | (with_reducible first | exact HI0.out | apply IsS129.alloc | apply IsS129.drewN | apply IsS129.drew | apply IsS129.set_0 | apply IsS129.set_1 | apply IsS129.set_2) | exact HI0.out))) : g ≠ gb196)); have n7_ := Aside0.mk ((by rw [hg]; exact Nat.ne_of_gt (IsS129.lt (show IsS129 w0 _ g s0_0 s0_1 s0_2 from by repeat (first | (with_reducible first | exact HI0.out | apply IsS129.alloc | apply IsS129.drewN | apply IsS129.drew | apply IsS129.set_0 | apply IsS129.set_1 | apply IsS129.set_2) | exact HI0.out))) : gb196 ≠ g)); clear HI0; clear HK; clear HB; have HI0 := n0_; have HK := n1_; have HB := n2_; have BK196 := n3_; have GW196 := n4_; have GE196 := n5_; have NB0_196 := n6_; have NB196_0 := n7_; clear n0_ n1_ n2_ n3_ n4_ n5_ n6_ n7_; clear hb hbox hg) | ((with_reducible refine gate_dst (N := 5) rfl ?_); refine box_event ?hg (N := 5) ?hd (cs := #[.int .i64 0, .int .i64 0, .int .i64 0, .int .i64 0, .string (⟨#[]⟩ : ByteArray), .slice none 0 0]) (t := 72) ?hr ?_; (case hd => rfl); (case hg => rfl); (case hr => first | (go_simp; done) | (go_simp; rfl)); intro gb197 hg w9 hbox hb; have n0_ := Aside0.mk (IsS129.below (by repeat (first | (with_reducible first | exact HI0.out | apply IsS129.alloc | apply IsS129.drewN | apply IsS129.drew | apply IsS129.set_0 | apply IsS129.set_1 | apply IsS129.set_2 | refine IsS129.far ?_ NB0_196.out _) | exact HI0.out)) hb); have n1_ := Aside0.mk (blk_below (g := gb196) (o := .cells #[.int .i64 0, .int .i64 0, .int .i64 0, .int .i64 0, .string (⟨#[]⟩ : ByteArray), .slice none 0 0] 72 (0, 0)) (by (with_reducible repeat (first | refine blk_drewN ?_ _ | refine blk_drew ?_ | refine blk_alloc ?_ _)); exact BK196.out) hb); have n2_ := Aside0.mk (KeepBut.trans (by repeat (first | (with_reducible first | exact HK.out | apply KeepBut.set_ | apply keep_drewN | apply keep_drew | apply keep_alloc | refine keep_far ?_ GW196.out _) | exact HK.out)) (KeepBut.of_below hb g none) (.inl rfl)); have n3_ := Aside0.mk (below_step (by repeat (first | (with_reducible first | exact HB.out | apply below_alloc | apply pw_below_drewN | apply below_drew1 | refine below_set ?_ (IsS129.ge HI0.out) | refine below_set ?_ GE196.out) | exact HB.out)) hb); have n4_ := Aside0.mk (hbox); have n5_ := Aside0.mk ((by rw [hg]; exact (keep_size (w := w) (g := g) (row := none) (by repeat (first | (with_reducible first | exact HK.out | apply KeepBut.set_ | apply keep_drewN | apply keep_drew | apply keep_alloc | refine keep_far ?_ GW196.out _) | exact HK.out))) : w.heap.size ≤ gb197)); have n6_ := Aside0.mk ((Nat.le_trans HW0.out (by rw [hg]; exact (keep_size (w := w) (g := g) (row := none) (by repeat (first | (with_reducible first | exact HK.out | apply KeepBut.set_ | apply keep_drewN | apply keep_drew | apply keep_alloc | refine keep_far ?_ GW196.out _) | exact HK.out))) : w.heap.size ≤ gb197) : w0.heap.size ≤ gb197)); have n7_ := Aside0.mk ((by rw [hg]; exact Nat.ne_of_lt (blk_lt (g := gb196) (o := .cells #[.int .i64 0, .int .i64 0, .int .i64 0, .int .i64 0, .string (⟨#[]⟩ : ByteArray), .slice none 0 0] 72 (0, 0)) (by (with_reducible repeat (first | refine blk_drewN ?_ _ | refine blk_drew ?_ | refine blk_alloc ?_ _)); exact BK196.out)) : gb196 ≠ gb197)); have n8_ := Aside0.mk ((by rw [hg]; exact Nat.ne_of_gt (blk_lt (g := gb196) (o := .cells #[.int .i64 0, .int .i64 0, .int .i64 0, .int .i64 0, .string (⟨#[]⟩ : ByteArray), .slice none 0 0] 72 (0, 0)) (by (with_reducible repeat (first | refine blk_drewN ?_ _ | refine blk_drew ?_ | refine blk_alloc ?_ _)); exact BK196.out)) : gb197 ≠ gb196)); have n9_ := Aside0.mk ((by rw [hg]; exact Nat.ne_of_lt (IsS129.lt (show IsS129 w0 _ g s0_0 s0_1 s0_2 from by repeat (first | (with_reducible first | exact HI0.out | apply IsS129.alloc | apply IsS129.drewN | apply IsS129.drew | apply IsS129.set_0 | apply IsS129.set_1 | apply IsS129.set_2 | refine IsS129.far ?_ NB0_196.out _) | exact HI0.out))) : g ≠ gb197)); have n10_ := Aside0.mk ((by rw [hg]; exact Nat.ne_of_gt (IsS129.lt (show IsS129 w0 _ g s0_0 s0_1 s0_2 from by repeat (first | (with_reducible first | exact HI0.out | apply IsS129.alloc | apply IsS129.drewN | apply IsS129.drew | apply IsS129.set_0 | apply IsS129.set_1 | apply IsS129.set_2 | refine IsS129.far ?_ NB0_196.out _) | exact HI0.out))) : gb197 ≠ g)); clear HI0; clear BK196; clear HK; clear HB; have HI0 := n0_; have BK196 := n1_; have HK := n2_; have HB := n3_; have BK197 := n4_; have GW197 := n5_; have GE197 := n6_; have NB196_197 := n7_; have NB197_196 := n8_; have NB0_197 := n9_; have NB197_0 := n10_; clear n0_ n1_ n2_ n3_ n4_ n5_ n6_ n7_ n8_ n9_ n10_; clear hb hbox hg) | ((with_reducible refine gate_callee (f := 65) rfl ?_); refine goesL_ (some 8) rfl rfl Tryd.func65 (by kernel_rfl) rfl #[.pointer (some ⟨g, 0, none⟩)] rfl (by (try simp only [List.map_toArray, List.map_cons, List.map_nil]); first | done | rfl | (simp only [List.length_drop, List.length_take]; rfl)) ?_; (with_reducible refine (pack_Reader_Int.calls k g s0_0 s0_1 s0_2 t198 t199 t200 t201 w0 _ ?side1 ?side2 A3.out).mono ?_); (case side1 => repeat (first | (with_reducible first | exact HI0.out | apply IsS129.alloc | apply IsS129.drewN | apply IsS129.drew | apply IsS129.set_0 | apply IsS129.set_1 | apply IsS129.set_2 | refine IsS129.far ?_ NB0_196.out _ | refine IsS129.far ?_ NB0_197.out _) | exact HI0.out)); (case side2 => repeat (first | (with_reducible first | exact HB.out | apply below_alloc | apply pw_below_drewN | apply below_drew1 | refine below_set ?_ (IsS129.ge HI0.out) | refine below_set ?_ GE196.out | refine below_set ?_ GE197.out) | exact HB.out)); rintro e w10 ⟨rfl, hi, hb, hk⟩; refine ⟨_, rfl, ?_⟩; have n0_ := Aside0.mk (KeepBut.blk hk (g' := gb196) (o := .cells #[.int .i64 0, .int .i64 0, .int .i64 0, .int .i64 0, .string (⟨#[]⟩ : ByteArray), .slice none 0 0] 72 (0, 0)) (by (with_reducible repeat (first | refine blk_drewN ?_ _ | refine blk_drew ?_ | refine blk_alloc ?_ _)); exact BK196.out) NB196_0.out (by simp)); have n1_ := Aside0.mk (KeepBut.blk hk (g' := gb197) (o := .cells #[.int .i64 0, .int .i64 0, .int .i64 0, .int .i64 0, .string (⟨#[]⟩ : ByteArray), .slice none 0 0] 72 (0, 0)) (by (with_reducible repeat (first | refine blk_drewN ?_ _ | refine blk_drew ?_ | refine blk_alloc ?_ _)); exact BK197.out) NB197_0.out (by simp)); have n2_ := Aside0.mk (KeepBut.trans (by repeat (first | (with_reducible first | exact HK.out | apply KeepBut.set_ | apply keep_drewN | apply keep_drew | apply keep_alloc | refine keep_far ?_ GW196.out _ | refine keep_far ?_ GW197.out _) | exact HK.out)) hk (.inl rfl)); have n3_ := Aside0.mk (hb); have n4_ := Aside0.mk (hi); clear BK196; clear BK197; clear HK; clear HB; clear HI0; have BK196 := n0_; have BK197 := n1_; have HK := n2_; have HB := n3_; have HI0 := n4_; clear n0_ n1_ n2_ n3_ n4_; (try clear hb); (try clear hb2); (try clear hk); (try clear hi); have hnb11 := NB197_196.out; have hnc11 := NB196_197.out; have hnb12 := NB197_0.out; have hnc12 := NB0_197.out; have hcz13_0 : w10.cell? ⟨gb197, 0, none⟩ = some (.int .i64 0) := (blk_cell BK197.out 0).trans rfl; have hcz13_1 : w10.cell? ⟨gb197, 1, none⟩ = some (.int .i64 0) := (blk_cell BK197.out 1).trans rfl; have hcz13_2 : w10.cell? ⟨gb197, 2, none⟩ = some (.int .i64 0) := (blk_cell BK197.out 2).trans rfl; have hcz13_3 : w10.cell? ⟨gb197, 3, none⟩ = some (.int .i64 0) := (blk_cell BK197.out 3).trans rfl; have hcz13_4 : w10.cell? ⟨gb197, 4, none⟩ = some (.string (⟨#[]⟩ : ByteArray)) := (blk_cell BK197.out 4).trans rfl; have hcz13_5 : w10.cell? ⟨gb197, 5, none⟩ = some (.slice none 0 0) := (blk_cell BK197.out 5).trans rfl; have hfz13_0 := blk_frozen BK197.out 0; have hfz13_1 := blk_frozen BK197.out 1; have hfz13_2 := blk_frozen BK197.out 2; have hfz13_3 := blk_frozen BK197.out 3; have hfz13_4 := blk_frozen BK197.out 4; have hfz13_5 := blk_frozen BK197.out 5) | ((with_reducible refine gate_callee (f := 65) rfl ?_); refine goesL_ (some 11) rfl rfl Tryd.func65 (by kernel_rfl) rfl #[.pointer (some ⟨g, 0, none⟩)] rfl (by (try simp only [List.map_toArray, List.map_cons, List.map_nil]); first | done | rfl | (simp only [List.length_drop, List.length_take]; rfl)) ?_; (with_reducible refine (pack_Reader_Int.calls k g t199 t200 t201 t202 t203 t204 t205 w0 _ ?side1 ?side2 A4.out).mono ?_); (case side1 => repeat (first | (with_reducible first | exact HI0.out | apply IsS129.alloc | apply IsS129.drewN | apply IsS129.drew | apply IsS129.set_0 | apply IsS129.set_1 | apply IsS129.set_2 | refine IsS129.far ?_ NB0_196.out _ | refine IsS129.far ?_ NB0_197.out _) | exact HI0.out)); (case side2 => repeat (first | (with_reducible first | exact HB.out | apply below_alloc | apply pw_below_drewN | apply below_drew1 | refine below_set ?_ (IsS129.ge HI0.out) | refine below_set ?_ GE196.out | refine below_set ?_ GE197.out) | exact HB.out)); rintro e w14 ⟨rfl, hi, hb, hk⟩; refine ⟨_, rfl, ?_⟩; have n0_ := Aside0.mk (KeepBut.blk hk (g' := gb196) (o := .cells #[.int .i64 0, .int .i64 0, .int .i64 0, .int .i64 0, .string (⟨#[]⟩ : ByteArray), .slice none 0 0] 72 (0, 0)) (by (with_reducible repeat (first | refine blk_drewN ?_ _ | refine blk_drew ?_ | refine blk_alloc ?_ _)); refine blk_far ?_ NB196_197.out _; (with_reducible repeat (first | refine blk_drewN ?_ _ | refine blk_drew ?_ | refine blk_alloc ?_ _)); exact BK196.out) NB196_0.out (by simp)); have n1_ := Aside0.mk (KeepBut.blk hk (g' := gb197) (o := .cells #[.int .i64 t198, .int .i64 0, .int .i64 0, .int .i64 0, .string (⟨#[]⟩ : ByteArray), .slice none 0 0] 72 (0, 0)) (by (with_reducible repeat (first | refine blk_drewN ?_ _ | refine blk_drew ?_ | refine blk_alloc ?_ _)); refine blk_put (cs := #[.int .i64 0, .int .i64 0, .int .i64 0, .int .i64 0, .string (⟨#[]⟩ : ByteArray), .slice none 0 0]) ?_ 0 _ rfl; (with_reducible repeat (first | refine blk_drewN ?_ _ | refine blk_drew ?_ | refine blk_alloc ?_ _)); exact BK197.out) NB197_0.out (by simp)); have n2_ := Aside0.mk (KeepBut.trans (by repeat (first | (with_reducible first | exact HK.out | apply KeepBut.set_ | apply keep_drewN | apply keep_drew | apply keep_alloc | refine keep_far ?_ GW196.out _ | refine keep_far ?_ GW197.out _) | exact HK.out)) hk (.inl rfl)); have n3_ := Aside0.mk (hb); have n4_ := Aside0.mk (hi); clear BK196; clear BK197; clear HK; clear HB; clear HI0; have BK196 := n0_; have BK197 := n1_; have HK := n2_; have HB := n3_; have HI0 := n4_; clear n0_ n1_ n2_ n3_ n4_; (try clear hb); (try clear hb2); (try clear hk); (try clear hi); have hcz15_0 : w14.cell? ⟨gb197, 0, none⟩ = some (.int .i64 t198) := (blk_cell BK197.out 0).trans rfl; have hcz15_1 : w14.cell? ⟨gb197, 1, none⟩ = some (.int .i64 0) := (blk_cell BK197.out 1).trans rfl; have hcz15_2 : w14.cell? ⟨gb197, 2, none⟩ = some (.int .i64 0) := (blk_cell BK197.out 2).trans rfl; have hcz15_3 : w14.cell? ⟨gb197, 3, none⟩ = some (.int .i64 0) := (blk_cell BK197.out 3).trans rfl; have hcz15_4 : w14.cell? ⟨gb197, 4, none⟩ = some (.string (⟨#[]⟩ : ByteArray)) := (blk_cell BK197.out 4).trans rfl; have hcz15_5 : w14.cell? ⟨gb197, 5, none⟩ = some (.slice none 0 0) := (blk_cell BK197.out 5).trans rfl; have hfz15_0 := blk_frozen BK197.out 0; have hfz15_1 := blk_frozen BK197.out 1; have hfz15_2 := blk_frozen BK197.out 2; have hfz15_3 := blk_frozen BK197.out 3; have hfz15_4 := blk_frozen BK197.out 4; have hfz15_5 := blk_frozen BK197.out 5) | ((with_reducible refine gate_callee (f := 117) rfl ?_); refine goesL_ (some 14) rfl rfl Tryd.func117 (by kernel_rfl) rfl #[.pointer (some ⟨g, 0, none⟩)] rfl (by (try simp only [List.map_toArray, List.map_cons, List.map_nil]); first | done | rfl | (simp only [List.length_drop, List.length_take]; rfl)) ?_; (with_reducible refine (value_Take.calls k g t203 t204 t205 t206 t207 t208 t209 t210 t211 w0 _ ?side1 ?side2 A5.out).mono ?_); (case side1 => repeat (first | (with_reducible first | exact HI0.out | apply IsS129.alloc | apply IsS129.drewN | apply IsS129.drew | apply IsS129.set_0 | apply IsS129.set_1 | apply IsS129.set_2 | refine IsS129.far ?_ NB0_196.out _ | refine IsS129.far ?_ NB0_197.out _) | exact HI0.out)); (case side2 => repeat (first | (with_reducible first | exact HB.out | apply below_alloc | apply pw_below_drewN | apply below_drew1 | refine below_set ?_ (IsS129.ge HI0.out) | refine below_set ?_ GE196.out | refine below_set ?_ GE197.out) | exact HB.out)); rintro e w16 ⟨rfl, hi, hb, hk⟩; refine ⟨_, rfl, ?_⟩; have n0_ := Aside0.mk (KeepBut.blk hk (g' := gb196) (o := .cells #[.int .i64 0, .int .i64 0, .int .i64 0, .int .i64 0, .string (⟨#[]⟩ : ByteArray), .slice none 0 0] 72 (0, 0)) (by (with_reducible repeat (first | refine blk_drewN ?_ _ | refine blk_drew ?_ | refine blk_alloc ?_ _)); refine blk_far ?_ NB196_197.out _; (with_reducible repeat (first | refine blk_drewN ?_ _ | refine blk_drew ?_ | refine blk_alloc ?_ _)); exact BK196.out) NB196_0.out (by simp)); have n1_ := Aside0.mk (KeepBut.blk hk (g' := gb197) (o := .cells #[.int .i64 t198, .int .i64 t202, .int .i64 0, .int .i64 0, .string (⟨#[]⟩ : ByteArray), .slice none 0 0] 72 (0, 0)) (by (with_reducible repeat (first | refine blk_drewN ?_ _ | refine blk_drew ?_ | refine blk_alloc ?_ _)); refine blk_put (cs := #[.int .i64 t198, .int .i64 0, .int .i64 0, .int .i64 0, .string (⟨#[]⟩ : ByteArray), .slice none 0 0]) ?_ 1 _ rfl; (with_reducible repeat (first | refine blk_drewN ?_ _ | refine blk_drew ?_ | refine blk_alloc ?_ _)); exact BK197.out) NB197_0.out (by simp)); have n2_ := Aside0.mk (KeepBut.trans (by repeat (first | (with_reducible first | exact HK.out | apply KeepBut.set_ | apply keep_drewN | apply keep_drew | apply keep_alloc | refine keep_far ?_ GW196.out _ | refine keep_far ?_ GW197.out _) | exact HK.out)) hk (.inl rfl)); have n3_ := Aside0.mk (hb); have n4_ := Aside0.mk (hi); clear BK196; clear BK197; clear HK; clear HB; clear HI0; have BK196 := n0_; have BK197 := n1_; have HK := n2_; have HB := n3_; have HI0 := n4_; clear n0_ n1_ n2_ n3_ n4_; (try clear hb); (try clear hb2); (try clear hk); (try clear hi); have hcz17_0 : w16.cell? ⟨gb197, 0, none⟩ = some (.int .i64 t198) := (blk_cell BK197.out 0).trans rfl; have hcz17_1 : w16.cell? ⟨gb197, 1, none⟩ = some (.int .i64 t202) := (blk_cell BK197.out 1).trans rfl; have hcz17_2 : w16.cell? ⟨gb197, 2, none⟩ = some (.int .i64 0) := (blk_cell BK197.out 2).trans rfl; have hcz17_3 : w16.cell? ⟨gb197, 3, none⟩ = some (.int .i64 0) := (blk_cell BK197.out 3).trans rfl; have hcz17_4 : w16.cell? ⟨gb197, 4, none⟩ = some (.string (⟨#[]⟩ : ByteArray)) := (blk_cell BK197.out 4).trans rfl; have hcz17_5 : w16.cell? ⟨gb197, 5, none⟩ = some (.slice none 0 0) := (blk_cell BK197.out 5).trans rfl; have hfz17_0 := blk_frozen BK197.out 0; have hfz17_1 := blk_frozen BK197.out 1; have hfz17_2 := blk_frozen BK197.out 2; have hfz17_3 := blk_frozen BK197.out 3; have hfz17_4 := blk_frozen BK197.out 4; have hfz17_5 := blk_frozen BK197.out 5) | ((with_reducible refine gate_callee (f := 66) rfl ?_); refine goesL_ (some 17) rfl rfl Tryd.func66 (by kernel_rfl) rfl #[.pointer (some ⟨g, 0, none⟩), .int .i64 2] rfl (by (try simp only [List.map_toArray, List.map_cons, List.map_nil]); first | done | rfl | (simp only [List.length_drop, List.length_take]; rfl)) ?_; (with_reducible refine (pack_Reader_Many.calls k g t209 t210 t211 2 t212 t213 t214 t215 w0 _ ?side1 ?side2 A6.out).mono ?_); (case side1 => repeat (first | (with_reducible first | exact HI0.out | apply IsS129.alloc | apply IsS129.drewN | apply IsS129.drew | apply IsS129.set_0 | apply IsS129.set_1 | apply IsS129.set_2 | refine IsS129.far ?_ NB0_196.out _ | refine IsS129.far ?_ NB0_197.out _) | exact HI0.out)); (case side2 => repeat (first | (with_reducible first | exact HB.out | apply below_alloc | apply pw_below_drewN | apply below_drew1 | refine below_set ?_ (IsS129.ge HI0.out) | refine below_set ?_ GE196.out | refine below_set ?_ GE197.out) | exact HB.out)); rintro e w18 ⟨rfl, hi, hb, hk⟩; refine ⟨_, rfl, ?_⟩; have n0_ := Aside0.mk (KeepBut.blk hk (g' := gb196) (o := .cells #[.int .i64 0, .int .i64 0, .int .i64 0, .int .i64 0, .string (⟨#[]⟩ : ByteArray), .slice none 0 0] 72 (0, 0)) (by (with_reducible repeat (first | refine blk_drewN ?_ _ | refine blk_drew ?_ | refine blk_alloc ?_ _)); refine blk_far ?_ NB196_197.out _; (with_reducible repeat (first | refine blk_drewN ?_ _ | refine blk_drew ?_ | refine blk_alloc ?_ _)); refine blk_far ?_ NB196_197.out _; (with_reducible repeat (first | refine blk_drewN ?_ _ | refine blk_drew ?_ | refine blk_alloc ?_ _)); refine blk_far ?_ NB196_197.out _; (with_reducible repeat (first | refine blk_drewN ?_ _ | refine blk_drew ?_ | refine blk_alloc ?_ _)); exact BK196.out) NB196_0.out (by simp)); have n1_ := Aside0.mk (KeepBut.blk hk (g' := gb197) (o := .cells #[.int .i64 t198, .int .i64 t202, .int .i64 t206, .int .i64 t207, .string t208, .slice none 0 0] 72 (0, 0)) (by (with_reducible repeat (first | refine blk_drewN ?_ _ | refine blk_drew ?_ | refine blk_alloc ?_ _)); refine blk_put (cs := #[.int .i64 t198, .int .i64 t202, .int .i64 t206, .int .i64 t207, .string (⟨#[]⟩ : ByteArray), .slice none 0 0]) ?_ 4 _ rfl; (with_reducible repeat (first | refine blk_drewN ?_ _ | refine blk_drew ?_ | refine blk_alloc ?_ _)); refine blk_put (cs := #[.int .i64 t198, .int .i64 t202, .int .i64 t206, .int .i64 0, .string (⟨#[]⟩ : ByteArray), .slice none 0 0]) ?_ 3 _ rfl; (with_reducible repeat (first | refine blk_drewN ?_ _ | refine blk_drew ?_ | refine blk_alloc ?_ _)); refine blk_put (cs := #[.int .i64 t198, .int .i64 t202, .int .i64 0, .int .i64 0, .string (⟨#[]⟩ : ByteArray), .slice none 0 0]) ?_ 2 _ rfl; (with_reducible repeat (first | refine blk_drewN ?_ _ | refine blk_drew ?_ | refine blk_alloc ?_ _)); exact BK197.out) NB197_0.out (by simp)); have n2_ := Aside0.mk (KeepBut.trans (by repeat (first | (with_reducible first | exact HK.out | apply KeepBut.set_ | apply keep_drewN | apply keep_drew | apply keep_alloc | refine keep_far ?_ GW196.out _ | refine keep_far ?_ GW197.out _) | exact HK.out)) hk (.inl rfl)); have n3_ := Aside0.mk (hb); have n4_ := Aside0.mk (hi); clear BK196; clear BK197; clear HK; clear HB; clear HI0; have BK196 := n0_; have BK197 := n1_; have HK := n2_; have HB := n3_; have HI0 := n4_; clear n0_ n1_ n2_ n3_ n4_; (try clear hb); (try clear hb2); (try clear hk); (try clear hi)))
 (try simp only [Act.put, List.setIfInBounds_toArray, List.set_cons_zero, List.set_cons_succ])
 go_cut [23] (fun v23 wc => ∃ (kq : Nat) (x23_6 : Bool), v23 = .bool x23_6 ∧ Aside0 (schema_take.j0 kq a1 t212 x23_6 t213 t214 t215 t198 t202 t206 t207 t208 = some (r1, r2, r3, r4, r5, r6, r7, r8, r9)) ∧ Aside0 (kq ≤ k) ∧ Aside0 (wc.heap[gb196]? = some (.cells #[.int .i64 0, .int .i64 0, .int .i64 0, .int .i64 0, .string (⟨#[]⟩ : ByteArray), (.slice none 0 0)] 72 (0, 0))) ∧ Aside0 (wc.heap[gb197]? = some (.cells #[.int .i64 t198, .int .i64 t202, .int .i64 t206, .int .i64 t207, .string t208, (.slice none 0 0)] 72 (0, 0))) ∧ Aside0 (IsS129 w0 wc g t213 t214 t215) ∧ Aside0 (KeepBut w wc g none) ∧ Aside0 (Below w0.heap.size w0 wc))
 case first =>
  have H := HC7.out
  clear HC7
  by_cases c19 : t212 > 0
  ·rw [if_pos c19] at H
   have c19b0 : decide (0 < t212) = true := decide_eq_true c19
   clear c19
   (first | rw [c19b0] | (simp only [i64_w, i32_w]; rw [c19b0]) | skip)
   have H' := Aside0.mk H
   clear H
   go_wp2
   go_meet
   case rel => exact ⟨_, ((a1 == 0)), (by first | rfl | (simp; done) | (simp [*]; done)), H', ⟨by first | omega | exact Nat.le_refl _⟩, ⟨by (with_reducible repeat (first | refine blk_drewN ?_ _ | refine blk_drew ?_ | refine blk_alloc ?_ _)); exact BK196.out⟩, ⟨by (with_reducible repeat (first | refine blk_drewN ?_ _ | refine blk_drew ?_ | refine blk_alloc ?_ _)); exact BK197.out⟩, ⟨by repeat (first | (with_reducible first | exact HI0.out | apply IsS129.alloc | apply IsS129.drewN | apply IsS129.drew | apply IsS129.set_0 | apply IsS129.set_1 | apply IsS129.set_2 | refine IsS129.far ?_ NB0_196.out _ | refine IsS129.far ?_ NB0_197.out _) | exact HI0.out)⟩, ⟨by repeat (first | (with_reducible first | exact HK.out | apply KeepBut.set_ | apply keep_drewN | apply keep_drew | apply keep_alloc | refine keep_far ?_ GW196.out _ | refine keep_far ?_ GW197.out _) | exact HK.out)⟩, ⟨by repeat (first | (with_reducible first | exact HB.out | apply below_alloc | apply pw_below_drewN | apply below_drew1 | refine below_set ?_ (IsS129.ge HI0.out) | refine below_set ?_ GE196.out | refine below_set ?_ GE197.out) | exact HB.out)⟩⟩
  ·rw [if_neg c19] at H
   have c19b0 : decide (0 < t212) = false := decide_eq_false c19
   clear c19
   (first | rw [c19b0] | (simp only [i64_w, i32_w]; rw [c19b0]) | skip)
   have H' := Aside0.mk H
   clear H
   go_wp2
   go_meet
   case rel => exact ⟨_, (false), (by first | rfl | (simp; done) | (simp [*]; done)), H', ⟨by first | omega | exact Nat.le_refl _⟩, ⟨by (with_reducible repeat (first | refine blk_drewN ?_ _ | refine blk_drew ?_ | refine blk_alloc ?_ _)); exact BK196.out⟩, ⟨by (with_reducible repeat (first | refine blk_drewN ?_ _ | refine blk_drew ?_ | refine blk_alloc ?_ _)); exact BK197.out⟩, ⟨by repeat (first | (with_reducible first | exact HI0.out | apply IsS129.alloc | apply IsS129.drewN | apply IsS129.drew | apply IsS129.set_0 | apply IsS129.set_1 | apply IsS129.set_2 | refine IsS129.far ?_ NB0_196.out _ | refine IsS129.far ?_ NB0_197.out _) | exact HI0.out)⟩, ⟨by repeat (first | (with_reducible first | exact HK.out | apply KeepBut.set_ | apply keep_drewN | apply keep_drew | apply keep_alloc | refine keep_far ?_ GW196.out _ | refine keep_far ?_ GW197.out _) | exact HK.out)⟩, ⟨by repeat (first | (with_reducible first | exact HB.out | apply below_alloc | apply pw_below_drewN | apply below_drew1 | refine below_set ?_ (IsS129.ge HI0.out) | refine below_set ?_ GE196.out | refine below_set ?_ GE197.out) | exact HB.out)⟩⟩
 case rest =>
  clear HC7
  try clear c1
  try clear p2
  try clear c6
  try clear c9
  try clear c11
  try clear c12
  try clear c19
  try clear c19b0
  try clear hcz13_0
  try clear hcz13_1
  try clear hcz13_2
  try clear hcz13_3
  try clear hcz13_4
  try clear hcz13_5
  try clear hcz15_0
  try clear hcz15_1
  try clear hcz15_2
  try clear hcz15_3
  try clear hcz15_4
  try clear hcz15_5
  try clear hcz17_0
  try clear hcz17_1
  try clear hcz17_2
  try clear hcz17_3
  try clear hcz17_4
  try clear hcz17_5
  try clear hfz13_0
  try clear hfz13_1
  try clear hfz13_2
  try clear hfz13_3
  try clear hfz13_4
  try clear hfz13_5
  try clear hfz15_0
  try clear hfz15_1
  try clear hfz15_2
  try clear hfz15_3
  try clear hfz15_4
  try clear hfz15_5
  try clear hfz17_0
  try clear hfz17_1
  try clear hfz17_2
  try clear hfz17_3
  try clear hfz17_4
  try clear hfz17_5
  obtain ⟨kq, x23_6, rfl, HA, HJ6, BK196, BK197, HI0, HK, HB⟩ := hcut
  cases kq with
  | zero => exact absurd HA.out (by simp [schema_take.j0])
  | succ kj6 =>
   have H := HA.out
   clear HA
   simp only [schema_take.j0] at H
   by_cases c20 : x23_6 = true
   ·subst c20
    have H1 : ((pack_Reader_Many.f kj6 t213 t214 t215 (-1)).bind fun bt216 => (some (t198, t202, t206, t207, t208, ([] : List (S72)), bt216.2.1, bt216.2.2.1, bt216.2.2.2))) = some (r1, r2, r3, r4, r5, r6, r7, r8, r9) := by rw [if_pos rfl] at H; exact H
    clear H
    have H := H1
    clear H1
    replace H := Option.bind_eq_some_iff.mp H
    obtain ⟨⟨t216, t217, t218, t219⟩, A210, H⟩ := H
    replace H : (some (t198, t202, t206, t207, t208, ([] : List (S72)), t217, t218, t219)) = some (r1, r2, r3, r4, r5, r6, r7, r8, r9) := H
    have A21 := Aside0.mk A210
    clear A210
    simp only [Option.some.injEq, Prod.mk.injEq] at H
    obtain ⟨rfl, rfl, rfl, rfl, rfl, rfl, rfl, rfl, rfl⟩ := H
    go_wp2_with (first | ((with_reducible refine gate_callee (f := 66) rfl ?_); refine goesL_ (some 25) rfl rfl Tryd.func66 (by kernel_rfl) rfl #[.pointer (some ⟨g, 0, none⟩), .int .i64 (-1)] rfl (by (try simp only [List.map_toArray, List.map_cons, List.map_nil]); first | done | rfl | (simp only [List.length_drop, List.length_take]; rfl)) ?_; (with_reducible refine (pack_Reader_Many.calls kj6 g t213 t214 t215 (-1) t216 t217 t218 t219 w0 _ ?side1 ?side2 A21.out).mono ?_); (case side1 => repeat (first | (with_reducible first | exact HI0.out | apply IsS129.alloc | apply IsS129.drewN | apply IsS129.drew | apply IsS129.set_0 | apply IsS129.set_1 | apply IsS129.set_2 | refine IsS129.far ?_ NB0_196.out _ | refine IsS129.far ?_ NB0_197.out _) | exact HI0.out)); (case side2 => repeat (first | (with_reducible first | exact HB.out | apply below_alloc | apply pw_below_drewN | apply below_drew1 | refine below_set ?_ (IsS129.ge HI0.out) | refine below_set ?_ GE196.out | refine below_set ?_ GE197.out) | exact HB.out)); rintro e w22 ⟨rfl, hi, hb, hk⟩; refine ⟨_, rfl, ?_⟩; have n0_ := Aside0.mk (KeepBut.blk hk (g' := gb196) (o := .cells #[.int .i64 0, .int .i64 0, .int .i64 0, .int .i64 0, .string (⟨#[]⟩ : ByteArray), .slice none 0 0] 72 (0, 0)) (by (with_reducible repeat (first | refine blk_drewN ?_ _ | refine blk_drew ?_ | refine blk_alloc ?_ _)); exact BK196.out) NB196_0.out (by simp)); have n1_ := Aside0.mk (KeepBut.blk hk (g' := gb197) (o := .cells #[.int .i64 t198, .int .i64 t202, .int .i64 t206, .int .i64 t207, .string t208, .slice none 0 0] 72 (0, 0)) (by (with_reducible repeat (first | refine blk_drewN ?_ _ | refine blk_drew ?_ | refine blk_alloc ?_ _)); exact BK197.out) NB197_0.out (by simp)); have n2_ := Aside0.mk (KeepBut.trans (by repeat (first | (with_reducible first | exact HK.out | apply KeepBut.set_ | apply keep_drewN | apply keep_drew | apply keep_alloc | refine keep_far ?_ GW196.out _ | refine keep_far ?_ GW197.out _) | exact HK.out)) hk (.inl rfl)); have n3_ := Aside0.mk (hb); have n4_ := Aside0.mk (hi); clear BK196; clear BK197; clear HK; clear HB; clear HI0; have BK196 := n0_; have BK197 := n1_; have HK := n2_; have HB := n3_; have HI0 := n4_; clear n0_ n1_ n2_ n3_ n4_; (try clear hb); (try clear hb2); (try clear hk); (try clear hi); have hnb23 := NB197_196.out; have hnc23 := NB196_197.out; have hnb24 := NB197_0.out; have hnc24 := NB0_197.out; have hcz25_0 : w22.cell? ⟨gb197, 0, none⟩ = some (.int .i64 t198) := (blk_cell BK197.out 0).trans rfl; have hcz25_1 : w22.cell? ⟨gb197, 1, none⟩ = some (.int .i64 t202) := (blk_cell BK197.out 1).trans rfl; have hcz25_2 : w22.cell? ⟨gb197, 2, none⟩ = some (.int .i64 t206) := (blk_cell BK197.out 2).trans rfl; have hcz25_3 : w22.cell? ⟨gb197, 3, none⟩ = some (.int .i64 t207) := (blk_cell BK197.out 3).trans rfl; have hcz25_4 : w22.cell? ⟨gb197, 4, none⟩ = some (.string t208) := (blk_cell BK197.out 4).trans rfl; have hcz25_5 : w22.cell? ⟨gb197, 5, none⟩ = some (.slice none 0 0) := (blk_cell BK197.out 5).trans rfl; have hfz25_0 := blk_frozen BK197.out 0; have hfz25_1 := blk_frozen BK197.out 1; have hfz25_2 := blk_frozen BK197.out 2; have hfz25_3 := blk_frozen BK197.out 3; have hfz25_4 := blk_frozen BK197.out 4; have hfz25_5 := blk_frozen BK197.out 5; have hnb26 := NB196_0.out; have hnc26 := NB0_196.out; have hcz27_0 : w22.cell? ⟨gb196, 0, none⟩ = some (.int .i64 0) := (blk_cell BK196.out 0).trans rfl; have hcz27_1 : w22.cell? ⟨gb196, 1, none⟩ = some (.int .i64 0) := (blk_cell BK196.out 1).trans rfl; have hcz27_2 : w22.cell? ⟨gb196, 2, none⟩ = some (.int .i64 0) := (blk_cell BK196.out 2).trans rfl; have hcz27_3 : w22.cell? ⟨gb196, 3, none⟩ = some (.int .i64 0) := (blk_cell BK196.out 3).trans rfl; have hcz27_4 : w22.cell? ⟨gb196, 4, none⟩ = some (.string (⟨#[]⟩ : ByteArray)) := (blk_cell BK196.out 4).trans rfl; have hcz27_5 : w22.cell? ⟨gb196, 5, none⟩ = some (.slice none 0 0) := (blk_cell BK196.out 5).trans rfl; have hfz27_0 := blk_frozen BK196.out 0; have hfz27_1 := blk_frozen BK196.out 1; have hfz27_2 := blk_frozen BK196.out 2; have hfz27_3 := blk_frozen BK196.out 3; have hfz27_4 := blk_frozen BK196.out 4; have hfz27_5 := blk_frozen BK196.out 5))
    refine bodyPost_ret (results_cell_row rfl _ _ gb196 72 #[.int .i64 t198, .int .i64 t202, .int .i64 t206, .int .i64 t207, .string t208, .slice none 0 0] (0, 0) _ rfl (by (with_reducible repeat (first | refine blk_drewN ?_ _ | refine blk_drew ?_ | refine blk_alloc ?_ _)); refine blk_put (cs := #[.int .i64 t198, .int .i64 t202, .int .i64 t206, .int .i64 t207, .string t208, .slice none 0 0]) ?_ 5 _ rfl; (with_reducible repeat (first | refine blk_drewN ?_ _ | refine blk_drew ?_ | refine blk_alloc ?_ _)); refine blk_put (cs := #[.int .i64 t198, .int .i64 t202, .int .i64 t206, .int .i64 t207, .string (⟨#[]⟩ : ByteArray), .slice none 0 0]) ?_ 4 _ rfl; (with_reducible repeat (first | refine blk_drewN ?_ _ | refine blk_drew ?_ | refine blk_alloc ?_ _)); refine blk_put (cs := #[.int .i64 t198, .int .i64 t202, .int .i64 t206, .int .i64 0, .string (⟨#[]⟩ : ByteArray), .slice none 0 0]) ?_ 3 _ rfl; (with_reducible repeat (first | refine blk_drewN ?_ _ | refine blk_drew ?_ | refine blk_alloc ?_ _)); refine blk_put (cs := #[.int .i64 t198, .int .i64 t202, .int .i64 0, .int .i64 0, .string (⟨#[]⟩ : ByteArray), .slice none 0 0]) ?_ 2 _ rfl; (with_reducible repeat (first | refine blk_drewN ?_ _ | refine blk_drew ?_ | refine blk_alloc ?_ _)); refine blk_put (cs := #[.int .i64 t198, .int .i64 0, .int .i64 0, .int .i64 0, .string (⟨#[]⟩ : ByteArray), .slice none 0 0]) ?_ 1 _ rfl; (with_reducible repeat (first | refine blk_drewN ?_ _ | refine blk_drew ?_ | refine blk_alloc ?_ _)); refine blk_put (cs := #[.int .i64 0, .int .i64 0, .int .i64 0, .int .i64 0, .string (⟨#[]⟩ : ByteArray), .slice none 0 0]) ?_ 0 _ rfl; (with_reducible repeat (first | refine blk_drewN ?_ _ | refine blk_drew ?_ | refine blk_alloc ?_ _)); exact BK196.out) Tryd.underlying72 rfl (by kernel_rfl)) rfl ?_
    exact ⟨_, by first | rfl | (simp [errW_none, errW_some] <;> rfl) | (simp [*, errW_none, errW_some] <;> rfl), by first | exact Kd.R_nil _ _ _ _ _ | exact Kd.N_nil _ _ _ _ _ | exact Kd.V_nil _ _ _ _ _ | exact Kd.Q_nil _ _ _ _ _ | exact Kd.S_nil _ _ _ _ _, by repeat (first | (with_reducible first | exact HI0.out | apply IsS129.alloc | apply IsS129.drewN | apply IsS129.drew | apply IsS129.set_0 | apply IsS129.set_1 | apply IsS129.set_2 | refine IsS129.far ?_ NB0_196.out _ | refine IsS129.far ?_ NB0_197.out _) | exact HI0.out), by repeat (first | (with_reducible first | exact HB.out | apply below_alloc | apply pw_below_drewN | apply below_drew1 | refine below_set ?_ (IsS129.ge HI0.out) | refine below_set ?_ GE196.out | refine below_set ?_ GE197.out) | exact HB.out), by repeat (first | (with_reducible first | exact HK.out | apply KeepBut.set_ | apply keep_drewN | apply keep_drew | apply keep_alloc | refine keep_far ?_ GW196.out _ | refine keep_far ?_ GW197.out _) | exact HK.out)⟩
   ·replace c20 := Bool.eq_false_iff.mpr c20
    subst c20
    have H1 : (schema_take.l0 kj6 a1 t212 0 t213 t214 t215 t198 t202 t206 t207 t208 ([] : List (S72))) = some (r1, r2, r3, r4, r5, r6, r7, r8, r9) := by rw [if_neg (show ¬ (false = true) by decide)] at H; exact H
    clear H
    have H := H1
    clear H1
    have H' := Aside0.mk H
    clear H
    go_wp2
    go_loopg [28] kj6 (fun kq v28 w' => ∃ (x28_2 : Int) (x1000_2 : ByteArray) (x1001_2 : Int) (x1002_2 : Bool) (x198005_2 : List (S72)) (u198005 : Value), v28 = .int .i64 x28_2 ∧ Aside0 (schema_take.l0 kq a1 t212 x28_2 x1000_2 x1001_2 x1002_2 t198 t202 t206 t207 t208 x198005_2 = some (r1, r2, r3, r4, r5, r6, r7, r8, r9)) ∧ Aside0 (kq ≤ kj6) ∧ Aside0 (Kd.R k72 72 w' w.heap.size (fun k_ => k_ ≠ gb196 ∧ k_ ≠ gb197) u198005 x198005_2) ∧ Aside0 (w'.heap[gb196]? = some (.cells #[.int .i64 0, .int .i64 0, .int .i64 0, .int .i64 0, .string (⟨#[]⟩ : ByteArray), (.slice none 0 0)] 72 (0, 0))) ∧ Aside0 (w'.heap[gb197]? = some (.cells #[.int .i64 t198, .int .i64 t202, .int .i64 t206, .int .i64 t207, .string t208, u198005] 72 (0, 0))) ∧ Aside0 (IsS129 w0 w' g x1000_2 x1001_2 x1002_2) ∧ Aside0 (KeepBut w w' g none) ∧ Aside0 (Below w0.heap.size w0 w'))
    case atStart => exact ⟨(0), (t213), (t214), (t215), (([] : List (S72))), (.slice none 0 0), (by first | rfl | (simp; done) | (simp [*]; done)), H', ⟨Nat.le_refl _⟩, ⟨by first | exact Kd.R_nil _ _ _ _ _ | exact Kd.N_nil _ _ _ _ _ | exact Kd.V_nil _ _ _ _ _ | exact Kd.Q_nil _ _ _ _ _ | exact Kd.S_nil _ _ _ _ _⟩, ⟨by (with_reducible repeat (first | refine blk_drewN ?_ _ | refine blk_drew ?_ | refine blk_alloc ?_ _)); exact BK196.out⟩, ⟨by (with_reducible repeat (first | refine blk_drewN ?_ _ | refine blk_drew ?_ | refine blk_alloc ?_ _)); exact BK197.out⟩, ⟨by repeat (first | (with_reducible first | exact HI0.out | apply IsS129.alloc | apply IsS129.drewN | apply IsS129.drew | apply IsS129.set_0 | apply IsS129.set_1 | apply IsS129.set_2 | refine IsS129.far ?_ NB0_196.out _ | refine IsS129.far ?_ NB0_197.out _) | exact HI0.out)⟩, ⟨by repeat (first | (with_reducible first | exact HK.out | apply KeepBut.set_ | apply keep_drewN | apply keep_drew | apply keep_alloc | refine keep_far ?_ GW196.out _ | refine keep_far ?_ GW197.out _) | exact HK.out)⟩, ⟨by repeat (first | (with_reducible first | exact HB.out | apply below_alloc | apply pw_below_drewN | apply below_drew1 | refine below_set ?_ (IsS129.ge HI0.out) | refine below_set ?_ GE196.out | refine below_set ?_ GE197.out) | exact HB.out)⟩⟩
    case round =>
     clear H'
     try clear c1
     try clear c2
     try clear p2
     try clear c6
     try clear c9
     try clear c11
     try clear c12
     try clear c19
     try clear c19b0
     try clear c20
     try clear c23
     try clear c24
     try clear c26
     try clear hcz13_0
     try clear hcz13_1
     try clear hcz13_2
     try clear hcz13_3
     try clear hcz13_4
     try clear hcz13_5
     try clear hcz15_0
     try clear hcz15_1
     try clear hcz15_2
     try clear hcz15_3
     try clear hcz15_4
     try clear hcz15_5
     try clear hcz17_0
     try clear hcz17_1
     try clear hcz17_2
     try clear hcz17_3
     try clear hcz17_4
     try clear hcz17_5
     try clear hcz25_0
     try clear hcz25_1
     try clear hcz25_2
     try clear hcz25_3
     try clear hcz25_4
     try clear hcz25_5
     try clear hcz27_0
     try clear hcz27_1
     try clear hcz27_2
     try clear hcz27_3
     try clear hcz27_4
     try clear hcz27_5
     try clear hfz13_0
     try clear hfz13_1
     try clear hfz13_2
     try clear hfz13_3
     try clear hfz13_4
     try clear hfz13_5
     try clear hfz15_0
     try clear hfz15_1
     try clear hfz15_2
     try clear hfz15_3
     try clear hfz15_4
     try clear hfz15_5
     try clear hfz17_0
     try clear hfz17_1
     try clear hfz17_2
     try clear hfz17_3
     try clear hfz17_4
     try clear hfz17_5
     try clear hfz25_0
     try clear hfz25_1
     try clear hfz25_2
     try clear hfz25_3
     try clear hfz25_4
     try clear hfz25_5
     try clear hfz27_0
     try clear hfz27_1
     try clear hfz27_2
     try clear hfz27_3
     try clear hfz27_4
     try clear hfz27_5
     try clear p2
     obtain ⟨x28_2, x1000_2, x1001_2, x1002_2, x198005_2, u198005, rfl, HA, HK2, HO_198005, BK196, BK197, HI0, HK, HB⟩ := hrel
     cases gk with
     | zero => exact absurd HA.out (by simp [schema_take.l0])
     | succ k2 =>
      have H := HA.out
      clear HA
      simp only [schema_take.l0] at H
      by_cases c28 : x28_2 < t212
      ·rw [if_pos c28] at H
       have c28b0 : decide (x28_2 < t212) = true := decide_eq_true c28
       clear c28
       replace H := Option.bind_eq_some_iff.mp H
       obtain ⟨⟨t220, t221, t222, t223, t224, t225, t228, t229, t230⟩, A290, H⟩ := H
       replace H : (if x198005_2.length < 1954687338268 then (schema_take.l0 k2 a1 t212 (wrap64 (x28_2 + 1)) t228 t229 t230 t198 t202 t206 t207 t208 (x198005_2 ++ [(⟨t220, t221, (⟨t222, t223, t224⟩ : S70), t225⟩ : S72)])) else (none)) = some (r1, r2, r3, r4, r5, r6, r7, r8, r9) := H
       have A29 := Aside0.mk A290
       clear A290
       by_cases c30 : x198005_2.length < 1954687338268
       ·rw [if_pos c30] at H
        have LMc30 := Aside0.mk c30
        clear c30
        obtain ⟨y231, hy231⟩ : ∃ y_ : List (S72), y_ = (x198005_2 ++ [(⟨t220, t221, (⟨t222, t223, t224⟩ : S70), t225⟩ : S72)]) := ⟨_, rfl⟩
        replace H : (schema_take.l0 k2 a1 t212 (wrap64 (x28_2 + 1)) t228 t229 t230 t198 t202 t206 t207 t208 y231) = some (r1, r2, r3, r4, r5, r6, r7, r8, r9) := by first | (rw [hy231]; with_reducible exact H) | (have H2_ := (Option.bind_some _ _).symm.trans H; rw [hy231]; with_reducible exact H2_) | (have H2_ := (Option.bind_some _ _).symm.trans H; with_reducible exact H2_) | with_reducible exact H | (rw [hy231]; exact H) | exact H
        have Ny231 := Aside0.mk hy231
        clear hy231
        have H' := Aside0.mk H
        clear H
        try go_wp2
        have n0_ := Aside0.mk (Kd.R_drew HO_198005.out)
        have n1_ := Aside0.mk (blk_drew BK196.out)
        have n2_ := Aside0.mk (blk_drew BK197.out)
        have n3_ := Aside0.mk (IsS129.drew HI0.out)
        have n4_ := Aside0.mk (keep_drew HK.out)
        have n5_ := Aside0.mk (below_drew1 HB.out)
        clear HO_198005
        clear BK196
        clear BK197
        clear HI0
        clear HK
        clear HB
        have HO_198005 := n0_
        have BK196 := n1_
        have BK197 := n2_
        have HI0 := n3_
        have HK := n4_
        have HB := n5_
        clear n0_ n1_ n2_ n3_ n4_ n5_
        refine start_ (n := 10) (S := fun w' => w'.cell? ⟨gb197, 0, none⟩ = some (.int .i64 t198) ∧ w'.cell? ⟨gb197, 1, none⟩ = some (.int .i64 t202) ∧ w'.cell? ⟨gb197, 2, none⟩ = some (.int .i64 t206) ∧ w'.cell? ⟨gb197, 3, none⟩ = some (.int .i64 t207) ∧ w'.cell? ⟨gb197, 4, none⟩ = some (.string t208) ∧ w'.cell? ⟨gb197, 5, none⟩ = some (u198005)) (ds := [9]) #[false, false, false, false, false, false, false, false, false, false] (by kernel_rfl) rfl rfl ⟨(blk_cell BK197.out 0).trans rfl, (blk_cell BK197.out 1).trans rfl, (blk_cell BK197.out 2).trans rfl, (blk_cell BK197.out 3).trans rfl, (blk_cell BK197.out 4).trans rfl, (blk_cell BK197.out 5).trans rfl⟩ (fun hHeld => ?_); refine with_tabW schema_take.tab11 schema_take.bits11 (fun HT_ HW_ => ?_)
        generalize wr.drew = w31 at HO_198005 BK196 BK197 HI0 HK HB hHeld ⊢
        refine pure_ (i := 0) (N := some 30) (v := ?_) (a' := ?_) #[true, false, false, false, false, false, false, false, false, false] rfl rfl (any_of HT_.out (by kernel_rfl)) (fun _ _ _ h => h) (Or.inl ⟨by rfl, ?_⟩) ?_ ?_
        rotate_left
        ·intro w'
         go_simp
         with_reducible rfl
        rotate_left
        ·simp only [Act.put, List.setIfInBounds_toArray, List.set_cons_zero, List.set_cons_succ, i64_w, i32_w]
         rfl
        refine pure_ (i := 2) (N := some 32) (v := ?_) (a' := ?_) #[true, false, true, false, false, false, false, false, false, false] rfl rfl (any_of HT_.out (by kernel_rfl)) (fun _ _ _ h => h) (Or.inl ⟨by rfl, ?_⟩) ?_ ?_
        rotate_left
        ·intro w'
         go_simp
         with_reducible rfl
        rotate_left
        ·simp only [Act.put, List.setIfInBounds_toArray, List.set_cons_zero, List.set_cons_succ, i64_w, i32_w]
         rfl
        refine pure_ (i := 3) (N := some 33) (v := ?_) (a' := ?_) #[true, false, true, true, false, false, false, false, false, false] rfl rfl (any_of HT_.out (by kernel_rfl)) (fun _ _ _ h => h) (Or.inl ⟨by rfl, ?_⟩) ?_ ?_
        rotate_left
        ·intro w'
         go_simp
         with_reducible rfl
        rotate_left
        ·simp only [Act.put, List.setIfInBounds_toArray, List.set_cons_zero, List.set_cons_succ, i64_w, i32_w]
         rfl
        refine pure_ (i := 4) (N := some 34) (v := ?_) (a' := ?_) #[true, false, true, true, true, false, false, false, false, false] rfl rfl (any_of HT_.out (by kernel_rfl)) (fun _ _ _ h => h) (Or.inl ⟨by rfl, ?_⟩) ?_ ?_
        rotate_left
        ·intro w'
         go_simp
         with_reducible rfl
        rotate_left
        ·simp only [Act.put, List.setIfInBounds_toArray, List.set_cons_zero, List.set_cons_succ, i64_w, i32_w]
         rfl
        refine take_ (i := 1) (N := some 31) (v := ?_) (a' := ?_) #[true, true, true, true, true, false, false, false, false, false] rfl rfl (take_ofW HT_.out HW_.out (by kernel_rfl)) (fun _ _ _ h => h) (Or.inl ⟨by rfl, ?_⟩) hHeld ?_ ?_
        rotate_left
        ·rintro w' ⟨s0, s1, s2, s3, s4, s5⟩
         go_simp
         with_reducible rfl
        rotate_left
        ·simp only [Act.put, List.setIfInBounds_toArray, List.set_cons_zero, List.set_cons_succ, i64_w, i32_w]
         rfl
        refine one_ (i := 5) (N := some 35) #[true, true, true, true, true, true, false, false, false, false] rfl rfl (one_of HT_.out (by kernel_rfl)) (by decide) (fun K hK => ?_)
        refine goes_ Tryd.func97 (by kernel_rfl) rfl #[.pointer (some ⟨g, 0, none⟩), .int .i64 (wrap64 (a1 - 1))] (by rfl) rfl rfl (by (try simp only [List.map_toArray, List.map_cons, List.map_nil]); first | done | rfl | (simp only [List.length_drop, List.length_take]; rfl)) ?_
        with_reducible refine (ih k2 (by have := HJ6.out; have := HK2.out; omega) g x1000_2 x1001_2 x1002_2 (wrap64 (a1 - 1)) t220 t221 t222 t223 t224 t225 t228 t229 t230 w0 _ ?side1 ?side2 A29.out).mono ?_
        (case side1 => repeat (first | (with_reducible first | exact HI0.out | apply IsS129.alloc | apply IsS129.drewN | apply IsS129.drew | apply IsS129.set_0 | apply IsS129.set_1 | apply IsS129.set_2 | refine IsS129.far ?_ NB0_196.out _ | refine IsS129.far ?_ NB0_197.out _) | exact HI0.out))
        (case side2 => repeat (first | (with_reducible first | exact HB.out | apply below_alloc | apply pw_below_drewN | apply below_drew1 | refine below_set ?_ (IsS129.ge HI0.out) | refine below_set ?_ GE196.out | refine below_set ?_ GE197.out) | exact HB.out))
        rintro e w32 ⟨v226, rfl, ho0, hi, hb, hk⟩
        refine ⟨_, rfl, ?_⟩
        have n0_ := Aside0.mk (Kd.R_mono (Kd.R_told (Kd.R_oldK (IsS129.apart (show IsS129 w0 _ g x1000_2 x1001_2 x1002_2 from by repeat (first | (with_reducible first | exact HI0.out | apply IsS129.alloc | apply IsS129.drewN | apply IsS129.drew | apply IsS129.set_0 | apply IsS129.set_1 | apply IsS129.set_2 | refine IsS129.far ?_ NB0_196.out _ | refine IsS129.far ?_ NB0_197.out _) | exact HI0.out)) (by (with_reducible repeat (first | apply Kd.R_alloc | apply Kd.R_drewN | apply Kd.R_drew)); exact HO_198005.out) (by decide)) hk) (Kd.R_base ho0)) (fun _ h_ => h_.1))
        have n1_ := Aside0.mk (KeepBut.blk hk (g' := gb196) (o := .cells #[.int .i64 0, .int .i64 0, .int .i64 0, .int .i64 0, .string (⟨#[]⟩ : ByteArray), .slice none 0 0] 72 (0, 0)) (by (with_reducible repeat (first | refine blk_drewN ?_ _ | refine blk_drew ?_ | refine blk_alloc ?_ _)); exact BK196.out) NB196_0.out (by simp))
        have n2_ := Aside0.mk (KeepBut.blk hk (g' := gb197) (o := .cells #[.int .i64 t198, .int .i64 t202, .int .i64 t206, .int .i64 t207, .string t208, u198005] 72 (0, 0)) (by (with_reducible repeat (first | refine blk_drewN ?_ _ | refine blk_drew ?_ | refine blk_alloc ?_ _)); exact BK197.out) NB197_0.out (by simp))
        have n3_ := Aside0.mk (Kd.R_lower (Kd.R_newB (Kd.R_newB (Kd.R_new' ho0 (Kd.R_lt (by (with_reducible repeat (first | apply Kd.R_alloc | apply Kd.R_drewN | apply Kd.R_drew)); exact HO_198005.out))) (g := gb196) (o := .cells #[.int .i64 0, .int .i64 0, .int .i64 0, .int .i64 0, .string (⟨#[]⟩ : ByteArray), .slice none 0 0] 72 (0, 0)) (by (with_reducible repeat (first | refine blk_drewN ?_ _ | refine blk_drew ?_ | refine blk_alloc ?_ _)); exact BK196.out)) (g := gb197) (o := .cells #[.int .i64 t198, .int .i64 t202, .int .i64 t206, .int .i64 t207, .string t208, u198005] 72 (0, 0)) (by (with_reducible repeat (first | refine blk_drewN ?_ _ | refine blk_drew ?_ | refine blk_alloc ?_ _)); exact BK197.out)) (keep_size (w := w) (g := g) (row := none) (by repeat (first | (with_reducible first | exact HK.out | apply KeepBut.set_ | apply keep_drewN | apply keep_drew | apply keep_alloc | refine keep_far ?_ GW196.out _ | refine keep_far ?_ GW197.out _) | exact HK.out))))
        have n4_ := Aside0.mk (KeepBut.trans (by repeat (first | (with_reducible first | exact HK.out | apply KeepBut.set_ | apply keep_drewN | apply keep_drew | apply keep_alloc | refine keep_far ?_ GW196.out _ | refine keep_far ?_ GW197.out _) | exact HK.out)) hk (.inl rfl))
        have n5_ := Aside0.mk (hb)
        have n6_ := Aside0.mk (hi)
        clear HO_198005
        clear BK196
        clear BK197
        clear HK
        clear HB
        clear HI0
        have HO_198005 := n0_
        have BK196 := n1_
        have BK197 := n2_
        have HO227 := n3_
        have HK := n4_
        have HB := n5_
        have HI0 := n6_
        clear n0_ n1_ n2_ n3_ n4_ n5_ n6_
        (try clear hb)
        (try clear hb2)
        (try clear hk)
        (try clear hi)
        (try clear ho0)
        obtain ⟨Ao34, co34, eo34⟩ := Kd.R_slice HO227.out
        (first | subst eo34 | (injection eo34 with f1_ f2_ f3_; have f4_ := f1_.symm; have f5_ := f3_.symm; clear f1_ f2_ f3_; subst f4_; subst f5_))
        refine hK.out _ _ ⟨(blk_cell BK197.out 0).trans rfl, (blk_cell BK197.out 1).trans rfl, (blk_cell BK197.out 2).trans rfl, (blk_cell BK197.out 3).trans rfl, (blk_cell BK197.out 4).trans rfl, (blk_cell BK197.out 5).trans rfl⟩ (fun hHeld => ?_)
        clear hK K
        refine norm_ (a' := ?_) ?_ ?_
        rotate_left
        ·show Act.put _ (some 35) _ = _
         simp only [Act.put, List.setIfInBounds_toArray, List.set_cons_zero, List.set_cons_succ, i64_w, i32_w]
         rfl
        refine one_ (i := 6) (N := some 36) #[true, true, true, true, true, true, true, false, false, false] rfl rfl (one_of HT_.out (by kernel_rfl)) (by decide) (fun K hK => ?_)
        refine value_ (w1 := ?_) (v := ?_) (by rfl) rfl ?_ ?_
        rotate_left 2
        ·go_simp
         constructor
         ·rfl
         ·rfl
        refine hK.out _ _ ⟨(blk_cell (blk_alloc BK197.out _) 0).trans rfl, (blk_cell (blk_alloc BK197.out _) 1).trans rfl, (blk_cell (blk_alloc BK197.out _) 2).trans rfl, (blk_cell (blk_alloc BK197.out _) 3).trans rfl, (blk_cell (blk_alloc BK197.out _) 4).trans rfl, (blk_cell (blk_alloc BK197.out _) 5).trans rfl⟩ (fun hHeld => ?_)
        clear hK K
        refine norm_ (a' := ?_) ?_ ?_
        rotate_left
        ·show Act.put _ (some 36) _ = _
         simp only [Act.put, List.setIfInBounds_toArray, List.set_cons_zero, List.set_cons_succ, i64_w, i32_w]
         rfl
        refine one_ (i := 7) (N := some 37) #[true, true, true, true, true, true, true, true, false, false] rfl rfl (one_of HT_.out (by kernel_rfl)) (by decide) (fun K hK => ?_)
        refine Kd.R_append_step k72 w.heap.size (by rfl) (.tmp 31) (.tmp 36) 43 72 (.agg #[(.int .i64 0), (.int .i64 0), (.int .i64 0), (.int .i64 0), (.string ⟨#[]⟩), (.slice none 0 0)]) 72 rfl Tryd.underlying43 info72 rfl (by decide) (by omega) u198005 x198005_2 (⟨t220, t221, (⟨t222, t223, t224⟩ : S70), t225⟩ : S72) [.int .i64 t220, .int .i64 t221, .int .i64 t222, .int .i64 t223, .string t224, .slice Ao34 t225.length co34] (fun k_ => k_ ≠ gb196 ∧ k_ ≠ gb197) (fun k_ => ((fun k_ => k_ ≠ gb196 ∧ k_ ≠ gb197)) k_ ∧ some k_ ≠ (u198005 : Value).ownBlock) rfl rfl ?aP (fun _ hk => hk) ?aF ?aO (Below.refl _ _) ?aS ?aL ?_
        (case aP => exact k72_mkM _ _ _ (⟨t220, t221, (⟨t222, t223, t224⟩ : S70), t225⟩ : S72) (Kd.R_mono (HO227.out) (fun k_ hk => ⟨⟨hk.1.2, hk.2⟩, hk.1.1.2⟩)))
        (case aF => exact (fun k_ hk => ⟨Kd.freshB (g := gb196) (o := .cells #[.int .i64 0, .int .i64 0, .int .i64 0, .int .i64 0, .string (⟨#[]⟩ : ByteArray), .slice none 0 0] 72 (0, 0)) (by (with_reducible repeat (first | refine blk_drewN ?_ _ | refine blk_drew ?_ | refine blk_alloc ?_ _)); exact BK196.out) k_ hk, Kd.freshB (g := gb197) (o := .cells #[.int .i64 t198, .int .i64 t202, .int .i64 t206, .int .i64 t207, .string t208, u198005] 72 (0, 0)) (by (with_reducible repeat (first | refine blk_drewN ?_ _ | refine blk_drew ?_ | refine blk_alloc ?_ _)); exact BK197.out) k_ hk⟩))
        (case aO => exact (by (with_reducible repeat (first | apply Kd.R_alloc | apply Kd.R_drewN | apply Kd.R_drew)); exact Kd.R_mono HO_198005.out (fun _ hk => ⟨hk.1.1, hk.1.2⟩)))
        (case aS => exact (keep_size (w := w) (g := g) (row := none) (by repeat (first | (with_reducible first | exact HK.out | apply KeepBut.set_ | apply keep_drewN | apply keep_drew | apply keep_alloc | refine keep_far ?_ GW196.out _ | refine keep_far ?_ GW197.out _) | exact HK.out))))
        (case aL => have := LMc30.out; omega)
        intro v232 w33 ho hb hg hat
        rw [← Ny231.out] at ho
        have n0_ := Aside0.mk (blk_grown (g := gb196) (o := .cells #[.int .i64 0, .int .i64 0, .int .i64 0, .int .i64 0, .string (⟨#[]⟩ : ByteArray), .slice none 0 0] 72 (0, 0)) (by (with_reducible repeat (first | refine blk_drewN ?_ _ | refine blk_drew ?_ | refine blk_alloc ?_ _)); exact BK196.out) hg (Kd.R_away HO_198005.out (fun _ hk => hk.1.1)))
        have n1_ := Aside0.mk (blk_grown (g := gb197) (o := .cells #[.int .i64 t198, .int .i64 t202, .int .i64 t206, .int .i64 t207, .string t208, u198005] 72 (0, 0)) (by (with_reducible repeat (first | refine blk_drewN ?_ _ | refine blk_drew ?_ | refine blk_alloc ?_ _)); exact BK197.out) hg (Kd.R_away HO_198005.out (fun _ hk => hk.1.2)))
        have n2_ := Aside0.mk (IsS129.grown (by repeat (first | (with_reducible first | exact HI0.out | apply IsS129.alloc | apply IsS129.drewN | apply IsS129.drew | apply IsS129.set_0 | apply IsS129.set_1 | apply IsS129.set_2 | refine IsS129.far ?_ NB0_196.out _ | refine IsS129.far ?_ NB0_197.out _) | exact HI0.out)) hg (IsS129.own_ne HI0.out HO_198005.out (by decide)))
        have n3_ := Aside0.mk (below_weaken (by repeat (first | (with_reducible first | exact HB.out | apply below_alloc | apply pw_below_drewN | apply below_drew1 | refine below_set ?_ (IsS129.ge HI0.out) | refine below_set ?_ GE196.out | refine below_set ?_ GE197.out) | exact HB.out)) HL.out hb)
        have n4_ := Aside0.mk (KeepBut.trans (by repeat (first | (with_reducible first | exact HK.out | apply KeepBut.set_ | apply keep_drewN | apply keep_drew | apply keep_alloc | refine keep_far ?_ GW196.out _ | refine keep_far ?_ GW197.out _) | exact HK.out)) (KeepBut.of_grown hg g) (Kd.R_base2 HO_198005.out))
        have n5_ := Aside0.mk (ho)
        clear BK196
        clear BK197
        clear HI0
        clear HB
        clear HK
        clear HO_198005
        clear HO227
        have BK196 := n0_
        have BK197 := n1_
        have HI0 := n2_
        have HB := n3_
        have HK := n4_
        have HO233 := n5_
        clear n0_ n1_ n2_ n3_ n4_ n5_
        clear ho hb hg hat
        obtain ⟨Ao35, co35, eo35⟩ := Kd.R_slice HO233.out
        (first | subst eo35 | (injection eo35 with f1_ f2_ f3_; have f4_ := f1_.symm; have f5_ := f3_.symm; clear f1_ f2_ f3_; subst f4_; subst f5_))
        refine hK.out _ _ ⟨(blk_cell BK197.out 0).trans rfl, (blk_cell BK197.out 1).trans rfl, (blk_cell BK197.out 2).trans rfl, (blk_cell BK197.out 3).trans rfl, (blk_cell BK197.out 4).trans rfl, (blk_cell BK197.out 5).trans rfl⟩ (fun hHeld => ?_)
        clear hK K
        refine norm_ (a' := ?_) ?_ ?_
        rotate_left
        ·show Act.put _ (some 37) _ = _
         simp only [Act.put, List.setIfInBounds_toArray, List.set_cons_zero, List.set_cons_succ, i64_w, i32_w]
         rfl
        refine pure_ (i := 8) (N := some 38) (v := ?_) (a' := ?_) #[true, true, true, true, true, true, true, true, true, false] rfl rfl (any_of HT_.out (by kernel_rfl)) (fun _ _ _ h => h) (Or.inl ⟨by rfl, ?_⟩) ?_ ?_
        rotate_left
        ·intro w'
         go_simp
         with_reducible rfl
        rotate_left
        ·simp only [Act.put, List.setIfInBounds_toArray, List.set_cons_zero, List.set_cons_succ, i64_w, i32_w]
         rfl
        refine last_ (i := 9) (N := none) #[true, true, true, true, true, true, true, true, true, true] rfl rfl (one_of HT_.out (by kernel_rfl)) (by decide) (fun K hK => ?_)
        have hs36 : w33.cell? ⟨gb197, 5, none⟩ = some (u198005) := (blk_cell BK197.out 5).trans rfl
        have hfs36 := blk_frozen BK197.out 5
        have hns36_0 := NB196_197.out
        have hms36_0 := NB197_196.out
        refine skip_ (w1 := ?_) (by rfl) rfl ?_ ?_
        rotate_left
        ·go_simp
         rfl
        refine hK.out _ _ ?_
        clear hK K
        refine done_ (done_of HT_.out (by kernel_rfl)) ?_
        try go_wp2
        go_roundg k2
        case measure => have := HJ6.out; have := HK2.out; omega
        case rel => exact ⟨(wrap64 (x28_2 + 1)), (t228), (t229), (t230), (y231), (.slice Ao35 y231.length co35), (by first | rfl | (simp; done) | (simp [*]; done)), H', ⟨by have := HJ6.out; have := HK2.out; omega⟩, ⟨by (with_reducible repeat (first | apply Kd.R_alloc | apply Kd.R_drewN | apply Kd.R_drew)); exact Kd.R_mono (Kd.R_far (p := ⟨gb197, 5, none⟩) (Kd.R_mono HO233.out (fun k_ hk => (⟨hk, hk.2⟩ : _ ∧ k_ ≠ gb197))) (fun _ hk => hk.2) (.slice Ao35 y231.length co35)) (fun _ hk => ⟨hk.1.1, hk.1.2⟩)⟩, ⟨by (with_reducible repeat (first | refine blk_drewN ?_ _ | refine blk_drew ?_ | refine blk_alloc ?_ _)); refine blk_far ?_ NB196_197.out _; (with_reducible repeat (first | refine blk_drewN ?_ _ | refine blk_drew ?_ | refine blk_alloc ?_ _)); exact BK196.out⟩, ⟨by (with_reducible repeat (first | refine blk_drewN ?_ _ | refine blk_drew ?_ | refine blk_alloc ?_ _)); refine blk_put (cs := #[.int .i64 t198, .int .i64 t202, .int .i64 t206, .int .i64 t207, .string t208, u198005]) ?_ 5 _ rfl; (with_reducible repeat (first | refine blk_drewN ?_ _ | refine blk_drew ?_ | refine blk_alloc ?_ _)); exact BK197.out⟩, ⟨by repeat (first | (with_reducible first | exact HI0.out | apply IsS129.alloc | apply IsS129.drewN | apply IsS129.drew | apply IsS129.set_0 | apply IsS129.set_1 | apply IsS129.set_2 | refine IsS129.far ?_ NB0_196.out _ | refine IsS129.far ?_ NB0_197.out _) | exact HI0.out)⟩, ⟨by repeat (first | (with_reducible first | exact HK.out | apply KeepBut.set_ | apply keep_drewN | apply keep_drew | apply keep_alloc | refine keep_far ?_ GW196.out _ | refine keep_far ?_ GW197.out _) | exact HK.out)⟩, ⟨by repeat (first | (with_reducible first | exact HB.out | apply below_alloc | apply pw_below_drewN | apply below_drew1 | refine below_set ?_ (IsS129.ge HI0.out) | refine below_set ?_ GE196.out | refine below_set ?_ GE197.out) | exact HB.out)⟩⟩
       ·rw [if_neg c30] at H
        exact absurd H (by simp)
      ·rw [if_neg c28] at H
       have c28b0 : decide (x28_2 < t212) = false := decide_eq_false c28
       clear c28
       simp only [Option.some.injEq, Prod.mk.injEq] at H
       obtain ⟨rfl, rfl, rfl, rfl, rfl, rfl, rfl, rfl, rfl⟩ := H
       have hnb37 := NB197_196.out
       have hnc37 := NB196_197.out
       have hnb38 := NB197_0.out
       have hnc38 := NB0_197.out
       have hcz39_0 : wr.cell? ⟨gb197, 0, none⟩ = some (.int .i64 t198) := (blk_cell BK197.out 0).trans rfl
       have hcz39_1 : wr.cell? ⟨gb197, 1, none⟩ = some (.int .i64 t202) := (blk_cell BK197.out 1).trans rfl
       have hcz39_2 : wr.cell? ⟨gb197, 2, none⟩ = some (.int .i64 t206) := (blk_cell BK197.out 2).trans rfl
       have hcz39_3 : wr.cell? ⟨gb197, 3, none⟩ = some (.int .i64 t207) := (blk_cell BK197.out 3).trans rfl
       have hcz39_4 : wr.cell? ⟨gb197, 4, none⟩ = some (.string t208) := (blk_cell BK197.out 4).trans rfl
       have hcz39_5 : wr.cell? ⟨gb197, 5, none⟩ = some (u198005) := (blk_cell BK197.out 5).trans rfl
       have hfz39_0 := blk_frozen BK197.out 0
       have hfz39_1 := blk_frozen BK197.out 1
       have hfz39_2 := blk_frozen BK197.out 2
       have hfz39_3 := blk_frozen BK197.out 3
       have hfz39_4 := blk_frozen BK197.out 4
       have hfz39_5 := blk_frozen BK197.out 5
       have hnb40 := NB196_0.out
       have hnc40 := NB0_196.out
       have hcz41_0 : wr.cell? ⟨gb196, 0, none⟩ = some (.int .i64 0) := (blk_cell BK196.out 0).trans rfl
       have hcz41_1 : wr.cell? ⟨gb196, 1, none⟩ = some (.int .i64 0) := (blk_cell BK196.out 1).trans rfl
       have hcz41_2 : wr.cell? ⟨gb196, 2, none⟩ = some (.int .i64 0) := (blk_cell BK196.out 2).trans rfl
       have hcz41_3 : wr.cell? ⟨gb196, 3, none⟩ = some (.int .i64 0) := (blk_cell BK196.out 3).trans rfl
       have hcz41_4 : wr.cell? ⟨gb196, 4, none⟩ = some (.string (⟨#[]⟩ : ByteArray)) := (blk_cell BK196.out 4).trans rfl
       have hcz41_5 : wr.cell? ⟨gb196, 5, none⟩ = some (.slice none 0 0) := (blk_cell BK196.out 5).trans rfl
       have hfz41_0 := blk_frozen BK196.out 0
       have hfz41_1 := blk_frozen BK196.out 1
       have hfz41_2 := blk_frozen BK196.out 2
       have hfz41_3 := blk_frozen BK196.out 3
       have hfz41_4 := blk_frozen BK196.out 4
       have hfz41_5 := blk_frozen BK196.out 5
       obtain ⟨Ao42, co42, eo42⟩ := Kd.R_slice HO_198005.out
       subst eo42
       go_wp2
       refine bodyPost_ret (results_cell_row rfl _ _ gb196 72 #[.int .i64 t198, .int .i64 t202, .int .i64 t206, .int .i64 t207, .string t208, .slice Ao42 x198005_2.length co42] (0, 0) _ rfl (by (with_reducible repeat (first | refine blk_drewN ?_ _ | refine blk_drew ?_ | refine blk_alloc ?_ _)); refine blk_put (cs := #[.int .i64 t198, .int .i64 t202, .int .i64 t206, .int .i64 t207, .string t208, .slice none 0 0]) ?_ 5 _ rfl; (with_reducible repeat (first | refine blk_drewN ?_ _ | refine blk_drew ?_ | refine blk_alloc ?_ _)); refine blk_put (cs := #[.int .i64 t198, .int .i64 t202, .int .i64 t206, .int .i64 t207, .string (⟨#[]⟩ : ByteArray), .slice none 0 0]) ?_ 4 _ rfl; (with_reducible repeat (first | refine blk_drewN ?_ _ | refine blk_drew ?_ | refine blk_alloc ?_ _)); refine blk_put (cs := #[.int .i64 t198, .int .i64 t202, .int .i64 t206, .int .i64 0, .string (⟨#[]⟩ : ByteArray), .slice none 0 0]) ?_ 3 _ rfl; (with_reducible repeat (first | refine blk_drewN ?_ _ | refine blk_drew ?_ | refine blk_alloc ?_ _)); refine blk_put (cs := #[.int .i64 t198, .int .i64 t202, .int .i64 0, .int .i64 0, .string (⟨#[]⟩ : ByteArray), .slice none 0 0]) ?_ 2 _ rfl; (with_reducible repeat (first | refine blk_drewN ?_ _ | refine blk_drew ?_ | refine blk_alloc ?_ _)); refine blk_put (cs := #[.int .i64 t198, .int .i64 0, .int .i64 0, .int .i64 0, .string (⟨#[]⟩ : ByteArray), .slice none 0 0]) ?_ 1 _ rfl; (with_reducible repeat (first | refine blk_drewN ?_ _ | refine blk_drew ?_ | refine blk_alloc ?_ _)); refine blk_put (cs := #[.int .i64 0, .int .i64 0, .int .i64 0, .int .i64 0, .string (⟨#[]⟩ : ByteArray), .slice none 0 0]) ?_ 0 _ rfl; (with_reducible repeat (first | refine blk_drewN ?_ _ | refine blk_drew ?_ | refine blk_alloc ?_ _)); exact BK196.out) Tryd.underlying72 rfl (by kernel_rfl)) rfl ?_
       exact ⟨_, by first | rfl | (simp [errW_none, errW_some] <;> rfl) | (simp [*, errW_none, errW_some] <;> rfl), by (with_reducible repeat (first | apply Kd.R_alloc | apply Kd.R_drewN | apply Kd.R_drew)); exact Kd.R_mono (Kd.R_far (p := ⟨gb196, 5, none⟩) (Kd.R_far (p := ⟨gb196, 4, none⟩) (Kd.R_far (p := ⟨gb196, 3, none⟩) (Kd.R_far (p := ⟨gb196, 2, none⟩) (Kd.R_far (p := ⟨gb196, 1, none⟩) (Kd.R_far (p := ⟨gb196, 0, none⟩) (Kd.R_mono HO_198005.out (fun k_ hk => (⟨hk, hk.1⟩ : _ ∧ k_ ≠ gb196))) (fun _ hk => hk.2) (.int .i64 t198)) (fun _ hk => hk.2) (.int .i64 t202)) (fun _ hk => hk.2) (.int .i64 t206)) (fun _ hk => hk.2) (.int .i64 t207)) (fun _ hk => hk.2) (.string t208)) (fun _ hk => hk.2) (.slice Ao42 x198005_2.length co42)) (fun _ hk => trivial), by repeat (first | (with_reducible first | exact HI0.out | apply IsS129.alloc | apply IsS129.drewN | apply IsS129.drew | apply IsS129.set_0 | apply IsS129.set_1 | apply IsS129.set_2 | refine IsS129.far ?_ NB0_196.out _ | refine IsS129.far ?_ NB0_197.out _) | exact HI0.out), by repeat (first | (with_reducible first | exact HB.out | apply below_alloc | apply pw_below_drewN | apply below_drew1 | refine below_set ?_ (IsS129.ge HI0.out) | refine below_set ?_ GE196.out | refine below_set ?_ GE197.out) | exact HB.out), by repeat (first | (with_reducible first | exact HK.out | apply KeepBut.set_ | apply keep_drewN | apply keep_drew | apply keep_alloc | refine keep_far ?_ GW196.out _ | refine keep_far ?_ GW197.out _) | exact HK.out)⟩
end Go.Proofs.YtefdfgmlmjnmlaaDoor.Rf
end

section
set_option linter.unusedVariables false
set_option linter.unusedSimpArgs false
namespace Go.Proofs.YtefdfgmlmjnmlaaDoor.Rf
open Go.RowKit Go.Proofs.YtefdfgmlmjnmlaaDoorW.PrintWords Go.Proofs.YtefdfgmlmjnmlaaDoorW.PrintLast Go.Proofs.YtefdfgmlmjnmlaaDoorW.PrintMore
mutual
def schema_takeTable.l0 : Nat → Int → Int → ByteArray → Int → Bool → ByteArray → Int → List (S59) → Option (ByteArray × Int × (List (S59)) × (List (S72)) × ByteArray × Int × Bool)
 | 0, _, _, _, _, _, _, _, _ => none
 | k + 1, x12, x13, x1000, x1001, x1002, x236000, x236001, x236002 => if x13 < x12 then ((pack_Reader_Str.f k x1000 x1001 x1002).bind fun bt249 => ((pack_Reader_Str.f k bt249.2.1 bt249.2.2.1 bt249.2.2.2).bind fun bt253 => ((pack_Reader_Int.f k bt253.2.1 bt253.2.2.1 bt253.2.2.2).bind fun bt257 => ((pack_Reader_Int.f k bt257.2.1 bt257.2.2.1 bt257.2.2.2).bind fun bt261 => ((pack_Reader_Bool.f k bt261.2.1 bt261.2.2.1 bt261.2.2.2).bind fun bt265 => ((pack_Reader_Bool.f k bt265.2.1 bt265.2.2.1 bt265.2.2.2).bind fun bt269 => (if x236002.length < 2513169434916 then (schema_takeTable.l0 k x12 (wrap64 (x13 + 1)) bt269.2.1 bt269.2.2.1 bt269.2.2.2 x236000 x236001 (x236002 ++ [(⟨bt249.1, bt257.1, bt265.1, bt269.1, bt253.1, bt261.1⟩ : S59)])) else (none)))))))) else ((pack_Reader_Many.f k x1000 x1001 x1002 4).bind fun bt276 => (schema_takeTable.l1 k bt276.1 0 bt276.2.1 bt276.2.2.1 bt276.2.2.2 x236000 x236001 x236002 ([] : List (S72))))
def schema_takeTable.l1 : Nat → Int → Int → ByteArray → Int → Bool → ByteArray → Int → List (S59) → List (S72) → Option (ByteArray × Int × (List (S59)) × (List (S72)) × ByteArray × Int × Bool)
 | 0, _, _, _, _, _, _, _, _, _ => none
 | k + 1, x41, x42, x1000, x1001, x1002, x236000, x236001, x236002, x236003 => if x42 < x41 then ((schema_take.f k x1000 x1001 x1002 8).bind fun bt280 => (if x236003.length < 1954687338268 then (schema_takeTable.l1 k x41 (wrap64 (x42 + 1)) bt280.2.2.2.2.2.2.1 bt280.2.2.2.2.2.2.2.1 bt280.2.2.2.2.2.2.2.2 x236000 x236001 x236002 (x236003 ++ [(⟨bt280.1, bt280.2.1, (⟨bt280.2.2.1, bt280.2.2.2.1, bt280.2.2.2.2.1⟩ : S70), bt280.2.2.2.2.2.1⟩ : S72)])) else (none))) else (some (x236000, x236001, x236002, x236003, x1000, x1001, x1002))
end
def schema_takeTable.f (k : Nat) (s0_0 : ByteArray) (s0_1 : Int) (s0_2 : Bool) : Option (ByteArray × Int × (List (S59)) × (List (S72)) × ByteArray × Int × Bool) := (pack_Reader_Str.f k s0_0 s0_1 s0_2).bind fun bt236 => ((pack_Reader_Int.f k bt236.2.1 bt236.2.2.1 bt236.2.2.2).bind fun bt240 => ((pack_Reader_Many.f k bt240.2.1 bt240.2.2.1 bt240.2.2.2 6).bind fun bt244 => (schema_takeTable.l0 k bt244.1 0 bt244.2.1 bt244.2.2.1 bt244.2.2.2 bt236.1 bt240.1 ([] : List (S59)))))
def schema_takeTable.T17 : Bool × List (List Nat × List Nat) := (true, [([], []), ([0], [0]), ([], []), ([2], [2]), ([3], [3]), ([1, 4, 3], [1, 4]), ([0, 1, 2, 3, 4, 5], []), ([6, 5, 5, 0, 1, 2, 3, 4, 5], [5, 6])])
def schema_takeTable.B17 : List Nat := [0, 1, 0, 4, 12, 31, 63, 127]
theorem schema_takeTable.tab17 : rtab .any (opsOf Tryd.f67 17) = schema_takeTable.T17 := by kernel_rfl
theorem schema_takeTable.bits17 : waitsOk schema_takeTable.T17.2 schema_takeTable.B17 = true := by kernel_rfl
set_option maxHeartbeats 8000000 in
set_option maxRecDepth 100000 in
theorem schema_takeTable.calls (k : Nat) (g : Nat) (s0_0 : ByteArray) (s0_1 : Int) (s0_2 : Bool) (r1 : ByteArray) (r2 : Int) (r3 : List (S59)) (r4 : List (S72)) (r5 : ByteArray) (r6 : Int) (r7 : Bool) (w0 w : World) (hI : IsS129 w0 w g s0_0 s0_1 s0_2) (hB : Below w0.heap.size w0 w) (h : schema_takeTable.f k s0_0 s0_1 s0_2 = some (r1, r2, r3, r4, r5, r6, r7)) :
  Calls Tryd.prog 67 #[.pointer (some ⟨g, 0, none⟩)] w fun e w' => ∃ v2_ v3_ : Value, e = .returned (.agg #[.string r1, .int .i64 r2, v2_, v3_]) ∧ Kd.R k59 59 w' w.heap.size (fun _ => True) v2_ r3 ∧ Kd.R k72 72 w' w.heap.size (fun _ => True) v3_ r4 ∧ IsS129 w0 w' g r5 r6 r7 ∧ Below w0.heap.size w0 w' ∧ KeepBut w w' g none := by
 have hu45 := Tryd.underlying45
 have hu59 := Tryd.underlying59
 have HI0 := Aside0.mk hI
 have HK := Aside0.mk (KeepBut.refl w g none)
 have HL := Aside0.mk hB.size
 clear hI
 have HW0 := Aside0.mk hB.size
 have HB := Aside0.mk hB
 clear hB
 have H : ((pack_Reader_Str.f k s0_0 s0_1 s0_2).bind fun bt236 => ((pack_Reader_Int.f k bt236.2.1 bt236.2.2.1 bt236.2.2.2).bind fun bt240 => ((pack_Reader_Many.f k bt240.2.1 bt240.2.2.1 bt240.2.2.2 6).bind fun bt244 => (schema_takeTable.l0 k bt244.1 0 bt244.2.1 bt244.2.2.1 bt244.2.2.2 bt236.1 bt240.1 ([] : List (S59)))))) = some (r1, r2, r3, r4, r5, r6, r7) := h
 clear h
 replace H := Option.bind_eq_some_iff.mp H
 obtain ⟨⟨t236, t237, t238, t239⟩, A20, H⟩ := H
 replace H : ((pack_Reader_Int.f k t237 t238 t239).bind fun bt240 => ((pack_Reader_Many.f k bt240.2.1 bt240.2.2.1 bt240.2.2.2 6).bind fun bt244 => (schema_takeTable.l0 k bt244.1 0 bt244.2.1 bt244.2.2.1 bt244.2.2.2 t236 bt240.1 ([] : List (S59))))) = some (r1, r2, r3, r4, r5, r6, r7) := H
 have A2 := Aside0.mk A20
 clear A20
 replace H := Option.bind_eq_some_iff.mp H
 obtain ⟨⟨t240, t241, t242, t243⟩, A30, H⟩ := H
 replace H : ((pack_Reader_Many.f k t241 t242 t243 6).bind fun bt244 => (schema_takeTable.l0 k bt244.1 0 bt244.2.1 bt244.2.2.1 bt244.2.2.2 t236 t240 ([] : List (S59)))) = some (r1, r2, r3, r4, r5, r6, r7) := H
 have A3 := Aside0.mk A30
 clear A30
 replace H := Option.bind_eq_some_iff.mp H
 obtain ⟨⟨t244, t245, t246, t247⟩, A40, H⟩ := H
 replace H : (schema_takeTable.l0 k t244 0 t245 t246 t247 t236 t240 ([] : List (S59))) = some (r1, r2, r3, r4, r5, r6, r7) := H
 have A4 := Aside0.mk A40
 clear A40
 have H' := Aside0.mk H
 clear H
 go_enter Tryd.func67, Tryd.ntmps67
 go_wp2_with (first | ((with_reducible refine gate_dst (N := 2) rfl ?_); refine box_event ?hg (N := 2) ?hd (cs := #[.string (⟨#[]⟩ : ByteArray), .int .i64 0, .slice none 0 0, .slice none 0 0]) (t := 45) ?hr ?_; (case hd => rfl); (case hg => rfl); (case hr => first | (go_simp; done) | (go_simp; rfl)); intro gb234 hg w5 hbox hb; have n0_ := Aside0.mk (IsS129.below (by repeat (first | (with_reducible first | exact HI0.out | apply IsS129.alloc | apply IsS129.drewN | apply IsS129.drew | apply IsS129.set_0 | apply IsS129.set_1 | apply IsS129.set_2) | exact HI0.out)) hb); have n1_ := Aside0.mk (KeepBut.trans (by repeat (first | (with_reducible first | exact HK.out | apply KeepBut.set_ | apply keep_drewN | apply keep_drew | apply keep_alloc) | exact HK.out)) (KeepBut.of_below hb g none) (.inl rfl)); have n2_ := Aside0.mk (below_step (by repeat (first | (with_reducible first | exact HB.out | apply below_alloc | apply pw_below_drewN | apply below_drew1 | refine below_set ?_ (IsS129.ge HI0.out)) | exact HB.out)) hb); have n3_ := Aside0.mk (hbox); have n4_ := Aside0.mk ((by rw [hg]; exact (keep_size (w := w) (g := g) (row := none) (by repeat (first | (with_reducible first | exact HK.out | apply KeepBut.set_ | apply keep_drewN | apply keep_drew | apply keep_alloc) | exact HK.out))) : w.heap.size ≤ gb234)); have n5_ := Aside0.mk ((Nat.le_trans HW0.out (by rw [hg]; exact (keep_size (w := w) (g := g) (row := none) (by repeat (first | (with_reducible first | exact HK.out | apply KeepBut.set_ | apply keep_drewN | apply keep_drew | apply keep_alloc) | exact HK.out))) : w.heap.size ≤ gb234) : w0.heap.size ≤ gb234)); have n6_ := Aside0.mk ((by rw [hg]; exact Nat.ne_of_lt (IsS129.lt (show IsS129 w0 _ g s0_0 s0_1 s0_2 from by repeat (first | (with_reducible first | exact HI0.out | apply IsS129.alloc | apply IsS129.drewN | apply IsS129.drew | apply IsS129.set_0 | apply IsS129.set_1 | apply IsS129.set_2) | exact HI0.out))) : g ≠ gb234)); have n7_ := Aside0.mk ((by rw [hg]; exact Nat.ne_of_gt (IsS129.lt (show IsS129 w0 _ g s0_0 s0_1 s0_2 from by repeat (first | (with_reducible first | exact HI0.out | apply IsS129.alloc | apply IsS129.drewN | apply IsS129.drew | apply IsS129.set_0 | apply IsS129.set_1 | apply IsS129.set_2) | exact HI0.out))) : gb234 ≠ g)); clear HI0; clear HK; clear HB; have HI0 := n0_; have HK := n1_; have HB := n2_; have BK234 := n3_; have GW234 := n4_; have GE234 := n5_; have NB0_234 := n6_; have NB234_0 := n7_; clear n0_ n1_ n2_ n3_ n4_ n5_ n6_ n7_; clear hb hbox hg) | ((with_reducible refine gate_dst (N := 3) rfl ?_); refine box_event ?hg (N := 3) ?hd (cs := #[.string (⟨#[]⟩ : ByteArray), .int .i64 0, .slice none 0 0, .slice none 0 0]) (t := 45) ?hr ?_; (case hd => rfl); (case hg => rfl); (case hr => first | (go_simp; done) | (go_simp; rfl)); intro gb235 hg w6 hbox hb; have n0_ := Aside0.mk (IsS129.below (by repeat (first | (with_reducible first | exact HI0.out | apply IsS129.alloc | apply IsS129.drewN | apply IsS129.drew | apply IsS129.set_0 | apply IsS129.set_1 | apply IsS129.set_2 | refine IsS129.far ?_ NB0_234.out _) | exact HI0.out)) hb); have n1_ := Aside0.mk (blk_below (g := gb234) (o := .cells #[.string (⟨#[]⟩ : ByteArray), .int .i64 0, .slice none 0 0, .slice none 0 0] 45 (0, 0)) (by (with_reducible repeat (first | refine blk_drewN ?_ _ | refine blk_drew ?_ | refine blk_alloc ?_ _)); exact BK234.out) hb); have n2_ := Aside0.mk (KeepBut.trans (by repeat (first | (with_reducible first | exact HK.out | apply KeepBut.set_ | apply keep_drewN | apply keep_drew | apply keep_alloc | refine keep_far ?_ GW234.out _) | exact HK.out)) (KeepBut.of_below hb g none) (.inl rfl)); have n3_ := Aside0.mk (below_step (by repeat (first | (with_reducible first | exact HB.out | apply below_alloc | apply pw_below_drewN | apply below_drew1 | refine below_set ?_ (IsS129.ge HI0.out) | refine below_set ?_ GE234.out) | exact HB.out)) hb); have n4_ := Aside0.mk (hbox); have n5_ := Aside0.mk ((by rw [hg]; exact (keep_size (w := w) (g := g) (row := none) (by repeat (first | (with_reducible first | exact HK.out | apply KeepBut.set_ | apply keep_drewN | apply keep_drew | apply keep_alloc | refine keep_far ?_ GW234.out _) | exact HK.out))) : w.heap.size ≤ gb235)); have n6_ := Aside0.mk ((Nat.le_trans HW0.out (by rw [hg]; exact (keep_size (w := w) (g := g) (row := none) (by repeat (first | (with_reducible first | exact HK.out | apply KeepBut.set_ | apply keep_drewN | apply keep_drew | apply keep_alloc | refine keep_far ?_ GW234.out _) | exact HK.out))) : w.heap.size ≤ gb235) : w0.heap.size ≤ gb235)); have n7_ := Aside0.mk ((by rw [hg]; exact Nat.ne_of_lt (blk_lt (g := gb234) (o := .cells #[.string (⟨#[]⟩ : ByteArray), .int .i64 0, .slice none 0 0, .slice none 0 0] 45 (0, 0)) (by (with_reducible repeat (first | refine blk_drewN ?_ _ | refine blk_drew ?_ | refine blk_alloc ?_ _)); exact BK234.out)) : gb234 ≠ gb235)); have n8_ := Aside0.mk ((by rw [hg]; exact Nat.ne_of_gt (blk_lt (g := gb234) (o := .cells #[.string (⟨#[]⟩ : ByteArray), .int .i64 0, .slice none 0 0, .slice none 0 0] 45 (0, 0)) (by (with_reducible repeat (first | refine blk_drewN ?_ _ | refine blk_drew ?_ | refine blk_alloc ?_ _)); exact BK234.out)) : gb235 ≠ gb234)); have n9_ := Aside0.mk ((by rw [hg]; exact Nat.ne_of_lt (IsS129.lt (show IsS129 w0 _ g s0_0 s0_1 s0_2 from by repeat (first | (with_reducible first | exact HI0.out | apply IsS129.alloc | apply IsS129.drewN | apply IsS129.drew | apply IsS129.set_0 | apply IsS129.set_1 | apply IsS129.set_2 | refine IsS129.far ?_ NB0_234.out _) | exact HI0.out))) : g ≠ gb235)); have n10_ := Aside0.mk ((by rw [hg]; exact Nat.ne_of_gt (IsS129.lt (show IsS129 w0 _ g s0_0 s0_1 s0_2 from by repeat (first | (with_reducible first | exact HI0.out | apply IsS129.alloc | apply IsS129.drewN | apply IsS129.drew | apply IsS129.set_0 | apply IsS129.set_1 | apply IsS129.set_2 | refine IsS129.far ?_ NB0_234.out _) | exact HI0.out))) : gb235 ≠ g)); clear HI0; clear BK234; clear HK; clear HB; have HI0 := n0_; have BK234 := n1_; have HK := n2_; have HB := n3_; have BK235 := n4_; have GW235 := n5_; have GE235 := n6_; have NB234_235 := n7_; have NB235_234 := n8_; have NB0_235 := n9_; have NB235_0 := n10_; clear n0_ n1_ n2_ n3_ n4_ n5_ n6_ n7_ n8_ n9_ n10_; clear hb hbox hg) | ((with_reducible refine gate_callee (f := 68) rfl ?_); refine goesL_ (some 6) rfl rfl Tryd.func68 (by kernel_rfl) rfl #[.pointer (some ⟨g, 0, none⟩)] rfl (by (try simp only [List.map_toArray, List.map_cons, List.map_nil]); first | done | rfl | (simp only [List.length_drop, List.length_take]; rfl)) ?_; (with_reducible refine (pack_Reader_Str.calls k g s0_0 s0_1 s0_2 t236 t237 t238 t239 w0 _ ?side1 ?side2 A2.out).mono ?_); (case side1 => repeat (first | (with_reducible first | exact HI0.out | apply IsS129.alloc | apply IsS129.drewN | apply IsS129.drew | apply IsS129.set_0 | apply IsS129.set_1 | apply IsS129.set_2 | refine IsS129.far ?_ NB0_234.out _ | refine IsS129.far ?_ NB0_235.out _) | exact HI0.out)); (case side2 => repeat (first | (with_reducible first | exact HB.out | apply below_alloc | apply pw_below_drewN | apply below_drew1 | refine below_set ?_ (IsS129.ge HI0.out) | refine below_set ?_ GE234.out | refine below_set ?_ GE235.out) | exact HB.out)); rintro e w7 ⟨rfl, hi, hb, hk⟩; refine ⟨_, rfl, ?_⟩; have n0_ := Aside0.mk (KeepBut.blk hk (g' := gb234) (o := .cells #[.string (⟨#[]⟩ : ByteArray), .int .i64 0, .slice none 0 0, .slice none 0 0] 45 (0, 0)) (by (with_reducible repeat (first | refine blk_drewN ?_ _ | refine blk_drew ?_ | refine blk_alloc ?_ _)); exact BK234.out) NB234_0.out (by simp)); have n1_ := Aside0.mk (KeepBut.blk hk (g' := gb235) (o := .cells #[.string (⟨#[]⟩ : ByteArray), .int .i64 0, .slice none 0 0, .slice none 0 0] 45 (0, 0)) (by (with_reducible repeat (first | refine blk_drewN ?_ _ | refine blk_drew ?_ | refine blk_alloc ?_ _)); exact BK235.out) NB235_0.out (by simp)); have n2_ := Aside0.mk (KeepBut.trans (by repeat (first | (with_reducible first | exact HK.out | apply KeepBut.set_ | apply keep_drewN | apply keep_drew | apply keep_alloc | refine keep_far ?_ GW234.out _ | refine keep_far ?_ GW235.out _) | exact HK.out)) hk (.inl rfl)); have n3_ := Aside0.mk (hb); have n4_ := Aside0.mk (hi); clear BK234; clear BK235; clear HK; clear HB; clear HI0; have BK234 := n0_; have BK235 := n1_; have HK := n2_; have HB := n3_; have HI0 := n4_; clear n0_ n1_ n2_ n3_ n4_; (try clear hb); (try clear hb2); (try clear hk); (try clear hi); have hnb8 := NB235_234.out; have hnc8 := NB234_235.out; have hnb9 := NB235_0.out; have hnc9 := NB0_235.out; have hcz10_0 : w7.cell? ⟨gb235, 0, none⟩ = some (.string (⟨#[]⟩ : ByteArray)) := (blk_cell BK235.out 0).trans rfl; have hcz10_1 : w7.cell? ⟨gb235, 1, none⟩ = some (.int .i64 0) := (blk_cell BK235.out 1).trans rfl; have hcz10_2 : w7.cell? ⟨gb235, 2, none⟩ = some (.slice none 0 0) := (blk_cell BK235.out 2).trans rfl; have hcz10_3 : w7.cell? ⟨gb235, 3, none⟩ = some (.slice none 0 0) := (blk_cell BK235.out 3).trans rfl; have hfz10_0 := blk_frozen BK235.out 0; have hfz10_1 := blk_frozen BK235.out 1; have hfz10_2 := blk_frozen BK235.out 2; have hfz10_3 := blk_frozen BK235.out 3) | ((with_reducible refine gate_callee (f := 65) rfl ?_); refine goesL_ (some 9) rfl rfl Tryd.func65 (by kernel_rfl) rfl #[.pointer (some ⟨g, 0, none⟩)] rfl (by (try simp only [List.map_toArray, List.map_cons, List.map_nil]); first | done | rfl | (simp only [List.length_drop, List.length_take]; rfl)) ?_; (with_reducible refine (pack_Reader_Int.calls k g t237 t238 t239 t240 t241 t242 t243 w0 _ ?side1 ?side2 A3.out).mono ?_); (case side1 => repeat (first | (with_reducible first | exact HI0.out | apply IsS129.alloc | apply IsS129.drewN | apply IsS129.drew | apply IsS129.set_0 | apply IsS129.set_1 | apply IsS129.set_2 | refine IsS129.far ?_ NB0_234.out _ | refine IsS129.far ?_ NB0_235.out _) | exact HI0.out)); (case side2 => repeat (first | (with_reducible first | exact HB.out | apply below_alloc | apply pw_below_drewN | apply below_drew1 | refine below_set ?_ (IsS129.ge HI0.out) | refine below_set ?_ GE234.out | refine below_set ?_ GE235.out) | exact HB.out)); rintro e w11 ⟨rfl, hi, hb, hk⟩; refine ⟨_, rfl, ?_⟩; have n0_ := Aside0.mk (KeepBut.blk hk (g' := gb234) (o := .cells #[.string (⟨#[]⟩ : ByteArray), .int .i64 0, .slice none 0 0, .slice none 0 0] 45 (0, 0)) (by (with_reducible repeat (first | refine blk_drewN ?_ _ | refine blk_drew ?_ | refine blk_alloc ?_ _)); refine blk_far ?_ NB234_235.out _; (with_reducible repeat (first | refine blk_drewN ?_ _ | refine blk_drew ?_ | refine blk_alloc ?_ _)); exact BK234.out) NB234_0.out (by simp)); have n1_ := Aside0.mk (KeepBut.blk hk (g' := gb235) (o := .cells #[.string t236, .int .i64 0, .slice none 0 0, .slice none 0 0] 45 (0, 0)) (by (with_reducible repeat (first | refine blk_drewN ?_ _ | refine blk_drew ?_ | refine blk_alloc ?_ _)); refine blk_put (cs := #[.string (⟨#[]⟩ : ByteArray), .int .i64 0, .slice none 0 0, .slice none 0 0]) ?_ 0 _ rfl; (with_reducible repeat (first | refine blk_drewN ?_ _ | refine blk_drew ?_ | refine blk_alloc ?_ _)); exact BK235.out) NB235_0.out (by simp)); have n2_ := Aside0.mk (KeepBut.trans (by repeat (first | (with_reducible first | exact HK.out | apply KeepBut.set_ | apply keep_drewN | apply keep_drew | apply keep_alloc | refine keep_far ?_ GW234.out _ | refine keep_far ?_ GW235.out _) | exact HK.out)) hk (.inl rfl)); have n3_ := Aside0.mk (hb); have n4_ := Aside0.mk (hi); clear BK234; clear BK235; clear HK; clear HB; clear HI0; have BK234 := n0_; have BK235 := n1_; have HK := n2_; have HB := n3_; have HI0 := n4_; clear n0_ n1_ n2_ n3_ n4_; (try clear hb); (try clear hb2); (try clear hk); (try clear hi); have hcz12_0 : w11.cell? ⟨gb235, 0, none⟩ = some (.string t236) := (blk_cell BK235.out 0).trans rfl; have hcz12_1 : w11.cell? ⟨gb235, 1, none⟩ = some (.int .i64 0) := (blk_cell BK235.out 1).trans rfl; have hcz12_2 : w11.cell? ⟨gb235, 2, none⟩ = some (.slice none 0 0) := (blk_cell BK235.out 2).trans rfl; have hcz12_3 : w11.cell? ⟨gb235, 3, none⟩ = some (.slice none 0 0) := (blk_cell BK235.out 3).trans rfl; have hfz12_0 := blk_frozen BK235.out 0; have hfz12_1 := blk_frozen BK235.out 1; have hfz12_2 := blk_frozen BK235.out 2; have hfz12_3 := blk_frozen BK235.out 3) | ((with_reducible refine gate_callee (f := 66) rfl ?_); refine goesL_ (some 12) rfl rfl Tryd.func66 (by kernel_rfl) rfl #[.pointer (some ⟨g, 0, none⟩), .int .i64 6] rfl (by (try simp only [List.map_toArray, List.map_cons, List.map_nil]); first | done | rfl | (simp only [List.length_drop, List.length_take]; rfl)) ?_; (with_reducible refine (pack_Reader_Many.calls k g t241 t242 t243 6 t244 t245 t246 t247 w0 _ ?side1 ?side2 A4.out).mono ?_); (case side1 => repeat (first | (with_reducible first | exact HI0.out | apply IsS129.alloc | apply IsS129.drewN | apply IsS129.drew | apply IsS129.set_0 | apply IsS129.set_1 | apply IsS129.set_2 | refine IsS129.far ?_ NB0_234.out _ | refine IsS129.far ?_ NB0_235.out _) | exact HI0.out)); (case side2 => repeat (first | (with_reducible first | exact HB.out | apply below_alloc | apply pw_below_drewN | apply below_drew1 | refine below_set ?_ (IsS129.ge HI0.out) | refine below_set ?_ GE234.out | refine below_set ?_ GE235.out) | exact HB.out)); rintro e w13 ⟨rfl, hi, hb, hk⟩; refine ⟨_, rfl, ?_⟩; have n0_ := Aside0.mk (KeepBut.blk hk (g' := gb234) (o := .cells #[.string (⟨#[]⟩ : ByteArray), .int .i64 0, .slice none 0 0, .slice none 0 0] 45 (0, 0)) (by (with_reducible repeat (first | refine blk_drewN ?_ _ | refine blk_drew ?_ | refine blk_alloc ?_ _)); refine blk_far ?_ NB234_235.out _; (with_reducible repeat (first | refine blk_drewN ?_ _ | refine blk_drew ?_ | refine blk_alloc ?_ _)); exact BK234.out) NB234_0.out (by simp)); have n1_ := Aside0.mk (KeepBut.blk hk (g' := gb235) (o := .cells #[.string t236, .int .i64 t240, .slice none 0 0, .slice none 0 0] 45 (0, 0)) (by (with_reducible repeat (first | refine blk_drewN ?_ _ | refine blk_drew ?_ | refine blk_alloc ?_ _)); refine blk_put (cs := #[.string t236, .int .i64 0, .slice none 0 0, .slice none 0 0]) ?_ 1 _ rfl; (with_reducible repeat (first | refine blk_drewN ?_ _ | refine blk_drew ?_ | refine blk_alloc ?_ _)); exact BK235.out) NB235_0.out (by simp)); have n2_ := Aside0.mk (KeepBut.trans (by repeat (first | (with_reducible first | exact HK.out | apply KeepBut.set_ | apply keep_drewN | apply keep_drew | apply keep_alloc | refine keep_far ?_ GW234.out _ | refine keep_far ?_ GW235.out _) | exact HK.out)) hk (.inl rfl)); have n3_ := Aside0.mk (hb); have n4_ := Aside0.mk (hi); clear BK234; clear BK235; clear HK; clear HB; clear HI0; have BK234 := n0_; have BK235 := n1_; have HK := n2_; have HB := n3_; have HI0 := n4_; clear n0_ n1_ n2_ n3_ n4_; (try clear hb); (try clear hb2); (try clear hk); (try clear hi)))
 go_loopg [13] k (fun kq v13 w' => ∃ (x13_1 : Int) (x1000_1 : ByteArray) (x1001_1 : Int) (x1002_1 : Bool) (x236002_1 : List (S59)) (u236002 : Value), v13 = .int .i64 x13_1 ∧ Aside0 (schema_takeTable.l0 kq t244 x13_1 x1000_1 x1001_1 x1002_1 t236 t240 x236002_1 = some (r1, r2, r3, r4, r5, r6, r7)) ∧ Aside0 (kq ≤ k) ∧ Aside0 (Kd.R k59 59 w' w.heap.size (fun _ => True) u236002 x236002_1) ∧ Aside0 (w'.heap[gb234]? = some (.cells #[.string (⟨#[]⟩ : ByteArray), .int .i64 0, (.slice none 0 0), (.slice none 0 0)] 45 (0, 0))) ∧ Aside0 (w'.heap[gb235]? = some (.cells #[.string t236, .int .i64 t240, u236002, (.slice none 0 0)] 45 (0, 0))) ∧ Aside0 (IsS129 w0 w' g x1000_1 x1001_1 x1002_1) ∧ Aside0 (KeepBut w w' g none) ∧ Aside0 (Below w0.heap.size w0 w'))
 case atStart => exact ⟨(0), (t245), (t246), (t247), (([] : List (S59))), (.slice none 0 0), (by first | rfl | (simp; done) | (simp [*]; done)), H', ⟨Nat.le_refl _⟩, ⟨by first | exact Kd.R_nil _ _ _ _ _ | exact Kd.N_nil _ _ _ _ _ | exact Kd.V_nil _ _ _ _ _ | exact Kd.Q_nil _ _ _ _ _ | exact Kd.S_nil _ _ _ _ _⟩, ⟨by (with_reducible repeat (first | refine blk_drewN ?_ _ | refine blk_drew ?_ | refine blk_alloc ?_ _)); exact BK234.out⟩, ⟨by (with_reducible repeat (first | refine blk_drewN ?_ _ | refine blk_drew ?_ | refine blk_alloc ?_ _)); exact BK235.out⟩, ⟨by repeat (first | (with_reducible first | exact HI0.out | apply IsS129.alloc | apply IsS129.drewN | apply IsS129.drew | apply IsS129.set_0 | apply IsS129.set_1 | apply IsS129.set_2 | refine IsS129.far ?_ NB0_234.out _ | refine IsS129.far ?_ NB0_235.out _) | exact HI0.out)⟩, ⟨by repeat (first | (with_reducible first | exact HK.out | apply KeepBut.set_ | apply keep_drewN | apply keep_drew | apply keep_alloc | refine keep_far ?_ GW234.out _ | refine keep_far ?_ GW235.out _) | exact HK.out)⟩, ⟨by repeat (first | (with_reducible first | exact HB.out | apply below_alloc | apply pw_below_drewN | apply below_drew1 | refine below_set ?_ (IsS129.ge HI0.out) | refine below_set ?_ GE234.out | refine below_set ?_ GE235.out) | exact HB.out)⟩⟩
 case round =>
  clear H'
  try clear p2
  try clear c6
  try clear c8
  try clear c9
  try clear hcz10_0
  try clear hcz10_1
  try clear hcz10_2
  try clear hcz10_3
  try clear hcz12_0
  try clear hcz12_1
  try clear hcz12_2
  try clear hcz12_3
  try clear hfz10_0
  try clear hfz10_1
  try clear hfz10_2
  try clear hfz10_3
  try clear hfz12_0
  try clear hfz12_1
  try clear hfz12_2
  try clear hfz12_3
  obtain ⟨x13_1, x1000_1, x1001_1, x1002_1, x236002_1, u236002, rfl, HA, HK1, HO_236002, BK234, BK235, HI0, HK, HB⟩ := hrel
  cases gk with
  | zero => exact absurd HA.out (by simp [schema_takeTable.l0])
  | succ k1 =>
   have H := HA.out
   clear HA
   simp only [schema_takeTable.l0] at H
   by_cases c14 : x13_1 < t244
   ·rw [if_pos c14] at H
    have c14b0 : decide (x13_1 < t244) = true := decide_eq_true c14
    clear c14
    replace H := Option.bind_eq_some_iff.mp H
    obtain ⟨⟨t249, t250, t251, t252⟩, A150, H⟩ := H
    replace H : ((pack_Reader_Str.f k1 t250 t251 t252).bind fun bt253 => ((pack_Reader_Int.f k1 bt253.2.1 bt253.2.2.1 bt253.2.2.2).bind fun bt257 => ((pack_Reader_Int.f k1 bt257.2.1 bt257.2.2.1 bt257.2.2.2).bind fun bt261 => ((pack_Reader_Bool.f k1 bt261.2.1 bt261.2.2.1 bt261.2.2.2).bind fun bt265 => ((pack_Reader_Bool.f k1 bt265.2.1 bt265.2.2.1 bt265.2.2.2).bind fun bt269 => (if x236002_1.length < 2513169434916 then (schema_takeTable.l0 k1 t244 (wrap64 (x13_1 + 1)) bt269.2.1 bt269.2.2.1 bt269.2.2.2 t236 t240 (x236002_1 ++ [(⟨t249, bt257.1, bt265.1, bt269.1, bt253.1, bt261.1⟩ : S59)])) else (none))))))) = some (r1, r2, r3, r4, r5, r6, r7) := H
    have A15 := Aside0.mk A150
    clear A150
    replace H := Option.bind_eq_some_iff.mp H
    obtain ⟨⟨t253, t254, t255, t256⟩, A160, H⟩ := H
    replace H : ((pack_Reader_Int.f k1 t254 t255 t256).bind fun bt257 => ((pack_Reader_Int.f k1 bt257.2.1 bt257.2.2.1 bt257.2.2.2).bind fun bt261 => ((pack_Reader_Bool.f k1 bt261.2.1 bt261.2.2.1 bt261.2.2.2).bind fun bt265 => ((pack_Reader_Bool.f k1 bt265.2.1 bt265.2.2.1 bt265.2.2.2).bind fun bt269 => (if x236002_1.length < 2513169434916 then (schema_takeTable.l0 k1 t244 (wrap64 (x13_1 + 1)) bt269.2.1 bt269.2.2.1 bt269.2.2.2 t236 t240 (x236002_1 ++ [(⟨t249, bt257.1, bt265.1, bt269.1, t253, bt261.1⟩ : S59)])) else (none)))))) = some (r1, r2, r3, r4, r5, r6, r7) := H
    have A16 := Aside0.mk A160
    clear A160
    replace H := Option.bind_eq_some_iff.mp H
    obtain ⟨⟨t257, t258, t259, t260⟩, A170, H⟩ := H
    replace H : ((pack_Reader_Int.f k1 t258 t259 t260).bind fun bt261 => ((pack_Reader_Bool.f k1 bt261.2.1 bt261.2.2.1 bt261.2.2.2).bind fun bt265 => ((pack_Reader_Bool.f k1 bt265.2.1 bt265.2.2.1 bt265.2.2.2).bind fun bt269 => (if x236002_1.length < 2513169434916 then (schema_takeTable.l0 k1 t244 (wrap64 (x13_1 + 1)) bt269.2.1 bt269.2.2.1 bt269.2.2.2 t236 t240 (x236002_1 ++ [(⟨t249, t257, bt265.1, bt269.1, t253, bt261.1⟩ : S59)])) else (none))))) = some (r1, r2, r3, r4, r5, r6, r7) := H
    have A17 := Aside0.mk A170
    clear A170
    replace H := Option.bind_eq_some_iff.mp H
    obtain ⟨⟨t261, t262, t263, t264⟩, A180, H⟩ := H
    replace H : ((pack_Reader_Bool.f k1 t262 t263 t264).bind fun bt265 => ((pack_Reader_Bool.f k1 bt265.2.1 bt265.2.2.1 bt265.2.2.2).bind fun bt269 => (if x236002_1.length < 2513169434916 then (schema_takeTable.l0 k1 t244 (wrap64 (x13_1 + 1)) bt269.2.1 bt269.2.2.1 bt269.2.2.2 t236 t240 (x236002_1 ++ [(⟨t249, t257, bt265.1, bt269.1, t253, t261⟩ : S59)])) else (none)))) = some (r1, r2, r3, r4, r5, r6, r7) := H
    have A18 := Aside0.mk A180
    clear A180
    replace H := Option.bind_eq_some_iff.mp H
    obtain ⟨⟨t265, t266, t267, t268⟩, A190, H⟩ := H
    replace H : ((pack_Reader_Bool.f k1 t266 t267 t268).bind fun bt269 => (if x236002_1.length < 2513169434916 then (schema_takeTable.l0 k1 t244 (wrap64 (x13_1 + 1)) bt269.2.1 bt269.2.2.1 bt269.2.2.2 t236 t240 (x236002_1 ++ [(⟨t249, t257, t265, bt269.1, t253, t261⟩ : S59)])) else (none))) = some (r1, r2, r3, r4, r5, r6, r7) := H
    have A19 := Aside0.mk A190
    clear A190
    replace H := Option.bind_eq_some_iff.mp H
    obtain ⟨⟨t269, t270, t271, t272⟩, A200, H⟩ := H
    replace H : (if x236002_1.length < 2513169434916 then (schema_takeTable.l0 k1 t244 (wrap64 (x13_1 + 1)) t270 t271 t272 t236 t240 (x236002_1 ++ [(⟨t249, t257, t265, t269, t253, t261⟩ : S59)])) else (none)) = some (r1, r2, r3, r4, r5, r6, r7) := H
    have A20 := Aside0.mk A200
    clear A200
    by_cases c21 : x236002_1.length < 2513169434916
    ·rw [if_pos c21] at H
     have LMc21 := Aside0.mk c21
     clear c21
     obtain ⟨y273, hy273⟩ : ∃ y_ : List (S59), y_ = (x236002_1 ++ [(⟨t249, t257, t265, t269, t253, t261⟩ : S59)]) := ⟨_, rfl⟩
     replace H : (schema_takeTable.l0 k1 t244 (wrap64 (x13_1 + 1)) t270 t271 t272 t236 t240 y273) = some (r1, r2, r3, r4, r5, r6, r7) := by first | (rw [hy273]; with_reducible exact H) | (have H2_ := (Option.bind_some _ _).symm.trans H; rw [hy273]; with_reducible exact H2_) | (have H2_ := (Option.bind_some _ _).symm.trans H; with_reducible exact H2_) | with_reducible exact H | (rw [hy273]; exact H) | exact H
     have Ny273 := Aside0.mk hy273
     clear hy273
     have H' := Aside0.mk H
     clear H
     go_wp2_with (first | ((with_reducible refine gate_dst (N := 4) rfl ?_); refine box_event ?hg (N := 4) ?hd (cs := #[.string (⟨#[]⟩ : ByteArray), .int .i64 0, .bool false, .bool false, .string (⟨#[]⟩ : ByteArray), .int .i64 0]) (t := 59) ?hr ?_; (case hd => rfl); (case hg => rfl); (case hr => first | (go_simp; done) | (go_simp; rfl)); intro gb248 hg w22 hbox hb; have n0_ := Aside0.mk (Kd.R_below (Kd.R_elderB (by (with_reducible repeat (first | apply Kd.R_alloc | apply Kd.R_drewN | apply Kd.R_drew)); exact HO_236002.out) gb248 (Nat.le_of_eq hg.symm)) hb); have n1_ := Aside0.mk (blk_below (g := gb234) (o := .cells #[.string (⟨#[]⟩ : ByteArray), .int .i64 0, .slice none 0 0, .slice none 0 0] 45 (0, 0)) (by (with_reducible repeat (first | refine blk_drewN ?_ _ | refine blk_drew ?_ | refine blk_alloc ?_ _)); exact BK234.out) hb); have n2_ := Aside0.mk (blk_below (g := gb235) (o := .cells #[.string t236, .int .i64 t240, u236002, .slice none 0 0] 45 (0, 0)) (by (with_reducible repeat (first | refine blk_drewN ?_ _ | refine blk_drew ?_ | refine blk_alloc ?_ _)); exact BK235.out) hb); have n3_ := Aside0.mk (IsS129.below (by repeat (first | (with_reducible first | exact HI0.out | apply IsS129.alloc | apply IsS129.drewN | apply IsS129.drew | apply IsS129.set_0 | apply IsS129.set_1 | apply IsS129.set_2 | refine IsS129.far ?_ NB0_234.out _ | refine IsS129.far ?_ NB0_235.out _) | exact HI0.out)) hb); have n4_ := Aside0.mk (KeepBut.trans (by repeat (first | (with_reducible first | exact HK.out | apply KeepBut.set_ | apply keep_drewN | apply keep_drew | apply keep_alloc | refine keep_far ?_ GW234.out _ | refine keep_far ?_ GW235.out _) | exact HK.out)) (KeepBut.of_below hb g none) (.inl rfl)); have n5_ := Aside0.mk (below_step (by repeat (first | (with_reducible first | exact HB.out | apply below_alloc | apply pw_below_drewN | apply below_drew1 | refine below_set ?_ (IsS129.ge HI0.out) | refine below_set ?_ GE234.out | refine below_set ?_ GE235.out) | exact HB.out)) hb); have n6_ := Aside0.mk (hbox); have n7_ := Aside0.mk ((by rw [hg]; exact (keep_size (w := w) (g := g) (row := none) (by repeat (first | (with_reducible first | exact HK.out | apply KeepBut.set_ | apply keep_drewN | apply keep_drew | apply keep_alloc | refine keep_far ?_ GW234.out _ | refine keep_far ?_ GW235.out _) | exact HK.out))) : w.heap.size ≤ gb248)); have n8_ := Aside0.mk ((Nat.le_trans HW0.out (by rw [hg]; exact (keep_size (w := w) (g := g) (row := none) (by repeat (first | (with_reducible first | exact HK.out | apply KeepBut.set_ | apply keep_drewN | apply keep_drew | apply keep_alloc | refine keep_far ?_ GW234.out _ | refine keep_far ?_ GW235.out _) | exact HK.out))) : w.heap.size ≤ gb248) : w0.heap.size ≤ gb248)); have n9_ := Aside0.mk ((by rw [hg]; exact Nat.ne_of_lt (blk_lt (g := gb234) (o := .cells #[.string (⟨#[]⟩ : ByteArray), .int .i64 0, .slice none 0 0, .slice none 0 0] 45 (0, 0)) (by (with_reducible repeat (first | refine blk_drewN ?_ _ | refine blk_drew ?_ | refine blk_alloc ?_ _)); exact BK234.out)) : gb234 ≠ gb248)); have n10_ := Aside0.mk ((by rw [hg]; exact Nat.ne_of_gt (blk_lt (g := gb234) (o := .cells #[.string (⟨#[]⟩ : ByteArray), .int .i64 0, .slice none 0 0, .slice none 0 0] 45 (0, 0)) (by (with_reducible repeat (first | refine blk_drewN ?_ _ | refine blk_drew ?_ | refine blk_alloc ?_ _)); exact BK234.out)) : gb248 ≠ gb234)); have n11_ := Aside0.mk ((by rw [hg]; exact Nat.ne_of_lt (blk_lt (g := gb235) (o := .cells #[.string t236, .int .i64 t240, u236002, .slice none 0 0] 45 (0, 0)) (by (with_reducible repeat (first | refine blk_drewN ?_ _ | refine blk_drew ?_ | refine blk_alloc ?_ _)); exact BK235.out)) : gb235 ≠ gb248)); have n12_ := Aside0.mk ((by rw [hg]; exact Nat.ne_of_gt (blk_lt (g := gb235) (o := .cells #[.string t236, .int .i64 t240, u236002, .slice none 0 0] 45 (0, 0)) (by (with_reducible repeat (first | refine blk_drewN ?_ _ | refine blk_drew ?_ | refine blk_alloc ?_ _)); exact BK235.out)) : gb248 ≠ gb235)); have n13_ := Aside0.mk ((by rw [hg]; exact Nat.ne_of_lt (IsS129.lt (show IsS129 w0 _ g x1000_1 x1001_1 x1002_1 from by repeat (first | (with_reducible first | exact HI0.out | apply IsS129.alloc | apply IsS129.drewN | apply IsS129.drew | apply IsS129.set_0 | apply IsS129.set_1 | apply IsS129.set_2 | refine IsS129.far ?_ NB0_234.out _ | refine IsS129.far ?_ NB0_235.out _) | exact HI0.out))) : g ≠ gb248)); have n14_ := Aside0.mk ((by rw [hg]; exact Nat.ne_of_gt (IsS129.lt (show IsS129 w0 _ g x1000_1 x1001_1 x1002_1 from by repeat (first | (with_reducible first | exact HI0.out | apply IsS129.alloc | apply IsS129.drewN | apply IsS129.drew | apply IsS129.set_0 | apply IsS129.set_1 | apply IsS129.set_2 | refine IsS129.far ?_ NB0_234.out _ | refine IsS129.far ?_ NB0_235.out _) | exact HI0.out))) : gb248 ≠ g)); clear HO_236002; clear BK234; clear BK235; clear HI0; clear HK; clear HB; have HO_236002 := n0_; have BK234 := n1_; have BK235 := n2_; have HI0 := n3_; have HK := n4_; have HB := n5_; have BK248 := n6_; have GW248 := n7_; have GE248 := n8_; have NB234_248 := n9_; have NB248_234 := n10_; have NB235_248 := n11_; have NB248_235 := n12_; have NB0_248 := n13_; have NB248_0 := n14_; clear n0_ n1_ n2_ n3_ n4_ n5_ n6_ n7_ n8_ n9_ n10_ n11_ n12_ n13_ n14_; clear hb hbox hg) | ((with_reducible refine gate_callee (f := 68) rfl ?_); refine goesL_ (some 16) rfl rfl Tryd.func68 (by kernel_rfl) rfl #[.pointer (some ⟨g, 0, none⟩)] rfl (by (try simp only [List.map_toArray, List.map_cons, List.map_nil]); first | done | rfl | (simp only [List.length_drop, List.length_take]; rfl)) ?_; (with_reducible refine (pack_Reader_Str.calls k1 g x1000_1 x1001_1 x1002_1 t249 t250 t251 t252 w0 _ ?side1 ?side2 A15.out).mono ?_); (case side1 => repeat (first | (with_reducible first | exact HI0.out | apply IsS129.alloc | apply IsS129.drewN | apply IsS129.drew | apply IsS129.set_0 | apply IsS129.set_1 | apply IsS129.set_2 | refine IsS129.far ?_ NB0_234.out _ | refine IsS129.far ?_ NB0_235.out _ | refine IsS129.far ?_ NB0_248.out _) | exact HI0.out)); (case side2 => repeat (first | (with_reducible first | exact HB.out | apply below_alloc | apply pw_below_drewN | apply below_drew1 | refine below_set ?_ (IsS129.ge HI0.out) | refine below_set ?_ GE234.out | refine below_set ?_ GE235.out | refine below_set ?_ GE248.out) | exact HB.out)); rintro e w23 ⟨rfl, hi, hb, hk⟩; refine ⟨_, rfl, ?_⟩; have n0_ := Aside0.mk (Kd.R_mono (Kd.R_keep (IsS129.apart (show IsS129 w0 _ g x1000_1 x1001_1 x1002_1 from by repeat (first | (with_reducible first | exact HI0.out | apply IsS129.alloc | apply IsS129.drewN | apply IsS129.drew | apply IsS129.set_0 | apply IsS129.set_1 | apply IsS129.set_2 | refine IsS129.far ?_ NB0_234.out _ | refine IsS129.far ?_ NB0_235.out _ | refine IsS129.far ?_ NB0_248.out _) | exact HI0.out)) (by (with_reducible repeat (first | apply Kd.R_alloc | apply Kd.R_drewN | apply Kd.R_drew)); exact HO_236002.out) (by decide)) hk (fun _ h => h.2)) (fun _ h => h.1)); have n1_ := Aside0.mk (KeepBut.blk hk (g' := gb234) (o := .cells #[.string (⟨#[]⟩ : ByteArray), .int .i64 0, .slice none 0 0, .slice none 0 0] 45 (0, 0)) (by (with_reducible repeat (first | refine blk_drewN ?_ _ | refine blk_drew ?_ | refine blk_alloc ?_ _)); exact BK234.out) NB234_0.out (by simp)); have n2_ := Aside0.mk (KeepBut.blk hk (g' := gb235) (o := .cells #[.string t236, .int .i64 t240, u236002, .slice none 0 0] 45 (0, 0)) (by (with_reducible repeat (first | refine blk_drewN ?_ _ | refine blk_drew ?_ | refine blk_alloc ?_ _)); exact BK235.out) NB235_0.out (by simp)); have n3_ := Aside0.mk (KeepBut.blk hk (g' := gb248) (o := .cells #[.string (⟨#[]⟩ : ByteArray), .int .i64 0, .bool false, .bool false, .string (⟨#[]⟩ : ByteArray), .int .i64 0] 59 (0, 0)) (by (with_reducible repeat (first | refine blk_drewN ?_ _ | refine blk_drew ?_ | refine blk_alloc ?_ _)); exact BK248.out) NB248_0.out (by simp)); have n4_ := Aside0.mk (KeepBut.trans (by repeat (first | (with_reducible first | exact HK.out | apply KeepBut.set_ | apply keep_drewN | apply keep_drew | apply keep_alloc | refine keep_far ?_ GW234.out _ | refine keep_far ?_ GW235.out _ | refine keep_far ?_ GW248.out _) | exact HK.out)) hk (.inl rfl)); have n5_ := Aside0.mk (hb); have n6_ := Aside0.mk (hi); clear HO_236002; clear BK234; clear BK235; clear BK248; clear HK; clear HB; clear HI0; have HO_236002 := n0_; have BK234 := n1_; have BK235 := n2_; have BK248 := n3_; have HK := n4_; have HB := n5_; have HI0 := n6_; clear n0_ n1_ n2_ n3_ n4_ n5_ n6_; (try clear hb); (try clear hb2); (try clear hk); (try clear hi); have hnb24 := NB248_234.out; have hnc24 := NB234_248.out; have hnb25 := NB248_235.out; have hnc25 := NB235_248.out; have hnb26 := NB248_0.out; have hnc26 := NB0_248.out; have hcz27_0 : w23.cell? ⟨gb248, 0, none⟩ = some (.string (⟨#[]⟩ : ByteArray)) := (blk_cell BK248.out 0).trans rfl; have hcz27_1 : w23.cell? ⟨gb248, 1, none⟩ = some (.int .i64 0) := (blk_cell BK248.out 1).trans rfl; have hcz27_2 : w23.cell? ⟨gb248, 2, none⟩ = some (.bool false) := (blk_cell BK248.out 2).trans rfl; have hcz27_3 : w23.cell? ⟨gb248, 3, none⟩ = some (.bool false) := (blk_cell BK248.out 3).trans rfl; have hcz27_4 : w23.cell? ⟨gb248, 4, none⟩ = some (.string (⟨#[]⟩ : ByteArray)) := (blk_cell BK248.out 4).trans rfl; have hcz27_5 : w23.cell? ⟨gb248, 5, none⟩ = some (.int .i64 0) := (blk_cell BK248.out 5).trans rfl; have hfz27_0 := blk_frozen BK248.out 0; have hfz27_1 := blk_frozen BK248.out 1; have hfz27_2 := blk_frozen BK248.out 2; have hfz27_3 := blk_frozen BK248.out 3; have hfz27_4 := blk_frozen BK248.out 4; have hfz27_5 := blk_frozen BK248.out 5) | ((with_reducible refine gate_callee (f := 68) rfl ?_); refine goesL_ (some 19) rfl rfl Tryd.func68 (by kernel_rfl) rfl #[.pointer (some ⟨g, 0, none⟩)] rfl (by (try simp only [List.map_toArray, List.map_cons, List.map_nil]); first | done | rfl | (simp only [List.length_drop, List.length_take]; rfl)) ?_; (with_reducible refine (pack_Reader_Str.calls k1 g t250 t251 t252 t253 t254 t255 t256 w0 _ ?side1 ?side2 A16.out).mono ?_); (case side1 => repeat (first | (with_reducible first | exact HI0.out | apply IsS129.alloc | apply IsS129.drewN | apply IsS129.drew | apply IsS129.set_0 | apply IsS129.set_1 | apply IsS129.set_2 | refine IsS129.far ?_ NB0_234.out _ | refine IsS129.far ?_ NB0_235.out _ | refine IsS129.far ?_ NB0_248.out _) | exact HI0.out)); (case side2 => repeat (first | (with_reducible first | exact HB.out | apply below_alloc | apply pw_below_drewN | apply below_drew1 | refine below_set ?_ (IsS129.ge HI0.out) | refine below_set ?_ GE234.out | refine below_set ?_ GE235.out | refine below_set ?_ GE248.out) | exact HB.out)); rintro e w28 ⟨rfl, hi, hb, hk⟩; refine ⟨_, rfl, ?_⟩; have n0_ := Aside0.mk (Kd.R_mono (Kd.R_keep (IsS129.apart (show IsS129 w0 _ g t250 t251 t252 from by repeat (first | (with_reducible first | exact HI0.out | apply IsS129.alloc | apply IsS129.drewN | apply IsS129.drew | apply IsS129.set_0 | apply IsS129.set_1 | apply IsS129.set_2 | refine IsS129.far ?_ NB0_234.out _ | refine IsS129.far ?_ NB0_235.out _ | refine IsS129.far ?_ NB0_248.out _) | exact HI0.out)) (by (with_reducible repeat (first | apply Kd.R_alloc | apply Kd.R_drewN | apply Kd.R_drew)); exact (Kd.R_mono (Kd.R_far (p := ⟨gb248, 0, none⟩) (Kd.R_mono HO_236002.out (fun k_ hk => (⟨hk, hk.2⟩ : _ ∧ k_ ≠ gb248))) (fun _ hk => hk.2) (.string t249)) (fun _ h_ => h_.1))) (by decide)) hk (fun _ h => h.2)) (fun _ h => h.1)); have n1_ := Aside0.mk (KeepBut.blk hk (g' := gb234) (o := .cells #[.string (⟨#[]⟩ : ByteArray), .int .i64 0, .slice none 0 0, .slice none 0 0] 45 (0, 0)) (by (with_reducible repeat (first | refine blk_drewN ?_ _ | refine blk_drew ?_ | refine blk_alloc ?_ _)); refine blk_far ?_ NB234_248.out _; (with_reducible repeat (first | refine blk_drewN ?_ _ | refine blk_drew ?_ | refine blk_alloc ?_ _)); exact BK234.out) NB234_0.out (by simp)); have n2_ := Aside0.mk (KeepBut.blk hk (g' := gb235) (o := .cells #[.string t236, .int .i64 t240, u236002, .slice none 0 0] 45 (0, 0)) (by (with_reducible repeat (first | refine blk_drewN ?_ _ | refine blk_drew ?_ | refine blk_alloc ?_ _)); refine blk_far ?_ NB235_248.out _; (with_reducible repeat (first | refine blk_drewN ?_ _ | refine blk_drew ?_ | refine blk_alloc ?_ _)); exact BK235.out) NB235_0.out (by simp)); have n3_ := Aside0.mk (KeepBut.blk hk (g' := gb248) (o := .cells #[.string t249, .int .i64 0, .bool false, .bool false, .string (⟨#[]⟩ : ByteArray), .int .i64 0] 59 (0, 0)) (by (with_reducible repeat (first | refine blk_drewN ?_ _ | refine blk_drew ?_ | refine blk_alloc ?_ _)); refine blk_put (cs := #[.string (⟨#[]⟩ : ByteArray), .int .i64 0, .bool false, .bool false, .string (⟨#[]⟩ : ByteArray), .int .i64 0]) ?_ 0 _ rfl; (with_reducible repeat (first | refine blk_drewN ?_ _ | refine blk_drew ?_ | refine blk_alloc ?_ _)); exact BK248.out) NB248_0.out (by simp)); have n4_ := Aside0.mk (KeepBut.trans (by repeat (first | (with_reducible first | exact HK.out | apply KeepBut.set_ | apply keep_drewN | apply keep_drew | apply keep_alloc | refine keep_far ?_ GW234.out _ | refine keep_far ?_ GW235.out _ | refine keep_far ?_ GW248.out _) | exact HK.out)) hk (.inl rfl)); have n5_ := Aside0.mk (hb); have n6_ := Aside0.mk (hi); clear HO_236002; clear BK234; clear BK235; clear BK248; clear HK; clear HB; clear HI0; have HO_236002 := n0_; have BK234 := n1_; have BK235 := n2_; have BK248 := n3_; have HK := n4_; have HB := n5_; have HI0 := n6_; clear n0_ n1_ n2_ n3_ n4_ n5_ n6_; (try clear hb); (try clear hb2); (try clear hk); (try clear hi); have hcz29_0 : w28.cell? ⟨gb248, 0, none⟩ = some (.string t249) := (blk_cell BK248.out 0).trans rfl; have hcz29_1 : w28.cell? ⟨gb248, 1, none⟩ = some (.int .i64 0) := (blk_cell BK248.out 1).trans rfl; have hcz29_2 : w28.cell? ⟨gb248, 2, none⟩ = some (.bool false) := (blk_cell BK248.out 2).trans rfl; have hcz29_3 : w28.cell? ⟨gb248, 3, none⟩ = some (.bool false) := (blk_cell BK248.out 3).trans rfl; have hcz29_4 : w28.cell? ⟨gb248, 4, none⟩ = some (.string (⟨#[]⟩ : ByteArray)) := (blk_cell BK248.out 4).trans rfl; have hcz29_5 : w28.cell? ⟨gb248, 5, none⟩ = some (.int .i64 0) := (blk_cell BK248.out 5).trans rfl; have hfz29_0 := blk_frozen BK248.out 0; have hfz29_1 := blk_frozen BK248.out 1; have hfz29_2 := blk_frozen BK248.out 2; have hfz29_3 := blk_frozen BK248.out 3; have hfz29_4 := blk_frozen BK248.out 4; have hfz29_5 := blk_frozen BK248.out 5) | ((with_reducible refine gate_callee (f := 65) rfl ?_); refine goesL_ (some 22) rfl rfl Tryd.func65 (by kernel_rfl) rfl #[.pointer (some ⟨g, 0, none⟩)] rfl (by (try simp only [List.map_toArray, List.map_cons, List.map_nil]); first | done | rfl | (simp only [List.length_drop, List.length_take]; rfl)) ?_; (with_reducible refine (pack_Reader_Int.calls k1 g t254 t255 t256 t257 t258 t259 t260 w0 _ ?side1 ?side2 A17.out).mono ?_); (case side1 => repeat (first | (with_reducible first | exact HI0.out | apply IsS129.alloc | apply IsS129.drewN | apply IsS129.drew | apply IsS129.set_0 | apply IsS129.set_1 | apply IsS129.set_2 | refine IsS129.far ?_ NB0_234.out _ | refine IsS129.far ?_ NB0_235.out _ | refine IsS129.far ?_ NB0_248.out _) | exact HI0.out)); (case side2 => repeat (first | (with_reducible first | exact HB.out | apply below_alloc | apply pw_below_drewN | apply below_drew1 | refine below_set ?_ (IsS129.ge HI0.out) | refine below_set ?_ GE234.out | refine below_set ?_ GE235.out | refine below_set ?_ GE248.out) | exact HB.out)); rintro e w30 ⟨rfl, hi, hb, hk⟩; refine ⟨_, rfl, ?_⟩; have n0_ := Aside0.mk (Kd.R_mono (Kd.R_keep (IsS129.apart (show IsS129 w0 _ g t254 t255 t256 from by repeat (first | (with_reducible first | exact HI0.out | apply IsS129.alloc | apply IsS129.drewN | apply IsS129.drew | apply IsS129.set_0 | apply IsS129.set_1 | apply IsS129.set_2 | refine IsS129.far ?_ NB0_234.out _ | refine IsS129.far ?_ NB0_235.out _ | refine IsS129.far ?_ NB0_248.out _) | exact HI0.out)) (by (with_reducible repeat (first | apply Kd.R_alloc | apply Kd.R_drewN | apply Kd.R_drew)); exact (Kd.R_mono (Kd.R_far (p := ⟨gb248, 4, none⟩) (Kd.R_mono HO_236002.out (fun k_ hk => (⟨hk, hk.2⟩ : _ ∧ k_ ≠ gb248))) (fun _ hk => hk.2) (.string t253)) (fun _ h_ => h_.1))) (by decide)) hk (fun _ h => h.2)) (fun _ h => h.1)); have n1_ := Aside0.mk (KeepBut.blk hk (g' := gb234) (o := .cells #[.string (⟨#[]⟩ : ByteArray), .int .i64 0, .slice none 0 0, .slice none 0 0] 45 (0, 0)) (by (with_reducible repeat (first | refine blk_drewN ?_ _ | refine blk_drew ?_ | refine blk_alloc ?_ _)); refine blk_far ?_ NB234_248.out _; (with_reducible repeat (first | refine blk_drewN ?_ _ | refine blk_drew ?_ | refine blk_alloc ?_ _)); exact BK234.out) NB234_0.out (by simp)); have n2_ := Aside0.mk (KeepBut.blk hk (g' := gb235) (o := .cells #[.string t236, .int .i64 t240, u236002, .slice none 0 0] 45 (0, 0)) (by (with_reducible repeat (first | refine blk_drewN ?_ _ | refine blk_drew ?_ | refine blk_alloc ?_ _)); refine blk_far ?_ NB235_248.out _; (with_reducible repeat (first | refine blk_drewN ?_ _ | refine blk_drew ?_ | refine blk_alloc ?_ _)); exact BK235.out) NB235_0.out (by simp)); have n3_ := Aside0.mk (KeepBut.blk hk (g' := gb248) (o := .cells #[.string t249, .int .i64 0, .bool false, .bool false, .string t253, .int .i64 0] 59 (0, 0)) (by (with_reducible repeat (first | refine blk_drewN ?_ _ | refine blk_drew ?_ | refine blk_alloc ?_ _)); refine blk_put (cs := #[.string t249, .int .i64 0, .bool false, .bool false, .string (⟨#[]⟩ : ByteArray), .int .i64 0]) ?_ 4 _ rfl; (with_reducible repeat (first | refine blk_drewN ?_ _ | refine blk_drew ?_ | refine blk_alloc ?_ _)); exact BK248.out) NB248_0.out (by simp)); have n4_ := Aside0.mk (KeepBut.trans (by repeat (first | (with_reducible first | exact HK.out | apply KeepBut.set_ | apply keep_drewN | apply keep_drew | apply keep_alloc | refine keep_far ?_ GW234.out _ | refine keep_far ?_ GW235.out _ | refine keep_far ?_ GW248.out _) | exact HK.out)) hk (.inl rfl)); have n5_ := Aside0.mk (hb); have n6_ := Aside0.mk (hi); clear HO_236002; clear BK234; clear BK235; clear BK248; clear HK; clear HB; clear HI0; have HO_236002 := n0_; have BK234 := n1_; have BK235 := n2_; have BK248 := n3_; have HK := n4_; have HB := n5_; have HI0 := n6_; clear n0_ n1_ n2_ n3_ n4_ n5_ n6_; (try clear hb); (try clear hb2); (try clear hk); (try clear hi); have hcz31_0 : w30.cell? ⟨gb248, 0, none⟩ = some (.string t249) := (blk_cell BK248.out 0).trans rfl; have hcz31_1 : w30.cell? ⟨gb248, 1, none⟩ = some (.int .i64 0) := (blk_cell BK248.out 1).trans rfl; have hcz31_2 : w30.cell? ⟨gb248, 2, none⟩ = some (.bool false) := (blk_cell BK248.out 2).trans rfl; have hcz31_3 : w30.cell? ⟨gb248, 3, none⟩ = some (.bool false) := (blk_cell BK248.out 3).trans rfl; have hcz31_4 : w30.cell? ⟨gb248, 4, none⟩ = some (.string t253) := (blk_cell BK248.out 4).trans rfl; have hcz31_5 : w30.cell? ⟨gb248, 5, none⟩ = some (.int .i64 0) := (blk_cell BK248.out 5).trans rfl; have hfz31_0 := blk_frozen BK248.out 0; have hfz31_1 := blk_frozen BK248.out 1; have hfz31_2 := blk_frozen BK248.out 2; have hfz31_3 := blk_frozen BK248.out 3; have hfz31_4 := blk_frozen BK248.out 4; have hfz31_5 := blk_frozen BK248.out 5) | ((with_reducible refine gate_callee (f := 65) rfl ?_); refine goesL_ (some 25) rfl rfl Tryd.func65 (by kernel_rfl) rfl #[.pointer (some ⟨g, 0, none⟩)] rfl (by (try simp only [List.map_toArray, List.map_cons, List.map_nil]); first | done | rfl | (simp only [List.length_drop, List.length_take]; rfl)) ?_; (with_reducible refine (pack_Reader_Int.calls k1 g t258 t259 t260 t261 t262 t263 t264 w0 _ ?side1 ?side2 A18.out).mono ?_); (case side1 => repeat (first | (with_reducible first | exact HI0.out | apply IsS129.alloc | apply IsS129.drewN | apply IsS129.drew | apply IsS129.set_0 | apply IsS129.set_1 | apply IsS129.set_2 | refine IsS129.far ?_ NB0_234.out _ | refine IsS129.far ?_ NB0_235.out _ | refine IsS129.far ?_ NB0_248.out _) | exact HI0.out)); (case side2 => repeat (first | (with_reducible first | exact HB.out | apply below_alloc | apply pw_below_drewN | apply below_drew1 | refine below_set ?_ (IsS129.ge HI0.out) | refine below_set ?_ GE234.out | refine below_set ?_ GE235.out | refine below_set ?_ GE248.out) | exact HB.out)); rintro e w32 ⟨rfl, hi, hb, hk⟩; refine ⟨_, rfl, ?_⟩; have n0_ := Aside0.mk (Kd.R_mono (Kd.R_keep (IsS129.apart (show IsS129 w0 _ g t258 t259 t260 from by repeat (first | (with_reducible first | exact HI0.out | apply IsS129.alloc | apply IsS129.drewN | apply IsS129.drew | apply IsS129.set_0 | apply IsS129.set_1 | apply IsS129.set_2 | refine IsS129.far ?_ NB0_234.out _ | refine IsS129.far ?_ NB0_235.out _ | refine IsS129.far ?_ NB0_248.out _) | exact HI0.out)) (by (with_reducible repeat (first | apply Kd.R_alloc | apply Kd.R_drewN | apply Kd.R_drew)); exact (Kd.R_mono (Kd.R_far (p := ⟨gb248, 1, none⟩) (Kd.R_mono HO_236002.out (fun k_ hk => (⟨hk, hk.2⟩ : _ ∧ k_ ≠ gb248))) (fun _ hk => hk.2) (.int .i64 t257)) (fun _ h_ => h_.1))) (by decide)) hk (fun _ h => h.2)) (fun _ h => h.1)); have n1_ := Aside0.mk (KeepBut.blk hk (g' := gb234) (o := .cells #[.string (⟨#[]⟩ : ByteArray), .int .i64 0, .slice none 0 0, .slice none 0 0] 45 (0, 0)) (by (with_reducible repeat (first | refine blk_drewN ?_ _ | refine blk_drew ?_ | refine blk_alloc ?_ _)); refine blk_far ?_ NB234_248.out _; (with_reducible repeat (first | refine blk_drewN ?_ _ | refine blk_drew ?_ | refine blk_alloc ?_ _)); exact BK234.out) NB234_0.out (by simp)); have n2_ := Aside0.mk (KeepBut.blk hk (g' := gb235) (o := .cells #[.string t236, .int .i64 t240, u236002, .slice none 0 0] 45 (0, 0)) (by (with_reducible repeat (first | refine blk_drewN ?_ _ | refine blk_drew ?_ | refine blk_alloc ?_ _)); refine blk_far ?_ NB235_248.out _; (with_reducible repeat (first | refine blk_drewN ?_ _ | refine blk_drew ?_ | refine blk_alloc ?_ _)); exact BK235.out) NB235_0.out (by simp)); have n3_ := Aside0.mk (KeepBut.blk hk (g' := gb248) (o := .cells #[.string t249, .int .i64 t257, .bool false, .bool false, .string t253, .int .i64 0] 59 (0, 0)) (by (with_reducible repeat (first | refine blk_drewN ?_ _ | refine blk_drew ?_ | refine blk_alloc ?_ _)); refine blk_put (cs := #[.string t249, .int .i64 0, .bool false, .bool false, .string t253, .int .i64 0]) ?_ 1 _ rfl; (with_reducible repeat (first | refine blk_drewN ?_ _ | refine blk_drew ?_ | refine blk_alloc ?_ _)); exact BK248.out) NB248_0.out (by simp)); have n4_ := Aside0.mk (KeepBut.trans (by repeat (first | (with_reducible first | exact HK.out | apply KeepBut.set_ | apply keep_drewN | apply keep_drew | apply keep_alloc | refine keep_far ?_ GW234.out _ | refine keep_far ?_ GW235.out _ | refine keep_far ?_ GW248.out _) | exact HK.out)) hk (.inl rfl)); have n5_ := Aside0.mk (hb); have n6_ := Aside0.mk (hi); clear HO_236002; clear BK234; clear BK235; clear BK248; clear HK; clear HB; clear HI0; have HO_236002 := n0_; have BK234 := n1_; have BK235 := n2_; have BK248 := n3_; have HK := n4_; have HB := n5_; have HI0 := n6_; clear n0_ n1_ n2_ n3_ n4_ n5_ n6_; (try clear hb); (try clear hb2); (try clear hk); (try clear hi); have hcz33_0 : w32.cell? ⟨gb248, 0, none⟩ = some (.string t249) := (blk_cell BK248.out 0).trans rfl; have hcz33_1 : w32.cell? ⟨gb248, 1, none⟩ = some (.int .i64 t257) := (blk_cell BK248.out 1).trans rfl; have hcz33_2 : w32.cell? ⟨gb248, 2, none⟩ = some (.bool false) := (blk_cell BK248.out 2).trans rfl; have hcz33_3 : w32.cell? ⟨gb248, 3, none⟩ = some (.bool false) := (blk_cell BK248.out 3).trans rfl; have hcz33_4 : w32.cell? ⟨gb248, 4, none⟩ = some (.string t253) := (blk_cell BK248.out 4).trans rfl; have hcz33_5 : w32.cell? ⟨gb248, 5, none⟩ = some (.int .i64 0) := (blk_cell BK248.out 5).trans rfl; have hfz33_0 := blk_frozen BK248.out 0; have hfz33_1 := blk_frozen BK248.out 1; have hfz33_2 := blk_frozen BK248.out 2; have hfz33_3 := blk_frozen BK248.out 3; have hfz33_4 := blk_frozen BK248.out 4; have hfz33_5 := blk_frozen BK248.out 5) | ((with_reducible refine gate_callee (f := 96) rfl ?_); refine goesL_ (some 28) rfl rfl Tryd.func96 (by kernel_rfl) rfl #[.pointer (some ⟨g, 0, none⟩)] rfl (by (try simp only [List.map_toArray, List.map_cons, List.map_nil]); first | done | rfl | (simp only [List.length_drop, List.length_take]; rfl)) ?_; (with_reducible refine (pack_Reader_Bool.calls k1 g t262 t263 t264 t265 t266 t267 t268 w0 _ ?side1 ?side2 A19.out).mono ?_); (case side1 => repeat (first | (with_reducible first | exact HI0.out | apply IsS129.alloc | apply IsS129.drewN | apply IsS129.drew | apply IsS129.set_0 | apply IsS129.set_1 | apply IsS129.set_2 | refine IsS129.far ?_ NB0_234.out _ | refine IsS129.far ?_ NB0_235.out _ | refine IsS129.far ?_ NB0_248.out _) | exact HI0.out)); (case side2 => repeat (first | (with_reducible first | exact HB.out | apply below_alloc | apply pw_below_drewN | apply below_drew1 | refine below_set ?_ (IsS129.ge HI0.out) | refine below_set ?_ GE234.out | refine below_set ?_ GE235.out | refine below_set ?_ GE248.out) | exact HB.out)); rintro e w34 ⟨rfl, hi, hb, hk⟩; refine ⟨_, rfl, ?_⟩; have n0_ := Aside0.mk (Kd.R_mono (Kd.R_keep (IsS129.apart (show IsS129 w0 _ g t262 t263 t264 from by repeat (first | (with_reducible first | exact HI0.out | apply IsS129.alloc | apply IsS129.drewN | apply IsS129.drew | apply IsS129.set_0 | apply IsS129.set_1 | apply IsS129.set_2 | refine IsS129.far ?_ NB0_234.out _ | refine IsS129.far ?_ NB0_235.out _ | refine IsS129.far ?_ NB0_248.out _) | exact HI0.out)) (by (with_reducible repeat (first | apply Kd.R_alloc | apply Kd.R_drewN | apply Kd.R_drew)); exact (Kd.R_mono (Kd.R_far (p := ⟨gb248, 5, none⟩) (Kd.R_mono HO_236002.out (fun k_ hk => (⟨hk, hk.2⟩ : _ ∧ k_ ≠ gb248))) (fun _ hk => hk.2) (.int .i64 t261)) (fun _ h_ => h_.1))) (by decide)) hk (fun _ h => h.2)) (fun _ h => h.1)); have n1_ := Aside0.mk (KeepBut.blk hk (g' := gb234) (o := .cells #[.string (⟨#[]⟩ : ByteArray), .int .i64 0, .slice none 0 0, .slice none 0 0] 45 (0, 0)) (by (with_reducible repeat (first | refine blk_drewN ?_ _ | refine blk_drew ?_ | refine blk_alloc ?_ _)); refine blk_far ?_ NB234_248.out _; (with_reducible repeat (first | refine blk_drewN ?_ _ | refine blk_drew ?_ | refine blk_alloc ?_ _)); exact BK234.out) NB234_0.out (by simp)); have n2_ := Aside0.mk (KeepBut.blk hk (g' := gb235) (o := .cells #[.string t236, .int .i64 t240, u236002, .slice none 0 0] 45 (0, 0)) (by (with_reducible repeat (first | refine blk_drewN ?_ _ | refine blk_drew ?_ | refine blk_alloc ?_ _)); refine blk_far ?_ NB235_248.out _; (with_reducible repeat (first | refine blk_drewN ?_ _ | refine blk_drew ?_ | refine blk_alloc ?_ _)); exact BK235.out) NB235_0.out (by simp)); have n3_ := Aside0.mk (KeepBut.blk hk (g' := gb248) (o := .cells #[.string t249, .int .i64 t257, .bool false, .bool false, .string t253, .int .i64 t261] 59 (0, 0)) (by (with_reducible repeat (first | refine blk_drewN ?_ _ | refine blk_drew ?_ | refine blk_alloc ?_ _)); refine blk_put (cs := #[.string t249, .int .i64 t257, .bool false, .bool false, .string t253, .int .i64 0]) ?_ 5 _ rfl; (with_reducible repeat (first | refine blk_drewN ?_ _ | refine blk_drew ?_ | refine blk_alloc ?_ _)); exact BK248.out) NB248_0.out (by simp)); have n4_ := Aside0.mk (KeepBut.trans (by repeat (first | (with_reducible first | exact HK.out | apply KeepBut.set_ | apply keep_drewN | apply keep_drew | apply keep_alloc | refine keep_far ?_ GW234.out _ | refine keep_far ?_ GW235.out _ | refine keep_far ?_ GW248.out _) | exact HK.out)) hk (.inl rfl)); have n5_ := Aside0.mk (hb); have n6_ := Aside0.mk (hi); clear HO_236002; clear BK234; clear BK235; clear BK248; clear HK; clear HB; clear HI0; have HO_236002 := n0_; have BK234 := n1_; have BK235 := n2_; have BK248 := n3_; have HK := n4_; have HB := n5_; have HI0 := n6_; clear n0_ n1_ n2_ n3_ n4_ n5_ n6_; (try clear hb); (try clear hb2); (try clear hk); (try clear hi); have hcz35_0 : w34.cell? ⟨gb248, 0, none⟩ = some (.string t249) := (blk_cell BK248.out 0).trans rfl; have hcz35_1 : w34.cell? ⟨gb248, 1, none⟩ = some (.int .i64 t257) := (blk_cell BK248.out 1).trans rfl; have hcz35_2 : w34.cell? ⟨gb248, 2, none⟩ = some (.bool false) := (blk_cell BK248.out 2).trans rfl; have hcz35_3 : w34.cell? ⟨gb248, 3, none⟩ = some (.bool false) := (blk_cell BK248.out 3).trans rfl; have hcz35_4 : w34.cell? ⟨gb248, 4, none⟩ = some (.string t253) := (blk_cell BK248.out 4).trans rfl; have hcz35_5 : w34.cell? ⟨gb248, 5, none⟩ = some (.int .i64 t261) := (blk_cell BK248.out 5).trans rfl; have hfz35_0 := blk_frozen BK248.out 0; have hfz35_1 := blk_frozen BK248.out 1; have hfz35_2 := blk_frozen BK248.out 2; have hfz35_3 := blk_frozen BK248.out 3; have hfz35_4 := blk_frozen BK248.out 4; have hfz35_5 := blk_frozen BK248.out 5) | ((with_reducible refine gate_callee (f := 96) rfl ?_); refine goesL_ (some 31) rfl rfl Tryd.func96 (by kernel_rfl) rfl #[.pointer (some ⟨g, 0, none⟩)] rfl (by (try simp only [List.map_toArray, List.map_cons, List.map_nil]); first | done | rfl | (simp only [List.length_drop, List.length_take]; rfl)) ?_; (with_reducible refine (pack_Reader_Bool.calls k1 g t266 t267 t268 t269 t270 t271 t272 w0 _ ?side1 ?side2 A20.out).mono ?_); (case side1 => repeat (first | (with_reducible first | exact HI0.out | apply IsS129.alloc | apply IsS129.drewN | apply IsS129.drew | apply IsS129.set_0 | apply IsS129.set_1 | apply IsS129.set_2 | refine IsS129.far ?_ NB0_234.out _ | refine IsS129.far ?_ NB0_235.out _ | refine IsS129.far ?_ NB0_248.out _) | exact HI0.out)); (case side2 => repeat (first | (with_reducible first | exact HB.out | apply below_alloc | apply pw_below_drewN | apply below_drew1 | refine below_set ?_ (IsS129.ge HI0.out) | refine below_set ?_ GE234.out | refine below_set ?_ GE235.out | refine below_set ?_ GE248.out) | exact HB.out)); rintro e w36 ⟨rfl, hi, hb, hk⟩; refine ⟨_, rfl, ?_⟩; have n0_ := Aside0.mk (Kd.R_mono (Kd.R_keep (IsS129.apart (show IsS129 w0 _ g t266 t267 t268 from by repeat (first | (with_reducible first | exact HI0.out | apply IsS129.alloc | apply IsS129.drewN | apply IsS129.drew | apply IsS129.set_0 | apply IsS129.set_1 | apply IsS129.set_2 | refine IsS129.far ?_ NB0_234.out _ | refine IsS129.far ?_ NB0_235.out _ | refine IsS129.far ?_ NB0_248.out _) | exact HI0.out)) (by (with_reducible repeat (first | apply Kd.R_alloc | apply Kd.R_drewN | apply Kd.R_drew)); exact (Kd.R_mono (Kd.R_far (p := ⟨gb248, 2, none⟩) (Kd.R_mono HO_236002.out (fun k_ hk => (⟨hk, hk.2⟩ : _ ∧ k_ ≠ gb248))) (fun _ hk => hk.2) (.bool t265)) (fun _ h_ => h_.1))) (by decide)) hk (fun _ h => h.2)) (fun _ h => h.1)); have n1_ := Aside0.mk (KeepBut.blk hk (g' := gb234) (o := .cells #[.string (⟨#[]⟩ : ByteArray), .int .i64 0, .slice none 0 0, .slice none 0 0] 45 (0, 0)) (by (with_reducible repeat (first | refine blk_drewN ?_ _ | refine blk_drew ?_ | refine blk_alloc ?_ _)); refine blk_far ?_ NB234_248.out _; (with_reducible repeat (first | refine blk_drewN ?_ _ | refine blk_drew ?_ | refine blk_alloc ?_ _)); exact BK234.out) NB234_0.out (by simp)); have n2_ := Aside0.mk (KeepBut.blk hk (g' := gb235) (o := .cells #[.string t236, .int .i64 t240, u236002, .slice none 0 0] 45 (0, 0)) (by (with_reducible repeat (first | refine blk_drewN ?_ _ | refine blk_drew ?_ | refine blk_alloc ?_ _)); refine blk_far ?_ NB235_248.out _; (with_reducible repeat (first | refine blk_drewN ?_ _ | refine blk_drew ?_ | refine blk_alloc ?_ _)); exact BK235.out) NB235_0.out (by simp)); have n3_ := Aside0.mk (KeepBut.blk hk (g' := gb248) (o := .cells #[.string t249, .int .i64 t257, .bool t265, .bool false, .string t253, .int .i64 t261] 59 (0, 0)) (by (with_reducible repeat (first | refine blk_drewN ?_ _ | refine blk_drew ?_ | refine blk_alloc ?_ _)); refine blk_put (cs := #[.string t249, .int .i64 t257, .bool false, .bool false, .string t253, .int .i64 t261]) ?_ 2 _ rfl; (with_reducible repeat (first | refine blk_drewN ?_ _ | refine blk_drew ?_ | refine blk_alloc ?_ _)); exact BK248.out) NB248_0.out (by simp)); have n4_ := Aside0.mk (KeepBut.trans (by repeat (first | (with_reducible first | exact HK.out | apply KeepBut.set_ | apply keep_drewN | apply keep_drew | apply keep_alloc | refine keep_far ?_ GW234.out _ | refine keep_far ?_ GW235.out _ | refine keep_far ?_ GW248.out _) | exact HK.out)) hk (.inl rfl)); have n5_ := Aside0.mk (hb); have n6_ := Aside0.mk (hi); clear HO_236002; clear BK234; clear BK235; clear BK248; clear HK; clear HB; clear HI0; have HO_236002 := n0_; have BK234 := n1_; have BK235 := n2_; have BK248 := n3_; have HK := n4_; have HB := n5_; have HI0 := n6_; clear n0_ n1_ n2_ n3_ n4_ n5_ n6_; (try clear hb); (try clear hb2); (try clear hk); (try clear hi); have hcz37_0 : w36.cell? ⟨gb248, 0, none⟩ = some (.string t249) := (blk_cell BK248.out 0).trans rfl; have hcz37_1 : w36.cell? ⟨gb248, 1, none⟩ = some (.int .i64 t257) := (blk_cell BK248.out 1).trans rfl; have hcz37_2 : w36.cell? ⟨gb248, 2, none⟩ = some (.bool t265) := (blk_cell BK248.out 2).trans rfl; have hcz37_3 : w36.cell? ⟨gb248, 3, none⟩ = some (.bool false) := (blk_cell BK248.out 3).trans rfl; have hcz37_4 : w36.cell? ⟨gb248, 4, none⟩ = some (.string t253) := (blk_cell BK248.out 4).trans rfl; have hcz37_5 : w36.cell? ⟨gb248, 5, none⟩ = some (.int .i64 t261) := (blk_cell BK248.out 5).trans rfl; have hfz37_0 := blk_frozen BK248.out 0; have hfz37_1 := blk_frozen BK248.out 1; have hfz37_2 := blk_frozen BK248.out 2; have hfz37_3 := blk_frozen BK248.out 3; have hfz37_4 := blk_frozen BK248.out 4; have hfz37_5 := blk_frozen BK248.out 5; have hnb38 := NB235_234.out; have hnc38 := NB234_235.out; have hnb39 := NB235_0.out; have hnc39 := NB0_235.out; have hcz40_0 : w36.cell? ⟨gb235, 0, none⟩ = some (.string t236) := (blk_cell BK235.out 0).trans rfl; have hcz40_1 : w36.cell? ⟨gb235, 1, none⟩ = some (.int .i64 t240) := (blk_cell BK235.out 1).trans rfl; have hcz40_2 : w36.cell? ⟨gb235, 2, none⟩ = some (u236002) := (blk_cell BK235.out 2).trans rfl; have hcz40_3 : w36.cell? ⟨gb235, 3, none⟩ = some (.slice none 0 0) := (blk_cell BK235.out 3).trans rfl; have hfz40_0 := blk_frozen BK235.out 0; have hfz40_1 := blk_frozen BK235.out 1; have hfz40_2 := blk_frozen BK235.out 2; have hfz40_3 := blk_frozen BK235.out 3) | ((with_reducible refine gate_builtin (b := .append) (xs := #[.tmp 34, .tmp 36]) rfl ?_); at_builtin; refine Kd.R_append k59 w.heap.size rfl (.tmp 34) (.tmp 36) 42 59 (.agg #[(.string ⟨#[]⟩), (.int .i64 0), (.bool false), (.bool false), (.string ⟨#[]⟩), (.int .i64 0)]) 56 rfl Tryd.underlying42 info59 rfl (by decide) (by omega) u236002 x236002_1 (⟨t249, t257, t265, t269, t253, t261⟩ : S59) [.string t249, .int .i64 t257, .bool t265, .bool t269, .string t253, .int .i64 t261] (fun k_ => k_ ≠ gb248) (fun _ => False) rfl (by first | (go_simp; done) | (go_simp; rfl)) ?aP (fun _ hk => hk.elim) ?aF ?aO (Below.refl _ _) ?aS ?aL ?_; (case aP => exact k59_mkM _ _ _ (⟨t249, t257, t265, t269, t253, t261⟩ : S59)); (case aF => exact (fun k_ hk => Kd.freshB (g := gb248) (o := .cells #[.string t249, .int .i64 t257, .bool t265, .bool t269, .string t253, .int .i64 t261] 59 (0, 0)) (by (with_reducible repeat (first | refine blk_drewN ?_ _ | refine blk_drew ?_ | refine blk_alloc ?_ _)); refine blk_put (cs := #[.string t249, .int .i64 t257, .bool t265, .bool false, .string t253, .int .i64 t261]) ?_ 3 _ rfl; (with_reducible repeat (first | refine blk_drewN ?_ _ | refine blk_drew ?_ | refine blk_alloc ?_ _)); exact BK248.out) k_ hk)); (case aO => exact (by (with_reducible repeat (first | apply Kd.R_alloc | apply Kd.R_drewN | apply Kd.R_drew)); exact Kd.R_mono (Kd.R_far (p := ⟨gb248, 3, none⟩) (Kd.R_mono HO_236002.out (fun k_ hk => (⟨hk, hk.2⟩ : _ ∧ k_ ≠ gb248))) (fun _ hk => hk.2) (.bool t269)) (fun _ hk => hk.1.2))); (case aS => exact (keep_size (w := w) (g := g) (row := none) (by repeat (first | (with_reducible first | exact HK.out | apply KeepBut.set_ | apply keep_drewN | apply keep_drew | apply keep_alloc | refine keep_far ?_ GW234.out _ | refine keep_far ?_ GW235.out _ | refine keep_far ?_ GW248.out _) | exact HK.out)))); (case aL => have := LMc21.out; omega); intro v274 w41 ho hb hg hat; rw [← Ny273.out] at ho; have n0_ := Aside0.mk (blk_grown (g := gb234) (o := .cells #[.string (⟨#[]⟩ : ByteArray), .int .i64 0, .slice none 0 0, .slice none 0 0] 45 (0, 0)) (by (with_reducible repeat (first | refine blk_drewN ?_ _ | refine blk_drew ?_ | refine blk_alloc ?_ _)); refine blk_far ?_ NB234_248.out _; (with_reducible repeat (first | refine blk_drewN ?_ _ | refine blk_drew ?_ | refine blk_alloc ?_ _)); exact BK234.out) hg (Kd.R_ne HO_236002.out BK234.out (by decide))); have n1_ := Aside0.mk (blk_grown (g := gb235) (o := .cells #[.string t236, .int .i64 t240, u236002, .slice none 0 0] 45 (0, 0)) (by (with_reducible repeat (first | refine blk_drewN ?_ _ | refine blk_drew ?_ | refine blk_alloc ?_ _)); refine blk_far ?_ NB235_248.out _; (with_reducible repeat (first | refine blk_drewN ?_ _ | refine blk_drew ?_ | refine blk_alloc ?_ _)); exact BK235.out) hg (Kd.R_ne HO_236002.out BK235.out (by decide))); have n2_ := Aside0.mk (IsS129.grown (show IsS129 w0 (w36.setCell ⟨gb248, 3, none⟩ (.bool t269)) g t270 t271 t272 from IsS129.far HI0.out NB0_248.out _) hg (IsS129.own_ne HI0.out HO_236002.out (by decide))); have n3_ := Aside0.mk (blk_grown (g := gb248) (o := .cells #[.string t249, .int .i64 t257, .bool t265, .bool t269, .string t253, .int .i64 t261] 59 (0, 0)) (by (with_reducible repeat (first | refine blk_drewN ?_ _ | refine blk_drew ?_ | refine blk_alloc ?_ _)); refine blk_put (cs := #[.string t249, .int .i64 t257, .bool t265, .bool false, .string t253, .int .i64 t261]) ?_ 3 _ rfl; (with_reducible repeat (first | refine blk_drewN ?_ _ | refine blk_drew ?_ | refine blk_alloc ?_ _)); exact BK248.out) hg (Kd.R_away HO_236002.out (fun _ hk => hk.2))); have n4_ := Aside0.mk (below_weaken (by repeat (first | (with_reducible first | exact HB.out | apply below_alloc | apply pw_below_drewN | apply below_drew1 | refine below_set ?_ (IsS129.ge HI0.out) | refine below_set ?_ GE234.out | refine below_set ?_ GE235.out | refine below_set ?_ GE248.out) | exact HB.out)) HL.out hb); have n5_ := Aside0.mk (KeepBut.trans (by repeat (first | (with_reducible first | exact HK.out | apply KeepBut.set_ | apply keep_drewN | apply keep_drew | apply keep_alloc | refine keep_far ?_ GW234.out _ | refine keep_far ?_ GW235.out _ | refine keep_far ?_ GW248.out _) | exact HK.out)) (KeepBut.of_grown hg g) (Kd.R_base2 HO_236002.out)); have n6_ := Aside0.mk (ho); clear BK234; clear BK235; clear HI0; clear BK248; clear HB; clear HK; clear HO_236002; have BK234 := n0_; have BK235 := n1_; have HI0 := n2_; have BK248 := n3_; have HB := n4_; have HK := n5_; have HO275 := n6_; clear n0_ n1_ n2_ n3_ n4_ n5_ n6_; clear ho hb hg hat; obtain ⟨Ao42, co42, eo42⟩ := Kd.R_slice HO275.out; subst eo42; have hcz43_0 : w41.cell? ⟨gb235, 0, none⟩ = some (.string t236) := (blk_cell BK235.out 0).trans rfl; have hcz43_1 : w41.cell? ⟨gb235, 1, none⟩ = some (.int .i64 t240) := (blk_cell BK235.out 1).trans rfl; have hcz43_2 : w41.cell? ⟨gb235, 2, none⟩ = some (u236002) := (blk_cell BK235.out 2).trans rfl; have hcz43_3 : w41.cell? ⟨gb235, 3, none⟩ = some (.slice none 0 0) := (blk_cell BK235.out 3).trans rfl; have hfz43_0 := blk_frozen BK235.out 0; have hfz43_1 := blk_frozen BK235.out 1; have hfz43_2 := blk_frozen BK235.out 2; have hfz43_3 := blk_frozen BK235.out 3))
     go_roundg k1
     case measure => have := HK1.out; omega
     case rel => exact ⟨(wrap64 (x13_1 + 1)), (t270), (t271), (t272), (y273), (.slice Ao42 y273.length co42), (by first | rfl | (simp; done) | (simp [*]; done)), H', ⟨by have := HK1.out; omega⟩, ⟨by (with_reducible repeat (first | apply Kd.R_alloc | apply Kd.R_drewN | apply Kd.R_drew)); exact Kd.R_mono (Kd.R_far (p := ⟨gb235, 2, none⟩) (Kd.R_types HO275.out BK235.out (by decide)) (fun _ hk => hk.2) (.slice Ao42 y273.length co42)) (fun _ hk => trivial)⟩, ⟨by (with_reducible repeat (first | refine blk_drewN ?_ _ | refine blk_drew ?_ | refine blk_alloc ?_ _)); refine blk_far ?_ NB234_235.out _; (with_reducible repeat (first | refine blk_drewN ?_ _ | refine blk_drew ?_ | refine blk_alloc ?_ _)); exact BK234.out⟩, ⟨by (with_reducible repeat (first | refine blk_drewN ?_ _ | refine blk_drew ?_ | refine blk_alloc ?_ _)); refine blk_put (cs := #[.string t236, .int .i64 t240, u236002, .slice none 0 0]) ?_ 2 _ rfl; (with_reducible repeat (first | refine blk_drewN ?_ _ | refine blk_drew ?_ | refine blk_alloc ?_ _)); exact BK235.out⟩, ⟨by repeat (first | (with_reducible first | exact HI0.out | apply IsS129.alloc | apply IsS129.drewN | apply IsS129.drew | apply IsS129.set_0 | apply IsS129.set_1 | apply IsS129.set_2 | refine IsS129.far ?_ NB0_234.out _ | refine IsS129.far ?_ NB0_235.out _ | refine IsS129.far ?_ NB0_248.out _) | exact HI0.out)⟩, ⟨by repeat (first | (with_reducible first | exact HK.out | apply KeepBut.set_ | apply keep_drewN | apply keep_drew | apply keep_alloc | refine keep_far ?_ GW234.out _ | refine keep_far ?_ GW235.out _ | refine keep_far ?_ GW248.out _) | exact HK.out)⟩, ⟨by repeat (first | (with_reducible first | exact HB.out | apply below_alloc | apply pw_below_drewN | apply below_drew1 | refine below_set ?_ (IsS129.ge HI0.out) | refine below_set ?_ GE234.out | refine below_set ?_ GE235.out | refine below_set ?_ GE248.out) | exact HB.out)⟩⟩
    ·rw [if_neg c21] at H
     exact absurd H (by simp)
   ·rw [if_neg c14] at H
    have c14b0 : decide (x13_1 < t244) = false := decide_eq_false c14
    clear c14
    replace H := Option.bind_eq_some_iff.mp H
    obtain ⟨⟨t276, t277, t278, t279⟩, A440, H⟩ := H
    replace H : (schema_takeTable.l1 k1 t276 0 t277 t278 t279 t236 t240 x236002_1 ([] : List (S72))) = some (r1, r2, r3, r4, r5, r6, r7) := H
    have A44 := Aside0.mk A440
    clear A440
    have H' := Aside0.mk H
    clear H
    go_wp2_with (first | ((with_reducible refine gate_callee (f := 66) rfl ?_); refine goesL_ (some 41) rfl rfl Tryd.func66 (by kernel_rfl) rfl #[.pointer (some ⟨g, 0, none⟩), .int .i64 4] rfl (by (try simp only [List.map_toArray, List.map_cons, List.map_nil]); first | done | rfl | (simp only [List.length_drop, List.length_take]; rfl)) ?_; (with_reducible refine (pack_Reader_Many.calls k1 g x1000_1 x1001_1 x1002_1 4 t276 t277 t278 t279 w0 _ ?side1 ?side2 A44.out).mono ?_); (case side1 => repeat (first | (with_reducible first | exact HI0.out | apply IsS129.alloc | apply IsS129.drewN | apply IsS129.drew | apply IsS129.set_0 | apply IsS129.set_1 | apply IsS129.set_2 | refine IsS129.far ?_ NB0_234.out _ | refine IsS129.far ?_ NB0_235.out _) | exact HI0.out)); (case side2 => repeat (first | (with_reducible first | exact HB.out | apply below_alloc | apply pw_below_drewN | apply below_drew1 | refine below_set ?_ (IsS129.ge HI0.out) | refine below_set ?_ GE234.out | refine below_set ?_ GE235.out) | exact HB.out)); rintro e w45 ⟨rfl, hi, hb, hk⟩; refine ⟨_, rfl, ?_⟩; have n0_ := Aside0.mk (Kd.R_mono (Kd.R_keep (IsS129.apart (show IsS129 w0 _ g x1000_1 x1001_1 x1002_1 from by repeat (first | (with_reducible first | exact HI0.out | apply IsS129.alloc | apply IsS129.drewN | apply IsS129.drew | apply IsS129.set_0 | apply IsS129.set_1 | apply IsS129.set_2 | refine IsS129.far ?_ NB0_234.out _ | refine IsS129.far ?_ NB0_235.out _) | exact HI0.out)) (by (with_reducible repeat (first | apply Kd.R_alloc | apply Kd.R_drewN | apply Kd.R_drew)); exact HO_236002.out) (by decide)) hk (fun _ h => h.2)) (fun _ h => h.1)); have n1_ := Aside0.mk (KeepBut.blk hk (g' := gb234) (o := .cells #[.string (⟨#[]⟩ : ByteArray), .int .i64 0, .slice none 0 0, .slice none 0 0] 45 (0, 0)) (by (with_reducible repeat (first | refine blk_drewN ?_ _ | refine blk_drew ?_ | refine blk_alloc ?_ _)); exact BK234.out) NB234_0.out (by simp)); have n2_ := Aside0.mk (KeepBut.blk hk (g' := gb235) (o := .cells #[.string t236, .int .i64 t240, u236002, .slice none 0 0] 45 (0, 0)) (by (with_reducible repeat (first | refine blk_drewN ?_ _ | refine blk_drew ?_ | refine blk_alloc ?_ _)); exact BK235.out) NB235_0.out (by simp)); have n3_ := Aside0.mk (KeepBut.trans (by repeat (first | (with_reducible first | exact HK.out | apply KeepBut.set_ | apply keep_drewN | apply keep_drew | apply keep_alloc | refine keep_far ?_ GW234.out _ | refine keep_far ?_ GW235.out _) | exact HK.out)) hk (.inl rfl)); have n4_ := Aside0.mk (hb); have n5_ := Aside0.mk (hi); clear HO_236002; clear BK234; clear BK235; clear HK; clear HB; clear HI0; have HO_236002 := n0_; have BK234 := n1_; have BK235 := n2_; have HK := n3_; have HB := n4_; have HI0 := n5_; clear n0_ n1_ n2_ n3_ n4_ n5_; (try clear hb); (try clear hb2); (try clear hk); (try clear hi)))
    go_loopg [42] k1 (fun kq v42 w' => ∃ (x42_2 : Int) (x1000_2 : ByteArray) (x1001_2 : Int) (x1002_2 : Bool) (x236003_2 : List (S72)) (u236003 : Value), v42 = .int .i64 x42_2 ∧ Aside0 (schema_takeTable.l1 kq t276 x42_2 x1000_2 x1001_2 x1002_2 t236 t240 x236002_1 x236003_2 = some (r1, r2, r3, r4, r5, r6, r7)) ∧ Aside0 (kq ≤ k1) ∧ Aside0 (Kd.R k59 59 w' w.heap.size (fun _ => True) u236002 x236002_1) ∧ Aside0 (Kd.R k72 72 w' w.heap.size (fun _ => True) u236003 x236003_2) ∧ Aside0 (w'.heap[gb234]? = some (.cells #[.string (⟨#[]⟩ : ByteArray), .int .i64 0, (.slice none 0 0), (.slice none 0 0)] 45 (0, 0))) ∧ Aside0 (w'.heap[gb235]? = some (.cells #[.string t236, .int .i64 t240, u236002, u236003] 45 (0, 0))) ∧ Aside0 (IsS129 w0 w' g x1000_2 x1001_2 x1002_2) ∧ Aside0 (KeepBut w w' g none) ∧ Aside0 (Below w0.heap.size w0 w'))
    case atStart => exact ⟨(0), (t277), (t278), (t279), (([] : List (S72))), (.slice none 0 0), (by first | rfl | (simp; done) | (simp [*]; done)), H', ⟨Nat.le_refl _⟩, ⟨by (with_reducible repeat (first | apply Kd.R_alloc | apply Kd.R_drewN | apply Kd.R_drew)); exact HO_236002.out⟩, ⟨by first | exact Kd.R_nil _ _ _ _ _ | exact Kd.N_nil _ _ _ _ _ | exact Kd.V_nil _ _ _ _ _ | exact Kd.Q_nil _ _ _ _ _ | exact Kd.S_nil _ _ _ _ _⟩, ⟨by (with_reducible repeat (first | refine blk_drewN ?_ _ | refine blk_drew ?_ | refine blk_alloc ?_ _)); exact BK234.out⟩, ⟨by (with_reducible repeat (first | refine blk_drewN ?_ _ | refine blk_drew ?_ | refine blk_alloc ?_ _)); exact BK235.out⟩, ⟨by repeat (first | (with_reducible first | exact HI0.out | apply IsS129.alloc | apply IsS129.drewN | apply IsS129.drew | apply IsS129.set_0 | apply IsS129.set_1 | apply IsS129.set_2 | refine IsS129.far ?_ NB0_234.out _ | refine IsS129.far ?_ NB0_235.out _) | exact HI0.out)⟩, ⟨by repeat (first | (with_reducible first | exact HK.out | apply KeepBut.set_ | apply keep_drewN | apply keep_drew | apply keep_alloc | refine keep_far ?_ GW234.out _ | refine keep_far ?_ GW235.out _) | exact HK.out)⟩, ⟨by repeat (first | (with_reducible first | exact HB.out | apply below_alloc | apply pw_below_drewN | apply below_drew1 | refine below_set ?_ (IsS129.ge HI0.out) | refine below_set ?_ GE234.out | refine below_set ?_ GE235.out) | exact HB.out)⟩⟩
    case round =>
     clear H'
     try clear c1
     try clear c2
     try clear p2
     try clear c3
     try clear c6
     try clear p6
     try clear c8
     try clear c9
     try clear c14
     try clear c14b0
     try clear c21
     try clear c24
     try clear c25
     try clear c26
     try clear c38
     try clear c39
     try clear hcz10_0
     try clear hcz10_1
     try clear hcz10_2
     try clear hcz10_3
     try clear hcz12_0
     try clear hcz12_1
     try clear hcz12_2
     try clear hcz12_3
     try clear hcz27_0
     try clear hcz27_1
     try clear hcz27_2
     try clear hcz27_3
     try clear hcz27_4
     try clear hcz27_5
     try clear hcz29_0
     try clear hcz29_1
     try clear hcz29_2
     try clear hcz29_3
     try clear hcz29_4
     try clear hcz29_5
     try clear hcz31_0
     try clear hcz31_1
     try clear hcz31_2
     try clear hcz31_3
     try clear hcz31_4
     try clear hcz31_5
     try clear hcz33_0
     try clear hcz33_1
     try clear hcz33_2
     try clear hcz33_3
     try clear hcz33_4
     try clear hcz33_5
     try clear hcz35_0
     try clear hcz35_1
     try clear hcz35_2
     try clear hcz35_3
     try clear hcz35_4
     try clear hcz35_5
     try clear hcz37_0
     try clear hcz37_1
     try clear hcz37_2
     try clear hcz37_3
     try clear hcz37_4
     try clear hcz37_5
     try clear hcz40_0
     try clear hcz40_1
     try clear hcz40_2
     try clear hcz40_3
     try clear hcz43_0
     try clear hcz43_1
     try clear hcz43_2
     try clear hcz43_3
     try clear hfz10_0
     try clear hfz10_1
     try clear hfz10_2
     try clear hfz10_3
     try clear hfz12_0
     try clear hfz12_1
     try clear hfz12_2
     try clear hfz12_3
     try clear hfz27_0
     try clear hfz27_1
     try clear hfz27_2
     try clear hfz27_3
     try clear hfz27_4
     try clear hfz27_5
     try clear hfz29_0
     try clear hfz29_1
     try clear hfz29_2
     try clear hfz29_3
     try clear hfz29_4
     try clear hfz29_5
     try clear hfz31_0
     try clear hfz31_1
     try clear hfz31_2
     try clear hfz31_3
     try clear hfz31_4
     try clear hfz31_5
     try clear hfz33_0
     try clear hfz33_1
     try clear hfz33_2
     try clear hfz33_3
     try clear hfz33_4
     try clear hfz33_5
     try clear hfz35_0
     try clear hfz35_1
     try clear hfz35_2
     try clear hfz35_3
     try clear hfz35_4
     try clear hfz35_5
     try clear hfz37_0
     try clear hfz37_1
     try clear hfz37_2
     try clear hfz37_3
     try clear hfz37_4
     try clear hfz37_5
     try clear hfz40_0
     try clear hfz40_1
     try clear hfz40_2
     try clear hfz40_3
     try clear hfz43_0
     try clear hfz43_1
     try clear hfz43_2
     try clear hfz43_3
     try clear p2
     obtain ⟨x42_2, x1000_2, x1001_2, x1002_2, x236003_2, u236003, rfl, HA, HK2, HO_236002, HO_236003, BK234, BK235, HI0, HK, HB⟩ := hrel
     cases gk with
     | zero => exact absurd HA.out (by simp [schema_takeTable.l1])
     | succ k2 =>
      have H := HA.out
      clear HA
      simp only [schema_takeTable.l1] at H
      by_cases c46 : x42_2 < t276
      ·rw [if_pos c46] at H
       have c46b0 : decide (x42_2 < t276) = true := decide_eq_true c46
       clear c46
       replace H := Option.bind_eq_some_iff.mp H
       obtain ⟨⟨t280, t281, t282, t283, t284, t285, t288, t289, t290⟩, A470, H⟩ := H
       replace H : (if x236003_2.length < 1954687338268 then (schema_takeTable.l1 k2 t276 (wrap64 (x42_2 + 1)) t288 t289 t290 t236 t240 x236002_1 (x236003_2 ++ [(⟨t280, t281, (⟨t282, t283, t284⟩ : S70), t285⟩ : S72)])) else (none)) = some (r1, r2, r3, r4, r5, r6, r7) := H
       have A47 := Aside0.mk A470
       clear A470
       by_cases c48 : x236003_2.length < 1954687338268
       ·rw [if_pos c48] at H
        have LMc48 := Aside0.mk c48
        clear c48
        obtain ⟨y291, hy291⟩ : ∃ y_ : List (S72), y_ = (x236003_2 ++ [(⟨t280, t281, (⟨t282, t283, t284⟩ : S70), t285⟩ : S72)]) := ⟨_, rfl⟩
        replace H : (schema_takeTable.l1 k2 t276 (wrap64 (x42_2 + 1)) t288 t289 t290 t236 t240 x236002_1 y291) = some (r1, r2, r3, r4, r5, r6, r7) := by first | (rw [hy291]; with_reducible exact H) | (have H2_ := (Option.bind_some _ _).symm.trans H; rw [hy291]; with_reducible exact H2_) | (have H2_ := (Option.bind_some _ _).symm.trans H; with_reducible exact H2_) | with_reducible exact H | (rw [hy291]; exact H) | exact H
        have Ny291 := Aside0.mk hy291
        clear hy291
        have H' := Aside0.mk H
        clear H
        try go_wp2
        have n0_ := Aside0.mk (Kd.R_drew HO_236002.out)
        have n1_ := Aside0.mk (Kd.R_drew HO_236003.out)
        have n2_ := Aside0.mk (blk_drew BK234.out)
        have n3_ := Aside0.mk (blk_drew BK235.out)
        have n4_ := Aside0.mk (IsS129.drew HI0.out)
        have n5_ := Aside0.mk (keep_drew HK.out)
        have n6_ := Aside0.mk (below_drew1 HB.out)
        clear HO_236002
        clear HO_236003
        clear BK234
        clear BK235
        clear HI0
        clear HK
        clear HB
        have HO_236002 := n0_
        have HO_236003 := n1_
        have BK234 := n2_
        have BK235 := n3_
        have HI0 := n4_
        have HK := n5_
        have HB := n6_
        clear n0_ n1_ n2_ n3_ n4_ n5_ n6_
        refine start_ (n := 8) (S := fun w' => w'.cell? ⟨gb235, 0, none⟩ = some (.string t236) ∧ w'.cell? ⟨gb235, 1, none⟩ = some (.int .i64 t240) ∧ w'.cell? ⟨gb235, 2, none⟩ = some (u236002) ∧ w'.cell? ⟨gb235, 3, none⟩ = some (u236003)) (ds := [7]) #[false, false, false, false, false, false, false, false] (by kernel_rfl) rfl rfl ⟨(blk_cell BK235.out 0).trans rfl, (blk_cell BK235.out 1).trans rfl, (blk_cell BK235.out 2).trans rfl, (blk_cell BK235.out 3).trans rfl⟩ (fun hHeld => ?_); refine with_tabW schema_takeTable.tab17 schema_takeTable.bits17 (fun HT_ HW_ => ?_)
        generalize wr.drew = w49 at HO_236002 HO_236003 BK234 BK235 HI0 HK HB hHeld ⊢
        refine pure_ (i := 0) (N := some 44) (v := ?_) (a' := ?_) #[true, false, false, false, false, false, false, false] rfl rfl (any_of HT_.out (by kernel_rfl)) (fun _ _ _ h => h) (Or.inl ⟨by rfl, ?_⟩) ?_ ?_
        rotate_left
        ·intro w'
         go_simp
         with_reducible rfl
        rotate_left
        ·simp only [Act.put, List.setIfInBounds_toArray, List.set_cons_zero, List.set_cons_succ, i64_w, i32_w]
         rfl
        refine pure_ (i := 2) (N := some 46) (v := ?_) (a' := ?_) #[true, false, true, false, false, false, false, false] rfl rfl (any_of HT_.out (by kernel_rfl)) (fun _ _ _ h => h) (Or.inl ⟨by rfl, ?_⟩) ?_ ?_
        rotate_left
        ·intro w'
         go_simp
         with_reducible rfl
        rotate_left
        ·simp only [Act.put, List.setIfInBounds_toArray, List.set_cons_zero, List.set_cons_succ, i64_w, i32_w]
         rfl
        refine take_ (i := 1) (N := some 45) (v := ?_) (a' := ?_) #[true, true, true, false, false, false, false, false] rfl rfl (take_ofW HT_.out HW_.out (by kernel_rfl)) (fun _ _ _ h => h) (Or.inl ⟨by rfl, ?_⟩) hHeld ?_ ?_
        rotate_left
        ·rintro w' ⟨s0, s1, s2, s3⟩
         go_simp
         with_reducible rfl
        rotate_left
        ·simp only [Act.put, List.setIfInBounds_toArray, List.set_cons_zero, List.set_cons_succ, i64_w, i32_w]
         rfl
        refine one_ (i := 3) (N := some 47) #[true, true, true, true, false, false, false, false] rfl rfl (one_of HT_.out (by kernel_rfl)) (by decide) (fun K hK => ?_)
        refine goes_ Tryd.func97 (by kernel_rfl) rfl #[.pointer (some ⟨g, 0, none⟩), .int .i64 8] (by rfl) rfl rfl (by (try simp only [List.map_toArray, List.map_cons, List.map_nil]); first | done | rfl | (simp only [List.length_drop, List.length_take]; rfl)) ?_
        with_reducible refine (schema_take.calls k2 g x1000_2 x1001_2 x1002_2 8 t280 t281 t282 t283 t284 t285 t288 t289 t290 w0 _ ?side1 ?side2 A47.out).mono ?_
        (case side1 => repeat (first | (with_reducible first | exact HI0.out | apply IsS129.alloc | apply IsS129.drewN | apply IsS129.drew | apply IsS129.set_0 | apply IsS129.set_1 | apply IsS129.set_2 | refine IsS129.far ?_ NB0_234.out _ | refine IsS129.far ?_ NB0_235.out _) | exact HI0.out))
        (case side2 => repeat (first | (with_reducible first | exact HB.out | apply below_alloc | apply pw_below_drewN | apply below_drew1 | refine below_set ?_ (IsS129.ge HI0.out) | refine below_set ?_ GE234.out | refine below_set ?_ GE235.out) | exact HB.out))
        rintro e w50 ⟨v286, rfl, ho0, hi, hb, hk⟩
        refine ⟨_, rfl, ?_⟩
        have n0_ := Aside0.mk (Kd.R_mono (Kd.R_keep (IsS129.apart (show IsS129 w0 _ g x1000_2 x1001_2 x1002_2 from by repeat (first | (with_reducible first | exact HI0.out | apply IsS129.alloc | apply IsS129.drewN | apply IsS129.drew | apply IsS129.set_0 | apply IsS129.set_1 | apply IsS129.set_2 | refine IsS129.far ?_ NB0_234.out _ | refine IsS129.far ?_ NB0_235.out _) | exact HI0.out)) (by (with_reducible repeat (first | apply Kd.R_alloc | apply Kd.R_drewN | apply Kd.R_drew)); exact HO_236002.out) (by decide)) hk (fun _ h => h.2)) (fun _ h => h.1))
        have n1_ := Aside0.mk (Kd.R_mono (Kd.R_told (Kd.R_oldK (IsS129.apart (show IsS129 w0 _ g x1000_2 x1001_2 x1002_2 from by repeat (first | (with_reducible first | exact HI0.out | apply IsS129.alloc | apply IsS129.drewN | apply IsS129.drew | apply IsS129.set_0 | apply IsS129.set_1 | apply IsS129.set_2 | refine IsS129.far ?_ NB0_234.out _ | refine IsS129.far ?_ NB0_235.out _) | exact HI0.out)) (by (with_reducible repeat (first | apply Kd.R_alloc | apply Kd.R_drewN | apply Kd.R_drew)); exact HO_236003.out) (by decide)) hk) (Kd.R_base ho0)) (fun _ h_ => h_.1))
        have n2_ := Aside0.mk (KeepBut.blk hk (g' := gb234) (o := .cells #[.string (⟨#[]⟩ : ByteArray), .int .i64 0, .slice none 0 0, .slice none 0 0] 45 (0, 0)) (by (with_reducible repeat (first | refine blk_drewN ?_ _ | refine blk_drew ?_ | refine blk_alloc ?_ _)); exact BK234.out) NB234_0.out (by simp))
        have n3_ := Aside0.mk (KeepBut.blk hk (g' := gb235) (o := .cells #[.string t236, .int .i64 t240, u236002, u236003] 45 (0, 0)) (by (with_reducible repeat (first | refine blk_drewN ?_ _ | refine blk_drew ?_ | refine blk_alloc ?_ _)); exact BK235.out) NB235_0.out (by simp))
        have n4_ := Aside0.mk (Kd.R_lower (Kd.R_new' ho0 (Kd.R_lt (by (with_reducible repeat (first | apply Kd.R_alloc | apply Kd.R_drewN | apply Kd.R_drew)); exact HO_236003.out))) (keep_size (w := w) (g := g) (row := none) (by repeat (first | (with_reducible first | exact HK.out | apply KeepBut.set_ | apply keep_drewN | apply keep_drew | apply keep_alloc | refine keep_far ?_ GW234.out _ | refine keep_far ?_ GW235.out _) | exact HK.out))))
        have n5_ := Aside0.mk (KeepBut.trans (by repeat (first | (with_reducible first | exact HK.out | apply KeepBut.set_ | apply keep_drewN | apply keep_drew | apply keep_alloc | refine keep_far ?_ GW234.out _ | refine keep_far ?_ GW235.out _) | exact HK.out)) hk (.inl rfl))
        have n6_ := Aside0.mk (hb)
        have n7_ := Aside0.mk (hi)
        clear HO_236002
        clear HO_236003
        clear BK234
        clear BK235
        clear HK
        clear HB
        clear HI0
        have HO_236002 := n0_
        have HO_236003 := n1_
        have BK234 := n2_
        have BK235 := n3_
        have HO287 := n4_
        have HK := n5_
        have HB := n6_
        have HI0 := n7_
        clear n0_ n1_ n2_ n3_ n4_ n5_ n6_ n7_
        (try clear hb)
        (try clear hb2)
        (try clear hk)
        (try clear hi)
        (try clear ho0)
        obtain ⟨Ao52, co52, eo52⟩ := Kd.R_slice HO287.out
        (first | subst eo52 | (injection eo52 with f1_ f2_ f3_; have f4_ := f1_.symm; have f5_ := f3_.symm; clear f1_ f2_ f3_; subst f4_; subst f5_))
        refine hK.out _ _ ⟨(blk_cell BK235.out 0).trans rfl, (blk_cell BK235.out 1).trans rfl, (blk_cell BK235.out 2).trans rfl, (blk_cell BK235.out 3).trans rfl⟩ (fun hHeld => ?_)
        clear hK K
        refine norm_ (a' := ?_) ?_ ?_
        rotate_left
        ·show Act.put _ (some 47) _ = _
         simp only [Act.put, List.setIfInBounds_toArray, List.set_cons_zero, List.set_cons_succ, i64_w, i32_w]
         rfl
        refine one_ (i := 4) (N := some 48) #[true, true, true, true, true, false, false, false] rfl rfl (one_of HT_.out (by kernel_rfl)) (by decide) (fun K hK => ?_)
        refine value_ (w1 := ?_) (v := ?_) (by rfl) rfl ?_ ?_
        rotate_left 2
        ·go_simp
         constructor
         ·rfl
         ·rfl
        refine hK.out _ _ ⟨(blk_cell (blk_alloc BK235.out _) 0).trans rfl, (blk_cell (blk_alloc BK235.out _) 1).trans rfl, (blk_cell (blk_alloc BK235.out _) 2).trans rfl, (blk_cell (blk_alloc BK235.out _) 3).trans rfl⟩ (fun hHeld => ?_)
        clear hK K
        refine norm_ (a' := ?_) ?_ ?_
        rotate_left
        ·show Act.put _ (some 48) _ = _
         simp only [Act.put, List.setIfInBounds_toArray, List.set_cons_zero, List.set_cons_succ, i64_w, i32_w]
         rfl
        refine one_ (i := 5) (N := some 49) #[true, true, true, true, true, true, false, false] rfl rfl (one_of HT_.out (by kernel_rfl)) (by decide) (fun K hK => ?_)
        refine Kd.R_append_step k72 w.heap.size (by rfl) (.tmp 45) (.tmp 48) 43 72 (.agg #[(.int .i64 0), (.int .i64 0), (.int .i64 0), (.int .i64 0), (.string ⟨#[]⟩), (.slice none 0 0)]) 72 rfl Tryd.underlying43 info72 rfl (by decide) (by omega) u236003 x236003_2 (⟨t280, t281, (⟨t282, t283, t284⟩ : S70), t285⟩ : S72) [.int .i64 t280, .int .i64 t281, .int .i64 t282, .int .i64 t283, .string t284, .slice Ao52 t285.length co52] (fun _ => True) (fun k_ => ((fun _ => True)) k_ ∧ some k_ ≠ (u236003 : Value).ownBlock) rfl rfl ?aP (fun _ hk => hk) ?aF ?aO (Below.refl _ _) ?aS ?aL ?_
        (case aP => exact k72_mkM _ _ _ (⟨t280, t281, (⟨t282, t283, t284⟩ : S70), t285⟩ : S72) (Kd.R_mono (HO287.out) (fun k_ hk => ⟨trivial, hk.2⟩)))
        (case aF => exact (fun _ _ => trivial))
        (case aO => exact (by (with_reducible repeat (first | apply Kd.R_alloc | apply Kd.R_drewN | apply Kd.R_drew)); exact Kd.R_mono HO_236003.out (fun _ hk => trivial)))
        (case aS => exact (keep_size (w := w) (g := g) (row := none) (by repeat (first | (with_reducible first | exact HK.out | apply KeepBut.set_ | apply keep_drewN | apply keep_drew | apply keep_alloc | refine keep_far ?_ GW234.out _ | refine keep_far ?_ GW235.out _) | exact HK.out))))
        (case aL => have := LMc48.out; omega)
        intro v292 w51 ho hb hg hat
        rw [← Ny291.out] at ho
        have n0_ := Aside0.mk (Kd.R_over' (by (with_reducible repeat (first | apply Kd.R_alloc | apply Kd.R_drewN | apply Kd.R_drew)); exact HO_236002.out) (Kd.R_typed (by (with_reducible repeat (first | apply Kd.R_alloc | apply Kd.R_drewN | apply Kd.R_drew)); exact HO_236003.out)) (by decide) hg)
        have n1_ := Aside0.mk (blk_grown (g := gb234) (o := .cells #[.string (⟨#[]⟩ : ByteArray), .int .i64 0, .slice none 0 0, .slice none 0 0] 45 (0, 0)) (by (with_reducible repeat (first | refine blk_drewN ?_ _ | refine blk_drew ?_ | refine blk_alloc ?_ _)); exact BK234.out) hg (Kd.R_ne HO_236003.out BK234.out (by decide)))
        have n2_ := Aside0.mk (blk_grown (g := gb235) (o := .cells #[.string t236, .int .i64 t240, u236002, u236003] 45 (0, 0)) (by (with_reducible repeat (first | refine blk_drewN ?_ _ | refine blk_drew ?_ | refine blk_alloc ?_ _)); exact BK235.out) hg (Kd.R_ne HO_236003.out BK235.out (by decide)))
        have n3_ := Aside0.mk (IsS129.grown (by repeat (first | (with_reducible first | exact HI0.out | apply IsS129.alloc | apply IsS129.drewN | apply IsS129.drew | apply IsS129.set_0 | apply IsS129.set_1 | apply IsS129.set_2 | refine IsS129.far ?_ NB0_234.out _ | refine IsS129.far ?_ NB0_235.out _) | exact HI0.out)) hg (IsS129.own_ne HI0.out HO_236003.out (by decide)))
        have n4_ := Aside0.mk (below_weaken (by repeat (first | (with_reducible first | exact HB.out | apply below_alloc | apply pw_below_drewN | apply below_drew1 | refine below_set ?_ (IsS129.ge HI0.out) | refine below_set ?_ GE234.out | refine below_set ?_ GE235.out) | exact HB.out)) HL.out hb)
        have n5_ := Aside0.mk (KeepBut.trans (by repeat (first | (with_reducible first | exact HK.out | apply KeepBut.set_ | apply keep_drewN | apply keep_drew | apply keep_alloc | refine keep_far ?_ GW234.out _ | refine keep_far ?_ GW235.out _) | exact HK.out)) (KeepBut.of_grown hg g) (Kd.R_base2 HO_236003.out))
        have n6_ := Aside0.mk (ho)
        clear HO_236002
        clear BK234
        clear BK235
        clear HI0
        clear HB
        clear HK
        clear HO_236003
        clear HO287
        have HO_236002 := n0_
        have BK234 := n1_
        have BK235 := n2_
        have HI0 := n3_
        have HB := n4_
        have HK := n5_
        have HO293 := n6_
        clear n0_ n1_ n2_ n3_ n4_ n5_ n6_
        clear ho hb hg hat
        obtain ⟨Ao53, co53, eo53⟩ := Kd.R_slice HO293.out
        (first | subst eo53 | (injection eo53 with f1_ f2_ f3_; have f4_ := f1_.symm; have f5_ := f3_.symm; clear f1_ f2_ f3_; subst f4_; subst f5_))
        refine hK.out _ _ ⟨(blk_cell BK235.out 0).trans rfl, (blk_cell BK235.out 1).trans rfl, (blk_cell BK235.out 2).trans rfl, (blk_cell BK235.out 3).trans rfl⟩ (fun hHeld => ?_)
        clear hK K
        refine norm_ (a' := ?_) ?_ ?_
        rotate_left
        ·show Act.put _ (some 49) _ = _
         simp only [Act.put, List.setIfInBounds_toArray, List.set_cons_zero, List.set_cons_succ, i64_w, i32_w]
         rfl
        refine pure_ (i := 6) (N := some 50) (v := ?_) (a' := ?_) #[true, true, true, true, true, true, true, false] rfl rfl (any_of HT_.out (by kernel_rfl)) (fun _ _ _ h => h) (Or.inl ⟨by rfl, ?_⟩) ?_ ?_
        rotate_left
        ·intro w'
         go_simp
         with_reducible rfl
        rotate_left
        ·simp only [Act.put, List.setIfInBounds_toArray, List.set_cons_zero, List.set_cons_succ, i64_w, i32_w]
         rfl
        refine last_ (i := 7) (N := none) #[true, true, true, true, true, true, true, true] rfl rfl (one_of HT_.out (by kernel_rfl)) (by decide) (fun K hK => ?_)
        have hs54 : w51.cell? ⟨gb235, 3, none⟩ = some (u236003) := (blk_cell BK235.out 3).trans rfl
        have hfs54 := blk_frozen BK235.out 3
        have hns54_0 := NB234_235.out
        have hms54_0 := NB235_234.out
        refine skip_ (w1 := ?_) (by rfl) rfl ?_ ?_
        rotate_left
        ·go_simp
         rfl
        refine hK.out _ _ ?_
        clear hK K
        refine done_ (done_of HT_.out (by kernel_rfl)) ?_
        try go_wp2
        go_roundg k2
        case measure => have := HK1.out; have := HK2.out; omega
        case rel => exact ⟨(wrap64 (x42_2 + 1)), (t288), (t289), (t290), (y291), (.slice Ao53 y291.length co53), (by first | rfl | (simp; done) | (simp [*]; done)), H', ⟨by have := HK1.out; have := HK2.out; omega⟩, ⟨by (with_reducible repeat (first | apply Kd.R_alloc | apply Kd.R_drewN | apply Kd.R_drew)); exact Kd.R_mono (Kd.R_far (p := ⟨gb235, 3, none⟩) (Kd.R_types HO_236002.out BK235.out (by decide)) (fun _ hk => hk.2) (.slice Ao53 y291.length co53)) (fun _ hk => trivial)⟩, ⟨by (with_reducible repeat (first | apply Kd.R_alloc | apply Kd.R_drewN | apply Kd.R_drew)); exact Kd.R_mono (Kd.R_far (p := ⟨gb235, 3, none⟩) (Kd.R_types HO293.out BK235.out (by decide)) (fun _ hk => hk.2) (.slice Ao53 y291.length co53)) (fun _ hk => trivial)⟩, ⟨by (with_reducible repeat (first | refine blk_drewN ?_ _ | refine blk_drew ?_ | refine blk_alloc ?_ _)); refine blk_far ?_ NB234_235.out _; (with_reducible repeat (first | refine blk_drewN ?_ _ | refine blk_drew ?_ | refine blk_alloc ?_ _)); exact BK234.out⟩, ⟨by (with_reducible repeat (first | refine blk_drewN ?_ _ | refine blk_drew ?_ | refine blk_alloc ?_ _)); refine blk_put (cs := #[.string t236, .int .i64 t240, u236002, u236003]) ?_ 3 _ rfl; (with_reducible repeat (first | refine blk_drewN ?_ _ | refine blk_drew ?_ | refine blk_alloc ?_ _)); exact BK235.out⟩, ⟨by repeat (first | (with_reducible first | exact HI0.out | apply IsS129.alloc | apply IsS129.drewN | apply IsS129.drew | apply IsS129.set_0 | apply IsS129.set_1 | apply IsS129.set_2 | refine IsS129.far ?_ NB0_234.out _ | refine IsS129.far ?_ NB0_235.out _) | exact HI0.out)⟩, ⟨by repeat (first | (with_reducible first | exact HK.out | apply KeepBut.set_ | apply keep_drewN | apply keep_drew | apply keep_alloc | refine keep_far ?_ GW234.out _ | refine keep_far ?_ GW235.out _) | exact HK.out)⟩, ⟨by repeat (first | (with_reducible first | exact HB.out | apply below_alloc | apply pw_below_drewN | apply below_drew1 | refine below_set ?_ (IsS129.ge HI0.out) | refine below_set ?_ GE234.out | refine below_set ?_ GE235.out) | exact HB.out)⟩⟩
       ·rw [if_neg c48] at H
        exact absurd H (by simp)
      ·rw [if_neg c46] at H
       have c46b0 : decide (x42_2 < t276) = false := decide_eq_false c46
       clear c46
       simp only [Option.some.injEq, Prod.mk.injEq] at H
       obtain ⟨rfl, rfl, rfl, rfl, rfl, rfl, rfl⟩ := H
       have hnb55 := NB235_234.out
       have hnc55 := NB234_235.out
       have hnb56 := NB235_0.out
       have hnc56 := NB0_235.out
       have hcz57_0 : wr.cell? ⟨gb235, 0, none⟩ = some (.string t236) := (blk_cell BK235.out 0).trans rfl
       have hcz57_1 : wr.cell? ⟨gb235, 1, none⟩ = some (.int .i64 t240) := (blk_cell BK235.out 1).trans rfl
       have hcz57_2 : wr.cell? ⟨gb235, 2, none⟩ = some (u236002) := (blk_cell BK235.out 2).trans rfl
       have hcz57_3 : wr.cell? ⟨gb235, 3, none⟩ = some (u236003) := (blk_cell BK235.out 3).trans rfl
       have hfz57_0 := blk_frozen BK235.out 0
       have hfz57_1 := blk_frozen BK235.out 1
       have hfz57_2 := blk_frozen BK235.out 2
       have hfz57_3 := blk_frozen BK235.out 3
       have hnb58 := NB234_0.out
       have hnc58 := NB0_234.out
       have hcz59_0 : wr.cell? ⟨gb234, 0, none⟩ = some (.string (⟨#[]⟩ : ByteArray)) := (blk_cell BK234.out 0).trans rfl
       have hcz59_1 : wr.cell? ⟨gb234, 1, none⟩ = some (.int .i64 0) := (blk_cell BK234.out 1).trans rfl
       have hcz59_2 : wr.cell? ⟨gb234, 2, none⟩ = some (.slice none 0 0) := (blk_cell BK234.out 2).trans rfl
       have hcz59_3 : wr.cell? ⟨gb234, 3, none⟩ = some (.slice none 0 0) := (blk_cell BK234.out 3).trans rfl
       have hfz59_0 := blk_frozen BK234.out 0
       have hfz59_1 := blk_frozen BK234.out 1
       have hfz59_2 := blk_frozen BK234.out 2
       have hfz59_3 := blk_frozen BK234.out 3
       obtain ⟨Ao60, co60, eo60⟩ := Kd.R_slice HO_236002.out
       subst eo60
       obtain ⟨Ao61, co61, eo61⟩ := Kd.R_slice HO_236003.out
       subst eo61
       go_wp2
       refine bodyPost_ret (results_cell_row rfl _ _ gb234 45 #[.string t236, .int .i64 t240, .slice Ao60 x236002_1.length co60, .slice Ao61 x236003_2.length co61] (0, 0) _ rfl (by (with_reducible repeat (first | refine blk_drewN ?_ _ | refine blk_drew ?_ | refine blk_alloc ?_ _)); refine blk_put (cs := #[.string t236, .int .i64 t240, .slice Ao60 x236002_1.length co60, .slice none 0 0]) ?_ 3 _ rfl; (with_reducible repeat (first | refine blk_drewN ?_ _ | refine blk_drew ?_ | refine blk_alloc ?_ _)); refine blk_put (cs := #[.string t236, .int .i64 t240, .slice none 0 0, .slice none 0 0]) ?_ 2 _ rfl; (with_reducible repeat (first | refine blk_drewN ?_ _ | refine blk_drew ?_ | refine blk_alloc ?_ _)); refine blk_put (cs := #[.string t236, .int .i64 0, .slice none 0 0, .slice none 0 0]) ?_ 1 _ rfl; (with_reducible repeat (first | refine blk_drewN ?_ _ | refine blk_drew ?_ | refine blk_alloc ?_ _)); refine blk_put (cs := #[.string (⟨#[]⟩ : ByteArray), .int .i64 0, .slice none 0 0, .slice none 0 0]) ?_ 0 _ rfl; (with_reducible repeat (first | refine blk_drewN ?_ _ | refine blk_drew ?_ | refine blk_alloc ?_ _)); exact BK234.out) Tryd.underlying45 rfl (by kernel_rfl)) rfl ?_
       exact ⟨_, _, by first | rfl | (simp [errW_none, errW_some] <;> rfl) | (simp [*, errW_none, errW_some] <;> rfl), by (with_reducible repeat (first | apply Kd.R_alloc | apply Kd.R_drewN | apply Kd.R_drew)); exact Kd.R_mono (Kd.R_far (p := ⟨gb234, 3, none⟩) (Kd.R_far (p := ⟨gb234, 2, none⟩) (Kd.R_far (p := ⟨gb234, 1, none⟩) (Kd.R_far (p := ⟨gb234, 0, none⟩) (Kd.R_types HO_236002.out BK234.out (by decide)) (fun _ hk => hk.2) (.string t236)) (fun _ hk => hk.2) (.int .i64 t240)) (fun _ hk => hk.2) (.slice Ao60 x236002_1.length co60)) (fun _ hk => hk.2) (.slice Ao61 x236003_2.length co61)) (fun _ hk => trivial), by (with_reducible repeat (first | apply Kd.R_alloc | apply Kd.R_drewN | apply Kd.R_drew)); exact Kd.R_mono (Kd.R_far (p := ⟨gb234, 3, none⟩) (Kd.R_far (p := ⟨gb234, 2, none⟩) (Kd.R_far (p := ⟨gb234, 1, none⟩) (Kd.R_far (p := ⟨gb234, 0, none⟩) (Kd.R_types HO_236003.out BK234.out (by decide)) (fun _ hk => hk.2) (.string t236)) (fun _ hk => hk.2) (.int .i64 t240)) (fun _ hk => hk.2) (.slice Ao60 x236002_1.length co60)) (fun _ hk => hk.2) (.slice Ao61 x236003_2.length co61)) (fun _ hk => trivial), by repeat (first | (with_reducible first | exact HI0.out | apply IsS129.alloc | apply IsS129.drewN | apply IsS129.drew | apply IsS129.set_0 | apply IsS129.set_1 | apply IsS129.set_2 | refine IsS129.far ?_ NB0_234.out _ | refine IsS129.far ?_ NB0_235.out _) | exact HI0.out), by repeat (first | (with_reducible first | exact HB.out | apply below_alloc | apply pw_below_drewN | apply below_drew1 | refine below_set ?_ (IsS129.ge HI0.out) | refine below_set ?_ GE234.out | refine below_set ?_ GE235.out) | exact HB.out), by repeat (first | (with_reducible first | exact HK.out | apply KeepBut.set_ | apply keep_drewN | apply keep_drew | apply keep_alloc | refine keep_far ?_ GW234.out _ | refine keep_far ?_ GW235.out _) | exact HK.out)⟩
end Go.Proofs.YtefdfgmlmjnmlaaDoor.Rf
end
