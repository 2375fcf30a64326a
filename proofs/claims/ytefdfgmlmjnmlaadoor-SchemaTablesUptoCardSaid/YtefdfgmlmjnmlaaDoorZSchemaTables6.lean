/- Lemmas for the law SchemaTables: what the functions that it reaches compute, with those words of the kit's print that they use. No condition. Joined out of this session's smaller texts (part 6 of 7). -/
import Derived.Test.YtefdfgmlmjnmlaaDoorZSchemaTables5
import Derived.Test.YtefdfgmlmjnmlaaDoorZSchemaTables2
section
set_option linter.unusedSimpArgs false
set_option linter.unusedVariables false
namespace Go.Proofs.YtefdfgmlmjnmlaaDoor.My
open Go.RowKit Go.Proofs.YtefdfgmlmjnmlaaDoorW.PrintWords Go.Proofs.YtefdfgmlmjnmlaaDoor.Rf
theorem allC_next {t : S45} {ts : List S45} {k : Nat} (ha : ∀ j, j < k → colE t j ts = 0) (h : colE t k ts = 0) : Aside0 (∀ j, j < k + 1 → colE t j ts = 0) := ⟨fun j hj => by
  rcases Nat.lt_or_ge j k with h1 | h1
  · exact ha j h1
  · obtain rfl : j = k := by omega
    exact h⟩
set_option maxHeartbeats 4000000 in
set_option maxRecDepth 100000 in
theorem goodR_cols (t : S45) (A : Option Addr) (c : Nat) (A' : Option Addr) (c' : Nat) (v : Int) (ts : List S45) (B : Option Addr) (d : Nat) (gs : List S27) (B' : Option Addr) (d' : Nat) (w : World)
    (hr : Kd.C k59 w A t.f2.length t.f2) (hc : t.f2.length ≤ c) (hC3 : Kd.C k72 w A' t.f3.length t.f3) (hc3 : t.f3.length ≤ c') (hcn : ∀ x, x ∈ t.f3 → cntE x < 4611686018427387904) (hts : Kd.C k45 w B ts.length ts) (hd : ts.length ≤ d) (hg : Kd.C k27 w B' gs.length gs) (hd' : gs.length ≤ d') (hs0 : t.f0.size ≤ 9223372036854775807) (hok : ∀ x, x ∈ t.f2 → x.f0.size ≤ 9223372036854775807)
    (hnm : isName t.f0 = true) (q1 : decide (t.f1 < 0) = false) (q2 : decide (7 < t.f1) = false) (q3 : ((t.f2.length : Int) == 0) = false) (q4 : decide (6 < (t.f2.length : Int)) = false) (q5 : decide (4 < (t.f3.length : Int)) = false) (hres : goodE t ts = if colsE t ts ≠ 0 then colsE t ts else checksE t) :
    Calls Tryd.prog 37 #[.agg #[.string t.f0, .int .i64 t.f1, .slice A t.f2.length c, .slice A' t.f3.length c'], .agg #[.int .i64 v, .slice B ts.length d, .slice B' gs.length d']] w (IntPost (goodE t ts) w) := by
  have hnl : t.f2.length ≤ 9223372036854775807 := hr.2.1
  have hnt : ts.length ≤ 9223372036854775807 := hts.2.1
  have hn3 : t.f3.length ≤ 9223372036854775807 := hC3.2.1
  obtain ⟨kT, hT⟩ := name_ev t.f0 hs0
  rw [hnm] at hT
  have hT := Aside0.mk (hT kT (Nat.le_refl _))
  have b2 := below2 w (.cells #[.string t.f0, .int .i64 t.f1, .slice A t.f2.length c, .slice A' t.f3.length c'] 45) (.cells #[.int .i64 v, .slice B ts.length d, .slice B' gs.length d'] 25)
  have HB := Aside0.mk b2
  have HK := Aside0.mk (blk_alloc (blk_new w (.cells #[.string t.f0, .int .i64 t.f1, .slice A t.f2.length c, .slice A' t.f3.length c'] 45)) (.cells #[.int .i64 v, .slice B ts.length d, .slice B' gs.length d'] 25))
  have HL := Aside0.mk (blk_new1 w (.cells #[.string t.f0, .int .i64 t.f1, .slice A t.f2.length c, .slice A' t.f3.length c'] 45) (.cells #[.int .i64 v, .slice B ts.length d, .slice B' gs.length d'] 25))
  have HR := Aside0.mk (Kd.C_below hr b2)
  have HS := Aside0.mk (Kd.C_below hts b2)
  have HG := Aside0.mk (Kd.C_below hg b2)
  have HX := Aside0.mk (Kd.C_below hC3 b2)
  have HC := Aside0.mk hc
  have HC3 := Aside0.mk hc3
  have HD := Aside0.mk hd
  have HD' := Aside0.mk hd'
  have HO := Aside0.mk hok
  have HCN := Aside0.mk hcn
  have HRES := Aside0.mk hres
  clear b2 hr hts hg hC3 hc hc3 hd hd' hok hcn hres hnm
  go_enter Tryd.func37, Tryd.ntmps37
  go_wp2_with (go_at_call 33; refine (mortmainref09_Name.calls kT t.f0 _ _ hT.out).mono ?_; rintro e w0 ⟨rfl, hd0⟩; have hb0 := drawn_below hd0; have HK0 := Aside0.mk (blk_below HK.out hb0); have a0 := blk_cell HK0.out 0; have a1 := blk_cell HK0.out 1; have a2 := blk_cell HK0.out 2; have a3 := blk_cell HK0.out 3)
  clear a0 a1 a2 a3
  go_loopw [5, 6, 7, 8, 46] (fun _ _ _ _ t46 wr => ∃ k : Nat, t46 = .int .i64 k ∧ k ≤ t.f2.length ∧ Aside0 (∀ j, j < k → colE t j ts = 0) ∧ Aside0 (Below ((w.alloc (.cells #[.string t.f0, .int .i64 t.f1, .slice A t.f2.length c, .slice A' t.f3.length c'] 45)).alloc (.cells #[.int .i64 v, .slice B ts.length d, .slice B' gs.length d'] 25)).heap.size ((w.alloc (.cells #[.string t.f0, .int .i64 t.f1, .slice A t.f2.length c, .slice A' t.f3.length c'] 45)).alloc (.cells #[.int .i64 v, .slice B ts.length d, .slice B' gs.length d'] 25)) wr)) (fun _ _ _ _ t46 _ => t.f2.length - (intOf t46).toNat)
  case atStart => exact ⟨0, rfl, Nat.zero_le _, ⟨fun j hj => absurd hj (by omega)⟩, ⟨hb0⟩⟩
  case round =>
    obtain ⟨k, rfl, hk, HA, HBr⟩ := hrel
    have HKr := Aside0.mk (blk_below HK.out HBr.out)
    have HLr := Aside0.mk (blk_below HL.out HBr.out)
    have HRr := Aside0.mk (Kd.C_below HR.out HBr.out)
    have HSr := Aside0.mk (Kd.C_below HS.out HBr.out)
    have HGr := Aside0.mk (Kd.C_below HG.out HBr.out)
    have HXr := Aside0.mk (Kd.C_below HX.out HBr.out)
    by_cases hlt : k < t.f2.length
    · skip
      obtain ⟨ad, e, hc0, hc1, hc2, hc3, hc4, hc5⟩ := at_T59 HR.out (k : Int) (by omega) (by omega)
      subst e
      obtain ⟨_, e', _, hy1, _, _, _, _⟩ := at_T59 HR.out 0 (by omega) (by omega)
      cases e'
      have hsz : (t.f2.getD k z59).f0.size ≤ 9223372036854775807 := HO.out _ (mem_getD (z := z59) hlt)
      have hple := place_le t.f2 k hlt
      simp only [Int.toNat_natCast, rd_T59] at hc0 hc1 hc2 hc3 hc4 hc5
      simp only [Int.toNat_zero, rd_T59, Nat.zero_mul, add_none] at hy1
      have hspec : colE t k ts = (if colBad1 t.f2 k (t.f2.getD k z59) then 4 else if colBad2 k (t.f2.getD k z59) then 4 else if (t.f2.getD k z59).f4.toList.isEmpty then 0 else colRef t (t.f2.getD k z59) ts) := rfl
      generalize hx : t.f2.getD k z59 = x at hc0 hc1 hc2 hc3 hc4 hc5 hsz hspec hple
      generalize hyy : t.f2.getD 0 z59 = y at hy1
      have HYY := Aside0.mk hyy
      have HSP := Aside0.mk hspec
      have d0 := cell_now HBr.out hc0
      have d1 := cell_now HBr.out hc1
      have d2 := cell_now HBr.out hc2
      have d3 := cell_now HBr.out hc3
      have d4 := cell_now HBr.out hc4
      have d5 := cell_now HBr.out hc5
      have y0 := cell_now HBr.out hy1
      have hbi := below1 wr (.cells #[.string x.f0, .int .i64 x.f1, .bool x.f2, .bool x.f3, .string x.f4, .int .i64 x.f5] 59)
      have HY0 := Aside0.mk y0
      have HKi := Aside0.mk (blk_alloc HKr.out (.cells #[.string x.f0, .int .i64 x.f1, .bool x.f2, .bool x.f3, .string x.f4, .int .i64 x.f5] 59))
      have HLi := Aside0.mk (blk_alloc HLr.out (.cells #[.string x.f0, .int .i64 x.f1, .bool x.f2, .bool x.f3, .string x.f4, .int .i64 x.f5] 59))
      have HNi := Aside0.mk (blk_new wr (.cells #[.string x.f0, .int .i64 x.f1, .bool x.f2, .bool x.f3, .string x.f4, .int .i64 x.f5] 59))
      have HRi := Aside0.mk (Kd.C_alloc HRr.out (.cells #[.string x.f0, .int .i64 x.f1, .bool x.f2, .bool x.f3, .string x.f4, .int .i64 x.f5] 59))
      have HSi := Aside0.mk (Kd.C_alloc HSr.out (.cells #[.string x.f0, .int .i64 x.f1, .bool x.f2, .bool x.f3, .string x.f4, .int .i64 x.f5] 59))
      have HGi := Aside0.mk (Kd.C_alloc HGr.out (.cells #[.string x.f0, .int .i64 x.f1, .bool x.f2, .bool x.f3, .string x.f4, .int .i64 x.f5] 59))
      have HXi := Aside0.mk (Kd.C_alloc HXr.out (.cells #[.string x.f0, .int .i64 x.f1, .bool x.f2, .bool x.f3, .string x.f4, .int .i64 x.f5] 59))
      have HBi := Aside0.mk hbi
      have gkr := blk_lt HKr.out
      have glr := blk_lt HLr.out
      have hk0 : (0 : Int) ≤ (k : Int) := by omega
      have hk1 : (k : Int) < (t.f2.length : Int) := by omega
      have hz0 : 0 < t.f2.length := by omega
      have hz : ¬ t.f2.length = 0 := by omega
      obtain ⟨kN, hN⟩ := name_ev x.f0 hsz
      have hN := Aside0.mk (hN kN (Nat.le_refl _))
      obtain ⟨kP, hP⟩ := place_ev t.f0 t.f1 t.f2 t.f3 x.f0 hnl
      have hP := Aside0.mk (hP kP (Nat.le_refl _))
      obtain ⟨kF, hF⟩ := find_ev v ts gs x.f4 hnt
      have hF := Aside0.mk (hF kF (Nat.le_refl _))
      clear hc0 hc1 hc2 hc3 hc4 hc5 hx hyy hspec hy1 hbi y0
      cases hn : isName x.f0 with
      | false =>
        rw [hn] at hN
        have HCE : Aside0 (colE t k ts = 4) := ⟨by rw [HSP.out]; simp [colBad1, hn]⟩
        have HF : Aside0 (goodE t ts = 4) := ⟨by rw [HRES.out, colsE_hit hlt HA.out (by rw [HCE.out]; decide), HCE.out]; rfl⟩
        go_wp2_with (first
          | (go_at_call 33; refine (mortmainref09_Name.calls kN x.f0 _ _ hN.out).mono ?_; rintro e wa ⟨rfl, hda⟩; have hba := drawn_below hda; have HKa := Aside0.mk (blk_below HKi.out hba); have HLa := Aside0.mk (blk_below HLi.out hba); have HNa := Aside0.mk (blk_below HNi.out hba); have HRa := Aside0.mk (Kd.C_below HRi.out hba); have HSa := Aside0.mk (Kd.C_below HSi.out hba); have HGa := Aside0.mk (Kd.C_below HGi.out hba); have HXa := Aside0.mk (Kd.C_below HXi.out hba); have HBa := Aside0.mk (below_step HBi.out hba); have k0a := blk_cell HKa.out 0; have k1a := blk_cell HKa.out 1; have k2a := blk_cell HKa.out 2; have k3a := blk_cell HKa.out 3; have l0a := blk_cell HLa.out 0; have l1a := blk_cell HLa.out 1; have l2a := blk_cell HLa.out 2; have n0a := blk_cell HNa.out 0; have n1a := blk_cell HNa.out 1; have n2a := blk_cell HNa.out 2; have n3a := blk_cell HNa.out 3; have n4a := blk_cell HNa.out 4; have n5a := blk_cell HNa.out 5))
        go_ret
        exact ⟨by rw [HF.out]; rfl, below_step HB.out (below_step HBr.out HBa.out)⟩
      | true =>
        rw [hn] at hN
        by_cases hp : placeC t.f2 x.f0 < (k : Int)
        · have qhp := decide_eq_true hp
          have HCE : Aside0 (colE t k ts = 4) := ⟨by rw [HSP.out]; simp [colBad1, show ¬ placeC t.f2 x.f0 = (k : Int) by omega]⟩
          have HF : Aside0 (goodE t ts = 4) := ⟨by rw [HRES.out, colsE_hit hlt HA.out (by rw [HCE.out]; decide), HCE.out]; rfl⟩
          go_wp2_with (first
            | (go_at_call 33; refine (mortmainref09_Name.calls kN x.f0 _ _ hN.out).mono ?_; rintro e wa ⟨rfl, hda⟩; have hba := drawn_below hda; have HKa := Aside0.mk (blk_below HKi.out hba); have HLa := Aside0.mk (blk_below HLi.out hba); have HNa := Aside0.mk (blk_below HNi.out hba); have HRa := Aside0.mk (Kd.C_below HRi.out hba); have HSa := Aside0.mk (Kd.C_below HSi.out hba); have HGa := Aside0.mk (Kd.C_below HGi.out hba); have HXa := Aside0.mk (Kd.C_below HXi.out hba); have HBa := Aside0.mk (below_step HBi.out hba); have k0a := blk_cell HKa.out 0; have k1a := blk_cell HKa.out 1; have k2a := blk_cell HKa.out 2; have k3a := blk_cell HKa.out 3; have l0a := blk_cell HLa.out 0; have l1a := blk_cell HLa.out 1; have l2a := blk_cell HLa.out 2; have n0a := blk_cell HNa.out 0; have n1a := blk_cell HNa.out 1; have n2a := blk_cell HNa.out 2; have n3a := blk_cell HNa.out 3; have n4a := blk_cell HNa.out 4; have n5a := blk_cell HNa.out 5)
            | (go_at_call 35; refine (mortmainref09_Place.calls kP t.f0 t.f1 (some ad) c t.f2 A' c' t.f3 x.f0 _ _ HRa.out HC.out HXa.out HC3.out hP.out).mono ?_; rintro e wb ⟨rfl, hbb⟩; have HKb := Aside0.mk (blk_below HKa.out hbb); have HLb := Aside0.mk (blk_below HLa.out hbb); have HNb := Aside0.mk (blk_below HNa.out hbb); have HRb := Aside0.mk (Kd.C_below HRa.out hbb); have HSb := Aside0.mk (Kd.C_below HSa.out hbb); have HGb := Aside0.mk (Kd.C_below HGa.out hbb); have HXb := Aside0.mk (Kd.C_below HXa.out hbb); have HBb := Aside0.mk (below_step HBa.out hbb); clear k0a k1a k2a k3a l0a l1a l2a n0a n1a n2a n3a n4a n5a; have k0b := blk_cell HKb.out 0; have k1b := blk_cell HKb.out 1; have k2b := blk_cell HKb.out 2; have k3b := blk_cell HKb.out 3; have l0b := blk_cell HLb.out 0; have l1b := blk_cell HLb.out 1; have l2b := blk_cell HLb.out 2; have n0b := blk_cell HNb.out 0; have n1b := blk_cell HNb.out 1; have n2b := blk_cell HNb.out 2; have n3b := blk_cell HNb.out 3; have n4b := blk_cell HNb.out 4; have n5b := blk_cell HNb.out 5; have gk := blk_lt HKb.out; have gl := blk_lt HLb.out; have gn := blk_lt HNb.out; have y1b := cell_now HBb.out HY0.out; have gy := World.block_lt_of_cell? _ _ y1b))
          go_ret
          exact ⟨by rw [HF.out]; rfl, below_step HB.out (below_step HBr.out HBb.out)⟩
        · have qhp := decide_eq_false hp
          by_cases g1 : x.f1 < 1
          · have qg1 := decide_eq_true g1
            have HCE : Aside0 (colE t k ts = 4) := ⟨by rw [HSP.out]; simp [colBad1, g1]⟩
            have HF : Aside0 (goodE t ts = 4) := ⟨by rw [HRES.out, colsE_hit hlt HA.out (by rw [HCE.out]; decide), HCE.out]; rfl⟩
            go_wp2_with (first
              | (go_at_call 33; refine (mortmainref09_Name.calls kN x.f0 _ _ hN.out).mono ?_; rintro e wa ⟨rfl, hda⟩; have hba := drawn_below hda; have HKa := Aside0.mk (blk_below HKi.out hba); have HLa := Aside0.mk (blk_below HLi.out hba); have HNa := Aside0.mk (blk_below HNi.out hba); have HRa := Aside0.mk (Kd.C_below HRi.out hba); have HSa := Aside0.mk (Kd.C_below HSi.out hba); have HGa := Aside0.mk (Kd.C_below HGi.out hba); have HXa := Aside0.mk (Kd.C_below HXi.out hba); have HBa := Aside0.mk (below_step HBi.out hba); have k0a := blk_cell HKa.out 0; have k1a := blk_cell HKa.out 1; have k2a := blk_cell HKa.out 2; have k3a := blk_cell HKa.out 3; have l0a := blk_cell HLa.out 0; have l1a := blk_cell HLa.out 1; have l2a := blk_cell HLa.out 2; have n0a := blk_cell HNa.out 0; have n1a := blk_cell HNa.out 1; have n2a := blk_cell HNa.out 2; have n3a := blk_cell HNa.out 3; have n4a := blk_cell HNa.out 4; have n5a := blk_cell HNa.out 5)
              | (go_at_call 35; refine (mortmainref09_Place.calls kP t.f0 t.f1 (some ad) c t.f2 A' c' t.f3 x.f0 _ _ HRa.out HC.out HXa.out HC3.out hP.out).mono ?_; rintro e wb ⟨rfl, hbb⟩; have HKb := Aside0.mk (blk_below HKa.out hbb); have HLb := Aside0.mk (blk_below HLa.out hbb); have HNb := Aside0.mk (blk_below HNa.out hbb); have HRb := Aside0.mk (Kd.C_below HRa.out hbb); have HSb := Aside0.mk (Kd.C_below HSa.out hbb); have HGb := Aside0.mk (Kd.C_below HGa.out hbb); have HXb := Aside0.mk (Kd.C_below HXa.out hbb); have HBb := Aside0.mk (below_step HBa.out hbb); clear k0a k1a k2a k3a l0a l1a l2a n0a n1a n2a n3a n4a n5a; have k0b := blk_cell HKb.out 0; have k1b := blk_cell HKb.out 1; have k2b := blk_cell HKb.out 2; have k3b := blk_cell HKb.out 3; have l0b := blk_cell HLb.out 0; have l1b := blk_cell HLb.out 1; have l2b := blk_cell HLb.out 2; have n0b := blk_cell HNb.out 0; have n1b := blk_cell HNb.out 1; have n2b := blk_cell HNb.out 2; have n3b := blk_cell HNb.out 3; have n4b := blk_cell HNb.out 4; have n5b := blk_cell HNb.out 5; have gk := blk_lt HKb.out; have gl := blk_lt HLb.out; have gn := blk_lt HNb.out; have y1b := cell_now HBb.out HY0.out; have gy := World.block_lt_of_cell? _ _ y1b))
            go_ret
            exact ⟨by rw [HF.out]; rfl, below_step HB.out (below_step HBr.out HBb.out)⟩
          · have qg1 := decide_eq_false g1
            by_cases g2 : 3 < x.f1
            · have qg2 := decide_eq_true g2
              have HCE : Aside0 (colE t k ts = 4) := ⟨by rw [HSP.out]; simp [colBad1, g2]⟩
              have HF : Aside0 (goodE t ts = 4) := ⟨by rw [HRES.out, colsE_hit hlt HA.out (by rw [HCE.out]; decide), HCE.out]; rfl⟩
              go_wp2_with (first
                | (go_at_call 33; refine (mortmainref09_Name.calls kN x.f0 _ _ hN.out).mono ?_; rintro e wa ⟨rfl, hda⟩; have hba := drawn_below hda; have HKa := Aside0.mk (blk_below HKi.out hba); have HLa := Aside0.mk (blk_below HLi.out hba); have HNa := Aside0.mk (blk_below HNi.out hba); have HRa := Aside0.mk (Kd.C_below HRi.out hba); have HSa := Aside0.mk (Kd.C_below HSi.out hba); have HGa := Aside0.mk (Kd.C_below HGi.out hba); have HXa := Aside0.mk (Kd.C_below HXi.out hba); have HBa := Aside0.mk (below_step HBi.out hba); have k0a := blk_cell HKa.out 0; have k1a := blk_cell HKa.out 1; have k2a := blk_cell HKa.out 2; have k3a := blk_cell HKa.out 3; have l0a := blk_cell HLa.out 0; have l1a := blk_cell HLa.out 1; have l2a := blk_cell HLa.out 2; have n0a := blk_cell HNa.out 0; have n1a := blk_cell HNa.out 1; have n2a := blk_cell HNa.out 2; have n3a := blk_cell HNa.out 3; have n4a := blk_cell HNa.out 4; have n5a := blk_cell HNa.out 5)
                | (go_at_call 35; refine (mortmainref09_Place.calls kP t.f0 t.f1 (some ad) c t.f2 A' c' t.f3 x.f0 _ _ HRa.out HC.out HXa.out HC3.out hP.out).mono ?_; rintro e wb ⟨rfl, hbb⟩; have HKb := Aside0.mk (blk_below HKa.out hbb); have HLb := Aside0.mk (blk_below HLa.out hbb); have HNb := Aside0.mk (blk_below HNa.out hbb); have HRb := Aside0.mk (Kd.C_below HRa.out hbb); have HSb := Aside0.mk (Kd.C_below HSa.out hbb); have HGb := Aside0.mk (Kd.C_below HGa.out hbb); have HXb := Aside0.mk (Kd.C_below HXa.out hbb); have HBb := Aside0.mk (below_step HBa.out hbb); clear k0a k1a k2a k3a l0a l1a l2a n0a n1a n2a n3a n4a n5a; have k0b := blk_cell HKb.out 0; have k1b := blk_cell HKb.out 1; have k2b := blk_cell HKb.out 2; have k3b := blk_cell HKb.out 3; have l0b := blk_cell HLb.out 0; have l1b := blk_cell HLb.out 1; have l2b := blk_cell HLb.out 2; have n0b := blk_cell HNb.out 0; have n1b := blk_cell HNb.out 1; have n2b := blk_cell HNb.out 2; have n3b := blk_cell HNb.out 3; have n4b := blk_cell HNb.out 4; have n5b := blk_cell HNb.out 5; have gk := blk_lt HKb.out; have gl := blk_lt HLb.out; have gn := blk_lt HNb.out; have y1b := cell_now HBb.out HY0.out; have gy := World.block_lt_of_cell? _ _ y1b))
              go_ret
              exact ⟨by rw [HF.out]; rfl, below_step HB.out (below_step HBr.out HBb.out)⟩
            · have qg2 := decide_eq_false g2
              by_cases g3 : x.f5 < 0
              · have qg3 := decide_eq_true g3
                have HCE : Aside0 (colE t k ts = 4) := ⟨by rw [HSP.out]; simp [colBad1, g3]⟩
                have HF : Aside0 (goodE t ts = 4) := ⟨by rw [HRES.out, colsE_hit hlt HA.out (by rw [HCE.out]; decide), HCE.out]; rfl⟩
                go_wp2_with (first
                  | (go_at_call 33; refine (mortmainref09_Name.calls kN x.f0 _ _ hN.out).mono ?_; rintro e wa ⟨rfl, hda⟩; have hba := drawn_below hda; have HKa := Aside0.mk (blk_below HKi.out hba); have HLa := Aside0.mk (blk_below HLi.out hba); have HNa := Aside0.mk (blk_below HNi.out hba); have HRa := Aside0.mk (Kd.C_below HRi.out hba); have HSa := Aside0.mk (Kd.C_below HSi.out hba); have HGa := Aside0.mk (Kd.C_below HGi.out hba); have HXa := Aside0.mk (Kd.C_below HXi.out hba); have HBa := Aside0.mk (below_step HBi.out hba); have k0a := blk_cell HKa.out 0; have k1a := blk_cell HKa.out 1; have k2a := blk_cell HKa.out 2; have k3a := blk_cell HKa.out 3; have l0a := blk_cell HLa.out 0; have l1a := blk_cell HLa.out 1; have l2a := blk_cell HLa.out 2; have n0a := blk_cell HNa.out 0; have n1a := blk_cell HNa.out 1; have n2a := blk_cell HNa.out 2; have n3a := blk_cell HNa.out 3; have n4a := blk_cell HNa.out 4; have n5a := blk_cell HNa.out 5)
                  | (go_at_call 35; refine (mortmainref09_Place.calls kP t.f0 t.f1 (some ad) c t.f2 A' c' t.f3 x.f0 _ _ HRa.out HC.out HXa.out HC3.out hP.out).mono ?_; rintro e wb ⟨rfl, hbb⟩; have HKb := Aside0.mk (blk_below HKa.out hbb); have HLb := Aside0.mk (blk_below HLa.out hbb); have HNb := Aside0.mk (blk_below HNa.out hbb); have HRb := Aside0.mk (Kd.C_below HRa.out hbb); have HSb := Aside0.mk (Kd.C_below HSa.out hbb); have HGb := Aside0.mk (Kd.C_below HGa.out hbb); have HXb := Aside0.mk (Kd.C_below HXa.out hbb); have HBb := Aside0.mk (below_step HBa.out hbb); clear k0a k1a k2a k3a l0a l1a l2a n0a n1a n2a n3a n4a n5a; have k0b := blk_cell HKb.out 0; have k1b := blk_cell HKb.out 1; have k2b := blk_cell HKb.out 2; have k3b := blk_cell HKb.out 3; have l0b := blk_cell HLb.out 0; have l1b := blk_cell HLb.out 1; have l2b := blk_cell HLb.out 2; have n0b := blk_cell HNb.out 0; have n1b := blk_cell HNb.out 1; have n2b := blk_cell HNb.out 2; have n3b := blk_cell HNb.out 3; have n4b := blk_cell HNb.out 4; have n5b := blk_cell HNb.out 5; have gk := blk_lt HKb.out; have gl := blk_lt HLb.out; have gn := blk_lt HNb.out; have y1b := cell_now HBb.out HY0.out; have gy := World.block_lt_of_cell? _ _ y1b))
                go_ret
                exact ⟨by rw [HF.out]; rfl, below_step HB.out (below_step HBr.out HBb.out)⟩
              · have qg3 := decide_eq_false g3
                by_cases g4 : 2 < x.f5
                · have qg4 := decide_eq_true g4
                  have HCE : Aside0 (colE t k ts = 4) := ⟨by rw [HSP.out]; simp [colBad1, g4]⟩
                  have HF : Aside0 (goodE t ts = 4) := ⟨by rw [HRES.out, colsE_hit hlt HA.out (by rw [HCE.out]; decide), HCE.out]; rfl⟩
                  go_wp2_with (first
                    | (go_at_call 33; refine (mortmainref09_Name.calls kN x.f0 _ _ hN.out).mono ?_; rintro e wa ⟨rfl, hda⟩; have hba := drawn_below hda; have HKa := Aside0.mk (blk_below HKi.out hba); have HLa := Aside0.mk (blk_below HLi.out hba); have HNa := Aside0.mk (blk_below HNi.out hba); have HRa := Aside0.mk (Kd.C_below HRi.out hba); have HSa := Aside0.mk (Kd.C_below HSi.out hba); have HGa := Aside0.mk (Kd.C_below HGi.out hba); have HXa := Aside0.mk (Kd.C_below HXi.out hba); have HBa := Aside0.mk (below_step HBi.out hba); have k0a := blk_cell HKa.out 0; have k1a := blk_cell HKa.out 1; have k2a := blk_cell HKa.out 2; have k3a := blk_cell HKa.out 3; have l0a := blk_cell HLa.out 0; have l1a := blk_cell HLa.out 1; have l2a := blk_cell HLa.out 2; have n0a := blk_cell HNa.out 0; have n1a := blk_cell HNa.out 1; have n2a := blk_cell HNa.out 2; have n3a := blk_cell HNa.out 3; have n4a := blk_cell HNa.out 4; have n5a := blk_cell HNa.out 5)
                    | (go_at_call 35; refine (mortmainref09_Place.calls kP t.f0 t.f1 (some ad) c t.f2 A' c' t.f3 x.f0 _ _ HRa.out HC.out HXa.out HC3.out hP.out).mono ?_; rintro e wb ⟨rfl, hbb⟩; have HKb := Aside0.mk (blk_below HKa.out hbb); have HLb := Aside0.mk (blk_below HLa.out hbb); have HNb := Aside0.mk (blk_below HNa.out hbb); have HRb := Aside0.mk (Kd.C_below HRa.out hbb); have HSb := Aside0.mk (Kd.C_below HSa.out hbb); have HGb := Aside0.mk (Kd.C_below HGa.out hbb); have HXb := Aside0.mk (Kd.C_below HXa.out hbb); have HBb := Aside0.mk (below_step HBa.out hbb); clear k0a k1a k2a k3a l0a l1a l2a n0a n1a n2a n3a n4a n5a; have k0b := blk_cell HKb.out 0; have k1b := blk_cell HKb.out 1; have k2b := blk_cell HKb.out 2; have k3b := blk_cell HKb.out 3; have l0b := blk_cell HLb.out 0; have l1b := blk_cell HLb.out 1; have l2b := blk_cell HLb.out 2; have n0b := blk_cell HNb.out 0; have n1b := blk_cell HNb.out 1; have n2b := blk_cell HNb.out 2; have n3b := blk_cell HNb.out 3; have n4b := blk_cell HNb.out 4; have n5b := blk_cell HNb.out 5; have gk := blk_lt HKb.out; have gl := blk_lt HLb.out; have gn := blk_lt HNb.out; have y1b := cell_now HBb.out HY0.out; have gy := World.block_lt_of_cell? _ _ y1b))
                  go_ret
                  exact ⟨by rw [HF.out]; rfl, below_step HB.out (below_step HBr.out HBb.out)⟩
                · have qg4 := decide_eq_false g4
                  have HB1 : Aside0 (colBad1 t.f2 k x = false) := ⟨by simp [colBad1, hn, show placeC t.f2 x.f0 = (k : Int) by omega, g1, g2, g3, g4]⟩
                  by_cases hi0 : k = 0
                  · skip
                    have e0 : ((k : Int) == 0) = true := by simp [hi0]
                    have HI0 := Aside0.mk hi0
                    clear hi0
                    cases nn : x.f2 with
                    | true =>
                      have NN := Aside0.mk nn
                      clear nn
                      cases un : x.f3 with
                      | true =>
                        have UN := Aside0.mk un
                        clear un
                        have HCE : Aside0 (colE t k ts = 4) := ⟨by rw [HSP.out]; rw [HB1.out, if_neg (by decide), show colBad2 k x = true from by simp [colBad2, HI0.out, NN.out, UN.out]]; rfl⟩
                        have HF : Aside0 (goodE t ts = 4) := ⟨by rw [HRES.out, colsE_hit hlt HA.out (by rw [HCE.out]; decide), HCE.out]; rfl⟩
                        go_wp2_with (first
                          | (go_at_call 33; refine (mortmainref09_Name.calls kN x.f0 _ _ hN.out).mono ?_; rintro e wa ⟨rfl, hda⟩; have hba := drawn_below hda; have HKa := Aside0.mk (blk_below HKi.out hba); have HLa := Aside0.mk (blk_below HLi.out hba); have HNa := Aside0.mk (blk_below HNi.out hba); have HRa := Aside0.mk (Kd.C_below HRi.out hba); have HSa := Aside0.mk (Kd.C_below HSi.out hba); have HGa := Aside0.mk (Kd.C_below HGi.out hba); have HXa := Aside0.mk (Kd.C_below HXi.out hba); have HBa := Aside0.mk (below_step HBi.out hba); have k0a := blk_cell HKa.out 0; have k1a := blk_cell HKa.out 1; have k2a := blk_cell HKa.out 2; have k3a := blk_cell HKa.out 3; have l0a := blk_cell HLa.out 0; have l1a := blk_cell HLa.out 1; have l2a := blk_cell HLa.out 2; have n0a := blk_cell HNa.out 0; have n1a := blk_cell HNa.out 1; have n2a := blk_cell HNa.out 2; have n3a := blk_cell HNa.out 3; have n4a := blk_cell HNa.out 4; have n5a := blk_cell HNa.out 5)
                          | (go_at_call 35; refine (mortmainref09_Place.calls kP t.f0 t.f1 (some ad) c t.f2 A' c' t.f3 x.f0 _ _ HRa.out HC.out HXa.out HC3.out hP.out).mono ?_; rintro e wb ⟨rfl, hbb⟩; have HKb := Aside0.mk (blk_below HKa.out hbb); have HLb := Aside0.mk (blk_below HLa.out hbb); have HNb := Aside0.mk (blk_below HNa.out hbb); have HRb := Aside0.mk (Kd.C_below HRa.out hbb); have HSb := Aside0.mk (Kd.C_below HSa.out hbb); have HGb := Aside0.mk (Kd.C_below HGa.out hbb); have HXb := Aside0.mk (Kd.C_below HXa.out hbb); have HBb := Aside0.mk (below_step HBa.out hbb); clear k0a k1a k2a k3a l0a l1a l2a n0a n1a n2a n3a n4a n5a; have k0b := blk_cell HKb.out 0; have k1b := blk_cell HKb.out 1; have k2b := blk_cell HKb.out 2; have k3b := blk_cell HKb.out 3; have l0b := blk_cell HLb.out 0; have l1b := blk_cell HLb.out 1; have l2b := blk_cell HLb.out 2; have n0b := blk_cell HNb.out 0; have n1b := blk_cell HNb.out 1; have n2b := blk_cell HNb.out 2; have n3b := blk_cell HNb.out 3; have n4b := blk_cell HNb.out 4; have n5b := blk_cell HNb.out 5; have gk := blk_lt HKb.out; have gl := blk_lt HLb.out; have gn := blk_lt HNb.out; have y1b := cell_now HBb.out HY0.out; have gy := World.block_lt_of_cell? _ _ y1b; have nn := NN.out; have un := UN.out))
                        go_ret
                        exact ⟨by rw [HF.out]; rfl, below_step HB.out (below_step HBr.out HBb.out)⟩
                      | false =>
                        have UN := Aside0.mk un
                        clear un
                        cases he : x.f4.toList.isEmpty with
                        | true =>
                          by_cases dd : x.f5 = 0
                          · have e1 : (x.f5 != 0) = false := by simp [dd]
                            have e2 : (x.f5 == 2) = false := by simp [dd]
                            have DD := Aside0.mk dd
                            clear dd
                            have HCE : Aside0 (colE t k ts = 0) := ⟨by rw [HSP.out]; rw [HB1.out, if_neg (by decide), show colBad2 k x = false from by simp [colBad2, HI0.out, NN.out, UN.out, he, DD.out], if_neg (by decide)]; rw [he]; rfl⟩
                            go_wp2_with (first
                              | (go_at_call 33; refine (mortmainref09_Name.calls kN x.f0 _ _ hN.out).mono ?_; rintro e wa ⟨rfl, hda⟩; have hba := drawn_below hda; have HKa := Aside0.mk (blk_below HKi.out hba); have HLa := Aside0.mk (blk_below HLi.out hba); have HNa := Aside0.mk (blk_below HNi.out hba); have HRa := Aside0.mk (Kd.C_below HRi.out hba); have HSa := Aside0.mk (Kd.C_below HSi.out hba); have HGa := Aside0.mk (Kd.C_below HGi.out hba); have HXa := Aside0.mk (Kd.C_below HXi.out hba); have HBa := Aside0.mk (below_step HBi.out hba); have k0a := blk_cell HKa.out 0; have k1a := blk_cell HKa.out 1; have k2a := blk_cell HKa.out 2; have k3a := blk_cell HKa.out 3; have l0a := blk_cell HLa.out 0; have l1a := blk_cell HLa.out 1; have l2a := blk_cell HLa.out 2; have n0a := blk_cell HNa.out 0; have n1a := blk_cell HNa.out 1; have n2a := blk_cell HNa.out 2; have n3a := blk_cell HNa.out 3; have n4a := blk_cell HNa.out 4; have n5a := blk_cell HNa.out 5)
                              | (go_at_call 35; refine (mortmainref09_Place.calls kP t.f0 t.f1 (some ad) c t.f2 A' c' t.f3 x.f0 _ _ HRa.out HC.out HXa.out HC3.out hP.out).mono ?_; rintro e wb ⟨rfl, hbb⟩; have HKb := Aside0.mk (blk_below HKa.out hbb); have HLb := Aside0.mk (blk_below HLa.out hbb); have HNb := Aside0.mk (blk_below HNa.out hbb); have HRb := Aside0.mk (Kd.C_below HRa.out hbb); have HSb := Aside0.mk (Kd.C_below HSa.out hbb); have HGb := Aside0.mk (Kd.C_below HGa.out hbb); have HXb := Aside0.mk (Kd.C_below HXa.out hbb); have HBb := Aside0.mk (below_step HBa.out hbb); clear k0a k1a k2a k3a l0a l1a l2a n0a n1a n2a n3a n4a n5a; have k0b := blk_cell HKb.out 0; have k1b := blk_cell HKb.out 1; have k2b := blk_cell HKb.out 2; have k3b := blk_cell HKb.out 3; have l0b := blk_cell HLb.out 0; have l1b := blk_cell HLb.out 1; have l2b := blk_cell HLb.out 2; have n0b := blk_cell HNb.out 0; have n1b := blk_cell HNb.out 1; have n2b := blk_cell HNb.out 2; have n3b := blk_cell HNb.out 3; have n4b := blk_cell HNb.out 4; have n5b := blk_cell HNb.out 5; have gk := blk_lt HKb.out; have gl := blk_lt HLb.out; have gn := blk_lt HNb.out; have y1b := cell_now HBb.out HY0.out; have gy := World.block_lt_of_cell? _ _ y1b; have nn := NN.out; have un := UN.out))
                            go_roundw
                            case rel => exact ⟨k + 1, by go_num, by omega, allC_next HA.out HCE.out, ⟨below_step HBr.out HBb.out⟩⟩
                            case measure => simp [intOf]; omega
                          · have e1 : (x.f5 != 0) = true := by simp [dd]
                            have HCE : Aside0 (colE t k ts = 4) := ⟨by rw [HSP.out]; rw [HB1.out, if_neg (by decide), show colBad2 k x = true from by simp [colBad2, HI0.out, NN.out, UN.out, he, dd]]; rfl⟩
                            have HF : Aside0 (goodE t ts = 4) := ⟨by rw [HRES.out, colsE_hit hlt HA.out (by rw [HCE.out]; decide), HCE.out]; rfl⟩
                            go_wp2_with (first
                              | (go_at_call 33; refine (mortmainref09_Name.calls kN x.f0 _ _ hN.out).mono ?_; rintro e wa ⟨rfl, hda⟩; have hba := drawn_below hda; have HKa := Aside0.mk (blk_below HKi.out hba); have HLa := Aside0.mk (blk_below HLi.out hba); have HNa := Aside0.mk (blk_below HNi.out hba); have HRa := Aside0.mk (Kd.C_below HRi.out hba); have HSa := Aside0.mk (Kd.C_below HSi.out hba); have HGa := Aside0.mk (Kd.C_below HGi.out hba); have HXa := Aside0.mk (Kd.C_below HXi.out hba); have HBa := Aside0.mk (below_step HBi.out hba); have k0a := blk_cell HKa.out 0; have k1a := blk_cell HKa.out 1; have k2a := blk_cell HKa.out 2; have k3a := blk_cell HKa.out 3; have l0a := blk_cell HLa.out 0; have l1a := blk_cell HLa.out 1; have l2a := blk_cell HLa.out 2; have n0a := blk_cell HNa.out 0; have n1a := blk_cell HNa.out 1; have n2a := blk_cell HNa.out 2; have n3a := blk_cell HNa.out 3; have n4a := blk_cell HNa.out 4; have n5a := blk_cell HNa.out 5)
                              | (go_at_call 35; refine (mortmainref09_Place.calls kP t.f0 t.f1 (some ad) c t.f2 A' c' t.f3 x.f0 _ _ HRa.out HC.out HXa.out HC3.out hP.out).mono ?_; rintro e wb ⟨rfl, hbb⟩; have HKb := Aside0.mk (blk_below HKa.out hbb); have HLb := Aside0.mk (blk_below HLa.out hbb); have HNb := Aside0.mk (blk_below HNa.out hbb); have HRb := Aside0.mk (Kd.C_below HRa.out hbb); have HSb := Aside0.mk (Kd.C_below HSa.out hbb); have HGb := Aside0.mk (Kd.C_below HGa.out hbb); have HXb := Aside0.mk (Kd.C_below HXa.out hbb); have HBb := Aside0.mk (below_step HBa.out hbb); clear k0a k1a k2a k3a l0a l1a l2a n0a n1a n2a n3a n4a n5a; have k0b := blk_cell HKb.out 0; have k1b := blk_cell HKb.out 1; have k2b := blk_cell HKb.out 2; have k3b := blk_cell HKb.out 3; have l0b := blk_cell HLb.out 0; have l1b := blk_cell HLb.out 1; have l2b := blk_cell HLb.out 2; have n0b := blk_cell HNb.out 0; have n1b := blk_cell HNb.out 1; have n2b := blk_cell HNb.out 2; have n3b := blk_cell HNb.out 3; have n4b := blk_cell HNb.out 4; have n5b := blk_cell HNb.out 5; have gk := blk_lt HKb.out; have gl := blk_lt HLb.out; have gn := blk_lt HNb.out; have y1b := cell_now HBb.out HY0.out; have gy := World.block_lt_of_cell? _ _ y1b; have nn := NN.out; have un := UN.out))
                            go_ret
                            exact ⟨by rw [HF.out]; rfl, below_step HB.out (below_step HBr.out HBb.out)⟩
                        | false =>
                          have HCE : Aside0 (colE t k ts = 4) := ⟨by rw [HSP.out]; rw [HB1.out, if_neg (by decide), show colBad2 k x = true from by simp [colBad2, HI0.out, NN.out, UN.out, he]]; rfl⟩
                          have HF : Aside0 (goodE t ts = 4) := ⟨by rw [HRES.out, colsE_hit hlt HA.out (by rw [HCE.out]; decide), HCE.out]; rfl⟩
                          go_wp2_with (first
                            | (go_at_call 33; refine (mortmainref09_Name.calls kN x.f0 _ _ hN.out).mono ?_; rintro e wa ⟨rfl, hda⟩; have hba := drawn_below hda; have HKa := Aside0.mk (blk_below HKi.out hba); have HLa := Aside0.mk (blk_below HLi.out hba); have HNa := Aside0.mk (blk_below HNi.out hba); have HRa := Aside0.mk (Kd.C_below HRi.out hba); have HSa := Aside0.mk (Kd.C_below HSi.out hba); have HGa := Aside0.mk (Kd.C_below HGi.out hba); have HXa := Aside0.mk (Kd.C_below HXi.out hba); have HBa := Aside0.mk (below_step HBi.out hba); have k0a := blk_cell HKa.out 0; have k1a := blk_cell HKa.out 1; have k2a := blk_cell HKa.out 2; have k3a := blk_cell HKa.out 3; have l0a := blk_cell HLa.out 0; have l1a := blk_cell HLa.out 1; have l2a := blk_cell HLa.out 2; have n0a := blk_cell HNa.out 0; have n1a := blk_cell HNa.out 1; have n2a := blk_cell HNa.out 2; have n3a := blk_cell HNa.out 3; have n4a := blk_cell HNa.out 4; have n5a := blk_cell HNa.out 5)
                            | (go_at_call 35; refine (mortmainref09_Place.calls kP t.f0 t.f1 (some ad) c t.f2 A' c' t.f3 x.f0 _ _ HRa.out HC.out HXa.out HC3.out hP.out).mono ?_; rintro e wb ⟨rfl, hbb⟩; have HKb := Aside0.mk (blk_below HKa.out hbb); have HLb := Aside0.mk (blk_below HLa.out hbb); have HNb := Aside0.mk (blk_below HNa.out hbb); have HRb := Aside0.mk (Kd.C_below HRa.out hbb); have HSb := Aside0.mk (Kd.C_below HSa.out hbb); have HGb := Aside0.mk (Kd.C_below HGa.out hbb); have HXb := Aside0.mk (Kd.C_below HXa.out hbb); have HBb := Aside0.mk (below_step HBa.out hbb); clear k0a k1a k2a k3a l0a l1a l2a n0a n1a n2a n3a n4a n5a; have k0b := blk_cell HKb.out 0; have k1b := blk_cell HKb.out 1; have k2b := blk_cell HKb.out 2; have k3b := blk_cell HKb.out 3; have l0b := blk_cell HLb.out 0; have l1b := blk_cell HLb.out 1; have l2b := blk_cell HLb.out 2; have n0b := blk_cell HNb.out 0; have n1b := blk_cell HNb.out 1; have n2b := blk_cell HNb.out 2; have n3b := blk_cell HNb.out 3; have n4b := blk_cell HNb.out 4; have n5b := blk_cell HNb.out 5; have gk := blk_lt HKb.out; have gl := blk_lt HLb.out; have gn := blk_lt HNb.out; have y1b := cell_now HBb.out HY0.out; have gy := World.block_lt_of_cell? _ _ y1b; have nn := NN.out; have un := UN.out))
                          go_ret
                          exact ⟨by rw [HF.out]; rfl, below_step HB.out (below_step HBr.out HBb.out)⟩
                    | false =>
                      have NN := Aside0.mk nn
                      clear nn
                      have HCE : Aside0 (colE t k ts = 4) := ⟨by rw [HSP.out]; rw [HB1.out, if_neg (by decide), show colBad2 k x = true from by simp [colBad2, HI0.out, NN.out]]; rfl⟩
                      have HF : Aside0 (goodE t ts = 4) := ⟨by rw [HRES.out, colsE_hit hlt HA.out (by rw [HCE.out]; decide), HCE.out]; rfl⟩
                      go_wp2_with (first
                        | (go_at_call 33; refine (mortmainref09_Name.calls kN x.f0 _ _ hN.out).mono ?_; rintro e wa ⟨rfl, hda⟩; have hba := drawn_below hda; have HKa := Aside0.mk (blk_below HKi.out hba); have HLa := Aside0.mk (blk_below HLi.out hba); have HNa := Aside0.mk (blk_below HNi.out hba); have HRa := Aside0.mk (Kd.C_below HRi.out hba); have HSa := Aside0.mk (Kd.C_below HSi.out hba); have HGa := Aside0.mk (Kd.C_below HGi.out hba); have HXa := Aside0.mk (Kd.C_below HXi.out hba); have HBa := Aside0.mk (below_step HBi.out hba); have k0a := blk_cell HKa.out 0; have k1a := blk_cell HKa.out 1; have k2a := blk_cell HKa.out 2; have k3a := blk_cell HKa.out 3; have l0a := blk_cell HLa.out 0; have l1a := blk_cell HLa.out 1; have l2a := blk_cell HLa.out 2; have n0a := blk_cell HNa.out 0; have n1a := blk_cell HNa.out 1; have n2a := blk_cell HNa.out 2; have n3a := blk_cell HNa.out 3; have n4a := blk_cell HNa.out 4; have n5a := blk_cell HNa.out 5)
                        | (go_at_call 35; refine (mortmainref09_Place.calls kP t.f0 t.f1 (some ad) c t.f2 A' c' t.f3 x.f0 _ _ HRa.out HC.out HXa.out HC3.out hP.out).mono ?_; rintro e wb ⟨rfl, hbb⟩; have HKb := Aside0.mk (blk_below HKa.out hbb); have HLb := Aside0.mk (blk_below HLa.out hbb); have HNb := Aside0.mk (blk_below HNa.out hbb); have HRb := Aside0.mk (Kd.C_below HRa.out hbb); have HSb := Aside0.mk (Kd.C_below HSa.out hbb); have HGb := Aside0.mk (Kd.C_below HGa.out hbb); have HXb := Aside0.mk (Kd.C_below HXa.out hbb); have HBb := Aside0.mk (below_step HBa.out hbb); clear k0a k1a k2a k3a l0a l1a l2a n0a n1a n2a n3a n4a n5a; have k0b := blk_cell HKb.out 0; have k1b := blk_cell HKb.out 1; have k2b := blk_cell HKb.out 2; have k3b := blk_cell HKb.out 3; have l0b := blk_cell HLb.out 0; have l1b := blk_cell HLb.out 1; have l2b := blk_cell HLb.out 2; have n0b := blk_cell HNb.out 0; have n1b := blk_cell HNb.out 1; have n2b := blk_cell HNb.out 2; have n3b := blk_cell HNb.out 3; have n4b := blk_cell HNb.out 4; have n5b := blk_cell HNb.out 5; have gk := blk_lt HKb.out; have gl := blk_lt HLb.out; have gn := blk_lt HNb.out; have y1b := cell_now HBb.out HY0.out; have gy := World.block_lt_of_cell? _ _ y1b; have nn := NN.out))
                      go_ret
                      exact ⟨by rw [HF.out]; rfl, below_step HB.out (below_step HBr.out HBb.out)⟩
                  · skip
                    have e0 : ((k : Int) == 0) = false := by simp [hi0]
                    cases he : x.f4.toList.isEmpty with
                    | true =>
                      by_cases dd : x.f5 = 0
                      · have e1 : (x.f5 != 0) = false := by simp [dd]
                        have e2 : (x.f5 == 2) = false := by simp [dd]
                        have DD := Aside0.mk dd
                        clear dd
                        have HCE : Aside0 (colE t k ts = 0) := ⟨by rw [HSP.out]; rw [HB1.out, if_neg (by decide), show colBad2 k x = false from by simp [colBad2, hi0, he, DD.out], if_neg (by decide)]; rw [he]; rfl⟩
                        go_wp2_with (first
                          | (go_at_call 33; refine (mortmainref09_Name.calls kN x.f0 _ _ hN.out).mono ?_; rintro e wa ⟨rfl, hda⟩; have hba := drawn_below hda; have HKa := Aside0.mk (blk_below HKi.out hba); have HLa := Aside0.mk (blk_below HLi.out hba); have HNa := Aside0.mk (blk_below HNi.out hba); have HRa := Aside0.mk (Kd.C_below HRi.out hba); have HSa := Aside0.mk (Kd.C_below HSi.out hba); have HGa := Aside0.mk (Kd.C_below HGi.out hba); have HXa := Aside0.mk (Kd.C_below HXi.out hba); have HBa := Aside0.mk (below_step HBi.out hba); have k0a := blk_cell HKa.out 0; have k1a := blk_cell HKa.out 1; have k2a := blk_cell HKa.out 2; have k3a := blk_cell HKa.out 3; have l0a := blk_cell HLa.out 0; have l1a := blk_cell HLa.out 1; have l2a := blk_cell HLa.out 2; have n0a := blk_cell HNa.out 0; have n1a := blk_cell HNa.out 1; have n2a := blk_cell HNa.out 2; have n3a := blk_cell HNa.out 3; have n4a := blk_cell HNa.out 4; have n5a := blk_cell HNa.out 5)
                          | (go_at_call 35; refine (mortmainref09_Place.calls kP t.f0 t.f1 (some ad) c t.f2 A' c' t.f3 x.f0 _ _ HRa.out HC.out HXa.out HC3.out hP.out).mono ?_; rintro e wb ⟨rfl, hbb⟩; have HKb := Aside0.mk (blk_below HKa.out hbb); have HLb := Aside0.mk (blk_below HLa.out hbb); have HNb := Aside0.mk (blk_below HNa.out hbb); have HRb := Aside0.mk (Kd.C_below HRa.out hbb); have HSb := Aside0.mk (Kd.C_below HSa.out hbb); have HGb := Aside0.mk (Kd.C_below HGa.out hbb); have HXb := Aside0.mk (Kd.C_below HXa.out hbb); have HBb := Aside0.mk (below_step HBa.out hbb); clear k0a k1a k2a k3a l0a l1a l2a n0a n1a n2a n3a n4a n5a; have k0b := blk_cell HKb.out 0; have k1b := blk_cell HKb.out 1; have k2b := blk_cell HKb.out 2; have k3b := blk_cell HKb.out 3; have l0b := blk_cell HLb.out 0; have l1b := blk_cell HLb.out 1; have l2b := blk_cell HLb.out 2; have n0b := blk_cell HNb.out 0; have n1b := blk_cell HNb.out 1; have n2b := blk_cell HNb.out 2; have n3b := blk_cell HNb.out 3; have n4b := blk_cell HNb.out 4; have n5b := blk_cell HNb.out 5; have gk := blk_lt HKb.out; have gl := blk_lt HLb.out; have gn := blk_lt HNb.out; have y1b := cell_now HBb.out HY0.out; have gy := World.block_lt_of_cell? _ _ y1b))
                        go_roundw
                        case rel => exact ⟨k + 1, by go_num, by omega, allC_next HA.out HCE.out, ⟨below_step HBr.out HBb.out⟩⟩
                        case measure => simp [intOf]; omega
                      · have e1 : (x.f5 != 0) = true := by simp [dd]
                        have HCE : Aside0 (colE t k ts = 4) := ⟨by rw [HSP.out]; rw [HB1.out, if_neg (by decide), show colBad2 k x = true from by simp [colBad2, hi0, he, dd]]; rfl⟩
                        have HF : Aside0 (goodE t ts = 4) := ⟨by rw [HRES.out, colsE_hit hlt HA.out (by rw [HCE.out]; decide), HCE.out]; rfl⟩
                        go_wp2_with (first
                          | (go_at_call 33; refine (mortmainref09_Name.calls kN x.f0 _ _ hN.out).mono ?_; rintro e wa ⟨rfl, hda⟩; have hba := drawn_below hda; have HKa := Aside0.mk (blk_below HKi.out hba); have HLa := Aside0.mk (blk_below HLi.out hba); have HNa := Aside0.mk (blk_below HNi.out hba); have HRa := Aside0.mk (Kd.C_below HRi.out hba); have HSa := Aside0.mk (Kd.C_below HSi.out hba); have HGa := Aside0.mk (Kd.C_below HGi.out hba); have HXa := Aside0.mk (Kd.C_below HXi.out hba); have HBa := Aside0.mk (below_step HBi.out hba); have k0a := blk_cell HKa.out 0; have k1a := blk_cell HKa.out 1; have k2a := blk_cell HKa.out 2; have k3a := blk_cell HKa.out 3; have l0a := blk_cell HLa.out 0; have l1a := blk_cell HLa.out 1; have l2a := blk_cell HLa.out 2; have n0a := blk_cell HNa.out 0; have n1a := blk_cell HNa.out 1; have n2a := blk_cell HNa.out 2; have n3a := blk_cell HNa.out 3; have n4a := blk_cell HNa.out 4; have n5a := blk_cell HNa.out 5)
                          | (go_at_call 35; refine (mortmainref09_Place.calls kP t.f0 t.f1 (some ad) c t.f2 A' c' t.f3 x.f0 _ _ HRa.out HC.out HXa.out HC3.out hP.out).mono ?_; rintro e wb ⟨rfl, hbb⟩; have HKb := Aside0.mk (blk_below HKa.out hbb); have HLb := Aside0.mk (blk_below HLa.out hbb); have HNb := Aside0.mk (blk_below HNa.out hbb); have HRb := Aside0.mk (Kd.C_below HRa.out hbb); have HSb := Aside0.mk (Kd.C_below HSa.out hbb); have HGb := Aside0.mk (Kd.C_below HGa.out hbb); have HXb := Aside0.mk (Kd.C_below HXa.out hbb); have HBb := Aside0.mk (below_step HBa.out hbb); clear k0a k1a k2a k3a l0a l1a l2a n0a n1a n2a n3a n4a n5a; have k0b := blk_cell HKb.out 0; have k1b := blk_cell HKb.out 1; have k2b := blk_cell HKb.out 2; have k3b := blk_cell HKb.out 3; have l0b := blk_cell HLb.out 0; have l1b := blk_cell HLb.out 1; have l2b := blk_cell HLb.out 2; have n0b := blk_cell HNb.out 0; have n1b := blk_cell HNb.out 1; have n2b := blk_cell HNb.out 2; have n3b := blk_cell HNb.out 3; have n4b := blk_cell HNb.out 4; have n5b := blk_cell HNb.out 5; have gk := blk_lt HKb.out; have gl := blk_lt HLb.out; have gn := blk_lt HNb.out; have y1b := cell_now HBb.out HY0.out; have gy := World.block_lt_of_cell? _ _ y1b))
                        go_ret
                        exact ⟨by rw [HF.out]; rfl, below_step HB.out (below_step HBr.out HBb.out)⟩
                    | false =>
                      by_cases dd : x.f5 = 2
                      · have e2 : (x.f5 == 2) = true := by simp [dd]
                        have e1 : (x.f5 != 0) = true := by simp [dd]
                        have DD := Aside0.mk dd
                        clear dd
                        cases nn : x.f2 with
                        | true =>
                          have NN := Aside0.mk nn
                          clear nn
                          have HCE : Aside0 (colE t k ts = 4) := ⟨by rw [HSP.out]; rw [HB1.out, if_neg (by decide), show colBad2 k x = true from by simp [colBad2, hi0, he, DD.out, NN.out]]; rfl⟩
                          have HF : Aside0 (goodE t ts = 4) := ⟨by rw [HRES.out, colsE_hit hlt HA.out (by rw [HCE.out]; decide), HCE.out]; rfl⟩
                          go_wp2_with (first
                            | (go_at_call 33; refine (mortmainref09_Name.calls kN x.f0 _ _ hN.out).mono ?_; rintro e wa ⟨rfl, hda⟩; have hba := drawn_below hda; have HKa := Aside0.mk (blk_below HKi.out hba); have HLa := Aside0.mk (blk_below HLi.out hba); have HNa := Aside0.mk (blk_below HNi.out hba); have HRa := Aside0.mk (Kd.C_below HRi.out hba); have HSa := Aside0.mk (Kd.C_below HSi.out hba); have HGa := Aside0.mk (Kd.C_below HGi.out hba); have HXa := Aside0.mk (Kd.C_below HXi.out hba); have HBa := Aside0.mk (below_step HBi.out hba); have k0a := blk_cell HKa.out 0; have k1a := blk_cell HKa.out 1; have k2a := blk_cell HKa.out 2; have k3a := blk_cell HKa.out 3; have l0a := blk_cell HLa.out 0; have l1a := blk_cell HLa.out 1; have l2a := blk_cell HLa.out 2; have n0a := blk_cell HNa.out 0; have n1a := blk_cell HNa.out 1; have n2a := blk_cell HNa.out 2; have n3a := blk_cell HNa.out 3; have n4a := blk_cell HNa.out 4; have n5a := blk_cell HNa.out 5)
                            | (go_at_call 35; refine (mortmainref09_Place.calls kP t.f0 t.f1 (some ad) c t.f2 A' c' t.f3 x.f0 _ _ HRa.out HC.out HXa.out HC3.out hP.out).mono ?_; rintro e wb ⟨rfl, hbb⟩; have HKb := Aside0.mk (blk_below HKa.out hbb); have HLb := Aside0.mk (blk_below HLa.out hbb); have HNb := Aside0.mk (blk_below HNa.out hbb); have HRb := Aside0.mk (Kd.C_below HRa.out hbb); have HSb := Aside0.mk (Kd.C_below HSa.out hbb); have HGb := Aside0.mk (Kd.C_below HGa.out hbb); have HXb := Aside0.mk (Kd.C_below HXa.out hbb); have HBb := Aside0.mk (below_step HBa.out hbb); clear k0a k1a k2a k3a l0a l1a l2a n0a n1a n2a n3a n4a n5a; have k0b := blk_cell HKb.out 0; have k1b := blk_cell HKb.out 1; have k2b := blk_cell HKb.out 2; have k3b := blk_cell HKb.out 3; have l0b := blk_cell HLb.out 0; have l1b := blk_cell HLb.out 1; have l2b := blk_cell HLb.out 2; have n0b := blk_cell HNb.out 0; have n1b := blk_cell HNb.out 1; have n2b := blk_cell HNb.out 2; have n3b := blk_cell HNb.out 3; have n4b := blk_cell HNb.out 4; have n5b := blk_cell HNb.out 5; have gk := blk_lt HKb.out; have gl := blk_lt HLb.out; have gn := blk_lt HNb.out; have y1b := cell_now HBb.out HY0.out; have gy := World.block_lt_of_cell? _ _ y1b; have nn := NN.out))
                          go_ret
                          exact ⟨by rw [HF.out]; rfl, below_step HB.out (below_step HBr.out HBb.out)⟩
                        | false =>
                          have NN := Aside0.mk nn
                          clear nn
                          have HB2 : Aside0 (colBad2 k x = false) := ⟨by simp [colBad2, hi0, he, DD.out, NN.out]⟩
                          cases hs : (x.f4.toList == t.f0.toList) with
                          | true =>
                            have hs' : (x.f4.toList != t.f0.toList) = false := by simp [bne, hs]
                            by_cases hy : y.f1 = x.f1
                            · have hy' : (y.f1 != x.f1) = false := by simp [hy]
                              have HCE : Aside0 (colE t k ts = 0) := ⟨by rw [HSP.out]; rw [HB1.out, if_neg (by decide), HB2.out, if_neg (by decide), he, if_neg (by decide)]; rw [ref_self hs hz HYY.out, if_neg (by simp [hy])]⟩
                              go_wp2_with (first
                                | (go_at_call 33; refine (mortmainref09_Name.calls kN x.f0 _ _ hN.out).mono ?_; rintro e wa ⟨rfl, hda⟩; have hba := drawn_below hda; have HKa := Aside0.mk (blk_below HKi.out hba); have HLa := Aside0.mk (blk_below HLi.out hba); have HNa := Aside0.mk (blk_below HNi.out hba); have HRa := Aside0.mk (Kd.C_below HRi.out hba); have HSa := Aside0.mk (Kd.C_below HSi.out hba); have HGa := Aside0.mk (Kd.C_below HGi.out hba); have HXa := Aside0.mk (Kd.C_below HXi.out hba); have HBa := Aside0.mk (below_step HBi.out hba); have k0a := blk_cell HKa.out 0; have k1a := blk_cell HKa.out 1; have k2a := blk_cell HKa.out 2; have k3a := blk_cell HKa.out 3; have l0a := blk_cell HLa.out 0; have l1a := blk_cell HLa.out 1; have l2a := blk_cell HLa.out 2; have n0a := blk_cell HNa.out 0; have n1a := blk_cell HNa.out 1; have n2a := blk_cell HNa.out 2; have n3a := blk_cell HNa.out 3; have n4a := blk_cell HNa.out 4; have n5a := blk_cell HNa.out 5)
                                | (go_at_call 35; refine (mortmainref09_Place.calls kP t.f0 t.f1 (some ad) c t.f2 A' c' t.f3 x.f0 _ _ HRa.out HC.out HXa.out HC3.out hP.out).mono ?_; rintro e wb ⟨rfl, hbb⟩; have HKb := Aside0.mk (blk_below HKa.out hbb); have HLb := Aside0.mk (blk_below HLa.out hbb); have HNb := Aside0.mk (blk_below HNa.out hbb); have HRb := Aside0.mk (Kd.C_below HRa.out hbb); have HSb := Aside0.mk (Kd.C_below HSa.out hbb); have HGb := Aside0.mk (Kd.C_below HGa.out hbb); have HXb := Aside0.mk (Kd.C_below HXa.out hbb); have HBb := Aside0.mk (below_step HBa.out hbb); clear k0a k1a k2a k3a l0a l1a l2a n0a n1a n2a n3a n4a n5a; have k0b := blk_cell HKb.out 0; have k1b := blk_cell HKb.out 1; have k2b := blk_cell HKb.out 2; have k3b := blk_cell HKb.out 3; have l0b := blk_cell HLb.out 0; have l1b := blk_cell HLb.out 1; have l2b := blk_cell HLb.out 2; have n0b := blk_cell HNb.out 0; have n1b := blk_cell HNb.out 1; have n2b := blk_cell HNb.out 2; have n3b := blk_cell HNb.out 3; have n4b := blk_cell HNb.out 4; have n5b := blk_cell HNb.out 5; have gk := blk_lt HKb.out; have gl := blk_lt HLb.out; have gn := blk_lt HNb.out; have y1b := cell_now HBb.out HY0.out; have gy := World.block_lt_of_cell? _ _ y1b; have nn := NN.out))
                              go_quiet (fail)
                              go_wp2
                              go_roundw
                              case rel => exact ⟨k + 1, by go_num, by omega, allC_next HA.out HCE.out, ⟨below_step HBr.out (pw_below_drewN (below_alloc HBb.out _) _)⟩⟩
                              case measure => simp [intOf]; omega
                            · have hy' : (y.f1 != x.f1) = true := by simp [hy]
                              have HCE : Aside0 (colE t k ts = 9) := ⟨by rw [HSP.out]; rw [HB1.out, if_neg (by decide), HB2.out, if_neg (by decide), he, if_neg (by decide)]; rw [ref_self hs hz HYY.out, if_pos hy]⟩
                              have HF : Aside0 (goodE t ts = 9) := ⟨by rw [HRES.out, colsE_hit hlt HA.out (by rw [HCE.out]; decide), HCE.out]; rfl⟩
                              go_wp2_with (first
                                | (go_at_call 33; refine (mortmainref09_Name.calls kN x.f0 _ _ hN.out).mono ?_; rintro e wa ⟨rfl, hda⟩; have hba := drawn_below hda; have HKa := Aside0.mk (blk_below HKi.out hba); have HLa := Aside0.mk (blk_below HLi.out hba); have HNa := Aside0.mk (blk_below HNi.out hba); have HRa := Aside0.mk (Kd.C_below HRi.out hba); have HSa := Aside0.mk (Kd.C_below HSi.out hba); have HGa := Aside0.mk (Kd.C_below HGi.out hba); have HXa := Aside0.mk (Kd.C_below HXi.out hba); have HBa := Aside0.mk (below_step HBi.out hba); have k0a := blk_cell HKa.out 0; have k1a := blk_cell HKa.out 1; have k2a := blk_cell HKa.out 2; have k3a := blk_cell HKa.out 3; have l0a := blk_cell HLa.out 0; have l1a := blk_cell HLa.out 1; have l2a := blk_cell HLa.out 2; have n0a := blk_cell HNa.out 0; have n1a := blk_cell HNa.out 1; have n2a := blk_cell HNa.out 2; have n3a := blk_cell HNa.out 3; have n4a := blk_cell HNa.out 4; have n5a := blk_cell HNa.out 5)
                                | (go_at_call 35; refine (mortmainref09_Place.calls kP t.f0 t.f1 (some ad) c t.f2 A' c' t.f3 x.f0 _ _ HRa.out HC.out HXa.out HC3.out hP.out).mono ?_; rintro e wb ⟨rfl, hbb⟩; have HKb := Aside0.mk (blk_below HKa.out hbb); have HLb := Aside0.mk (blk_below HLa.out hbb); have HNb := Aside0.mk (blk_below HNa.out hbb); have HRb := Aside0.mk (Kd.C_below HRa.out hbb); have HSb := Aside0.mk (Kd.C_below HSa.out hbb); have HGb := Aside0.mk (Kd.C_below HGa.out hbb); have HXb := Aside0.mk (Kd.C_below HXa.out hbb); have HBb := Aside0.mk (below_step HBa.out hbb); clear k0a k1a k2a k3a l0a l1a l2a n0a n1a n2a n3a n4a n5a; have k0b := blk_cell HKb.out 0; have k1b := blk_cell HKb.out 1; have k2b := blk_cell HKb.out 2; have k3b := blk_cell HKb.out 3; have l0b := blk_cell HLb.out 0; have l1b := blk_cell HLb.out 1; have l2b := blk_cell HLb.out 2; have n0b := blk_cell HNb.out 0; have n1b := blk_cell HNb.out 1; have n2b := blk_cell HNb.out 2; have n3b := blk_cell HNb.out 3; have n4b := blk_cell HNb.out 4; have n5b := blk_cell HNb.out 5; have gk := blk_lt HKb.out; have gl := blk_lt HLb.out; have gn := blk_lt HNb.out; have y1b := cell_now HBb.out HY0.out; have gy := World.block_lt_of_cell? _ _ y1b; have nn := NN.out))
                              go_quiet (fail)
                              go_wp2
                              go_ret
                              exact ⟨by rw [HF.out]; rfl, below_step HB.out (below_step HBr.out (pw_below_drewN (below_alloc HBb.out _) _))⟩
                          | false =>
                            have hs' : (x.f4.toList != t.f0.toList) = true := by simp [bne, hs]
                            by_cases hneg : findT ts x.f4 < 0
                            · have qneg := decide_eq_true hneg
                              have HCE : Aside0 (colE t k ts = 8) := ⟨by rw [HSP.out]; rw [HB1.out, if_neg (by decide), HB2.out, if_neg (by decide), he, if_neg (by decide)]; rw [ref_none hs hneg]⟩
                              have HF : Aside0 (goodE t ts = 8) := ⟨by rw [HRES.out, colsE_hit hlt HA.out (by rw [HCE.out]; decide), HCE.out]; rfl⟩
                              go_wp2_with (first
                                | (go_at_call 33; refine (mortmainref09_Name.calls kN x.f0 _ _ hN.out).mono ?_; rintro e wa ⟨rfl, hda⟩; have hba := drawn_below hda; have HKa := Aside0.mk (blk_below HKi.out hba); have HLa := Aside0.mk (blk_below HLi.out hba); have HNa := Aside0.mk (blk_below HNi.out hba); have HRa := Aside0.mk (Kd.C_below HRi.out hba); have HSa := Aside0.mk (Kd.C_below HSi.out hba); have HGa := Aside0.mk (Kd.C_below HGi.out hba); have HXa := Aside0.mk (Kd.C_below HXi.out hba); have HBa := Aside0.mk (below_step HBi.out hba); have k0a := blk_cell HKa.out 0; have k1a := blk_cell HKa.out 1; have k2a := blk_cell HKa.out 2; have k3a := blk_cell HKa.out 3; have l0a := blk_cell HLa.out 0; have l1a := blk_cell HLa.out 1; have l2a := blk_cell HLa.out 2; have n0a := blk_cell HNa.out 0; have n1a := blk_cell HNa.out 1; have n2a := blk_cell HNa.out 2; have n3a := blk_cell HNa.out 3; have n4a := blk_cell HNa.out 4; have n5a := blk_cell HNa.out 5)
                                | (go_at_call 35; refine (mortmainref09_Place.calls kP t.f0 t.f1 (some ad) c t.f2 A' c' t.f3 x.f0 _ _ HRa.out HC.out HXa.out HC3.out hP.out).mono ?_; rintro e wb ⟨rfl, hbb⟩; have HKb := Aside0.mk (blk_below HKa.out hbb); have HLb := Aside0.mk (blk_below HLa.out hbb); have HNb := Aside0.mk (blk_below HNa.out hbb); have HRb := Aside0.mk (Kd.C_below HRa.out hbb); have HSb := Aside0.mk (Kd.C_below HSa.out hbb); have HGb := Aside0.mk (Kd.C_below HGa.out hbb); have HXb := Aside0.mk (Kd.C_below HXa.out hbb); have HBb := Aside0.mk (below_step HBa.out hbb); clear k0a k1a k2a k3a l0a l1a l2a n0a n1a n2a n3a n4a n5a; have k0b := blk_cell HKb.out 0; have k1b := blk_cell HKb.out 1; have k2b := blk_cell HKb.out 2; have k3b := blk_cell HKb.out 3; have l0b := blk_cell HLb.out 0; have l1b := blk_cell HLb.out 1; have l2b := blk_cell HLb.out 2; have n0b := blk_cell HNb.out 0; have n1b := blk_cell HNb.out 1; have n2b := blk_cell HNb.out 2; have n3b := blk_cell HNb.out 3; have n4b := blk_cell HNb.out 4; have n5b := blk_cell HNb.out 5; have gk := blk_lt HKb.out; have gl := blk_lt HLb.out; have gn := blk_lt HNb.out; have y1b := cell_now HBb.out HY0.out; have gy := World.block_lt_of_cell? _ _ y1b; have nn := NN.out)
                                | (go_at_call 30; refine (mortmainref09_Find.calls kF v B d ts B' d' gs x.f4 _ _ (Kd.C_alloc HSb.out _) HD.out (Kd.C_alloc HGb.out _) HD'.out hF.out).mono ?_; rintro e wc ⟨rfl, hbc⟩; have hbo := below1 wb (.cells #[.string t.f0, .int .i64 t.f1, .slice (some ad) t.f2.length c, .slice A' t.f3.length c'] 45); have HOo := Aside0.mk (blk_new wb (.cells #[.string t.f0, .int .i64 t.f1, .slice (some ad) t.f2.length c, .slice A' t.f3.length c'] 45)); have HKo := Aside0.mk (blk_below HKb.out hbo); have HLo := Aside0.mk (blk_below HLb.out hbo); have HNo := Aside0.mk (blk_below HNb.out hbo); have HRo := Aside0.mk (Kd.C_below HRb.out hbo); have HSo := Aside0.mk (Kd.C_below HSb.out hbo); have HGo := Aside0.mk (Kd.C_below HGb.out hbo); have HXo := Aside0.mk (Kd.C_below HXb.out hbo); have HBo := Aside0.mk (below_step HBb.out hbo); have HKc := Aside0.mk (blk_below HKo.out hbc); have HLc := Aside0.mk (blk_below HLo.out hbc); have HNc := Aside0.mk (blk_below HNo.out hbc); have HOc := Aside0.mk (blk_below HOo.out hbc); have HRc := Aside0.mk (Kd.C_below HRo.out hbc); have HSc := Aside0.mk (Kd.C_below HSo.out hbc); have HGc := Aside0.mk (Kd.C_below HGo.out hbc); have HXc := Aside0.mk (Kd.C_below HXo.out hbc); have HBc := Aside0.mk (below_step HBo.out hbc); clear k0b k1b k2b k3b l0b l1b l2b n0b n1b n2b n3b n4b n5b; have k0c := blk_cell HKc.out 0; have k1c := blk_cell HKc.out 1; have k2c := blk_cell HKc.out 2; have k3c := blk_cell HKc.out 3; have l0c := blk_cell HLc.out 0; have l1c := blk_cell HLc.out 1; have l2c := blk_cell HLc.out 2; have n0c := blk_cell HNc.out 0; have n1c := blk_cell HNc.out 1; have n2c := blk_cell HNc.out 2; have n3c := blk_cell HNc.out 3; have n4c := blk_cell HNc.out 4; have n5c := blk_cell HNc.out 5; have o0 := blk_cell HOc.out 0; have o1 := blk_cell HOc.out 1; have o2 := blk_cell HOc.out 2; have o3 := blk_cell HOc.out 3; have q0 := blk_frozen HOc.out 0; have q1 := blk_frozen HOc.out 1; have q2 := blk_frozen HOc.out 2; have q3 := blk_frozen HOc.out 3))
                              go_ret
                              exact ⟨by rw [HF.out]; rfl, below_step HB.out (below_step HBr.out HBc.out)⟩
                            · have qneg := decide_eq_false hneg
                              have hrg := idx_range (isT x.f4) ts
                              have hj : findT ts x.f4 = ((findT ts x.f4).toNat : Int) := by omega
                              have hjl : (findT ts x.f4).toNat < ts.length := by have := hrg.2; unfold findT at hneg ⊢; omega
                              have hTT : theT ts x.f4 = ts.getD (findT ts x.f4).toNat z45 := by unfold theT; rw [if_neg hneg]
                              obtain ⟨adT, A2, c2, A3, c3, eT, ht0, ht1, ht2, ht3, hl2, hC2, hl3, hC3'⟩ := at_T45 HSr.out (((findT ts x.f4).toNat : Nat) : Int) (by omega) (by omega)
                              subst eT
                              simp only [Int.toNat_natCast, rd_T45] at ht0 ht1 ht2 ht3 hl2 hC2 hl3 hC3'
                              rw [← hTT] at ht0 ht1 ht2 ht3 hl2 hC2 hl3 hC3'
                              have HNEG := Aside0.mk hneg
                              have HFF := Aside0.mk hj
                              generalize hjj : (findT ts x.f4).toNat = j at hj hjl ht0 ht1 ht2 ht3 HFF
                              generalize hoo : theT ts x.f4 = o at ht0 ht1 ht2 ht3 hl2 hC2 hl3 hC3'
                              have HOO := Aside0.mk hoo
                              have t0 := cell_now HBi.out ht0
                              have t1 := cell_now HBi.out ht1
                              have t2 := cell_now HBi.out ht2
                              have t3 := cell_now HBi.out ht3
                              have hj0 : (0 : Int) ≤ (j : Int) := by omega
                              have hj1 : (j : Int) < (ts.length : Int) := by omega
                              have qj : decide ((j : Int) < 0) = false := decide_eq_false (by omega)
                              clear ht0 ht1 ht2 ht3 hTT hl2 hl3 hC3' hneg qneg hj hjj hoo hrg
                              by_cases hzo : o.f2.length = 0
                              · have qz : ((o.f2.length : Int) == 0) = true := by simp [hzo]
                                have HZO := Aside0.mk hzo
                                clear hzo
                                have HCE : Aside0 (colE t k ts = 8) := ⟨by rw [HSP.out]; rw [HB1.out, if_neg (by decide), HB2.out, if_neg (by decide), he, if_neg (by decide)]; rw [ref_empty hs (by rw [HOO.out]; exact HZO.out)]⟩
                                have HF : Aside0 (goodE t ts = 8) := ⟨by rw [HRES.out, colsE_hit hlt HA.out (by rw [HCE.out]; decide), HCE.out]; rfl⟩
                                go_wp2_with (first
                                  | (go_at_call 33; refine (mortmainref09_Name.calls kN x.f0 _ _ hN.out).mono ?_; rintro e wa ⟨rfl, hda⟩; have hba := drawn_below hda; have HKa := Aside0.mk (blk_below HKi.out hba); have HLa := Aside0.mk (blk_below HLi.out hba); have HNa := Aside0.mk (blk_below HNi.out hba); have HRa := Aside0.mk (Kd.C_below HRi.out hba); have HSa := Aside0.mk (Kd.C_below HSi.out hba); have HGa := Aside0.mk (Kd.C_below HGi.out hba); have HXa := Aside0.mk (Kd.C_below HXi.out hba); have HBa := Aside0.mk (below_step HBi.out hba); have k0a := blk_cell HKa.out 0; have k1a := blk_cell HKa.out 1; have k2a := blk_cell HKa.out 2; have k3a := blk_cell HKa.out 3; have l0a := blk_cell HLa.out 0; have l1a := blk_cell HLa.out 1; have l2a := blk_cell HLa.out 2; have n0a := blk_cell HNa.out 0; have n1a := blk_cell HNa.out 1; have n2a := blk_cell HNa.out 2; have n3a := blk_cell HNa.out 3; have n4a := blk_cell HNa.out 4; have n5a := blk_cell HNa.out 5)
                                  | (go_at_call 35; refine (mortmainref09_Place.calls kP t.f0 t.f1 (some ad) c t.f2 A' c' t.f3 x.f0 _ _ HRa.out HC.out HXa.out HC3.out hP.out).mono ?_; rintro e wb ⟨rfl, hbb⟩; have HKb := Aside0.mk (blk_below HKa.out hbb); have HLb := Aside0.mk (blk_below HLa.out hbb); have HNb := Aside0.mk (blk_below HNa.out hbb); have HRb := Aside0.mk (Kd.C_below HRa.out hbb); have HSb := Aside0.mk (Kd.C_below HSa.out hbb); have HGb := Aside0.mk (Kd.C_below HGa.out hbb); have HXb := Aside0.mk (Kd.C_below HXa.out hbb); have HBb := Aside0.mk (below_step HBa.out hbb); clear k0a k1a k2a k3a l0a l1a l2a n0a n1a n2a n3a n4a n5a; have k0b := blk_cell HKb.out 0; have k1b := blk_cell HKb.out 1; have k2b := blk_cell HKb.out 2; have k3b := blk_cell HKb.out 3; have l0b := blk_cell HLb.out 0; have l1b := blk_cell HLb.out 1; have l2b := blk_cell HLb.out 2; have n0b := blk_cell HNb.out 0; have n1b := blk_cell HNb.out 1; have n2b := blk_cell HNb.out 2; have n3b := blk_cell HNb.out 3; have n4b := blk_cell HNb.out 4; have n5b := blk_cell HNb.out 5; have gk := blk_lt HKb.out; have gl := blk_lt HLb.out; have gn := blk_lt HNb.out; have y1b := cell_now HBb.out HY0.out; have gy := World.block_lt_of_cell? _ _ y1b; have nn := NN.out)
                                  | (go_at_call 30; refine (mortmainref09_Find.calls kF v (some adT) d ts B' d' gs x.f4 _ _ (Kd.C_alloc HSb.out _) HD.out (Kd.C_alloc HGb.out _) HD'.out hF.out).mono ?_; rintro e wc ⟨rfl, hbc⟩; have hbo := below1 wb (.cells #[.string t.f0, .int .i64 t.f1, .slice (some ad) t.f2.length c, .slice A' t.f3.length c'] 45); have HOo := Aside0.mk (blk_new wb (.cells #[.string t.f0, .int .i64 t.f1, .slice (some ad) t.f2.length c, .slice A' t.f3.length c'] 45)); have HKo := Aside0.mk (blk_below HKb.out hbo); have HLo := Aside0.mk (blk_below HLb.out hbo); have HNo := Aside0.mk (blk_below HNb.out hbo); have HRo := Aside0.mk (Kd.C_below HRb.out hbo); have HSo := Aside0.mk (Kd.C_below HSb.out hbo); have HGo := Aside0.mk (Kd.C_below HGb.out hbo); have HXo := Aside0.mk (Kd.C_below HXb.out hbo); have HBo := Aside0.mk (below_step HBb.out hbo); have HKc := Aside0.mk (blk_below HKo.out hbc); have HLc := Aside0.mk (blk_below HLo.out hbc); have HNc := Aside0.mk (blk_below HNo.out hbc); have HOc := Aside0.mk (blk_below HOo.out hbc); have HRc := Aside0.mk (Kd.C_below HRo.out hbc); have HSc := Aside0.mk (Kd.C_below HSo.out hbc); have HGc := Aside0.mk (Kd.C_below HGo.out hbc); have HXc := Aside0.mk (Kd.C_below HXo.out hbc); have HBc := Aside0.mk (below_step HBo.out hbc); clear k0b k1b k2b k3b l0b l1b l2b n0b n1b n2b n3b n4b n5b; have k0c := blk_cell HKc.out 0; have k1c := blk_cell HKc.out 1; have k2c := blk_cell HKc.out 2; have k3c := blk_cell HKc.out 3; have l0c := blk_cell HLc.out 0; have l1c := blk_cell HLc.out 1; have l2c := blk_cell HLc.out 2; have n0c := blk_cell HNc.out 0; have n1c := blk_cell HNc.out 1; have n2c := blk_cell HNc.out 2; have n3c := blk_cell HNc.out 3; have n4c := blk_cell HNc.out 4; have n5c := blk_cell HNc.out 5; have o0 := blk_cell HOc.out 0; have o1 := blk_cell HOc.out 1; have o2 := blk_cell HOc.out 2; have o3 := blk_cell HOc.out 3; have q0 := blk_frozen HOc.out 0; have q1 := blk_frozen HOc.out 1; have q2 := blk_frozen HOc.out 2; have q3 := blk_frozen HOc.out 3; rw [HFF.out]; have tc0 := cell_now hbc (cell_now hbo (cell_now hbb (cell_now hba t0))); have tc1 := cell_now hbc (cell_now hbo (cell_now hbb (cell_now hba t1))); have tc2 := cell_now hbc (cell_now hbo (cell_now hbb (cell_now hba t2))); have tc3 := cell_now hbc (cell_now hbo (cell_now hbb (cell_now hba t3)))))
                                go_ret
                                exact ⟨by rw [HF.out]; rfl, below_step HB.out (below_step HBr.out HBc.out)⟩
                              · have qz : ((o.f2.length : Int) == 0) = false := by simp [hzo]
                                have HZO := Aside0.mk hzo
                                have hz1 : (0 : Int) < (o.f2.length : Int) := by omega
                                have hz4 : 0 < o.f2.length := by omega
                                obtain ⟨ad2, eA, _, hz2, _, _, _, _⟩ := at_T59 hC2 0 (by omega) hz1
                                subst eA
                                simp only [Int.toNat_zero, rd_T59, Nat.zero_mul, add_none] at hz2
                                generalize hzz : o.f2.getD 0 z59 = z at hz2
                                have HZZ := Aside0.mk hzz
                                clear hzz hC2
                                have z1 := cell_now HBi.out hz2
                                clear hz2
                                by_cases hy : z.f1 = x.f1
                                · have hy' : (z.f1 != x.f1) = false := by simp [hy]
                                  have HY := Aside0.mk hy
                                  clear hy
                                  have HCE : Aside0 (colE t k ts = 0) := ⟨by rw [HSP.out]; rw [HB1.out, if_neg (by decide), HB2.out, if_neg (by decide), he, if_neg (by decide)]; rw [ref_other (z := z) hs HNEG.out (by rw [HOO.out]; exact HZO.out) (by rw [HOO.out]; exact HZZ.out), if_neg (by simp [HY.out])]⟩
                                  go_wp2_with (first
                                    | (go_at_call 33; refine (mortmainref09_Name.calls kN x.f0 _ _ hN.out).mono ?_; rintro e wa ⟨rfl, hda⟩; have hba := drawn_below hda; have HKa := Aside0.mk (blk_below HKi.out hba); have HLa := Aside0.mk (blk_below HLi.out hba); have HNa := Aside0.mk (blk_below HNi.out hba); have HRa := Aside0.mk (Kd.C_below HRi.out hba); have HSa := Aside0.mk (Kd.C_below HSi.out hba); have HGa := Aside0.mk (Kd.C_below HGi.out hba); have HXa := Aside0.mk (Kd.C_below HXi.out hba); have HBa := Aside0.mk (below_step HBi.out hba); have k0a := blk_cell HKa.out 0; have k1a := blk_cell HKa.out 1; have k2a := blk_cell HKa.out 2; have k3a := blk_cell HKa.out 3; have l0a := blk_cell HLa.out 0; have l1a := blk_cell HLa.out 1; have l2a := blk_cell HLa.out 2; have n0a := blk_cell HNa.out 0; have n1a := blk_cell HNa.out 1; have n2a := blk_cell HNa.out 2; have n3a := blk_cell HNa.out 3; have n4a := blk_cell HNa.out 4; have n5a := blk_cell HNa.out 5)
                                    | (go_at_call 35; refine (mortmainref09_Place.calls kP t.f0 t.f1 (some ad) c t.f2 A' c' t.f3 x.f0 _ _ HRa.out HC.out HXa.out HC3.out hP.out).mono ?_; rintro e wb ⟨rfl, hbb⟩; have HKb := Aside0.mk (blk_below HKa.out hbb); have HLb := Aside0.mk (blk_below HLa.out hbb); have HNb := Aside0.mk (blk_below HNa.out hbb); have HRb := Aside0.mk (Kd.C_below HRa.out hbb); have HSb := Aside0.mk (Kd.C_below HSa.out hbb); have HGb := Aside0.mk (Kd.C_below HGa.out hbb); have HXb := Aside0.mk (Kd.C_below HXa.out hbb); have HBb := Aside0.mk (below_step HBa.out hbb); clear k0a k1a k2a k3a l0a l1a l2a n0a n1a n2a n3a n4a n5a; have k0b := blk_cell HKb.out 0; have k1b := blk_cell HKb.out 1; have k2b := blk_cell HKb.out 2; have k3b := blk_cell HKb.out 3; have l0b := blk_cell HLb.out 0; have l1b := blk_cell HLb.out 1; have l2b := blk_cell HLb.out 2; have n0b := blk_cell HNb.out 0; have n1b := blk_cell HNb.out 1; have n2b := blk_cell HNb.out 2; have n3b := blk_cell HNb.out 3; have n4b := blk_cell HNb.out 4; have n5b := blk_cell HNb.out 5; have gk := blk_lt HKb.out; have gl := blk_lt HLb.out; have gn := blk_lt HNb.out; have y1b := cell_now HBb.out HY0.out; have gy := World.block_lt_of_cell? _ _ y1b; have nn := NN.out)
                                    | (go_at_call 30; refine (mortmainref09_Find.calls kF v (some adT) d ts B' d' gs x.f4 _ _ (Kd.C_alloc HSb.out _) HD.out (Kd.C_alloc HGb.out _) HD'.out hF.out).mono ?_; rintro e wc ⟨rfl, hbc⟩; have hbo := below1 wb (.cells #[.string t.f0, .int .i64 t.f1, .slice (some ad) t.f2.length c, .slice A' t.f3.length c'] 45); have HOo := Aside0.mk (blk_new wb (.cells #[.string t.f0, .int .i64 t.f1, .slice (some ad) t.f2.length c, .slice A' t.f3.length c'] 45)); have HKo := Aside0.mk (blk_below HKb.out hbo); have HLo := Aside0.mk (blk_below HLb.out hbo); have HNo := Aside0.mk (blk_below HNb.out hbo); have HRo := Aside0.mk (Kd.C_below HRb.out hbo); have HSo := Aside0.mk (Kd.C_below HSb.out hbo); have HGo := Aside0.mk (Kd.C_below HGb.out hbo); have HXo := Aside0.mk (Kd.C_below HXb.out hbo); have HBo := Aside0.mk (below_step HBb.out hbo); have HKc := Aside0.mk (blk_below HKo.out hbc); have HLc := Aside0.mk (blk_below HLo.out hbc); have HNc := Aside0.mk (blk_below HNo.out hbc); have HOc := Aside0.mk (blk_below HOo.out hbc); have HRc := Aside0.mk (Kd.C_below HRo.out hbc); have HSc := Aside0.mk (Kd.C_below HSo.out hbc); have HGc := Aside0.mk (Kd.C_below HGo.out hbc); have HXc := Aside0.mk (Kd.C_below HXo.out hbc); have HBc := Aside0.mk (below_step HBo.out hbc); clear k0b k1b k2b k3b l0b l1b l2b n0b n1b n2b n3b n4b n5b; have k0c := blk_cell HKc.out 0; have k1c := blk_cell HKc.out 1; have k2c := blk_cell HKc.out 2; have k3c := blk_cell HKc.out 3; have l0c := blk_cell HLc.out 0; have l1c := blk_cell HLc.out 1; have l2c := blk_cell HLc.out 2; have n0c := blk_cell HNc.out 0; have n1c := blk_cell HNc.out 1; have n2c := blk_cell HNc.out 2; have n3c := blk_cell HNc.out 3; have n4c := blk_cell HNc.out 4; have n5c := blk_cell HNc.out 5; have o0 := blk_cell HOc.out 0; have o1 := blk_cell HOc.out 1; have o2 := blk_cell HOc.out 2; have o3 := blk_cell HOc.out 3; have q0 := blk_frozen HOc.out 0; have q1 := blk_frozen HOc.out 1; have q2 := blk_frozen HOc.out 2; have q3 := blk_frozen HOc.out 3; rw [HFF.out]; have tc0 := cell_now hbc (cell_now hbo (cell_now hbb (cell_now hba t0))); have tc1 := cell_now hbc (cell_now hbo (cell_now hbb (cell_now hba t1))); have tc2 := cell_now hbc (cell_now hbo (cell_now hbb (cell_now hba t2))); have tc3 := cell_now hbc (cell_now hbo (cell_now hbb (cell_now hba t3))); have zc1 := cell_now hbc (cell_now hbo (cell_now hbb (cell_now hba z1))); have gz := World.block_lt_of_cell? wb _ (cell_now hbb (cell_now hba z1))))
                                  go_quiet (fail)
                                  go_wp2
                                  go_roundw
                                  case rel => exact ⟨k + 1, by go_num, by omega, allC_next HA.out HCE.out, ⟨below_step HBr.out (pw_below_drewN ((((HBc.out.setCell (by have := HBb.out.size; exact this) _).setCell (by have := HBb.out.size; exact this) _).setCell (by have := HBb.out.size; exact this) _).setCell (by have := HBb.out.size; exact this) _) _)⟩⟩
                                  case measure => simp [intOf]; omega
                                · have hy' : (z.f1 != x.f1) = true := by simp [hy]
                                  have HCE : Aside0 (colE t k ts = 9) := ⟨by rw [HSP.out]; rw [HB1.out, if_neg (by decide), HB2.out, if_neg (by decide), he, if_neg (by decide)]; rw [ref_other (z := z) hs HNEG.out (by rw [HOO.out]; exact HZO.out) (by rw [HOO.out]; exact HZZ.out), if_pos hy]⟩
                                  have HF : Aside0 (goodE t ts = 9) := ⟨by rw [HRES.out, colsE_hit hlt HA.out (by rw [HCE.out]; decide), HCE.out]; rfl⟩
                                  go_wp2_with (first
                                    | (go_at_call 33; refine (mortmainref09_Name.calls kN x.f0 _ _ hN.out).mono ?_; rintro e wa ⟨rfl, hda⟩; have hba := drawn_below hda; have HKa := Aside0.mk (blk_below HKi.out hba); have HLa := Aside0.mk (blk_below HLi.out hba); have HNa := Aside0.mk (blk_below HNi.out hba); have HRa := Aside0.mk (Kd.C_below HRi.out hba); have HSa := Aside0.mk (Kd.C_below HSi.out hba); have HGa := Aside0.mk (Kd.C_below HGi.out hba); have HXa := Aside0.mk (Kd.C_below HXi.out hba); have HBa := Aside0.mk (below_step HBi.out hba); have k0a := blk_cell HKa.out 0; have k1a := blk_cell HKa.out 1; have k2a := blk_cell HKa.out 2; have k3a := blk_cell HKa.out 3; have l0a := blk_cell HLa.out 0; have l1a := blk_cell HLa.out 1; have l2a := blk_cell HLa.out 2; have n0a := blk_cell HNa.out 0; have n1a := blk_cell HNa.out 1; have n2a := blk_cell HNa.out 2; have n3a := blk_cell HNa.out 3; have n4a := blk_cell HNa.out 4; have n5a := blk_cell HNa.out 5)
                                    | (go_at_call 35; refine (mortmainref09_Place.calls kP t.f0 t.f1 (some ad) c t.f2 A' c' t.f3 x.f0 _ _ HRa.out HC.out HXa.out HC3.out hP.out).mono ?_; rintro e wb ⟨rfl, hbb⟩; have HKb := Aside0.mk (blk_below HKa.out hbb); have HLb := Aside0.mk (blk_below HLa.out hbb); have HNb := Aside0.mk (blk_below HNa.out hbb); have HRb := Aside0.mk (Kd.C_below HRa.out hbb); have HSb := Aside0.mk (Kd.C_below HSa.out hbb); have HGb := Aside0.mk (Kd.C_below HGa.out hbb); have HXb := Aside0.mk (Kd.C_below HXa.out hbb); have HBb := Aside0.mk (below_step HBa.out hbb); clear k0a k1a k2a k3a l0a l1a l2a n0a n1a n2a n3a n4a n5a; have k0b := blk_cell HKb.out 0; have k1b := blk_cell HKb.out 1; have k2b := blk_cell HKb.out 2; have k3b := blk_cell HKb.out 3; have l0b := blk_cell HLb.out 0; have l1b := blk_cell HLb.out 1; have l2b := blk_cell HLb.out 2; have n0b := blk_cell HNb.out 0; have n1b := blk_cell HNb.out 1; have n2b := blk_cell HNb.out 2; have n3b := blk_cell HNb.out 3; have n4b := blk_cell HNb.out 4; have n5b := blk_cell HNb.out 5; have gk := blk_lt HKb.out; have gl := blk_lt HLb.out; have gn := blk_lt HNb.out; have y1b := cell_now HBb.out HY0.out; have gy := World.block_lt_of_cell? _ _ y1b; have nn := NN.out)
                                    | (go_at_call 30; refine (mortmainref09_Find.calls kF v (some adT) d ts B' d' gs x.f4 _ _ (Kd.C_alloc HSb.out _) HD.out (Kd.C_alloc HGb.out _) HD'.out hF.out).mono ?_; rintro e wc ⟨rfl, hbc⟩; have hbo := below1 wb (.cells #[.string t.f0, .int .i64 t.f1, .slice (some ad) t.f2.length c, .slice A' t.f3.length c'] 45); have HOo := Aside0.mk (blk_new wb (.cells #[.string t.f0, .int .i64 t.f1, .slice (some ad) t.f2.length c, .slice A' t.f3.length c'] 45)); have HKo := Aside0.mk (blk_below HKb.out hbo); have HLo := Aside0.mk (blk_below HLb.out hbo); have HNo := Aside0.mk (blk_below HNb.out hbo); have HRo := Aside0.mk (Kd.C_below HRb.out hbo); have HSo := Aside0.mk (Kd.C_below HSb.out hbo); have HGo := Aside0.mk (Kd.C_below HGb.out hbo); have HXo := Aside0.mk (Kd.C_below HXb.out hbo); have HBo := Aside0.mk (below_step HBb.out hbo); have HKc := Aside0.mk (blk_below HKo.out hbc); have HLc := Aside0.mk (blk_below HLo.out hbc); have HNc := Aside0.mk (blk_below HNo.out hbc); have HOc := Aside0.mk (blk_below HOo.out hbc); have HRc := Aside0.mk (Kd.C_below HRo.out hbc); have HSc := Aside0.mk (Kd.C_below HSo.out hbc); have HGc := Aside0.mk (Kd.C_below HGo.out hbc); have HXc := Aside0.mk (Kd.C_below HXo.out hbc); have HBc := Aside0.mk (below_step HBo.out hbc); clear k0b k1b k2b k3b l0b l1b l2b n0b n1b n2b n3b n4b n5b; have k0c := blk_cell HKc.out 0; have k1c := blk_cell HKc.out 1; have k2c := blk_cell HKc.out 2; have k3c := blk_cell HKc.out 3; have l0c := blk_cell HLc.out 0; have l1c := blk_cell HLc.out 1; have l2c := blk_cell HLc.out 2; have n0c := blk_cell HNc.out 0; have n1c := blk_cell HNc.out 1; have n2c := blk_cell HNc.out 2; have n3c := blk_cell HNc.out 3; have n4c := blk_cell HNc.out 4; have n5c := blk_cell HNc.out 5; have o0 := blk_cell HOc.out 0; have o1 := blk_cell HOc.out 1; have o2 := blk_cell HOc.out 2; have o3 := blk_cell HOc.out 3; have q0 := blk_frozen HOc.out 0; have q1 := blk_frozen HOc.out 1; have q2 := blk_frozen HOc.out 2; have q3 := blk_frozen HOc.out 3; rw [HFF.out]; have tc0 := cell_now hbc (cell_now hbo (cell_now hbb (cell_now hba t0))); have tc1 := cell_now hbc (cell_now hbo (cell_now hbb (cell_now hba t1))); have tc2 := cell_now hbc (cell_now hbo (cell_now hbb (cell_now hba t2))); have tc3 := cell_now hbc (cell_now hbo (cell_now hbb (cell_now hba t3))); have zc1 := cell_now hbc (cell_now hbo (cell_now hbb (cell_now hba z1))); have gz := World.block_lt_of_cell? wb _ (cell_now hbb (cell_now hba z1))))
                                  go_quiet (fail)
                                  go_wp2
                                  go_ret
                                  exact ⟨by rw [HF.out]; rfl, below_step HB.out (below_step HBr.out (pw_below_drewN ((((HBc.out.setCell (by have := HBb.out.size; exact this) _).setCell (by have := HBb.out.size; exact this) _).setCell (by have := HBb.out.size; exact this) _).setCell (by have := HBb.out.size; exact this) _) _))⟩
                      · have e2 : (x.f5 == 2) = false := by simp [dd]
                        have HB2 : Aside0 (colBad2 k x = false) := ⟨by simp [colBad2, hi0, he, dd]⟩
                        cases hs : (x.f4.toList == t.f0.toList) with
                        | true =>
                          have hs' : (x.f4.toList != t.f0.toList) = false := by simp [bne, hs]
                          by_cases hy : y.f1 = x.f1
                          · have hy' : (y.f1 != x.f1) = false := by simp [hy]
                            have HCE : Aside0 (colE t k ts = 0) := ⟨by rw [HSP.out]; rw [HB1.out, if_neg (by decide), HB2.out, if_neg (by decide), he, if_neg (by decide)]; rw [ref_self hs hz HYY.out, if_neg (by simp [hy])]⟩
                            go_wp2_with (first
                              | (go_at_call 33; refine (mortmainref09_Name.calls kN x.f0 _ _ hN.out).mono ?_; rintro e wa ⟨rfl, hda⟩; have hba := drawn_below hda; have HKa := Aside0.mk (blk_below HKi.out hba); have HLa := Aside0.mk (blk_below HLi.out hba); have HNa := Aside0.mk (blk_below HNi.out hba); have HRa := Aside0.mk (Kd.C_below HRi.out hba); have HSa := Aside0.mk (Kd.C_below HSi.out hba); have HGa := Aside0.mk (Kd.C_below HGi.out hba); have HXa := Aside0.mk (Kd.C_below HXi.out hba); have HBa := Aside0.mk (below_step HBi.out hba); have k0a := blk_cell HKa.out 0; have k1a := blk_cell HKa.out 1; have k2a := blk_cell HKa.out 2; have k3a := blk_cell HKa.out 3; have l0a := blk_cell HLa.out 0; have l1a := blk_cell HLa.out 1; have l2a := blk_cell HLa.out 2; have n0a := blk_cell HNa.out 0; have n1a := blk_cell HNa.out 1; have n2a := blk_cell HNa.out 2; have n3a := blk_cell HNa.out 3; have n4a := blk_cell HNa.out 4; have n5a := blk_cell HNa.out 5)
                              | (go_at_call 35; refine (mortmainref09_Place.calls kP t.f0 t.f1 (some ad) c t.f2 A' c' t.f3 x.f0 _ _ HRa.out HC.out HXa.out HC3.out hP.out).mono ?_; rintro e wb ⟨rfl, hbb⟩; have HKb := Aside0.mk (blk_below HKa.out hbb); have HLb := Aside0.mk (blk_below HLa.out hbb); have HNb := Aside0.mk (blk_below HNa.out hbb); have HRb := Aside0.mk (Kd.C_below HRa.out hbb); have HSb := Aside0.mk (Kd.C_below HSa.out hbb); have HGb := Aside0.mk (Kd.C_below HGa.out hbb); have HXb := Aside0.mk (Kd.C_below HXa.out hbb); have HBb := Aside0.mk (below_step HBa.out hbb); clear k0a k1a k2a k3a l0a l1a l2a n0a n1a n2a n3a n4a n5a; have k0b := blk_cell HKb.out 0; have k1b := blk_cell HKb.out 1; have k2b := blk_cell HKb.out 2; have k3b := blk_cell HKb.out 3; have l0b := blk_cell HLb.out 0; have l1b := blk_cell HLb.out 1; have l2b := blk_cell HLb.out 2; have n0b := blk_cell HNb.out 0; have n1b := blk_cell HNb.out 1; have n2b := blk_cell HNb.out 2; have n3b := blk_cell HNb.out 3; have n4b := blk_cell HNb.out 4; have n5b := blk_cell HNb.out 5; have gk := blk_lt HKb.out; have gl := blk_lt HLb.out; have gn := blk_lt HNb.out; have y1b := cell_now HBb.out HY0.out; have gy := World.block_lt_of_cell? _ _ y1b))
                            go_quiet (fail)
                            go_wp2
                            go_roundw
                            case rel => exact ⟨k + 1, by go_num, by omega, allC_next HA.out HCE.out, ⟨below_step HBr.out (pw_below_drewN (below_alloc HBb.out _) _)⟩⟩
                            case measure => simp [intOf]; omega
                          · have hy' : (y.f1 != x.f1) = true := by simp [hy]
                            have HCE : Aside0 (colE t k ts = 9) := ⟨by rw [HSP.out]; rw [HB1.out, if_neg (by decide), HB2.out, if_neg (by decide), he, if_neg (by decide)]; rw [ref_self hs hz HYY.out, if_pos hy]⟩
                            have HF : Aside0 (goodE t ts = 9) := ⟨by rw [HRES.out, colsE_hit hlt HA.out (by rw [HCE.out]; decide), HCE.out]; rfl⟩
                            go_wp2_with (first
                              | (go_at_call 33; refine (mortmainref09_Name.calls kN x.f0 _ _ hN.out).mono ?_; rintro e wa ⟨rfl, hda⟩; have hba := drawn_below hda; have HKa := Aside0.mk (blk_below HKi.out hba); have HLa := Aside0.mk (blk_below HLi.out hba); have HNa := Aside0.mk (blk_below HNi.out hba); have HRa := Aside0.mk (Kd.C_below HRi.out hba); have HSa := Aside0.mk (Kd.C_below HSi.out hba); have HGa := Aside0.mk (Kd.C_below HGi.out hba); have HXa := Aside0.mk (Kd.C_below HXi.out hba); have HBa := Aside0.mk (below_step HBi.out hba); have k0a := blk_cell HKa.out 0; have k1a := blk_cell HKa.out 1; have k2a := blk_cell HKa.out 2; have k3a := blk_cell HKa.out 3; have l0a := blk_cell HLa.out 0; have l1a := blk_cell HLa.out 1; have l2a := blk_cell HLa.out 2; have n0a := blk_cell HNa.out 0; have n1a := blk_cell HNa.out 1; have n2a := blk_cell HNa.out 2; have n3a := blk_cell HNa.out 3; have n4a := blk_cell HNa.out 4; have n5a := blk_cell HNa.out 5)
                              | (go_at_call 35; refine (mortmainref09_Place.calls kP t.f0 t.f1 (some ad) c t.f2 A' c' t.f3 x.f0 _ _ HRa.out HC.out HXa.out HC3.out hP.out).mono ?_; rintro e wb ⟨rfl, hbb⟩; have HKb := Aside0.mk (blk_below HKa.out hbb); have HLb := Aside0.mk (blk_below HLa.out hbb); have HNb := Aside0.mk (blk_below HNa.out hbb); have HRb := Aside0.mk (Kd.C_below HRa.out hbb); have HSb := Aside0.mk (Kd.C_below HSa.out hbb); have HGb := Aside0.mk (Kd.C_below HGa.out hbb); have HXb := Aside0.mk (Kd.C_below HXa.out hbb); have HBb := Aside0.mk (below_step HBa.out hbb); clear k0a k1a k2a k3a l0a l1a l2a n0a n1a n2a n3a n4a n5a; have k0b := blk_cell HKb.out 0; have k1b := blk_cell HKb.out 1; have k2b := blk_cell HKb.out 2; have k3b := blk_cell HKb.out 3; have l0b := blk_cell HLb.out 0; have l1b := blk_cell HLb.out 1; have l2b := blk_cell HLb.out 2; have n0b := blk_cell HNb.out 0; have n1b := blk_cell HNb.out 1; have n2b := blk_cell HNb.out 2; have n3b := blk_cell HNb.out 3; have n4b := blk_cell HNb.out 4; have n5b := blk_cell HNb.out 5; have gk := blk_lt HKb.out; have gl := blk_lt HLb.out; have gn := blk_lt HNb.out; have y1b := cell_now HBb.out HY0.out; have gy := World.block_lt_of_cell? _ _ y1b))
                            go_quiet (fail)
                            go_wp2
                            go_ret
                            exact ⟨by rw [HF.out]; rfl, below_step HB.out (below_step HBr.out (pw_below_drewN (below_alloc HBb.out _) _))⟩
                        | false =>
                          have hs' : (x.f4.toList != t.f0.toList) = true := by simp [bne, hs]
                          by_cases hneg : findT ts x.f4 < 0
                          · have qneg := decide_eq_true hneg
                            have HCE : Aside0 (colE t k ts = 8) := ⟨by rw [HSP.out]; rw [HB1.out, if_neg (by decide), HB2.out, if_neg (by decide), he, if_neg (by decide)]; rw [ref_none hs hneg]⟩
                            have HF : Aside0 (goodE t ts = 8) := ⟨by rw [HRES.out, colsE_hit hlt HA.out (by rw [HCE.out]; decide), HCE.out]; rfl⟩
                            go_wp2_with (first
                              | (go_at_call 33; refine (mortmainref09_Name.calls kN x.f0 _ _ hN.out).mono ?_; rintro e wa ⟨rfl, hda⟩; have hba := drawn_below hda; have HKa := Aside0.mk (blk_below HKi.out hba); have HLa := Aside0.mk (blk_below HLi.out hba); have HNa := Aside0.mk (blk_below HNi.out hba); have HRa := Aside0.mk (Kd.C_below HRi.out hba); have HSa := Aside0.mk (Kd.C_below HSi.out hba); have HGa := Aside0.mk (Kd.C_below HGi.out hba); have HXa := Aside0.mk (Kd.C_below HXi.out hba); have HBa := Aside0.mk (below_step HBi.out hba); have k0a := blk_cell HKa.out 0; have k1a := blk_cell HKa.out 1; have k2a := blk_cell HKa.out 2; have k3a := blk_cell HKa.out 3; have l0a := blk_cell HLa.out 0; have l1a := blk_cell HLa.out 1; have l2a := blk_cell HLa.out 2; have n0a := blk_cell HNa.out 0; have n1a := blk_cell HNa.out 1; have n2a := blk_cell HNa.out 2; have n3a := blk_cell HNa.out 3; have n4a := blk_cell HNa.out 4; have n5a := blk_cell HNa.out 5)
                              | (go_at_call 35; refine (mortmainref09_Place.calls kP t.f0 t.f1 (some ad) c t.f2 A' c' t.f3 x.f0 _ _ HRa.out HC.out HXa.out HC3.out hP.out).mono ?_; rintro e wb ⟨rfl, hbb⟩; have HKb := Aside0.mk (blk_below HKa.out hbb); have HLb := Aside0.mk (blk_below HLa.out hbb); have HNb := Aside0.mk (blk_below HNa.out hbb); have HRb := Aside0.mk (Kd.C_below HRa.out hbb); have HSb := Aside0.mk (Kd.C_below HSa.out hbb); have HGb := Aside0.mk (Kd.C_below HGa.out hbb); have HXb := Aside0.mk (Kd.C_below HXa.out hbb); have HBb := Aside0.mk (below_step HBa.out hbb); clear k0a k1a k2a k3a l0a l1a l2a n0a n1a n2a n3a n4a n5a; have k0b := blk_cell HKb.out 0; have k1b := blk_cell HKb.out 1; have k2b := blk_cell HKb.out 2; have k3b := blk_cell HKb.out 3; have l0b := blk_cell HLb.out 0; have l1b := blk_cell HLb.out 1; have l2b := blk_cell HLb.out 2; have n0b := blk_cell HNb.out 0; have n1b := blk_cell HNb.out 1; have n2b := blk_cell HNb.out 2; have n3b := blk_cell HNb.out 3; have n4b := blk_cell HNb.out 4; have n5b := blk_cell HNb.out 5; have gk := blk_lt HKb.out; have gl := blk_lt HLb.out; have gn := blk_lt HNb.out; have y1b := cell_now HBb.out HY0.out; have gy := World.block_lt_of_cell? _ _ y1b)
                              | (go_at_call 30; refine (mortmainref09_Find.calls kF v B d ts B' d' gs x.f4 _ _ (Kd.C_alloc HSb.out _) HD.out (Kd.C_alloc HGb.out _) HD'.out hF.out).mono ?_; rintro e wc ⟨rfl, hbc⟩; have hbo := below1 wb (.cells #[.string t.f0, .int .i64 t.f1, .slice (some ad) t.f2.length c, .slice A' t.f3.length c'] 45); have HOo := Aside0.mk (blk_new wb (.cells #[.string t.f0, .int .i64 t.f1, .slice (some ad) t.f2.length c, .slice A' t.f3.length c'] 45)); have HKo := Aside0.mk (blk_below HKb.out hbo); have HLo := Aside0.mk (blk_below HLb.out hbo); have HNo := Aside0.mk (blk_below HNb.out hbo); have HRo := Aside0.mk (Kd.C_below HRb.out hbo); have HSo := Aside0.mk (Kd.C_below HSb.out hbo); have HGo := Aside0.mk (Kd.C_below HGb.out hbo); have HXo := Aside0.mk (Kd.C_below HXb.out hbo); have HBo := Aside0.mk (below_step HBb.out hbo); have HKc := Aside0.mk (blk_below HKo.out hbc); have HLc := Aside0.mk (blk_below HLo.out hbc); have HNc := Aside0.mk (blk_below HNo.out hbc); have HOc := Aside0.mk (blk_below HOo.out hbc); have HRc := Aside0.mk (Kd.C_below HRo.out hbc); have HSc := Aside0.mk (Kd.C_below HSo.out hbc); have HGc := Aside0.mk (Kd.C_below HGo.out hbc); have HXc := Aside0.mk (Kd.C_below HXo.out hbc); have HBc := Aside0.mk (below_step HBo.out hbc); clear k0b k1b k2b k3b l0b l1b l2b n0b n1b n2b n3b n4b n5b; have k0c := blk_cell HKc.out 0; have k1c := blk_cell HKc.out 1; have k2c := blk_cell HKc.out 2; have k3c := blk_cell HKc.out 3; have l0c := blk_cell HLc.out 0; have l1c := blk_cell HLc.out 1; have l2c := blk_cell HLc.out 2; have n0c := blk_cell HNc.out 0; have n1c := blk_cell HNc.out 1; have n2c := blk_cell HNc.out 2; have n3c := blk_cell HNc.out 3; have n4c := blk_cell HNc.out 4; have n5c := blk_cell HNc.out 5; have o0 := blk_cell HOc.out 0; have o1 := blk_cell HOc.out 1; have o2 := blk_cell HOc.out 2; have o3 := blk_cell HOc.out 3; have q0 := blk_frozen HOc.out 0; have q1 := blk_frozen HOc.out 1; have q2 := blk_frozen HOc.out 2; have q3 := blk_frozen HOc.out 3))
                            go_ret
                            exact ⟨by rw [HF.out]; rfl, below_step HB.out (below_step HBr.out HBc.out)⟩
                          · have qneg := decide_eq_false hneg
                            have hrg := idx_range (isT x.f4) ts
                            have hj : findT ts x.f4 = ((findT ts x.f4).toNat : Int) := by omega
                            have hjl : (findT ts x.f4).toNat < ts.length := by have := hrg.2; unfold findT at hneg ⊢; omega
                            have hTT : theT ts x.f4 = ts.getD (findT ts x.f4).toNat z45 := by unfold theT; rw [if_neg hneg]
                            obtain ⟨adT, A2, c2, A3, c3, eT, ht0, ht1, ht2, ht3, hl2, hC2, hl3, hC3'⟩ := at_T45 HSr.out (((findT ts x.f4).toNat : Nat) : Int) (by omega) (by omega)
                            subst eT
                            simp only [Int.toNat_natCast, rd_T45] at ht0 ht1 ht2 ht3 hl2 hC2 hl3 hC3'
                            rw [← hTT] at ht0 ht1 ht2 ht3 hl2 hC2 hl3 hC3'
                            have HNEG := Aside0.mk hneg
                            have HFF := Aside0.mk hj
                            generalize hjj : (findT ts x.f4).toNat = j at hj hjl ht0 ht1 ht2 ht3 HFF
                            generalize hoo : theT ts x.f4 = o at ht0 ht1 ht2 ht3 hl2 hC2 hl3 hC3'
                            have HOO := Aside0.mk hoo
                            have t0 := cell_now HBi.out ht0
                            have t1 := cell_now HBi.out ht1
                            have t2 := cell_now HBi.out ht2
                            have t3 := cell_now HBi.out ht3
                            have hj0 : (0 : Int) ≤ (j : Int) := by omega
                            have hj1 : (j : Int) < (ts.length : Int) := by omega
                            have qj : decide ((j : Int) < 0) = false := decide_eq_false (by omega)
                            clear ht0 ht1 ht2 ht3 hTT hl2 hl3 hC3' hneg qneg hj hjj hoo hrg
                            by_cases hzo : o.f2.length = 0
                            · have qz : ((o.f2.length : Int) == 0) = true := by simp [hzo]
                              have HZO := Aside0.mk hzo
                              clear hzo
                              have HCE : Aside0 (colE t k ts = 8) := ⟨by rw [HSP.out]; rw [HB1.out, if_neg (by decide), HB2.out, if_neg (by decide), he, if_neg (by decide)]; rw [ref_empty hs (by rw [HOO.out]; exact HZO.out)]⟩
                              have HF : Aside0 (goodE t ts = 8) := ⟨by rw [HRES.out, colsE_hit hlt HA.out (by rw [HCE.out]; decide), HCE.out]; rfl⟩
                              go_wp2_with (first
                                | (go_at_call 33; refine (mortmainref09_Name.calls kN x.f0 _ _ hN.out).mono ?_; rintro e wa ⟨rfl, hda⟩; have hba := drawn_below hda; have HKa := Aside0.mk (blk_below HKi.out hba); have HLa := Aside0.mk (blk_below HLi.out hba); have HNa := Aside0.mk (blk_below HNi.out hba); have HRa := Aside0.mk (Kd.C_below HRi.out hba); have HSa := Aside0.mk (Kd.C_below HSi.out hba); have HGa := Aside0.mk (Kd.C_below HGi.out hba); have HXa := Aside0.mk (Kd.C_below HXi.out hba); have HBa := Aside0.mk (below_step HBi.out hba); have k0a := blk_cell HKa.out 0; have k1a := blk_cell HKa.out 1; have k2a := blk_cell HKa.out 2; have k3a := blk_cell HKa.out 3; have l0a := blk_cell HLa.out 0; have l1a := blk_cell HLa.out 1; have l2a := blk_cell HLa.out 2; have n0a := blk_cell HNa.out 0; have n1a := blk_cell HNa.out 1; have n2a := blk_cell HNa.out 2; have n3a := blk_cell HNa.out 3; have n4a := blk_cell HNa.out 4; have n5a := blk_cell HNa.out 5)
                                | (go_at_call 35; refine (mortmainref09_Place.calls kP t.f0 t.f1 (some ad) c t.f2 A' c' t.f3 x.f0 _ _ HRa.out HC.out HXa.out HC3.out hP.out).mono ?_; rintro e wb ⟨rfl, hbb⟩; have HKb := Aside0.mk (blk_below HKa.out hbb); have HLb := Aside0.mk (blk_below HLa.out hbb); have HNb := Aside0.mk (blk_below HNa.out hbb); have HRb := Aside0.mk (Kd.C_below HRa.out hbb); have HSb := Aside0.mk (Kd.C_below HSa.out hbb); have HGb := Aside0.mk (Kd.C_below HGa.out hbb); have HXb := Aside0.mk (Kd.C_below HXa.out hbb); have HBb := Aside0.mk (below_step HBa.out hbb); clear k0a k1a k2a k3a l0a l1a l2a n0a n1a n2a n3a n4a n5a; have k0b := blk_cell HKb.out 0; have k1b := blk_cell HKb.out 1; have k2b := blk_cell HKb.out 2; have k3b := blk_cell HKb.out 3; have l0b := blk_cell HLb.out 0; have l1b := blk_cell HLb.out 1; have l2b := blk_cell HLb.out 2; have n0b := blk_cell HNb.out 0; have n1b := blk_cell HNb.out 1; have n2b := blk_cell HNb.out 2; have n3b := blk_cell HNb.out 3; have n4b := blk_cell HNb.out 4; have n5b := blk_cell HNb.out 5; have gk := blk_lt HKb.out; have gl := blk_lt HLb.out; have gn := blk_lt HNb.out; have y1b := cell_now HBb.out HY0.out; have gy := World.block_lt_of_cell? _ _ y1b)
                                | (go_at_call 30; refine (mortmainref09_Find.calls kF v (some adT) d ts B' d' gs x.f4 _ _ (Kd.C_alloc HSb.out _) HD.out (Kd.C_alloc HGb.out _) HD'.out hF.out).mono ?_; rintro e wc ⟨rfl, hbc⟩; have hbo := below1 wb (.cells #[.string t.f0, .int .i64 t.f1, .slice (some ad) t.f2.length c, .slice A' t.f3.length c'] 45); have HOo := Aside0.mk (blk_new wb (.cells #[.string t.f0, .int .i64 t.f1, .slice (some ad) t.f2.length c, .slice A' t.f3.length c'] 45)); have HKo := Aside0.mk (blk_below HKb.out hbo); have HLo := Aside0.mk (blk_below HLb.out hbo); have HNo := Aside0.mk (blk_below HNb.out hbo); have HRo := Aside0.mk (Kd.C_below HRb.out hbo); have HSo := Aside0.mk (Kd.C_below HSb.out hbo); have HGo := Aside0.mk (Kd.C_below HGb.out hbo); have HXo := Aside0.mk (Kd.C_below HXb.out hbo); have HBo := Aside0.mk (below_step HBb.out hbo); have HKc := Aside0.mk (blk_below HKo.out hbc); have HLc := Aside0.mk (blk_below HLo.out hbc); have HNc := Aside0.mk (blk_below HNo.out hbc); have HOc := Aside0.mk (blk_below HOo.out hbc); have HRc := Aside0.mk (Kd.C_below HRo.out hbc); have HSc := Aside0.mk (Kd.C_below HSo.out hbc); have HGc := Aside0.mk (Kd.C_below HGo.out hbc); have HXc := Aside0.mk (Kd.C_below HXo.out hbc); have HBc := Aside0.mk (below_step HBo.out hbc); clear k0b k1b k2b k3b l0b l1b l2b n0b n1b n2b n3b n4b n5b; have k0c := blk_cell HKc.out 0; have k1c := blk_cell HKc.out 1; have k2c := blk_cell HKc.out 2; have k3c := blk_cell HKc.out 3; have l0c := blk_cell HLc.out 0; have l1c := blk_cell HLc.out 1; have l2c := blk_cell HLc.out 2; have n0c := blk_cell HNc.out 0; have n1c := blk_cell HNc.out 1; have n2c := blk_cell HNc.out 2; have n3c := blk_cell HNc.out 3; have n4c := blk_cell HNc.out 4; have n5c := blk_cell HNc.out 5; have o0 := blk_cell HOc.out 0; have o1 := blk_cell HOc.out 1; have o2 := blk_cell HOc.out 2; have o3 := blk_cell HOc.out 3; have q0 := blk_frozen HOc.out 0; have q1 := blk_frozen HOc.out 1; have q2 := blk_frozen HOc.out 2; have q3 := blk_frozen HOc.out 3; rw [HFF.out]; have tc0 := cell_now hbc (cell_now hbo (cell_now hbb (cell_now hba t0))); have tc1 := cell_now hbc (cell_now hbo (cell_now hbb (cell_now hba t1))); have tc2 := cell_now hbc (cell_now hbo (cell_now hbb (cell_now hba t2))); have tc3 := cell_now hbc (cell_now hbo (cell_now hbb (cell_now hba t3)))))
                              go_ret
                              exact ⟨by rw [HF.out]; rfl, below_step HB.out (below_step HBr.out HBc.out)⟩
                            · have qz : ((o.f2.length : Int) == 0) = false := by simp [hzo]
                              have HZO := Aside0.mk hzo
                              have hz1 : (0 : Int) < (o.f2.length : Int) := by omega
                              have hz4 : 0 < o.f2.length := by omega
                              obtain ⟨ad2, eA, _, hz2, _, _, _, _⟩ := at_T59 hC2 0 (by omega) hz1
                              subst eA
                              simp only [Int.toNat_zero, rd_T59, Nat.zero_mul, add_none] at hz2
                              generalize hzz : o.f2.getD 0 z59 = z at hz2
                              have HZZ := Aside0.mk hzz
                              clear hzz hC2
                              have z1 := cell_now HBi.out hz2
                              clear hz2
                              by_cases hy : z.f1 = x.f1
                              · have hy' : (z.f1 != x.f1) = false := by simp [hy]
                                have HY := Aside0.mk hy
                                clear hy
                                have HCE : Aside0 (colE t k ts = 0) := ⟨by rw [HSP.out]; rw [HB1.out, if_neg (by decide), HB2.out, if_neg (by decide), he, if_neg (by decide)]; rw [ref_other (z := z) hs HNEG.out (by rw [HOO.out]; exact HZO.out) (by rw [HOO.out]; exact HZZ.out), if_neg (by simp [HY.out])]⟩
                                go_wp2_with (first
                                  | (go_at_call 33; refine (mortmainref09_Name.calls kN x.f0 _ _ hN.out).mono ?_; rintro e wa ⟨rfl, hda⟩; have hba := drawn_below hda; have HKa := Aside0.mk (blk_below HKi.out hba); have HLa := Aside0.mk (blk_below HLi.out hba); have HNa := Aside0.mk (blk_below HNi.out hba); have HRa := Aside0.mk (Kd.C_below HRi.out hba); have HSa := Aside0.mk (Kd.C_below HSi.out hba); have HGa := Aside0.mk (Kd.C_below HGi.out hba); have HXa := Aside0.mk (Kd.C_below HXi.out hba); have HBa := Aside0.mk (below_step HBi.out hba); have k0a := blk_cell HKa.out 0; have k1a := blk_cell HKa.out 1; have k2a := blk_cell HKa.out 2; have k3a := blk_cell HKa.out 3; have l0a := blk_cell HLa.out 0; have l1a := blk_cell HLa.out 1; have l2a := blk_cell HLa.out 2; have n0a := blk_cell HNa.out 0; have n1a := blk_cell HNa.out 1; have n2a := blk_cell HNa.out 2; have n3a := blk_cell HNa.out 3; have n4a := blk_cell HNa.out 4; have n5a := blk_cell HNa.out 5)
                                  | (go_at_call 35; refine (mortmainref09_Place.calls kP t.f0 t.f1 (some ad) c t.f2 A' c' t.f3 x.f0 _ _ HRa.out HC.out HXa.out HC3.out hP.out).mono ?_; rintro e wb ⟨rfl, hbb⟩; have HKb := Aside0.mk (blk_below HKa.out hbb); have HLb := Aside0.mk (blk_below HLa.out hbb); have HNb := Aside0.mk (blk_below HNa.out hbb); have HRb := Aside0.mk (Kd.C_below HRa.out hbb); have HSb := Aside0.mk (Kd.C_below HSa.out hbb); have HGb := Aside0.mk (Kd.C_below HGa.out hbb); have HXb := Aside0.mk (Kd.C_below HXa.out hbb); have HBb := Aside0.mk (below_step HBa.out hbb); clear k0a k1a k2a k3a l0a l1a l2a n0a n1a n2a n3a n4a n5a; have k0b := blk_cell HKb.out 0; have k1b := blk_cell HKb.out 1; have k2b := blk_cell HKb.out 2; have k3b := blk_cell HKb.out 3; have l0b := blk_cell HLb.out 0; have l1b := blk_cell HLb.out 1; have l2b := blk_cell HLb.out 2; have n0b := blk_cell HNb.out 0; have n1b := blk_cell HNb.out 1; have n2b := blk_cell HNb.out 2; have n3b := blk_cell HNb.out 3; have n4b := blk_cell HNb.out 4; have n5b := blk_cell HNb.out 5; have gk := blk_lt HKb.out; have gl := blk_lt HLb.out; have gn := blk_lt HNb.out; have y1b := cell_now HBb.out HY0.out; have gy := World.block_lt_of_cell? _ _ y1b)
                                  | (go_at_call 30; refine (mortmainref09_Find.calls kF v (some adT) d ts B' d' gs x.f4 _ _ (Kd.C_alloc HSb.out _) HD.out (Kd.C_alloc HGb.out _) HD'.out hF.out).mono ?_; rintro e wc ⟨rfl, hbc⟩; have hbo := below1 wb (.cells #[.string t.f0, .int .i64 t.f1, .slice (some ad) t.f2.length c, .slice A' t.f3.length c'] 45); have HOo := Aside0.mk (blk_new wb (.cells #[.string t.f0, .int .i64 t.f1, .slice (some ad) t.f2.length c, .slice A' t.f3.length c'] 45)); have HKo := Aside0.mk (blk_below HKb.out hbo); have HLo := Aside0.mk (blk_below HLb.out hbo); have HNo := Aside0.mk (blk_below HNb.out hbo); have HRo := Aside0.mk (Kd.C_below HRb.out hbo); have HSo := Aside0.mk (Kd.C_below HSb.out hbo); have HGo := Aside0.mk (Kd.C_below HGb.out hbo); have HXo := Aside0.mk (Kd.C_below HXb.out hbo); have HBo := Aside0.mk (below_step HBb.out hbo); have HKc := Aside0.mk (blk_below HKo.out hbc); have HLc := Aside0.mk (blk_below HLo.out hbc); have HNc := Aside0.mk (blk_below HNo.out hbc); have HOc := Aside0.mk (blk_below HOo.out hbc); have HRc := Aside0.mk (Kd.C_below HRo.out hbc); have HSc := Aside0.mk (Kd.C_below HSo.out hbc); have HGc := Aside0.mk (Kd.C_below HGo.out hbc); have HXc := Aside0.mk (Kd.C_below HXo.out hbc); have HBc := Aside0.mk (below_step HBo.out hbc); clear k0b k1b k2b k3b l0b l1b l2b n0b n1b n2b n3b n4b n5b; have k0c := blk_cell HKc.out 0; have k1c := blk_cell HKc.out 1; have k2c := blk_cell HKc.out 2; have k3c := blk_cell HKc.out 3; have l0c := blk_cell HLc.out 0; have l1c := blk_cell HLc.out 1; have l2c := blk_cell HLc.out 2; have n0c := blk_cell HNc.out 0; have n1c := blk_cell HNc.out 1; have n2c := blk_cell HNc.out 2; have n3c := blk_cell HNc.out 3; have n4c := blk_cell HNc.out 4; have n5c := blk_cell HNc.out 5; have o0 := blk_cell HOc.out 0; have o1 := blk_cell HOc.out 1; have o2 := blk_cell HOc.out 2; have o3 := blk_cell HOc.out 3; have q0 := blk_frozen HOc.out 0; have q1 := blk_frozen HOc.out 1; have q2 := blk_frozen HOc.out 2; have q3 := blk_frozen HOc.out 3; rw [HFF.out]; have tc0 := cell_now hbc (cell_now hbo (cell_now hbb (cell_now hba t0))); have tc1 := cell_now hbc (cell_now hbo (cell_now hbb (cell_now hba t1))); have tc2 := cell_now hbc (cell_now hbo (cell_now hbb (cell_now hba t2))); have tc3 := cell_now hbc (cell_now hbo (cell_now hbb (cell_now hba t3))); have zc1 := cell_now hbc (cell_now hbo (cell_now hbb (cell_now hba z1))); have gz := World.block_lt_of_cell? wb _ (cell_now hbb (cell_now hba z1))))
                                go_quiet (fail)
                                go_wp2
                                go_roundw
                                case rel => exact ⟨k + 1, by go_num, by omega, allC_next HA.out HCE.out, ⟨below_step HBr.out (pw_below_drewN ((((HBc.out.setCell (by have := HBb.out.size; exact this) _).setCell (by have := HBb.out.size; exact this) _).setCell (by have := HBb.out.size; exact this) _).setCell (by have := HBb.out.size; exact this) _) _)⟩⟩
                                case measure => simp [intOf]; omega
                              · have hy' : (z.f1 != x.f1) = true := by simp [hy]
                                have HCE : Aside0 (colE t k ts = 9) := ⟨by rw [HSP.out]; rw [HB1.out, if_neg (by decide), HB2.out, if_neg (by decide), he, if_neg (by decide)]; rw [ref_other (z := z) hs HNEG.out (by rw [HOO.out]; exact HZO.out) (by rw [HOO.out]; exact HZZ.out), if_pos hy]⟩
                                have HF : Aside0 (goodE t ts = 9) := ⟨by rw [HRES.out, colsE_hit hlt HA.out (by rw [HCE.out]; decide), HCE.out]; rfl⟩
                                go_wp2_with (first
                                  | (go_at_call 33; refine (mortmainref09_Name.calls kN x.f0 _ _ hN.out).mono ?_; rintro e wa ⟨rfl, hda⟩; have hba := drawn_below hda; have HKa := Aside0.mk (blk_below HKi.out hba); have HLa := Aside0.mk (blk_below HLi.out hba); have HNa := Aside0.mk (blk_below HNi.out hba); have HRa := Aside0.mk (Kd.C_below HRi.out hba); have HSa := Aside0.mk (Kd.C_below HSi.out hba); have HGa := Aside0.mk (Kd.C_below HGi.out hba); have HXa := Aside0.mk (Kd.C_below HXi.out hba); have HBa := Aside0.mk (below_step HBi.out hba); have k0a := blk_cell HKa.out 0; have k1a := blk_cell HKa.out 1; have k2a := blk_cell HKa.out 2; have k3a := blk_cell HKa.out 3; have l0a := blk_cell HLa.out 0; have l1a := blk_cell HLa.out 1; have l2a := blk_cell HLa.out 2; have n0a := blk_cell HNa.out 0; have n1a := blk_cell HNa.out 1; have n2a := blk_cell HNa.out 2; have n3a := blk_cell HNa.out 3; have n4a := blk_cell HNa.out 4; have n5a := blk_cell HNa.out 5)
                                  | (go_at_call 35; refine (mortmainref09_Place.calls kP t.f0 t.f1 (some ad) c t.f2 A' c' t.f3 x.f0 _ _ HRa.out HC.out HXa.out HC3.out hP.out).mono ?_; rintro e wb ⟨rfl, hbb⟩; have HKb := Aside0.mk (blk_below HKa.out hbb); have HLb := Aside0.mk (blk_below HLa.out hbb); have HNb := Aside0.mk (blk_below HNa.out hbb); have HRb := Aside0.mk (Kd.C_below HRa.out hbb); have HSb := Aside0.mk (Kd.C_below HSa.out hbb); have HGb := Aside0.mk (Kd.C_below HGa.out hbb); have HXb := Aside0.mk (Kd.C_below HXa.out hbb); have HBb := Aside0.mk (below_step HBa.out hbb); clear k0a k1a k2a k3a l0a l1a l2a n0a n1a n2a n3a n4a n5a; have k0b := blk_cell HKb.out 0; have k1b := blk_cell HKb.out 1; have k2b := blk_cell HKb.out 2; have k3b := blk_cell HKb.out 3; have l0b := blk_cell HLb.out 0; have l1b := blk_cell HLb.out 1; have l2b := blk_cell HLb.out 2; have n0b := blk_cell HNb.out 0; have n1b := blk_cell HNb.out 1; have n2b := blk_cell HNb.out 2; have n3b := blk_cell HNb.out 3; have n4b := blk_cell HNb.out 4; have n5b := blk_cell HNb.out 5; have gk := blk_lt HKb.out; have gl := blk_lt HLb.out; have gn := blk_lt HNb.out; have y1b := cell_now HBb.out HY0.out; have gy := World.block_lt_of_cell? _ _ y1b)
                                  | (go_at_call 30; refine (mortmainref09_Find.calls kF v (some adT) d ts B' d' gs x.f4 _ _ (Kd.C_alloc HSb.out _) HD.out (Kd.C_alloc HGb.out _) HD'.out hF.out).mono ?_; rintro e wc ⟨rfl, hbc⟩; have hbo := below1 wb (.cells #[.string t.f0, .int .i64 t.f1, .slice (some ad) t.f2.length c, .slice A' t.f3.length c'] 45); have HOo := Aside0.mk (blk_new wb (.cells #[.string t.f0, .int .i64 t.f1, .slice (some ad) t.f2.length c, .slice A' t.f3.length c'] 45)); have HKo := Aside0.mk (blk_below HKb.out hbo); have HLo := Aside0.mk (blk_below HLb.out hbo); have HNo := Aside0.mk (blk_below HNb.out hbo); have HRo := Aside0.mk (Kd.C_below HRb.out hbo); have HSo := Aside0.mk (Kd.C_below HSb.out hbo); have HGo := Aside0.mk (Kd.C_below HGb.out hbo); have HXo := Aside0.mk (Kd.C_below HXb.out hbo); have HBo := Aside0.mk (below_step HBb.out hbo); have HKc := Aside0.mk (blk_below HKo.out hbc); have HLc := Aside0.mk (blk_below HLo.out hbc); have HNc := Aside0.mk (blk_below HNo.out hbc); have HOc := Aside0.mk (blk_below HOo.out hbc); have HRc := Aside0.mk (Kd.C_below HRo.out hbc); have HSc := Aside0.mk (Kd.C_below HSo.out hbc); have HGc := Aside0.mk (Kd.C_below HGo.out hbc); have HXc := Aside0.mk (Kd.C_below HXo.out hbc); have HBc := Aside0.mk (below_step HBo.out hbc); clear k0b k1b k2b k3b l0b l1b l2b n0b n1b n2b n3b n4b n5b; have k0c := blk_cell HKc.out 0; have k1c := blk_cell HKc.out 1; have k2c := blk_cell HKc.out 2; have k3c := blk_cell HKc.out 3; have l0c := blk_cell HLc.out 0; have l1c := blk_cell HLc.out 1; have l2c := blk_cell HLc.out 2; have n0c := blk_cell HNc.out 0; have n1c := blk_cell HNc.out 1; have n2c := blk_cell HNc.out 2; have n3c := blk_cell HNc.out 3; have n4c := blk_cell HNc.out 4; have n5c := blk_cell HNc.out 5; have o0 := blk_cell HOc.out 0; have o1 := blk_cell HOc.out 1; have o2 := blk_cell HOc.out 2; have o3 := blk_cell HOc.out 3; have q0 := blk_frozen HOc.out 0; have q1 := blk_frozen HOc.out 1; have q2 := blk_frozen HOc.out 2; have q3 := blk_frozen HOc.out 3; rw [HFF.out]; have tc0 := cell_now hbc (cell_now hbo (cell_now hbb (cell_now hba t0))); have tc1 := cell_now hbc (cell_now hbo (cell_now hbb (cell_now hba t1))); have tc2 := cell_now hbc (cell_now hbo (cell_now hbb (cell_now hba t2))); have tc3 := cell_now hbc (cell_now hbo (cell_now hbb (cell_now hba t3))); have zc1 := cell_now hbc (cell_now hbo (cell_now hbb (cell_now hba z1))); have gz := World.block_lt_of_cell? wb _ (cell_now hbb (cell_now hba z1))))
                                go_quiet (fail)
                                go_wp2
                                go_ret
                                exact ⟨by rw [HF.out]; rfl, below_step HB.out (below_step HBr.out (pw_below_drewN ((((HBc.out.setCell (by have := HBb.out.size; exact this) _).setCell (by have := HBb.out.size; exact this) _).setCell (by have := HBb.out.size; exact this) _).setCell (by have := HBb.out.size; exact this) _) _))⟩
    · have hfin := colsE_none (t := t) (ts := ts) (fun j hj => HA.out j (by omega))
      have HFIN := Aside0.mk hfin
      clear hfin
      have hkk : k = t.f2.length := by omega
      subst hkk
      have hres2 : goodE t ts = checksE t := by rw [HRES.out, HFIN.out, if_neg (by decide)]
      have HRES2 := Aside0.mk hres2
      clear hres2 HA
      have a0 := blk_cell HKr.out 0
      have a1 := blk_cell HKr.out 1
      have a2 := blk_cell HKr.out 2
      have a3 := blk_cell HKr.out 3
      go_wp2
      go_loopw [10, 11, 12, 168] (fun _ _ _ t168 w2 => ∃ k : Nat, t168 = .int .i64 k ∧ k ≤ t.f3.length ∧ Aside0 (∀ j, j < k → chkE t.f2 (t.f3.getD j z72) = 0) ∧ Aside0 (Below wr.heap.size wr w2)) (fun _ _ _ t168 _ => t.f3.length - (intOf t168).toNat)
      case atStart => exact ⟨0, rfl, Nat.zero_le _, ⟨fun j hj => absurd hj (by omega)⟩, ⟨Below.refl _ _⟩⟩
      case round =>
        obtain ⟨k, rfl, hk, HA, HBq⟩ := hrel
        have HKq := Aside0.mk (blk_below HKr.out HBq.out)
        clear a0 a1 a2 a3
        have a0 := blk_cell HKq.out 0
        have a1 := blk_cell HKq.out 1
        have a2 := blk_cell HKq.out 2
        have a3 := blk_cell HKq.out 3
        have gk := blk_lt HKq.out
        by_cases hlt : k < t.f3.length
        · obtain ⟨ad, A5, c5, e, hc0, hc1, hc2, hc3, hc4, hc5, hl5, hC5⟩ := at_T72 HXr.out (k : Int) (by omega) (by omega)
          subst e
          simp only [Int.toNat_natCast, rd_T72] at hc0 hc1 hc2 hc3 hc4 hc5 hl5 hC5
          have hmem := mem_getD (z := z72) hlt
          have hokx : OkE (t.f3.getD k z72) := by obtain ⟨c, hc⟩ := C_each HXr.out hmem; exact okE_of hc
          have hcx := HCN.out _ hmem
          generalize hx : t.f3.getD k z72 = x at hc0 hc1 hc2 hc3 hc4 hc5 hl5 hC5 hokx hcx
          have HXX := Aside0.mk hx
          have d0 := cell_now HBq.out hc0
          have d1 := cell_now HBq.out hc1
          have d2 := cell_now HBq.out hc2
          have d3 := cell_now HBq.out hc3
          have d4 := cell_now HBq.out hc4
          have d5 := cell_now HBq.out hc5
          have HC5 := Aside0.mk (Kd.C_alloc (Kd.C_below hC5 HBq.out) (.cells #[.int .i64 x.f0, .int .i64 x.f1, .int .i64 x.f2.f0, .int .i64 x.f2.f1, .string x.f2.f2, .slice A5 x.f3.length c5] 72))
          have HRq := Aside0.mk (Kd.C_alloc (Kd.C_below HRr.out HBq.out) (.cells #[.int .i64 x.f0, .int .i64 x.f1, .int .i64 x.f2.f0, .int .i64 x.f2.f1, .string x.f2.f2, .slice A5 x.f3.length c5] 72))
          have HL5 := Aside0.mk hl5
          have HBx := Aside0.mk (below_alloc HBq.out (.cells #[.int .i64 x.f0, .int .i64 x.f1, .int .i64 x.f2.f0, .int .i64 x.f2.f1, .string x.f2.f2, .slice A5 x.f3.length c5] 72))
          have hj0 : (0 : Int) ≤ (k : Int) := by omega
          have hj1 : (k : Int) < (t.f3.length : Int) := by omega
          have hch : chkE t.f2 x = if (kindAll t.f2 x).2 ≠ 0 then (kindAll t.f2 x).2 else if 1 < (kindAll t.f2 x).1 then 9 else 0 := rfl
          have H61 := Aside0.mk (kind62_calls t.f2 x hokx hcx)
          obtain ⟨r, hr⟩ : ∃ r, kindAll t.f2 x = r := ⟨_, rfl⟩
          rw [hr] at hch H61
          obtain ⟨r1, r2⟩ := r
          dsimp only at hch
          clear hc0 hc1 hc2 hc3 hc4 hc5 hl5 hC5 hx hmem hokx hcx hr
          by_cases hr2 : r2 = 0
          · subst hr2
            rw [if_neg (by simp)] at hch
            by_cases hr1 : 1 < r1
            · have q7 : decide (1 < r1) = true := decide_eq_true hr1
              rw [if_pos hr1] at hch
              have hfin2 := checks_hit hlt HA.out (by rw [HXX.out, hch]; decide)
              rw [HXX.out, hch] at hfin2
              have HF2 := Aside0.mk hfin2
              clear hfin2 hch
              go_wp2_with (go_at_call 62; refine (H61.out A5 c5 A c _ HC5.out HL5.out HRq.out).mono ?_; rintro e wd ⟨rfl, hbd⟩)
              go_ret
              exact ⟨by rw [HRES2.out, HF2.out]; rfl, below_step HB.out (below_step HBr.out (below_step HBx.out hbd))⟩
            · have q7 : decide (1 < r1) = false := decide_eq_false hr1
              rw [if_neg hr1] at hch
              have hall : ∀ j, j < k + 1 → chkE t.f2 (t.f3.getD j z72) = 0 := fun j hj => by
                rcases Nat.lt_or_ge j k with h | h
                · exact HA.out j h
                · obtain rfl : j = k := by omega
                  rw [HXX.out]; exact hch
              have HALL := Aside0.mk hall
              clear hall hch
              go_wp2_with (go_at_call 62; refine (H61.out A5 c5 A c _ HC5.out HL5.out HRq.out).mono ?_; rintro e wd ⟨rfl, hbd⟩)
              go_roundw
              case rel => exact ⟨k + 1, by go_num, by omega, HALL, ⟨below_step HBx.out hbd⟩⟩
              case measure => simp [intOf]; omega
          · have q7 : (r2 != 0) = true := by simpa using hr2
            rw [if_pos hr2] at hch
            have hfin2 := checks_hit hlt HA.out (by rw [HXX.out, hch]; exact hr2)
            rw [HXX.out, hch] at hfin2
            have HF2 := Aside0.mk hfin2
            clear hfin2 hch
            go_wp2_with (go_at_call 62; refine (H61.out A5 c5 A c _ HC5.out HL5.out HRq.out).mono ?_; rintro e wd ⟨rfl, hbd⟩)
            go_ret
            exact ⟨by rw [HRES2.out, HF2.out]; rfl, below_step HB.out (below_step HBr.out (below_step HBx.out hbd))⟩
        · have hfin2 := checks_none (t := t) (fun j hj => HA.out j (by omega))
          have HF2 := Aside0.mk hfin2
          clear hfin2
          have hkk : k = t.f3.length := by omega
          subst hkk
          go_wp2
          go_ret
          exact ⟨by rw [HRES2.out, HF2.out]; rfl, below_step HB.out (below_step HBr.out HBq.out)⟩
set_option maxHeartbeats 4000000 in
set_option maxRecDepth 100000 in
theorem goodR_early (t : S45) (A : Option Addr) (c : Nat) (A' : Option Addr) (c' : Nat) (W25 : Value) (v : Int) (B : Option Addr) (n d : Nat) (B' : Option Addr) (n' d' : Nat) (w : World) (ts : List S45) (b : Bool) (r : Int)
    (hs0 : t.f0.size ≤ 9223372036854775807) (hnm : isName t.f0 = b) (hres : goodE t ts = r) (hW : W25 = .agg #[.int .i64 v, .slice B n d, .slice B' n' d'])
    (h : (b = false ∧ r = 4) ∨ (b = true ∧ decide (t.f1 < 0) = true ∧ r = 4) ∨ (b = true ∧ decide (t.f1 < 0) = false ∧ decide (7 < t.f1) = true ∧ r = 4)
      ∨ (b = true ∧ decide (t.f1 < 0) = false ∧ decide (7 < t.f1) = false ∧ ((t.f2.length : Int) == 0) = true ∧ r = 4)
      ∨ (b = true ∧ decide (t.f1 < 0) = false ∧ decide (7 < t.f1) = false ∧ ((t.f2.length : Int) == 0) = false ∧ decide (6 < (t.f2.length : Int)) = true ∧ r = 3)
      ∨ (b = true ∧ decide (t.f1 < 0) = false ∧ decide (7 < t.f1) = false ∧ ((t.f2.length : Int) == 0) = false ∧ decide (6 < (t.f2.length : Int)) = false ∧ decide (4 < (t.f3.length : Int)) = true ∧ r = 3)) :
    Calls Tryd.prog 37 #[.agg #[.string t.f0, .int .i64 t.f1, .slice A t.f2.length c, .slice A' t.f3.length c'], W25] w (IntPost (goodE t ts) w) := by
  subst hW
  obtain ⟨kT, hT⟩ := name_ev t.f0 hs0
  rw [hnm] at hT
  have hT := Aside0.mk (hT kT (Nat.le_refl _))
  have b2 := below2 w (.cells #[.string t.f0, .int .i64 t.f1, .slice A t.f2.length c, .slice A' t.f3.length c'] 45) (.cells #[.int .i64 v, .slice B n d, .slice B' n' d'] 25)
  have HB := Aside0.mk b2
  have HK := Aside0.mk (blk_alloc (blk_new w (.cells #[.string t.f0, .int .i64 t.f1, .slice A t.f2.length c, .slice A' t.f3.length c'] 45)) (.cells #[.int .i64 v, .slice B n d, .slice B' n' d'] 25))
  have HRES := Aside0.mk hres
  clear b2 hres hnm
  rcases h with ⟨rfl, rfl⟩ | ⟨rfl, q1, rfl⟩ | ⟨rfl, q1, q2, rfl⟩ | ⟨rfl, q1, q2, q3, rfl⟩ | ⟨rfl, q1, q2, q3, q4, rfl⟩ | ⟨rfl, q1, q2, q3, q4, q5, rfl⟩
  all_goals (go_enter Tryd.func37, Tryd.ntmps37)
  all_goals (go_wp2_with (go_at_call 33; refine (mortmainref09_Name.calls kT t.f0 _ _ hT.out).mono ?_; rintro e w0 ⟨rfl, hd0⟩; have hb0 := drawn_below hd0; have HB0 := Aside0.mk hb0; have HK0 := Aside0.mk (blk_below HK.out hb0); have a0 := blk_cell HK0.out 0; have a1 := blk_cell HK0.out 1; have a2 := blk_cell HK0.out 2; have a3 := blk_cell HK0.out 3))
  all_goals go_ret
  all_goals (exact ⟨by rw [HRES.out]; rfl, below_step HB.out HB0.out⟩)
theorem goodR_calls (t : S45) (A : Option Addr) (c : Nat) (A' : Option Addr) (c' : Nat) (v : Int) (ts : List S45) (B : Option Addr) (d : Nat) (gs : List S27) (B' : Option Addr) (d' : Nat) (w : World)
    (hr : Kd.C k59 w A t.f2.length t.f2) (hc : t.f2.length ≤ c) (hC3 : Kd.C k72 w A' t.f3.length t.f3) (hc3 : t.f3.length ≤ c') (hcn : ∀ x, x ∈ t.f3 → cntE x < 4611686018427387904) (hts : Kd.C k45 w B ts.length ts) (hd : ts.length ≤ d) (hg : Kd.C k27 w B' gs.length gs) (hd' : gs.length ≤ d') (hs0 : t.f0.size ≤ 9223372036854775807) (hok : ∀ x, x ∈ t.f2 → x.f0.size ≤ 9223372036854775807) :
    Calls Tryd.prog 37 #[.agg #[.string t.f0, .int .i64 t.f1, .slice A t.f2.length c, .slice A' t.f3.length c'], .agg #[.int .i64 v, .slice B ts.length d, .slice B' gs.length d']] w (IntPost (goodE t ts) w) := by
  cases hnm : isName t.f0 with
  | false => exact goodR_early t A c A' c' _ v B ts.length d B' gs.length d' w ts _ _ hs0 hnm (by unfold goodE; rw [hnm]; rfl) rfl (.inl ⟨rfl, rfl⟩)
  | true =>
    by_cases g1 : t.f1 < 0
    · exact goodR_early t A c A' c' _ v B ts.length d B' gs.length d' w ts _ _ hs0 hnm (by unfold goodE; rw [hnm]; simp only [decide_eq_true g1]; rfl) rfl (.inr (.inl ⟨rfl, decide_eq_true g1, rfl⟩))
    by_cases g2 : 7 < t.f1
    · exact goodR_early t A c A' c' _ v B ts.length d B' gs.length d' w ts _ _ hs0 hnm (by unfold goodE; rw [hnm]; simp only [decide_eq_false g1, decide_eq_true (show 8 ≤ t.f1 by omega)]; rfl) rfl (.inr (.inr (.inl ⟨rfl, decide_eq_false g1, decide_eq_true g2, rfl⟩)))
    have hg2 : ¬ 8 ≤ t.f1 := by omega
    by_cases g3 : t.f2.length = 0
    · exact goodR_early t A c A' c' _ v B ts.length d B' gs.length d' w ts _ _ hs0 hnm (by unfold goodE; rw [hnm]; simp only [decide_eq_false g1, decide_eq_false hg2, decide_eq_true g3]; rfl) rfl (.inr (.inr (.inr (.inl ⟨rfl, decide_eq_false g1, decide_eq_false g2, by simp [g3], rfl⟩))))
    by_cases g4 : 6 < t.f2.length
    · exact goodR_early t A c A' c' _ v B ts.length d B' gs.length d' w ts _ _ hs0 hnm (by unfold goodE; rw [hnm]; simp only [decide_eq_false g1, decide_eq_false hg2, decide_eq_false g3, decide_eq_true g4]; rfl) rfl (.inr (.inr (.inr (.inr (.inl ⟨rfl, decide_eq_false g1, decide_eq_false g2, by simp [g3], decide_eq_true (by omega), rfl⟩)))))
    by_cases g5 : 4 < t.f3.length
    · exact goodR_early t A c A' c' _ v B ts.length d B' gs.length d' w ts _ _ hs0 hnm (by unfold goodE; rw [hnm]; simp only [decide_eq_false g1, decide_eq_false hg2, decide_eq_false g3, decide_eq_false g4, decide_eq_true g5]; rfl) rfl (.inr (.inr (.inr (.inr (.inr ⟨rfl, decide_eq_false g1, decide_eq_false g2, by simp [g3], decide_eq_false (by omega), decide_eq_true (by omega), rfl⟩)))))
    exact goodR_cols t A c A' c' v ts B d gs B' d' w hr hc hC3 hc3 hcn hts hd hg hd' hs0 hok hnm (decide_eq_false g1) (decide_eq_false g2) (by simp [g3]) (decide_eq_false (by omega)) (decide_eq_false (by omega)) (by unfold goodE; rw [hnm]; simp only [decide_eq_false g1, decide_eq_false hg2, decide_eq_false g3, decide_eq_false g4, decide_eq_false g5]; rfl)
end Go.Proofs.YtefdfgmlmjnmlaaDoor.My
end

section
set_option linter.unusedSimpArgs false
set_option linter.unusedVariables false
namespace Go.Proofs.YtefdfgmlmjnmlaaDoor.My
open Go.RowKit Go.Proofs.YtefdfgmlmjnmlaaDoorW.PrintWords Go.Proofs.YtefdfgmlmjnmlaaDoor.Rf
structure WithPost (t : S45) (w : World) (e : Ending) (w' : World) : Prop where
  out : ∃ A : Option Addr, e = .returned (.agg #[.int .i64 0, .slice A 1 1, .slice none 0 0]) ∧ Kd.C k45 w' A 1 [t] ∧ Below w.heap.size w w'
set_option maxHeartbeats 1000000 in
set_option maxRecDepth 100000 in
theorem with_calls (t : S45) (A : Option Addr) (c : Nat) (A' : Option Addr) (c' : Nat) (w : World) (hr : Kd.C k59 w A t.f2.length t.f2) (hc : t.f2.length ≤ c) (hr' : Kd.C k72 w A' t.f3.length t.f3) (hc' : t.f3.length ≤ c') :
    Calls Tryd.prog 28 #[.agg #[.string t.f0, .int .i64 t.f1, .slice A t.f2.length c, .slice A' t.f3.length c']] w (WithPost t w) := by
  have HR := Aside0.mk hr
  have HC := Aside0.mk hc
  have HR' := Aside0.mk hr'
  have HC' := Aside0.mk hc'
  clear hr hc hr' hc'
  go_enter Tryd.func28, Tryd.ntmps28
  go_wp2
  have b3 := below3 w (.cells #[.string t.f0, .int .i64 t.f1, .slice A t.f2.length c, .slice A' t.f3.length c'] 45) (.cells #[.int .i64 0, .slice (some ⟨w.heap.size + 1 + 1, 0, none⟩) 1 1, .slice none 0 0] 25) (.cells #[.string t.f0, .int .i64 t.f1, .slice A t.f2.length c, .slice A' t.f3.length c'] 45)
  have k1 := blk_alloc (blk_new1 w (.cells #[.string t.f0, .int .i64 t.f1, .slice A t.f2.length c, .slice A' t.f3.length c'] 45) (.cells #[.int .i64 0, .slice (some ⟨w.heap.size + 1 + 1, 0, none⟩) 1 1, .slice none 0 0] 25)) (.cells #[.string t.f0, .int .i64 t.f1, .slice A t.f2.length c, .slice A' t.f3.length c'] 45)
  have k2 := blk_new2 w (.cells #[.string t.f0, .int .i64 t.f1, .slice A t.f2.length c, .slice A' t.f3.length c'] 45) (.cells #[.int .i64 0, .slice (some ⟨w.heap.size + 1 + 1, 0, none⟩) 1 1, .slice none 0 0] 25) (.cells #[.string t.f0, .int .i64 t.f1, .slice A t.f2.length c, .slice A' t.f3.length c'] 45)
  refine bodyPost_ret (results_cell_row rfl _ _ (w.heap.size + 1) 25 #[.int .i64 0, .slice (some ⟨w.heap.size + 1 + 1, 0, none⟩) 1 1, .slice none 0 0] (0, 0) _ rfl k1 Tryd.underlying25 rfl (by kernel_rfl)) rfl ?_
  refine ⟨⟨some ⟨w.heap.size + 1 + 1, 0, none⟩, rfl, ⟨rfl, by decide, fun _ => ⟨_, rfl, fun j p hp => ?_⟩⟩, b3⟩⟩
  cases j with
  | succ j => simp at hp
  | zero =>
    simp only [List.getElem?_cons_zero, Option.some.injEq] at hp
    subst hp
    refine ⟨_, rfl, k45_mk _ t HC.out (Kd.C_below HR.out b3) HC'.out (Kd.C_below HR'.out b3), fun j u hu => ?_⟩
    match j, hu with
    | 0, hu => simp at hu; subst hu; exact blk_cell k2 0
    | 1, hu => simp at hu; subst hu; exact blk_cell k2 1
    | 2, hu => simp at hu; subst hu; exact blk_cell k2 2
    | 3, hu => simp at hu; subst hu; exact blk_cell k2 3
    | j + 4, hu => simp at hu
end Go.Proofs.YtefdfgmlmjnmlaaDoor.My
end

section
set_option linter.unusedVariables false
set_option linter.unusedSimpArgs false
namespace Go.Proofs.YtefdfgmlmjnmlaaDoor.Rf
open Go.RowKit Go.Proofs.YtefdfgmlmjnmlaaDoorW.PrintWords Go.Proofs.YtefdfgmlmjnmlaaDoorW.PrintLast Go.Proofs.YtefdfgmlmjnmlaaDoorW.PrintMore
attribute [local go_sem] max2_int max_two
theorem eqA59 (d : Nat) (w : World) (x0 y0 : ByteArray) (x1 y1 : Int) (x2 y2 : Bool) (x3 y3 : Bool) (x4 y4 : ByteArray) (x5 y5 : Int) :
    (Op.equalIn (d + 2) 59 (.agg #[.string x0, .int .i64 x1, .bool x2, .bool x3, .string x4, .int .i64 x5]) (.agg #[.string y0, .int .i64 y1, .bool y2, .bool y3, .string y4, .int .i64 y5])).run Tryd.prog w = .ok (x0.toList == y0.toList && (x1 == y1 && (x2 == y2 && (x3 == y3 && (x4.toList == y4.toList && (x5 == y5)))))) w := by
  refine eqA_of Tryd.underlying59 (by kernel_rfl) ?_
  refine eqf_cons (by rfl) (by go_simp; rfl) (by go_simp; rfl) (by go_simp) ?_
  refine eqf_cons (by rfl) (by go_simp; rfl) (by go_simp; rfl) (by go_simp) ?_
  refine eqf_cons (by rfl) (by go_simp; rfl) (by go_simp; rfl) (by go_simp) ?_
  refine eqf_cons (by rfl) (by go_simp; rfl) (by go_simp; rfl) (by go_simp) ?_
  refine eqf_cons (by rfl) (by go_simp; rfl) (by go_simp; rfl) (by go_simp) ?_
  exact eqf_last (by rfl) (by go_simp; rfl) (by go_simp; rfl) (by go_simp)
end Go.Proofs.YtefdfgmlmjnmlaaDoor.Rf
end

section
set_option linter.unusedVariables false
set_option linter.unusedSimpArgs false
namespace Go.Proofs.YtefdfgmlmjnmlaaDoor.Rf
open Go.RowKit Go.Proofs.YtefdfgmlmjnmlaaDoorW.PrintWords Go.Proofs.YtefdfgmlmjnmlaaDoorW.PrintLast Go.Proofs.YtefdfgmlmjnmlaaDoorW.PrintMore
attribute [local go_sem] max2_int max_two
theorem eqA70 (d : Nat) (w : World) (x0 y0 : Int) (x1 y1 : Int) (x2 y2 : ByteArray) :
    (Op.equalIn (d + 2) 70 (.agg #[.int .i64 x0, .int .i64 x1, .string x2]) (.agg #[.int .i64 y0, .int .i64 y1, .string y2])).run Tryd.prog w = .ok (x0 == y0 && (x1 == y1 && (x2.toList == y2.toList))) w := by
  refine eqA_of Tryd.underlying70 (by kernel_rfl) ?_
  refine eqf_cons (by rfl) (by go_simp; rfl) (by go_simp; rfl) (by go_simp) ?_
  refine eqf_cons (by rfl) (by go_simp; rfl) (by go_simp; rfl) (by go_simp) ?_
  exact eqf_last (by rfl) (by go_simp; rfl) (by go_simp; rfl) (by go_simp)
end Go.Proofs.YtefdfgmlmjnmlaaDoor.Rf
end

section
set_option linter.unusedVariables false
set_option linter.unusedSimpArgs false
namespace Go.Proofs.YtefdfgmlmjnmlaaDoor.Rf
open Go.RowKit Go.Proofs.YtefdfgmlmjnmlaaDoorW.PrintWords Go.Proofs.YtefdfgmlmjnmlaaDoorW.PrintLast Go.Proofs.YtefdfgmlmjnmlaaDoorW.PrintMore
attribute [local go_sem] max2_int max_two
attribute [local go_sem high] eqA70
mutual
def mortmainref09_sameExpr.j0 : Nat → Bool → Int → Int → Int → Int → ByteArray → List (S72) → Int → Int → Int → Int → ByteArray → List (S72) → Option (Bool)
  | 0, _, _, _, _, _, _, _, _, _, _, _, _, _ => none
  | k + 1, x33, x205000, x205001, x205002, x205003, x205004, x205005, x206000, x206001, x206002, x206003, x206004, x206005 => if x33 = true then (some false) else (mortmainref09_sameExpr.l0 k (x205005.length : Int) 0 x205000 x205001 x205002 x205003 x205004 x205005 x206000 x206001 x206002 x206003 x206004 x206005)
def mortmainref09_sameExpr.l0 : Nat → Int → Int → Int → Int → Int → Int → ByteArray → List (S72) → Int → Int → Int → Int → ByteArray → List (S72) → Option (Bool)
  | 0, _, _, _, _, _, _, _, _, _, _, _, _, _, _ => none
  | k + 1, x36, x37, x205000, x205001, x205002, x205003, x205004, x205005, x206000, x206001, x206002, x206003, x206004, x206005 => if x37 < x36 then (if 0 ≤ x37 then (if x37 < (x205005.length : Int) then (if x37 < (x206005.length : Int) then ((mortmainref09_sameExpr.f k ((rd_T72 x205005 x37).f0) ((rd_T72 x205005 x37).f1) ((rd_T72 x205005 x37).f2.f0) ((rd_T72 x205005 x37).f2.f1) ((rd_T72 x205005 x37).f2.f2) ((rd_T72 x205005 x37).f3) ((rd_T72 x206005 x37).f0) ((rd_T72 x206005 x37).f1) ((rd_T72 x206005 x37).f2.f0) ((rd_T72 x206005 x37).f2.f1) ((rd_T72 x206005 x37).f2.f2) ((rd_T72 x206005 x37).f3)).bind fun t208 => (if t208 = true then (mortmainref09_sameExpr.l0 k x36 (wrap64 (x37 + 1)) x205000 x205001 x205002 x205003 x205004 x205005 x206000 x206001 x206002 x206003 x206004 x206005) else (some false))) else (none)) else (none)) else (none)) else (some true)
def mortmainref09_sameExpr.f : Nat → Int → Int → Int → Int → ByteArray → List (S72) → Int → Int → Int → Int → ByteArray → List (S72) → Option (Bool)
  | 0, _, _, _, _, _, _, _, _, _, _, _, _ => none
  | k + 1, a0_0, a0_1, a0_2, a0_3, a0_4, l0_5, a1_0, a1_1, a1_2, a1_3, a1_4, l1_5 => if a0_0 = a1_0 then (if a0_1 = a1_1 then (if (!(a0_2 == a1_2) || (!(a0_3 == a1_3) || (!(a0_4.toList == a1_4.toList)))) = true then (mortmainref09_sameExpr.j0 k true a0_0 a0_1 a0_2 a0_3 a0_4 l0_5 a1_0 a1_1 a1_2 a1_3 a1_4 l1_5) else (mortmainref09_sameExpr.j0 k ((l0_5.length : Int) != (l1_5.length : Int)) a0_0 a0_1 a0_2 a0_3 a0_4 l0_5 a1_0 a1_1 a1_2 a1_3 a1_4 l1_5)) else (mortmainref09_sameExpr.j0 k true a0_0 a0_1 a0_2 a0_3 a0_4 l0_5 a1_0 a1_1 a1_2 a1_3 a1_4 l1_5)) else (mortmainref09_sameExpr.j0 k true a0_0 a0_1 a0_2 a0_3 a0_4 l0_5 a1_0 a1_1 a1_2 a1_3 a1_4 l1_5)
end
def mortmainref09_sameExpr.T6 : Bool × List (List Nat × List Nat) := (true, [([], []), ([0], [0]), ([], []), ([1, 2], [1, 2]), ([3], [3]), ([], []), ([5], [5]), ([], []), ([6, 7], [6, 7]), ([8], [8]), ([4, 9], [4, 9]), ([10], [10])])
def mortmainref09_sameExpr.B6 : List Nat := [0, 1, 0, 7, 15, 0, 32, 0, 224, 480, 1023, 2047]
theorem mortmainref09_sameExpr.tab6 : rtab .any (opsOf Tryd.f54 6) = mortmainref09_sameExpr.T6 := by kernel_rfl
theorem mortmainref09_sameExpr.bits6 : waitsOk mortmainref09_sameExpr.T6.2 mortmainref09_sameExpr.B6 = true := by kernel_rfl
set_option maxHeartbeats 8000000 in
set_option maxRecDepth 100000 in
theorem mortmainref09_sameExpr.calls (k : Nat) : ∀ (a0_0 : Int) (a0_1 : Int) (a0_2 : Int) (a0_3 : Int) (a0_4 : ByteArray) (A0_5 : Option Addr) (c0_5 : Nat) (l0_5 : List (S72)) (a1_0 : Int) (a1_1 : Int) (a1_2 : Int) (a1_3 : Int) (a1_4 : ByteArray) (A1_5 : Option Addr) (c1_5 : Nat) (l1_5 : List (S72)) (r : Bool) (w : World) (hr0_5 : Kd.C k72 w A0_5 l0_5.length l0_5) (hc0_5 : l0_5.length ≤ c0_5) (hr1_5 : Kd.C k72 w A1_5 l1_5.length l1_5) (hc1_5 : l1_5.length ≤ c1_5) (h : mortmainref09_sameExpr.f k a0_0 a0_1 a0_2 a0_3 a0_4 l0_5 a1_0 a1_1 a1_2 a1_3 a1_4 l1_5 = some r),
    Calls Tryd.prog 54 #[.agg #[.int .i64 a0_0, .int .i64 a0_1, .int .i64 a0_2, .int .i64 a0_3, .string a0_4, .slice A0_5 l0_5.length c0_5], .agg #[.int .i64 a1_0, .int .i64 a1_1, .int .i64 a1_2, .int .i64 a1_3, .string a1_4, .slice A1_5 l1_5.length c1_5]] w fun e w' => e = .returned (.bool r) ∧ Below w.heap.size w w' := by
  induction k using Nat.strongRecOn with
  | _ k ih =>
  intro a0_0 a0_1 a0_2 a0_3 a0_4 A0_5 c0_5 l0_5 a1_0 a1_1 a1_2 a1_3 a1_4 A1_5 c1_5 l1_5 r w hr0_5 hc0_5 hr1_5 hc1_5 h
  cases k with
  | zero => exact absurd h (by simp [mortmainref09_sameExpr.f])
  | succ k =>
  simp only [mortmainref09_sameExpr.f] at h
  have hu72 := Tryd.underlying72
  have hu70 := Tryd.underlying70
  have HR0_5 := Aside0.mk hr0_5
  have HC0_5 := Aside0.mk hc0_5
  clear hr0_5 hc0_5
  have HR1_5 := Aside0.mk hr1_5
  have HC1_5 := Aside0.mk hc1_5
  clear hr1_5 hc1_5
  have HB := Aside0.mk (Below.refl w.heap.size w)
  have H : (if a0_0 = a1_0 then (if a0_1 = a1_1 then (if (!(a0_2 == a1_2) || (!(a0_3 == a1_3) || (!(a0_4.toList == a1_4.toList)))) = true then (mortmainref09_sameExpr.j0 k true a0_0 a0_1 a0_2 a0_3 a0_4 l0_5 a1_0 a1_1 a1_2 a1_3 a1_4 l1_5) else (mortmainref09_sameExpr.j0 k ((l0_5.length : Int) != (l1_5.length : Int)) a0_0 a0_1 a0_2 a0_3 a0_4 l0_5 a1_0 a1_1 a1_2 a1_3 a1_4 l1_5)) else (mortmainref09_sameExpr.j0 k true a0_0 a0_1 a0_2 a0_3 a0_4 l0_5 a1_0 a1_1 a1_2 a1_3 a1_4 l1_5)) else (mortmainref09_sameExpr.j0 k true a0_0 a0_1 a0_2 a0_3 a0_4 l0_5 a1_0 a1_1 a1_2 a1_3 a1_4 l1_5)) = some r := h
  clear h
  have HC3 := Aside0.mk H
  clear H
  go_enter Tryd.func54, Tryd.ntmps54
  go_upto_region 1 with (first | ((with_reducible refine gate_dst (N := 2) rfl ?_); (try (refine gate_guard (by rfl) ?_; dsimp only)); refine box_event ?hg (N := 2) ?hd (cs := #[.int .i64 a0_0, .int .i64 a0_1, .int .i64 a0_2, .int .i64 a0_3, .string a0_4, .slice A0_5 l0_5.length c0_5]) (t := 72) ?hr ?_; (case hd => rfl); (case hg => rfl); (case hr => first | (go_simp; done) | (go_simp; rfl)); intro gb204 hg w4 hbox hb; have n0_ := Aside0.mk (below_step (by repeat (first | (with_reducible first | exact HB.out | apply below_alloc | apply pw_below_drewN | apply below_drew1) | exact HB.out)) hb); have n1_ := Aside0.mk (hbox); have n2_ := Aside0.mk ((by rw [hg]; exact (below_size (by repeat (first | (with_reducible first | exact HB.out | apply below_alloc | apply pw_below_drewN | apply below_drew1) | exact HB.out))) : w.heap.size ≤ gb204)); have n3_ := Aside0.mk ((by rw [hg]; exact (below_size (by repeat (first | (with_reducible first | exact HB.out | apply below_alloc | apply pw_below_drewN | apply below_drew1) | exact HB.out))) : w.heap.size ≤ gb204)); clear HB; have HB := n0_; have BK204 := n1_; have GW204 := n2_; have GE204 := n3_; clear n0_ n1_ n2_ n3_; clear hb hbox hg) | ((with_reducible refine gate_dst (N := 3) rfl ?_); (try (refine gate_guard (by rfl) ?_; dsimp only)); refine box_event ?hg (N := 3) ?hd (cs := #[.int .i64 a1_0, .int .i64 a1_1, .int .i64 a1_2, .int .i64 a1_3, .string a1_4, .slice A1_5 l1_5.length c1_5]) (t := 72) ?hr ?_; (case hd => rfl); (case hg => rfl); (case hr => first | (go_simp; done) | (go_simp; rfl)); intro gb205 hg w5 hbox hb; have n0_ := Aside0.mk (blk_below (g := gb204) (o := .cells #[.int .i64 a0_0, .int .i64 a0_1, .int .i64 a0_2, .int .i64 a0_3, .string a0_4, .slice A0_5 l0_5.length c0_5] 72 (0, 0)) (by (with_reducible repeat (first | refine blk_drewN ?_ _ | refine blk_drew ?_ | refine blk_alloc ?_ _)); exact BK204.out) hb); have n1_ := Aside0.mk (below_step (by repeat (first | (with_reducible first | exact HB.out | apply below_alloc | apply pw_below_drewN | apply below_drew1 | refine below_set ?_ GE204.out) | exact HB.out)) hb); have n2_ := Aside0.mk (hbox); have n3_ := Aside0.mk ((by rw [hg]; exact (below_size (by repeat (first | (with_reducible first | exact HB.out | apply below_alloc | apply pw_below_drewN | apply below_drew1 | refine below_set ?_ GE204.out) | exact HB.out))) : w.heap.size ≤ gb205)); have n4_ := Aside0.mk ((by rw [hg]; exact (below_size (by repeat (first | (with_reducible first | exact HB.out | apply below_alloc | apply pw_below_drewN | apply below_drew1 | refine below_set ?_ GE204.out) | exact HB.out))) : w.heap.size ≤ gb205)); have n5_ := Aside0.mk ((by rw [hg]; exact Nat.ne_of_lt (blk_lt (g := gb204) (o := .cells #[.int .i64 a0_0, .int .i64 a0_1, .int .i64 a0_2, .int .i64 a0_3, .string a0_4, .slice A0_5 l0_5.length c0_5] 72 (0, 0)) (by (with_reducible repeat (first | refine blk_drewN ?_ _ | refine blk_drew ?_ | refine blk_alloc ?_ _)); exact BK204.out)) : gb204 ≠ gb205)); have n6_ := Aside0.mk ((by rw [hg]; exact Nat.ne_of_gt (blk_lt (g := gb204) (o := .cells #[.int .i64 a0_0, .int .i64 a0_1, .int .i64 a0_2, .int .i64 a0_3, .string a0_4, .slice A0_5 l0_5.length c0_5] 72 (0, 0)) (by (with_reducible repeat (first | refine blk_drewN ?_ _ | refine blk_drew ?_ | refine blk_alloc ?_ _)); exact BK204.out)) : gb205 ≠ gb204)); clear BK204; clear HB; have BK204 := n0_; have HB := n1_; have BK205 := n2_; have GW205 := n3_; have GE205 := n4_; have NB204_205 := n5_; have NB205_204 := n6_; clear n0_ n1_ n2_ n3_ n4_ n5_ n6_; clear hb hbox hg))
  (try simp only [Act.put, List.setIfInBounds_toArray, List.set_cons_zero, List.set_cons_succ])
  go_cut [33] (fun v33 wc => ∃ (kq : Nat) (x33_2 : Bool), v33 = .bool x33_2 ∧ Aside0 (mortmainref09_sameExpr.j0 kq x33_2 a0_0 a0_1 a0_2 a0_3 a0_4 l0_5 a1_0 a1_1 a1_2 a1_3 a1_4 l1_5 = some r) ∧ Aside0 (kq ≤ k) ∧ Aside0 (wc.heap[gb204]? = some (.cells #[.int .i64 a0_0, .int .i64 a0_1, .int .i64 a0_2, .int .i64 a0_3, .string a0_4, (.slice A0_5 l0_5.length c0_5)] 72 (0, 0))) ∧ Aside0 (wc.heap[gb205]? = some (.cells #[.int .i64 a1_0, .int .i64 a1_1, .int .i64 a1_2, .int .i64 a1_3, .string a1_4, (.slice A1_5 l1_5.length c1_5)] 72 (0, 0))) ∧ Aside0 (Below w.heap.size w wc))
  case first =>
    have H := HC3.out
    clear HC3
    by_cases c6 : a0_0 = a1_0
    · rw [if_pos c6] at H
      have c6b0 : (a0_0 == a1_0) = true := beq_iff_eq.mpr c6
      have c6b1 : (a0_0 != a1_0) = false := bne_eq_false_iff_eq.mpr c6
      clear c6
      (first | rw [c6b0] | (simp only [i64_w, i32_w]; rw [c6b0]) | skip)
      by_cases c7 : a0_1 = a1_1
      · rw [if_pos c7] at H
        have c7b0 : (a0_1 == a1_1) = true := beq_iff_eq.mpr c7
        have c7b1 : (a0_1 != a1_1) = false := bne_eq_false_iff_eq.mpr c7
        clear c7
        by_cases c8 : (!(a0_2 == a1_2) || (!(a0_3 == a1_3) || (!(a0_4.toList == a1_4.toList)))) = true
        · rw [if_pos c8] at H
          have c8b0 : (!(a0_2 == a1_2) || (!(a0_3 == a1_3) || (!(a0_4.toList == a1_4.toList)))) = true := c8
          clear c8
          have H' := Aside0.mk H
          clear H
          have hnb9 := NB204_205.out
          have hnc9 := NB205_204.out
          have hcz10_0 : w5.cell? ⟨gb204, 0, none⟩ = some (.int .i64 a0_0) := (blk_cell BK204.out 0).trans rfl
          have hcz10_1 : w5.cell? ⟨gb204, 1, none⟩ = some (.int .i64 a0_1) := (blk_cell BK204.out 1).trans rfl
          have hcz10_2 : w5.cell? ⟨gb204, 2, none⟩ = some (.int .i64 a0_2) := (blk_cell BK204.out 2).trans rfl
          have hcz10_3 : w5.cell? ⟨gb204, 3, none⟩ = some (.int .i64 a0_3) := (blk_cell BK204.out 3).trans rfl
          have hcz10_4 : w5.cell? ⟨gb204, 4, none⟩ = some (.string a0_4) := (blk_cell BK204.out 4).trans rfl
          have hcz10_5 : w5.cell? ⟨gb204, 5, none⟩ = some (.slice A0_5 l0_5.length c0_5) := (blk_cell BK204.out 5).trans rfl
          have hfz10_0 := blk_frozen BK204.out 0
          have hfz10_1 := blk_frozen BK204.out 1
          have hfz10_2 := blk_frozen BK204.out 2
          have hfz10_3 := blk_frozen BK204.out 3
          have hfz10_4 := blk_frozen BK204.out 4
          have hfz10_5 := blk_frozen BK204.out 5
          have hcz11_0 : w5.cell? ⟨gb205, 0, none⟩ = some (.int .i64 a1_0) := (blk_cell BK205.out 0).trans rfl
          have hcz11_1 : w5.cell? ⟨gb205, 1, none⟩ = some (.int .i64 a1_1) := (blk_cell BK205.out 1).trans rfl
          have hcz11_2 : w5.cell? ⟨gb205, 2, none⟩ = some (.int .i64 a1_2) := (blk_cell BK205.out 2).trans rfl
          have hcz11_3 : w5.cell? ⟨gb205, 3, none⟩ = some (.int .i64 a1_3) := (blk_cell BK205.out 3).trans rfl
          have hcz11_4 : w5.cell? ⟨gb205, 4, none⟩ = some (.string a1_4) := (blk_cell BK205.out 4).trans rfl
          have hcz11_5 : w5.cell? ⟨gb205, 5, none⟩ = some (.slice A1_5 l1_5.length c1_5) := (blk_cell BK205.out 5).trans rfl
          have hfz11_0 := blk_frozen BK205.out 0
          have hfz11_1 := blk_frozen BK205.out 1
          have hfz11_2 := blk_frozen BK205.out 2
          have hfz11_3 := blk_frozen BK205.out 3
          have hfz11_4 := blk_frozen BK205.out 4
          have hfz11_5 := blk_frozen BK205.out 5
          go_wp2
          go_meet
          case rel => exact ⟨_, (true), (by first | rfl | (simp; done) | (simp [*]; done)), H', ⟨by first | omega | exact Nat.le_refl _⟩, ⟨by (with_reducible repeat (first | refine blk_drewN ?_ _ | refine blk_drew ?_ | refine blk_alloc ?_ _)); exact BK204.out⟩, ⟨by (with_reducible repeat (first | refine blk_drewN ?_ _ | refine blk_drew ?_ | refine blk_alloc ?_ _)); exact BK205.out⟩, ⟨by repeat (first | (with_reducible first | exact HB.out | apply below_alloc | apply pw_below_drewN | apply below_drew1 | refine below_set ?_ GE204.out | refine below_set ?_ GE205.out) | exact HB.out)⟩⟩
        · rw [if_neg c8] at H
          have c8b0 : (!(a0_2 == a1_2) || (!(a0_3 == a1_3) || (!(a0_4.toList == a1_4.toList)))) = false := by simpa using c8
          clear c8
          have H' := Aside0.mk H
          clear H
          have hnb12 := NB204_205.out
          have hnc12 := NB205_204.out
          have hcz13_0 : w5.cell? ⟨gb204, 0, none⟩ = some (.int .i64 a0_0) := (blk_cell BK204.out 0).trans rfl
          have hcz13_1 : w5.cell? ⟨gb204, 1, none⟩ = some (.int .i64 a0_1) := (blk_cell BK204.out 1).trans rfl
          have hcz13_2 : w5.cell? ⟨gb204, 2, none⟩ = some (.int .i64 a0_2) := (blk_cell BK204.out 2).trans rfl
          have hcz13_3 : w5.cell? ⟨gb204, 3, none⟩ = some (.int .i64 a0_3) := (blk_cell BK204.out 3).trans rfl
          have hcz13_4 : w5.cell? ⟨gb204, 4, none⟩ = some (.string a0_4) := (blk_cell BK204.out 4).trans rfl
          have hcz13_5 : w5.cell? ⟨gb204, 5, none⟩ = some (.slice A0_5 l0_5.length c0_5) := (blk_cell BK204.out 5).trans rfl
          have hfz13_0 := blk_frozen BK204.out 0
          have hfz13_1 := blk_frozen BK204.out 1
          have hfz13_2 := blk_frozen BK204.out 2
          have hfz13_3 := blk_frozen BK204.out 3
          have hfz13_4 := blk_frozen BK204.out 4
          have hfz13_5 := blk_frozen BK204.out 5
          have hcz14_0 : w5.cell? ⟨gb205, 0, none⟩ = some (.int .i64 a1_0) := (blk_cell BK205.out 0).trans rfl
          have hcz14_1 : w5.cell? ⟨gb205, 1, none⟩ = some (.int .i64 a1_1) := (blk_cell BK205.out 1).trans rfl
          have hcz14_2 : w5.cell? ⟨gb205, 2, none⟩ = some (.int .i64 a1_2) := (blk_cell BK205.out 2).trans rfl
          have hcz14_3 : w5.cell? ⟨gb205, 3, none⟩ = some (.int .i64 a1_3) := (blk_cell BK205.out 3).trans rfl
          have hcz14_4 : w5.cell? ⟨gb205, 4, none⟩ = some (.string a1_4) := (blk_cell BK205.out 4).trans rfl
          have hcz14_5 : w5.cell? ⟨gb205, 5, none⟩ = some (.slice A1_5 l1_5.length c1_5) := (blk_cell BK205.out 5).trans rfl
          have hfz14_0 := blk_frozen BK205.out 0
          have hfz14_1 := blk_frozen BK205.out 1
          have hfz14_2 := blk_frozen BK205.out 2
          have hfz14_3 := blk_frozen BK205.out 3
          have hfz14_4 := blk_frozen BK205.out 4
          have hfz14_5 := blk_frozen BK205.out 5
          go_wp2
          go_meet
          case rel => exact ⟨_, (((l0_5.length : Int) != (l1_5.length : Int))), (by first | rfl | (simp; done) | (simp [*]; done)), H', ⟨by first | omega | exact Nat.le_refl _⟩, ⟨by (with_reducible repeat (first | refine blk_drewN ?_ _ | refine blk_drew ?_ | refine blk_alloc ?_ _)); exact BK204.out⟩, ⟨by (with_reducible repeat (first | refine blk_drewN ?_ _ | refine blk_drew ?_ | refine blk_alloc ?_ _)); exact BK205.out⟩, ⟨by repeat (first | (with_reducible first | exact HB.out | apply below_alloc | apply pw_below_drewN | apply below_drew1 | refine below_set ?_ GE204.out | refine below_set ?_ GE205.out) | exact HB.out)⟩⟩
      · rw [if_neg c7] at H
        have c7b0 : (a0_1 == a1_1) = false := beq_eq_false_iff_ne.mpr c7
        have c7b1 : (a0_1 != a1_1) = true := bne_iff_ne.mpr c7
        have H' := Aside0.mk H
        clear H
        have hnb15 := NB204_205.out
        have hnc15 := NB205_204.out
        have hcz16_0 : w5.cell? ⟨gb204, 0, none⟩ = some (.int .i64 a0_0) := (blk_cell BK204.out 0).trans rfl
        have hcz16_1 : w5.cell? ⟨gb204, 1, none⟩ = some (.int .i64 a0_1) := (blk_cell BK204.out 1).trans rfl
        have hcz16_2 : w5.cell? ⟨gb204, 2, none⟩ = some (.int .i64 a0_2) := (blk_cell BK204.out 2).trans rfl
        have hcz16_3 : w5.cell? ⟨gb204, 3, none⟩ = some (.int .i64 a0_3) := (blk_cell BK204.out 3).trans rfl
        have hcz16_4 : w5.cell? ⟨gb204, 4, none⟩ = some (.string a0_4) := (blk_cell BK204.out 4).trans rfl
        have hcz16_5 : w5.cell? ⟨gb204, 5, none⟩ = some (.slice A0_5 l0_5.length c0_5) := (blk_cell BK204.out 5).trans rfl
        have hfz16_0 := blk_frozen BK204.out 0
        have hfz16_1 := blk_frozen BK204.out 1
        have hfz16_2 := blk_frozen BK204.out 2
        have hfz16_3 := blk_frozen BK204.out 3
        have hfz16_4 := blk_frozen BK204.out 4
        have hfz16_5 := blk_frozen BK204.out 5
        have hcz17_0 : w5.cell? ⟨gb205, 0, none⟩ = some (.int .i64 a1_0) := (blk_cell BK205.out 0).trans rfl
        have hcz17_1 : w5.cell? ⟨gb205, 1, none⟩ = some (.int .i64 a1_1) := (blk_cell BK205.out 1).trans rfl
        have hcz17_2 : w5.cell? ⟨gb205, 2, none⟩ = some (.int .i64 a1_2) := (blk_cell BK205.out 2).trans rfl
        have hcz17_3 : w5.cell? ⟨gb205, 3, none⟩ = some (.int .i64 a1_3) := (blk_cell BK205.out 3).trans rfl
        have hcz17_4 : w5.cell? ⟨gb205, 4, none⟩ = some (.string a1_4) := (blk_cell BK205.out 4).trans rfl
        have hcz17_5 : w5.cell? ⟨gb205, 5, none⟩ = some (.slice A1_5 l1_5.length c1_5) := (blk_cell BK205.out 5).trans rfl
        have hfz17_0 := blk_frozen BK205.out 0
        have hfz17_1 := blk_frozen BK205.out 1
        have hfz17_2 := blk_frozen BK205.out 2
        have hfz17_3 := blk_frozen BK205.out 3
        have hfz17_4 := blk_frozen BK205.out 4
        have hfz17_5 := blk_frozen BK205.out 5
        go_wp2
        go_meet
        case rel => exact ⟨_, (true), (by first | rfl | (simp; done) | (simp [*]; done)), H', ⟨by first | omega | exact Nat.le_refl _⟩, ⟨by (with_reducible repeat (first | refine blk_drewN ?_ _ | refine blk_drew ?_ | refine blk_alloc ?_ _)); exact BK204.out⟩, ⟨by (with_reducible repeat (first | refine blk_drewN ?_ _ | refine blk_drew ?_ | refine blk_alloc ?_ _)); exact BK205.out⟩, ⟨by repeat (first | (with_reducible first | exact HB.out | apply below_alloc | apply pw_below_drewN | apply below_drew1 | refine below_set ?_ GE204.out | refine below_set ?_ GE205.out) | exact HB.out)⟩⟩
    · rw [if_neg c6] at H
      have c6b0 : (a0_0 == a1_0) = false := beq_eq_false_iff_ne.mpr c6
      have c6b1 : (a0_0 != a1_0) = true := bne_iff_ne.mpr c6
      (first | rw [c6b0] | (simp only [i64_w, i32_w]; rw [c6b0]) | skip)
      have H' := Aside0.mk H
      clear H
      have hnb18 := NB204_205.out
      have hnc18 := NB205_204.out
      have hcz19_0 : w5.cell? ⟨gb204, 0, none⟩ = some (.int .i64 a0_0) := (blk_cell BK204.out 0).trans rfl
      have hcz19_1 : w5.cell? ⟨gb204, 1, none⟩ = some (.int .i64 a0_1) := (blk_cell BK204.out 1).trans rfl
      have hcz19_2 : w5.cell? ⟨gb204, 2, none⟩ = some (.int .i64 a0_2) := (blk_cell BK204.out 2).trans rfl
      have hcz19_3 : w5.cell? ⟨gb204, 3, none⟩ = some (.int .i64 a0_3) := (blk_cell BK204.out 3).trans rfl
      have hcz19_4 : w5.cell? ⟨gb204, 4, none⟩ = some (.string a0_4) := (blk_cell BK204.out 4).trans rfl
      have hcz19_5 : w5.cell? ⟨gb204, 5, none⟩ = some (.slice A0_5 l0_5.length c0_5) := (blk_cell BK204.out 5).trans rfl
      have hfz19_0 := blk_frozen BK204.out 0
      have hfz19_1 := blk_frozen BK204.out 1
      have hfz19_2 := blk_frozen BK204.out 2
      have hfz19_3 := blk_frozen BK204.out 3
      have hfz19_4 := blk_frozen BK204.out 4
      have hfz19_5 := blk_frozen BK204.out 5
      have hcz20_0 : w5.cell? ⟨gb205, 0, none⟩ = some (.int .i64 a1_0) := (blk_cell BK205.out 0).trans rfl
      have hcz20_1 : w5.cell? ⟨gb205, 1, none⟩ = some (.int .i64 a1_1) := (blk_cell BK205.out 1).trans rfl
      have hcz20_2 : w5.cell? ⟨gb205, 2, none⟩ = some (.int .i64 a1_2) := (blk_cell BK205.out 2).trans rfl
      have hcz20_3 : w5.cell? ⟨gb205, 3, none⟩ = some (.int .i64 a1_3) := (blk_cell BK205.out 3).trans rfl
      have hcz20_4 : w5.cell? ⟨gb205, 4, none⟩ = some (.string a1_4) := (blk_cell BK205.out 4).trans rfl
      have hcz20_5 : w5.cell? ⟨gb205, 5, none⟩ = some (.slice A1_5 l1_5.length c1_5) := (blk_cell BK205.out 5).trans rfl
      have hfz20_0 := blk_frozen BK205.out 0
      have hfz20_1 := blk_frozen BK205.out 1
      have hfz20_2 := blk_frozen BK205.out 2
      have hfz20_3 := blk_frozen BK205.out 3
      have hfz20_4 := blk_frozen BK205.out 4
      have hfz20_5 := blk_frozen BK205.out 5
      go_wp2
      go_meet
      case rel => exact ⟨_, (true), (by first | rfl | (simp; done) | (simp [*]; done)), H', ⟨by first | omega | exact Nat.le_refl _⟩, ⟨by (with_reducible repeat (first | refine blk_drewN ?_ _ | refine blk_drew ?_ | refine blk_alloc ?_ _)); exact BK204.out⟩, ⟨by (with_reducible repeat (first | refine blk_drewN ?_ _ | refine blk_drew ?_ | refine blk_alloc ?_ _)); exact BK205.out⟩, ⟨by repeat (first | (with_reducible first | exact HB.out | apply below_alloc | apply pw_below_drewN | apply below_drew1 | refine below_set ?_ GE204.out | refine below_set ?_ GE205.out) | exact HB.out)⟩⟩
  case rest =>
    clear HC3
    try clear c1
    try clear p2
    try clear c5
    try clear c6
    try clear c6b0
    try clear c6b1
    try clear c7
    try clear c7b0
    try clear c7b1
    try clear c8
    try clear c8b0
    try clear c9
    try clear c12
    try clear c15
    try clear c18
    try clear hcz10_0
    try clear hcz10_1
    try clear hcz10_2
    try clear hcz10_3
    try clear hcz10_4
    try clear hcz10_5
    try clear hcz11_0
    try clear hcz11_1
    try clear hcz11_2
    try clear hcz11_3
    try clear hcz11_4
    try clear hcz11_5
    try clear hcz13_0
    try clear hcz13_1
    try clear hcz13_2
    try clear hcz13_3
    try clear hcz13_4
    try clear hcz13_5
    try clear hcz14_0
    try clear hcz14_1
    try clear hcz14_2
    try clear hcz14_3
    try clear hcz14_4
    try clear hcz14_5
    try clear hcz16_0
    try clear hcz16_1
    try clear hcz16_2
    try clear hcz16_3
    try clear hcz16_4
    try clear hcz16_5
    try clear hcz17_0
    try clear hcz17_1
    try clear hcz17_2
    try clear hcz17_3
    try clear hcz17_4
    try clear hcz17_5
    try clear hcz19_0
    try clear hcz19_1
    try clear hcz19_2
    try clear hcz19_3
    try clear hcz19_4
    try clear hcz19_5
    try clear hcz20_0
    try clear hcz20_1
    try clear hcz20_2
    try clear hcz20_3
    try clear hcz20_4
    try clear hcz20_5
    try clear hfz10_0
    try clear hfz10_1
    try clear hfz10_2
    try clear hfz10_3
    try clear hfz10_4
    try clear hfz10_5
    try clear hfz11_0
    try clear hfz11_1
    try clear hfz11_2
    try clear hfz11_3
    try clear hfz11_4
    try clear hfz11_5
    try clear hfz13_0
    try clear hfz13_1
    try clear hfz13_2
    try clear hfz13_3
    try clear hfz13_4
    try clear hfz13_5
    try clear hfz14_0
    try clear hfz14_1
    try clear hfz14_2
    try clear hfz14_3
    try clear hfz14_4
    try clear hfz14_5
    try clear hfz16_0
    try clear hfz16_1
    try clear hfz16_2
    try clear hfz16_3
    try clear hfz16_4
    try clear hfz16_5
    try clear hfz17_0
    try clear hfz17_1
    try clear hfz17_2
    try clear hfz17_3
    try clear hfz17_4
    try clear hfz17_5
    try clear hfz19_0
    try clear hfz19_1
    try clear hfz19_2
    try clear hfz19_3
    try clear hfz19_4
    try clear hfz19_5
    try clear hfz20_0
    try clear hfz20_1
    try clear hfz20_2
    try clear hfz20_3
    try clear hfz20_4
    try clear hfz20_5
    obtain ⟨kq, x33_2, rfl, HA, HJ2, BK204, BK205, HB⟩ := hcut
    cases kq with
    | zero => exact absurd HA.out (by simp [mortmainref09_sameExpr.j0])
    | succ kj2 =>
      have H := HA.out
      clear HA
      simp only [mortmainref09_sameExpr.j0] at H
      by_cases c21 : x33_2 = true
      · subst c21
        have H1 : (some false) = some r := by rw [if_pos rfl] at H; exact H
        clear H
        have H := H1
        clear H1
        obtain rfl := Option.some.inj H
        go_wp2
        go_ret
        exact ⟨by first | rfl | (simp [errW_none, errW_some] <;> rfl) | (simp [*, errW_none, errW_some] <;> rfl), by repeat (first | (with_reducible first | exact HB.out | apply below_alloc | apply pw_below_drewN | apply below_drew1 | refine below_set ?_ GE204.out | refine below_set ?_ GE205.out) | exact HB.out)⟩
      · replace c21 := Bool.eq_false_iff.mpr c21
        subst c21
        have H1 : (mortmainref09_sameExpr.l0 kj2 (l0_5.length : Int) 0 a0_0 a0_1 a0_2 a0_3 a0_4 l0_5 a1_0 a1_1 a1_2 a1_3 a1_4 l1_5) = some r := by rw [if_neg (show ¬ (false = true) by decide)] at H; exact H
        clear H
        have H := H1
        clear H1
        have H' := Aside0.mk H
        clear H
        have hnb22 := NB204_205.out
        have hnc22 := NB205_204.out
        have hcz23_0 : wc.cell? ⟨gb204, 0, none⟩ = some (.int .i64 a0_0) := (blk_cell BK204.out 0).trans rfl
        have hcz23_1 : wc.cell? ⟨gb204, 1, none⟩ = some (.int .i64 a0_1) := (blk_cell BK204.out 1).trans rfl
        have hcz23_2 : wc.cell? ⟨gb204, 2, none⟩ = some (.int .i64 a0_2) := (blk_cell BK204.out 2).trans rfl
        have hcz23_3 : wc.cell? ⟨gb204, 3, none⟩ = some (.int .i64 a0_3) := (blk_cell BK204.out 3).trans rfl
        have hcz23_4 : wc.cell? ⟨gb204, 4, none⟩ = some (.string a0_4) := (blk_cell BK204.out 4).trans rfl
        have hcz23_5 : wc.cell? ⟨gb204, 5, none⟩ = some (.slice A0_5 l0_5.length c0_5) := (blk_cell BK204.out 5).trans rfl
        have hfz23_0 := blk_frozen BK204.out 0
        have hfz23_1 := blk_frozen BK204.out 1
        have hfz23_2 := blk_frozen BK204.out 2
        have hfz23_3 := blk_frozen BK204.out 3
        have hfz23_4 := blk_frozen BK204.out 4
        have hfz23_5 := blk_frozen BK204.out 5
        go_wp2
        go_loopg [37] kj2 (fun kq v37 w' => ∃ (x37_2 : Int), v37 = .int .i64 x37_2 ∧ Aside0 (mortmainref09_sameExpr.l0 kq (l0_5.length : Int) x37_2 a0_0 a0_1 a0_2 a0_3 a0_4 l0_5 a1_0 a1_1 a1_2 a1_3 a1_4 l1_5 = some r) ∧ Aside0 (kq ≤ kj2) ∧ Aside0 (w'.heap[gb204]? = some (.cells #[.int .i64 a0_0, .int .i64 a0_1, .int .i64 a0_2, .int .i64 a0_3, .string a0_4, (.slice A0_5 l0_5.length c0_5)] 72 (0, 0))) ∧ Aside0 (w'.heap[gb205]? = some (.cells #[.int .i64 a1_0, .int .i64 a1_1, .int .i64 a1_2, .int .i64 a1_3, .string a1_4, (.slice A1_5 l1_5.length c1_5)] 72 (0, 0))) ∧ Aside0 (Below w.heap.size w w'))
        case atStart => exact ⟨(0), (by first | rfl | (simp; done) | (simp [*]; done)), H', ⟨Nat.le_refl _⟩, ⟨by (with_reducible repeat (first | refine blk_drewN ?_ _ | refine blk_drew ?_ | refine blk_alloc ?_ _)); exact BK204.out⟩, ⟨by (with_reducible repeat (first | refine blk_drewN ?_ _ | refine blk_drew ?_ | refine blk_alloc ?_ _)); exact BK205.out⟩, ⟨by repeat (first | (with_reducible first | exact HB.out | apply below_alloc | apply pw_below_drewN | apply below_drew1 | refine below_set ?_ GE204.out | refine below_set ?_ GE205.out) | exact HB.out)⟩⟩
        case round =>
          clear H'
          try clear c1
          try clear c2
          try clear p2
          try clear c5
          try clear c6
          try clear c6b0
          try clear c6b1
          try clear c7
          try clear c7b0
          try clear c7b1
          try clear c8
          try clear c8b0
          try clear c9
          try clear c12
          try clear c15
          try clear c18
          try clear c21
          try clear c22
          try clear hcz10_0
          try clear hcz10_1
          try clear hcz10_2
          try clear hcz10_3
          try clear hcz10_4
          try clear hcz10_5
          try clear hcz11_0
          try clear hcz11_1
          try clear hcz11_2
          try clear hcz11_3
          try clear hcz11_4
          try clear hcz11_5
          try clear hcz13_0
          try clear hcz13_1
          try clear hcz13_2
          try clear hcz13_3
          try clear hcz13_4
          try clear hcz13_5
          try clear hcz14_0
          try clear hcz14_1
          try clear hcz14_2
          try clear hcz14_3
          try clear hcz14_4
          try clear hcz14_5
          try clear hcz16_0
          try clear hcz16_1
          try clear hcz16_2
          try clear hcz16_3
          try clear hcz16_4
          try clear hcz16_5
          try clear hcz17_0
          try clear hcz17_1
          try clear hcz17_2
          try clear hcz17_3
          try clear hcz17_4
          try clear hcz17_5
          try clear hcz19_0
          try clear hcz19_1
          try clear hcz19_2
          try clear hcz19_3
          try clear hcz19_4
          try clear hcz19_5
          try clear hcz20_0
          try clear hcz20_1
          try clear hcz20_2
          try clear hcz20_3
          try clear hcz20_4
          try clear hcz20_5
          try clear hcz23_0
          try clear hcz23_1
          try clear hcz23_2
          try clear hcz23_3
          try clear hcz23_4
          try clear hcz23_5
          try clear hfz10_0
          try clear hfz10_1
          try clear hfz10_2
          try clear hfz10_3
          try clear hfz10_4
          try clear hfz10_5
          try clear hfz11_0
          try clear hfz11_1
          try clear hfz11_2
          try clear hfz11_3
          try clear hfz11_4
          try clear hfz11_5
          try clear hfz13_0
          try clear hfz13_1
          try clear hfz13_2
          try clear hfz13_3
          try clear hfz13_4
          try clear hfz13_5
          try clear hfz14_0
          try clear hfz14_1
          try clear hfz14_2
          try clear hfz14_3
          try clear hfz14_4
          try clear hfz14_5
          try clear hfz16_0
          try clear hfz16_1
          try clear hfz16_2
          try clear hfz16_3
          try clear hfz16_4
          try clear hfz16_5
          try clear hfz17_0
          try clear hfz17_1
          try clear hfz17_2
          try clear hfz17_3
          try clear hfz17_4
          try clear hfz17_5
          try clear hfz19_0
          try clear hfz19_1
          try clear hfz19_2
          try clear hfz19_3
          try clear hfz19_4
          try clear hfz19_5
          try clear hfz20_0
          try clear hfz20_1
          try clear hfz20_2
          try clear hfz20_3
          try clear hfz20_4
          try clear hfz20_5
          try clear hfz23_0
          try clear hfz23_1
          try clear hfz23_2
          try clear hfz23_3
          try clear hfz23_4
          try clear hfz23_5
          try clear p2
          obtain ⟨x37_2, rfl, HA, HK2, BK204, BK205, HB⟩ := hrel
          cases gk with
          | zero => exact absurd HA.out (by simp [mortmainref09_sameExpr.l0])
          | succ k2 =>
            have H := HA.out
            clear HA
            simp only [mortmainref09_sameExpr.l0] at H
            by_cases c24 : x37_2 < (l0_5.length : Int)
            · rw [if_pos c24] at H
              have c24b0 : decide (x37_2 < (l0_5.length : Int)) = true := decide_eq_true c24
              clear c24
              by_cases c25 : 0 ≤ x37_2
              · rw [if_pos c25] at H
                have c25b0 : decide (0 ≤ x37_2) = true := decide_eq_true c25
                clear c25
                by_cases c26 : x37_2 < (l0_5.length : Int)
                · rw [if_pos c26] at H
                  have c26b0 : decide (x37_2 < (l0_5.length : Int)) = true := decide_eq_true c26
                  clear c26
                  by_cases c27 : x37_2 < (l1_5.length : Int)
                  · rw [if_pos c27] at H
                    have c27b0 : decide (x37_2 < (l1_5.length : Int)) = true := decide_eq_true c27
                    clear c27
                    replace H := Option.bind_eq_some_iff.mp H
                    obtain ⟨t208, A280, H⟩ := H
                    replace H : (if t208 = true then (mortmainref09_sameExpr.l0 k2 (l0_5.length : Int) (wrap64 (x37_2 + 1)) a0_0 a0_1 a0_2 a0_3 a0_4 l0_5 a1_0 a1_1 a1_2 a1_3 a1_4 l1_5) else (some false)) = some r := H
                    have A28 := Aside0.mk A280
                    clear A280
                    by_cases c29 : t208 = true
                    · subst c29
                      have H1 : (mortmainref09_sameExpr.l0 k2 (l0_5.length : Int) (wrap64 (x37_2 + 1)) a0_0 a0_1 a0_2 a0_3 a0_4 l0_5 a1_0 a1_1 a1_2 a1_3 a1_4 l1_5) = some r := by rw [if_pos rfl] at H; exact H
                      clear H
                      have H := H1
                      clear H1
                      have H' := Aside0.mk H
                      clear H
                      try go_wp2
                      have n0_ := Aside0.mk (blk_drew BK204.out)
                      have n1_ := Aside0.mk (blk_drew BK205.out)
                      have n2_ := Aside0.mk (below_drew1 HB.out)
                      clear BK204
                      clear BK205
                      clear HB
                      have BK204 := n0_
                      have BK205 := n1_
                      have HB := n2_
                      clear n0_ n1_ n2_
                      have p206 : 0 ≤ (x37_2 : Int) := of_decide_eq_true (by first | (with_reducible assumption) | assumption)
                      have q206 : x37_2 < (l0_5.length : Int) := of_decide_eq_true (by first | (with_reducible assumption) | assumption)
                      obtain ⟨ad206, A206_5, c206_5, e206, hx206_0, hx206_1, hx206_2, hx206_3, hx206_4, hx206_5, hl206_5, hi206_5⟩ := at_T72 HR0_5.out x37_2 p206 q206
                      have hw206_5 := hx206_5
                      have hw206_4 := hx206_4
                      have hw206_3 := hx206_3
                      have hw206_2 := hx206_2
                      have hw206_1 := hx206_1
                      have hw206_0 := hx206_0
                      cases e206
                      replace hx206_0 := (HB.out.cell (World.block_lt_of_cell? w _ hx206_0)).trans hx206_0
                      replace hx206_1 := (HB.out.cell (World.block_lt_of_cell? w _ hx206_1)).trans hx206_1
                      replace hx206_2 := (HB.out.cell (World.block_lt_of_cell? w _ hx206_2)).trans hx206_2
                      replace hx206_3 := (HB.out.cell (World.block_lt_of_cell? w _ hx206_3)).trans hx206_3
                      replace hx206_4 := (HB.out.cell (World.block_lt_of_cell? w _ hx206_4)).trans hx206_4
                      replace hx206_5 := (HB.out.cell (World.block_lt_of_cell? w _ hx206_5)).trans hx206_5
                      have HR206_5 := Aside0.mk hi206_5
                      have HC206_5 := Aside0.mk hl206_5
                      clear hi206_5 hl206_5
                      replace p206 := eq_true p206
                      replace q206 := eq_true q206
                      have p207 : 0 ≤ (x37_2 : Int) := of_decide_eq_true (by first | (with_reducible assumption) | assumption)
                      have q207 : x37_2 < (l1_5.length : Int) := of_decide_eq_true (by first | (with_reducible assumption) | assumption)
                      obtain ⟨ad207, A207_5, c207_5, e207, hx207_0, hx207_1, hx207_2, hx207_3, hx207_4, hx207_5, hl207_5, hi207_5⟩ := at_T72 HR1_5.out x37_2 p207 q207
                      have hw207_5 := hx207_5
                      have hw207_4 := hx207_4
                      have hw207_3 := hx207_3
                      have hw207_2 := hx207_2
                      have hw207_1 := hx207_1
                      have hw207_0 := hx207_0
                      cases e207
                      replace hx207_0 := (HB.out.cell (World.block_lt_of_cell? w _ hx207_0)).trans hx207_0
                      replace hx207_1 := (HB.out.cell (World.block_lt_of_cell? w _ hx207_1)).trans hx207_1
                      replace hx207_2 := (HB.out.cell (World.block_lt_of_cell? w _ hx207_2)).trans hx207_2
                      replace hx207_3 := (HB.out.cell (World.block_lt_of_cell? w _ hx207_3)).trans hx207_3
                      replace hx207_4 := (HB.out.cell (World.block_lt_of_cell? w _ hx207_4)).trans hx207_4
                      replace hx207_5 := (HB.out.cell (World.block_lt_of_cell? w _ hx207_5)).trans hx207_5
                      have HR207_5 := Aside0.mk hi207_5
                      have HC207_5 := Aside0.mk hl207_5
                      clear hi207_5 hl207_5
                      replace p207 := eq_true p207
                      replace q207 := eq_true q207
                      refine start_ (n := 12) (S := fun w' => w'.cell? ⟨gb204, 0, none⟩ = some (.int .i64 a0_0) ∧ w'.cell? ⟨gb204, 1, none⟩ = some (.int .i64 a0_1) ∧ w'.cell? ⟨gb204, 2, none⟩ = some (.int .i64 a0_2) ∧ w'.cell? ⟨gb204, 3, none⟩ = some (.int .i64 a0_3) ∧ w'.cell? ⟨gb204, 4, none⟩ = some (.string a0_4) ∧ w'.cell? ⟨gb204, 5, none⟩ = some (.slice (some ad206) l0_5.length c0_5) ∧ w'.cell? ⟨gb205, 0, none⟩ = some (.int .i64 a1_0) ∧ w'.cell? ⟨gb205, 1, none⟩ = some (.int .i64 a1_1) ∧ w'.cell? ⟨gb205, 2, none⟩ = some (.int .i64 a1_2) ∧ w'.cell? ⟨gb205, 3, none⟩ = some (.int .i64 a1_3) ∧ w'.cell? ⟨gb205, 4, none⟩ = some (.string a1_4) ∧ w'.cell? ⟨gb205, 5, none⟩ = some (.slice (some ad207) l1_5.length c1_5) ∧ w'.cell? (ad206.add ((x37_2).toNat * 6)) = some (.int .i64 ((rd_T72 l0_5 x37_2).f0)) ∧ w'.cell? ⟨(ad206.add ((x37_2).toNat * 6)).block, (ad206.add ((x37_2).toNat * 6)).off + 1, none⟩ = some (.int .i64 ((rd_T72 l0_5 x37_2).f1)) ∧ w'.cell? ⟨(ad206.add ((x37_2).toNat * 6)).block, (ad206.add ((x37_2).toNat * 6)).off + 2, none⟩ = some (.int .i64 ((rd_T72 l0_5 x37_2).f2.f0)) ∧ w'.cell? ⟨(ad206.add ((x37_2).toNat * 6)).block, (ad206.add ((x37_2).toNat * 6)).off + 3, none⟩ = some (.int .i64 ((rd_T72 l0_5 x37_2).f2.f1)) ∧ w'.cell? ⟨(ad206.add ((x37_2).toNat * 6)).block, (ad206.add ((x37_2).toNat * 6)).off + 4, none⟩ = some (.string ((rd_T72 l0_5 x37_2).f2.f2)) ∧ w'.cell? ⟨(ad206.add ((x37_2).toNat * 6)).block, (ad206.add ((x37_2).toNat * 6)).off + 5, none⟩ = some (.slice A206_5 ((rd_T72 l0_5 x37_2).f3).length c206_5) ∧ w'.cell? (ad207.add ((x37_2).toNat * 6)) = some (.int .i64 ((rd_T72 l1_5 x37_2).f0)) ∧ w'.cell? ⟨(ad207.add ((x37_2).toNat * 6)).block, (ad207.add ((x37_2).toNat * 6)).off + 1, none⟩ = some (.int .i64 ((rd_T72 l1_5 x37_2).f1)) ∧ w'.cell? ⟨(ad207.add ((x37_2).toNat * 6)).block, (ad207.add ((x37_2).toNat * 6)).off + 2, none⟩ = some (.int .i64 ((rd_T72 l1_5 x37_2).f2.f0)) ∧ w'.cell? ⟨(ad207.add ((x37_2).toNat * 6)).block, (ad207.add ((x37_2).toNat * 6)).off + 3, none⟩ = some (.int .i64 ((rd_T72 l1_5 x37_2).f2.f1)) ∧ w'.cell? ⟨(ad207.add ((x37_2).toNat * 6)).block, (ad207.add ((x37_2).toNat * 6)).off + 4, none⟩ = some (.string ((rd_T72 l1_5 x37_2).f2.f2)) ∧ w'.cell? ⟨(ad207.add ((x37_2).toNat * 6)).block, (ad207.add ((x37_2).toNat * 6)).off + 5, none⟩ = some (.slice A207_5 ((rd_T72 l1_5 x37_2).f3).length c207_5)) (ds := []) #[false, false, false, false, false, false, false, false, false, false, false, false] (by kernel_rfl) rfl rfl ⟨(blk_cell BK204.out 0).trans rfl, (blk_cell BK204.out 1).trans rfl, (blk_cell BK204.out 2).trans rfl, (blk_cell BK204.out 3).trans rfl, (blk_cell BK204.out 4).trans rfl, (blk_cell BK204.out 5).trans rfl, (blk_cell BK205.out 0).trans rfl, (blk_cell BK205.out 1).trans rfl, (blk_cell BK205.out 2).trans rfl, (blk_cell BK205.out 3).trans rfl, (blk_cell BK205.out 4).trans rfl, (blk_cell BK205.out 5).trans rfl, ((HB.out.cell (World.block_lt_of_cell? w _ hw206_0)).trans hw206_0), ((HB.out.cell (World.block_lt_of_cell? w _ hw206_1)).trans hw206_1), ((HB.out.cell (World.block_lt_of_cell? w _ hw206_2)).trans hw206_2), ((HB.out.cell (World.block_lt_of_cell? w _ hw206_3)).trans hw206_3), ((HB.out.cell (World.block_lt_of_cell? w _ hw206_4)).trans hw206_4), ((HB.out.cell (World.block_lt_of_cell? w _ hw206_5)).trans hw206_5), ((HB.out.cell (World.block_lt_of_cell? w _ hw207_0)).trans hw207_0), ((HB.out.cell (World.block_lt_of_cell? w _ hw207_1)).trans hw207_1), ((HB.out.cell (World.block_lt_of_cell? w _ hw207_2)).trans hw207_2), ((HB.out.cell (World.block_lt_of_cell? w _ hw207_3)).trans hw207_3), ((HB.out.cell (World.block_lt_of_cell? w _ hw207_4)).trans hw207_4), ((HB.out.cell (World.block_lt_of_cell? w _ hw207_5)).trans hw207_5)⟩ (fun hHeld => ?_); refine with_tabW mortmainref09_sameExpr.tab6 mortmainref09_sameExpr.bits6 (fun HT_ HW_ => ?_)
                      generalize wr.drew = w30 at BK204 BK205 HB HR206_5 HR207_5 hx206_0 hx206_1 hx206_2 hx206_3 hx206_4 hx206_5 hx207_0 hx207_1 hx207_2 hx207_3 hx207_4 hx207_5 hHeld ⊢
                      refine pure_ (i := 0) (N := some 40) (v := ?_) (a' := ?_) #[true, false, false, false, false, false, false, false, false, false, false, false] rfl rfl (any_of HT_.out (by kernel_rfl)) (fun _ _ _ h => h) (Or.inl ⟨by rfl, ?_⟩) ?_ ?_
                      rotate_left
                      · intro w'
                        go_simp
                        with_reducible rfl
                      rotate_left
                      · simp only [Act.put, List.setIfInBounds_toArray, List.set_cons_zero, List.set_cons_succ, i64_w, i32_w]
                        rfl
                      refine pure_ (i := 2) (N := some 42) (v := ?_) (a' := ?_) #[true, false, true, false, false, false, false, false, false, false, false, false] rfl rfl (any_of HT_.out (by kernel_rfl)) (fun _ _ _ h => h) (Or.inl ⟨by rfl, ?_⟩) ?_ ?_
                      rotate_left
                      · intro w'
                        go_simp
                        with_reducible rfl
                      rotate_left
                      · simp only [Act.put, List.setIfInBounds_toArray, List.set_cons_zero, List.set_cons_succ, i64_w, i32_w]
                        rfl
                      refine pure_ (i := 5) (N := some 45) (v := ?_) (a' := ?_) #[true, false, true, false, false, true, false, false, false, false, false, false] rfl rfl (any_of HT_.out (by kernel_rfl)) (fun _ _ _ h => h) (Or.inl ⟨by rfl, ?_⟩) ?_ ?_
                      rotate_left
                      · intro w'
                        go_simp
                        with_reducible rfl
                      rotate_left
                      · simp only [Act.put, List.setIfInBounds_toArray, List.set_cons_zero, List.set_cons_succ, i64_w, i32_w]
                        rfl
                      refine pure_ (i := 7) (N := some 47) (v := ?_) (a' := ?_) #[true, false, true, false, false, true, false, true, false, false, false, false] rfl rfl (any_of HT_.out (by kernel_rfl)) (fun _ _ _ h => h) (Or.inl ⟨by rfl, ?_⟩) ?_ ?_
                      rotate_left
                      · intro w'
                        go_simp
                        with_reducible rfl
                      rotate_left
                      · simp only [Act.put, List.setIfInBounds_toArray, List.set_cons_zero, List.set_cons_succ, i64_w, i32_w]
                        rfl
                      refine take_ (i := 1) (N := some 41) (v := ?_) (a' := ?_) #[true, true, true, false, false, true, false, true, false, false, false, false] rfl rfl (take_ofW HT_.out HW_.out (by kernel_rfl)) (fun _ _ _ h => h) (Or.inl ⟨by rfl, ?_⟩) hHeld ?_ ?_
                      rotate_left
                      · rintro w' ⟨s0, s1, s2, s3, s4, s5, s6, s7, s8, s9, s10, s11, s12, s13, s14, s15, s16, s17, s18, s19, s20, s21, s22, s23⟩
                        go_simp
                        with_reducible rfl
                      rotate_left
                      · simp only [Act.put, List.setIfInBounds_toArray, List.set_cons_zero, List.set_cons_succ, i64_w, i32_w]
                        rfl
                      refine pure_ (i := 3) (N := some 43) (v := ?_) (a' := ?_) #[true, true, true, true, false, true, false, true, false, false, false, false] rfl rfl (any_of HT_.out (by kernel_rfl)) (fun _ _ _ h => h) (Or.inl ⟨by rfl, ?_⟩) ?_ ?_
                      rotate_left
                      · intro w'
                        go_simp
                        with_reducible rfl
                      rotate_left
                      · simp only [Act.put, List.setIfInBounds_toArray, List.set_cons_zero, List.set_cons_succ, i64_w, i32_w]
                        rfl
                      refine take_ (i := 4) (N := some 44) (v := ?_) (a' := ?_) #[true, true, true, true, true, true, false, true, false, false, false, false] rfl rfl (take_ofW HT_.out HW_.out (by kernel_rfl)) (fun _ _ _ h => h) (Or.inl ⟨by rfl, ?_⟩) hHeld ?_ ?_
                      rotate_left
                      · rintro w' ⟨s0, s1, s2, s3, s4, s5, s6, s7, s8, s9, s10, s11, s12, s13, s14, s15, s16, s17, s18, s19, s20, s21, s22, s23⟩
                        go_simp
                        with_reducible rfl
                      rotate_left
                      · simp only [Act.put, List.setIfInBounds_toArray, List.set_cons_zero, List.set_cons_succ, i64_w, i32_w]
                        rfl
                      refine take_ (i := 6) (N := some 46) (v := ?_) (a' := ?_) #[true, true, true, true, true, true, true, true, false, false, false, false] rfl rfl (take_ofW HT_.out HW_.out (by kernel_rfl)) (fun _ _ _ h => h) (Or.inl ⟨by rfl, ?_⟩) hHeld ?_ ?_
                      rotate_left
                      · rintro w' ⟨s0, s1, s2, s3, s4, s5, s6, s7, s8, s9, s10, s11, s12, s13, s14, s15, s16, s17, s18, s19, s20, s21, s22, s23⟩
                        go_simp
                        with_reducible rfl
                      rotate_left
                      · simp only [Act.put, List.setIfInBounds_toArray, List.set_cons_zero, List.set_cons_succ, i64_w, i32_w]
                        rfl
                      refine pure_ (i := 8) (N := some 48) (v := ?_) (a' := ?_) #[true, true, true, true, true, true, true, true, true, false, false, false] rfl rfl (any_of HT_.out (by kernel_rfl)) (fun _ _ _ h => h) (Or.inl ⟨by rfl, ?_⟩) ?_ ?_
                      rotate_left
                      · intro w'
                        go_simp
                        with_reducible rfl
                      rotate_left
                      · simp only [Act.put, List.setIfInBounds_toArray, List.set_cons_zero, List.set_cons_succ, i64_w, i32_w]
                        rfl
                      refine take_ (i := 9) (N := some 49) (v := ?_) (a' := ?_) #[true, true, true, true, true, true, true, true, true, true, false, false] rfl rfl (take_ofW HT_.out HW_.out (by kernel_rfl)) (fun _ _ _ h => h) (Or.inl ⟨by rfl, ?_⟩) hHeld ?_ ?_
                      rotate_left
                      · rintro w' ⟨s0, s1, s2, s3, s4, s5, s6, s7, s8, s9, s10, s11, s12, s13, s14, s15, s16, s17, s18, s19, s20, s21, s22, s23⟩
                        go_simp
                        with_reducible rfl
                      rotate_left
                      · simp only [Act.put, List.setIfInBounds_toArray, List.set_cons_zero, List.set_cons_succ, i64_w, i32_w]
                        rfl
                      refine one_ (i := 10) (N := some 50) #[true, true, true, true, true, true, true, true, true, true, true, false] rfl rfl (one_of HT_.out (by kernel_rfl)) (by decide) (fun K hK => ?_)
                      refine goes_ Tryd.func54 (by kernel_rfl) rfl #[.agg #[.int .i64 ((rd_T72 l0_5 x37_2).f0), .int .i64 ((rd_T72 l0_5 x37_2).f1), .int .i64 ((rd_T72 l0_5 x37_2).f2.f0), .int .i64 ((rd_T72 l0_5 x37_2).f2.f1), .string ((rd_T72 l0_5 x37_2).f2.f2), .slice A206_5 ((rd_T72 l0_5 x37_2).f3).length c206_5], .agg #[.int .i64 ((rd_T72 l1_5 x37_2).f0), .int .i64 ((rd_T72 l1_5 x37_2).f1), .int .i64 ((rd_T72 l1_5 x37_2).f2.f0), .int .i64 ((rd_T72 l1_5 x37_2).f2.f1), .string ((rd_T72 l1_5 x37_2).f2.f2), .slice A207_5 ((rd_T72 l1_5 x37_2).f3).length c207_5]] (by rfl) rfl rfl (by (try simp only [List.map_toArray, List.map_cons, List.map_nil]); first | done | rfl | (simp only [List.length_drop, List.length_take]; rfl)) ?_
                      with_reducible refine (ih k2 (by have := HJ2.out; have := HK2.out; omega) ((rd_T72 l0_5 x37_2).f0) ((rd_T72 l0_5 x37_2).f1) ((rd_T72 l0_5 x37_2).f2.f0) ((rd_T72 l0_5 x37_2).f2.f1) ((rd_T72 l0_5 x37_2).f2.f2) _ _ ((rd_T72 l0_5 x37_2).f3) ((rd_T72 l1_5 x37_2).f0) ((rd_T72 l1_5 x37_2).f1) ((rd_T72 l1_5 x37_2).f2.f0) ((rd_T72 l1_5 x37_2).f2.f1) ((rd_T72 l1_5 x37_2).f2.f2) _ _ ((rd_T72 l1_5 x37_2).f3) true _ ?side1 ?side2 ?side3 ?side4 A28.out).mono ?_
                      (case side1 => repeat (first | exact (Kd.C_below HR206_5.out HB.out) | (with_reducible refine Kd.C_alloc ?_ _) | (with_reducible refine Kd.C_drewN ?_ _) | (with_reducible refine Kd.C_drew ?_)))
                      (case side2 => exact HC206_5.out)
                      (case side3 => repeat (first | exact (Kd.C_below HR207_5.out HB.out) | (with_reducible refine Kd.C_alloc ?_ _) | (with_reducible refine Kd.C_drewN ?_ _) | (with_reducible refine Kd.C_drew ?_)))
                      (case side4 => exact HC207_5.out)
                      rintro e w31 ⟨rfl, hb⟩
                      refine ⟨_, rfl, ?_⟩
                      have n0_ := Aside0.mk (blk_below (g := gb204) (o := .cells #[.int .i64 a0_0, .int .i64 a0_1, .int .i64 a0_2, .int .i64 a0_3, .string a0_4, .slice (some ad206) l0_5.length c0_5] 72 (0, 0)) (by (with_reducible repeat (first | refine blk_drewN ?_ _ | refine blk_drew ?_ | refine blk_alloc ?_ _)); exact BK204.out) hb)
                      have n1_ := Aside0.mk (blk_below (g := gb205) (o := .cells #[.int .i64 a1_0, .int .i64 a1_1, .int .i64 a1_2, .int .i64 a1_3, .string a1_4, .slice (some ad207) l1_5.length c1_5] 72 (0, 0)) (by (with_reducible repeat (first | refine blk_drewN ?_ _ | refine blk_drew ?_ | refine blk_alloc ?_ _)); exact BK205.out) hb)
                      have n2_ := Aside0.mk (below_step (by repeat (first | (with_reducible first | exact HB.out | apply below_alloc | apply pw_below_drewN | apply below_drew1 | refine below_set ?_ GE204.out | refine below_set ?_ GE205.out) | exact HB.out)) hb)
                      clear BK204
                      clear BK205
                      clear HB
                      have BK204 := n0_
                      have BK205 := n1_
                      have HB := n2_
                      clear n0_ n1_ n2_
                      (try clear hb)
                      (try clear hb2)
                      (try clear hk)
                      (try clear hi)
                      refine hK.out _ _ ⟨(blk_cell BK204.out 0).trans rfl, (blk_cell BK204.out 1).trans rfl, (blk_cell BK204.out 2).trans rfl, (blk_cell BK204.out 3).trans rfl, (blk_cell BK204.out 4).trans rfl, (blk_cell BK204.out 5).trans rfl, (blk_cell BK205.out 0).trans rfl, (blk_cell BK205.out 1).trans rfl, (blk_cell BK205.out 2).trans rfl, (blk_cell BK205.out 3).trans rfl, (blk_cell BK205.out 4).trans rfl, (blk_cell BK205.out 5).trans rfl, ((HB.out.cell (World.block_lt_of_cell? w _ hw206_0)).trans hw206_0), ((HB.out.cell (World.block_lt_of_cell? w _ hw206_1)).trans hw206_1), ((HB.out.cell (World.block_lt_of_cell? w _ hw206_2)).trans hw206_2), ((HB.out.cell (World.block_lt_of_cell? w _ hw206_3)).trans hw206_3), ((HB.out.cell (World.block_lt_of_cell? w _ hw206_4)).trans hw206_4), ((HB.out.cell (World.block_lt_of_cell? w _ hw206_5)).trans hw206_5), ((HB.out.cell (World.block_lt_of_cell? w _ hw207_0)).trans hw207_0), ((HB.out.cell (World.block_lt_of_cell? w _ hw207_1)).trans hw207_1), ((HB.out.cell (World.block_lt_of_cell? w _ hw207_2)).trans hw207_2), ((HB.out.cell (World.block_lt_of_cell? w _ hw207_3)).trans hw207_3), ((HB.out.cell (World.block_lt_of_cell? w _ hw207_4)).trans hw207_4), ((HB.out.cell (World.block_lt_of_cell? w _ hw207_5)).trans hw207_5)⟩ (fun hHeld => ?_)
                      clear hK K
                      refine norm_ (a' := ?_) ?_ ?_
                      rotate_left
                      · show Act.put _ (some 50) _ = _
                        simp only [Act.put, List.setIfInBounds_toArray, List.set_cons_zero, List.set_cons_succ, i64_w, i32_w]
                        rfl
                      refine pure_ (i := 11) (N := some 51) (v := ?_) (a' := ?_) #[true, true, true, true, true, true, true, true, true, true, true, true] rfl rfl (any_of HT_.out (by kernel_rfl)) (fun _ _ _ h => h) (Or.inl ⟨by rfl, ?_⟩) ?_ ?_
                      rotate_left
                      · intro w'
                        go_simp
                        with_reducible rfl
                      rotate_left
                      · simp only [Act.put, List.setIfInBounds_toArray, List.set_cons_zero, List.set_cons_succ, i64_w, i32_w]
                        rfl
                      refine done_ (done_of HT_.out (by kernel_rfl)) ?_
                      try go_wp2
                      go_roundg k2
                      case measure => have := HJ2.out; have := HK2.out; omega
                      case rel => exact ⟨(wrap64 (x37_2 + 1)), (by first | rfl | (simp; done) | (simp [*]; done)), H', ⟨by have := HJ2.out; have := HK2.out; omega⟩, ⟨by (with_reducible repeat (first | refine blk_drewN ?_ _ | refine blk_drew ?_ | refine blk_alloc ?_ _)); exact BK204.out⟩, ⟨by (with_reducible repeat (first | refine blk_drewN ?_ _ | refine blk_drew ?_ | refine blk_alloc ?_ _)); exact BK205.out⟩, ⟨by repeat (first | (with_reducible first | exact HB.out | apply below_alloc | apply pw_below_drewN | apply below_drew1 | refine below_set ?_ GE204.out | refine below_set ?_ GE205.out) | exact HB.out)⟩⟩
                    · replace c29 := Bool.eq_false_iff.mpr c29
                      subst c29
                      have H1 : (some false) = some r := by rw [if_neg (show ¬ (false = true) by decide)] at H; exact H
                      clear H
                      have H := H1
                      clear H1
                      obtain rfl := Option.some.inj H
                      try go_wp2
                      have n0_ := Aside0.mk (blk_drew BK204.out)
                      have n1_ := Aside0.mk (blk_drew BK205.out)
                      have n2_ := Aside0.mk (below_drew1 HB.out)
                      clear BK204
                      clear BK205
                      clear HB
                      have BK204 := n0_
                      have BK205 := n1_
                      have HB := n2_
                      clear n0_ n1_ n2_
                      have p206 : 0 ≤ (x37_2 : Int) := of_decide_eq_true (by first | (with_reducible assumption) | assumption)
                      have q206 : x37_2 < (l0_5.length : Int) := of_decide_eq_true (by first | (with_reducible assumption) | assumption)
                      obtain ⟨ad206, A206_5, c206_5, e206, hx206_0, hx206_1, hx206_2, hx206_3, hx206_4, hx206_5, hl206_5, hi206_5⟩ := at_T72 HR0_5.out x37_2 p206 q206
                      have hw206_5 := hx206_5
                      have hw206_4 := hx206_4
                      have hw206_3 := hx206_3
                      have hw206_2 := hx206_2
                      have hw206_1 := hx206_1
                      have hw206_0 := hx206_0
                      cases e206
                      replace hx206_0 := (HB.out.cell (World.block_lt_of_cell? w _ hx206_0)).trans hx206_0
                      replace hx206_1 := (HB.out.cell (World.block_lt_of_cell? w _ hx206_1)).trans hx206_1
                      replace hx206_2 := (HB.out.cell (World.block_lt_of_cell? w _ hx206_2)).trans hx206_2
                      replace hx206_3 := (HB.out.cell (World.block_lt_of_cell? w _ hx206_3)).trans hx206_3
                      replace hx206_4 := (HB.out.cell (World.block_lt_of_cell? w _ hx206_4)).trans hx206_4
                      replace hx206_5 := (HB.out.cell (World.block_lt_of_cell? w _ hx206_5)).trans hx206_5
                      have HR206_5 := Aside0.mk hi206_5
                      have HC206_5 := Aside0.mk hl206_5
                      clear hi206_5 hl206_5
                      replace p206 := eq_true p206
                      replace q206 := eq_true q206
                      have p207 : 0 ≤ (x37_2 : Int) := of_decide_eq_true (by first | (with_reducible assumption) | assumption)
                      have q207 : x37_2 < (l1_5.length : Int) := of_decide_eq_true (by first | (with_reducible assumption) | assumption)
                      obtain ⟨ad207, A207_5, c207_5, e207, hx207_0, hx207_1, hx207_2, hx207_3, hx207_4, hx207_5, hl207_5, hi207_5⟩ := at_T72 HR1_5.out x37_2 p207 q207
                      have hw207_5 := hx207_5
                      have hw207_4 := hx207_4
                      have hw207_3 := hx207_3
                      have hw207_2 := hx207_2
                      have hw207_1 := hx207_1
                      have hw207_0 := hx207_0
                      cases e207
                      replace hx207_0 := (HB.out.cell (World.block_lt_of_cell? w _ hx207_0)).trans hx207_0
                      replace hx207_1 := (HB.out.cell (World.block_lt_of_cell? w _ hx207_1)).trans hx207_1
                      replace hx207_2 := (HB.out.cell (World.block_lt_of_cell? w _ hx207_2)).trans hx207_2
                      replace hx207_3 := (HB.out.cell (World.block_lt_of_cell? w _ hx207_3)).trans hx207_3
                      replace hx207_4 := (HB.out.cell (World.block_lt_of_cell? w _ hx207_4)).trans hx207_4
                      replace hx207_5 := (HB.out.cell (World.block_lt_of_cell? w _ hx207_5)).trans hx207_5
                      have HR207_5 := Aside0.mk hi207_5
                      have HC207_5 := Aside0.mk hl207_5
                      clear hi207_5 hl207_5
                      replace p207 := eq_true p207
                      replace q207 := eq_true q207
                      refine start_ (n := 12) (S := fun w' => w'.cell? ⟨gb204, 0, none⟩ = some (.int .i64 a0_0) ∧ w'.cell? ⟨gb204, 1, none⟩ = some (.int .i64 a0_1) ∧ w'.cell? ⟨gb204, 2, none⟩ = some (.int .i64 a0_2) ∧ w'.cell? ⟨gb204, 3, none⟩ = some (.int .i64 a0_3) ∧ w'.cell? ⟨gb204, 4, none⟩ = some (.string a0_4) ∧ w'.cell? ⟨gb204, 5, none⟩ = some (.slice (some ad206) l0_5.length c0_5) ∧ w'.cell? ⟨gb205, 0, none⟩ = some (.int .i64 a1_0) ∧ w'.cell? ⟨gb205, 1, none⟩ = some (.int .i64 a1_1) ∧ w'.cell? ⟨gb205, 2, none⟩ = some (.int .i64 a1_2) ∧ w'.cell? ⟨gb205, 3, none⟩ = some (.int .i64 a1_3) ∧ w'.cell? ⟨gb205, 4, none⟩ = some (.string a1_4) ∧ w'.cell? ⟨gb205, 5, none⟩ = some (.slice (some ad207) l1_5.length c1_5) ∧ w'.cell? (ad206.add ((x37_2).toNat * 6)) = some (.int .i64 ((rd_T72 l0_5 x37_2).f0)) ∧ w'.cell? ⟨(ad206.add ((x37_2).toNat * 6)).block, (ad206.add ((x37_2).toNat * 6)).off + 1, none⟩ = some (.int .i64 ((rd_T72 l0_5 x37_2).f1)) ∧ w'.cell? ⟨(ad206.add ((x37_2).toNat * 6)).block, (ad206.add ((x37_2).toNat * 6)).off + 2, none⟩ = some (.int .i64 ((rd_T72 l0_5 x37_2).f2.f0)) ∧ w'.cell? ⟨(ad206.add ((x37_2).toNat * 6)).block, (ad206.add ((x37_2).toNat * 6)).off + 3, none⟩ = some (.int .i64 ((rd_T72 l0_5 x37_2).f2.f1)) ∧ w'.cell? ⟨(ad206.add ((x37_2).toNat * 6)).block, (ad206.add ((x37_2).toNat * 6)).off + 4, none⟩ = some (.string ((rd_T72 l0_5 x37_2).f2.f2)) ∧ w'.cell? ⟨(ad206.add ((x37_2).toNat * 6)).block, (ad206.add ((x37_2).toNat * 6)).off + 5, none⟩ = some (.slice A206_5 ((rd_T72 l0_5 x37_2).f3).length c206_5) ∧ w'.cell? (ad207.add ((x37_2).toNat * 6)) = some (.int .i64 ((rd_T72 l1_5 x37_2).f0)) ∧ w'.cell? ⟨(ad207.add ((x37_2).toNat * 6)).block, (ad207.add ((x37_2).toNat * 6)).off + 1, none⟩ = some (.int .i64 ((rd_T72 l1_5 x37_2).f1)) ∧ w'.cell? ⟨(ad207.add ((x37_2).toNat * 6)).block, (ad207.add ((x37_2).toNat * 6)).off + 2, none⟩ = some (.int .i64 ((rd_T72 l1_5 x37_2).f2.f0)) ∧ w'.cell? ⟨(ad207.add ((x37_2).toNat * 6)).block, (ad207.add ((x37_2).toNat * 6)).off + 3, none⟩ = some (.int .i64 ((rd_T72 l1_5 x37_2).f2.f1)) ∧ w'.cell? ⟨(ad207.add ((x37_2).toNat * 6)).block, (ad207.add ((x37_2).toNat * 6)).off + 4, none⟩ = some (.string ((rd_T72 l1_5 x37_2).f2.f2)) ∧ w'.cell? ⟨(ad207.add ((x37_2).toNat * 6)).block, (ad207.add ((x37_2).toNat * 6)).off + 5, none⟩ = some (.slice A207_5 ((rd_T72 l1_5 x37_2).f3).length c207_5)) (ds := []) #[false, false, false, false, false, false, false, false, false, false, false, false] (by kernel_rfl) rfl rfl ⟨(blk_cell BK204.out 0).trans rfl, (blk_cell BK204.out 1).trans rfl, (blk_cell BK204.out 2).trans rfl, (blk_cell BK204.out 3).trans rfl, (blk_cell BK204.out 4).trans rfl, (blk_cell BK204.out 5).trans rfl, (blk_cell BK205.out 0).trans rfl, (blk_cell BK205.out 1).trans rfl, (blk_cell BK205.out 2).trans rfl, (blk_cell BK205.out 3).trans rfl, (blk_cell BK205.out 4).trans rfl, (blk_cell BK205.out 5).trans rfl, ((HB.out.cell (World.block_lt_of_cell? w _ hw206_0)).trans hw206_0), ((HB.out.cell (World.block_lt_of_cell? w _ hw206_1)).trans hw206_1), ((HB.out.cell (World.block_lt_of_cell? w _ hw206_2)).trans hw206_2), ((HB.out.cell (World.block_lt_of_cell? w _ hw206_3)).trans hw206_3), ((HB.out.cell (World.block_lt_of_cell? w _ hw206_4)).trans hw206_4), ((HB.out.cell (World.block_lt_of_cell? w _ hw206_5)).trans hw206_5), ((HB.out.cell (World.block_lt_of_cell? w _ hw207_0)).trans hw207_0), ((HB.out.cell (World.block_lt_of_cell? w _ hw207_1)).trans hw207_1), ((HB.out.cell (World.block_lt_of_cell? w _ hw207_2)).trans hw207_2), ((HB.out.cell (World.block_lt_of_cell? w _ hw207_3)).trans hw207_3), ((HB.out.cell (World.block_lt_of_cell? w _ hw207_4)).trans hw207_4), ((HB.out.cell (World.block_lt_of_cell? w _ hw207_5)).trans hw207_5)⟩ (fun hHeld => ?_); refine with_tabW mortmainref09_sameExpr.tab6 mortmainref09_sameExpr.bits6 (fun HT_ HW_ => ?_)
                      generalize wr.drew = w32 at BK204 BK205 HB HR206_5 HR207_5 hx206_0 hx206_1 hx206_2 hx206_3 hx206_4 hx206_5 hx207_0 hx207_1 hx207_2 hx207_3 hx207_4 hx207_5 hHeld ⊢
                      refine pure_ (i := 0) (N := some 40) (v := ?_) (a' := ?_) #[true, false, false, false, false, false, false, false, false, false, false, false] rfl rfl (any_of HT_.out (by kernel_rfl)) (fun _ _ _ h => h) (Or.inl ⟨by rfl, ?_⟩) ?_ ?_
                      rotate_left
                      · intro w'
                        go_simp
                        with_reducible rfl
                      rotate_left
                      · simp only [Act.put, List.setIfInBounds_toArray, List.set_cons_zero, List.set_cons_succ, i64_w, i32_w]
                        rfl
                      refine pure_ (i := 2) (N := some 42) (v := ?_) (a' := ?_) #[true, false, true, false, false, false, false, false, false, false, false, false] rfl rfl (any_of HT_.out (by kernel_rfl)) (fun _ _ _ h => h) (Or.inl ⟨by rfl, ?_⟩) ?_ ?_
                      rotate_left
                      · intro w'
                        go_simp
                        with_reducible rfl
                      rotate_left
                      · simp only [Act.put, List.setIfInBounds_toArray, List.set_cons_zero, List.set_cons_succ, i64_w, i32_w]
                        rfl
                      refine pure_ (i := 5) (N := some 45) (v := ?_) (a' := ?_) #[true, false, true, false, false, true, false, false, false, false, false, false] rfl rfl (any_of HT_.out (by kernel_rfl)) (fun _ _ _ h => h) (Or.inl ⟨by rfl, ?_⟩) ?_ ?_
                      rotate_left
                      · intro w'
                        go_simp
                        with_reducible rfl
                      rotate_left
                      · simp only [Act.put, List.setIfInBounds_toArray, List.set_cons_zero, List.set_cons_succ, i64_w, i32_w]
                        rfl
                      refine pure_ (i := 7) (N := some 47) (v := ?_) (a' := ?_) #[true, false, true, false, false, true, false, true, false, false, false, false] rfl rfl (any_of HT_.out (by kernel_rfl)) (fun _ _ _ h => h) (Or.inl ⟨by rfl, ?_⟩) ?_ ?_
                      rotate_left
                      · intro w'
                        go_simp
                        with_reducible rfl
                      rotate_left
                      · simp only [Act.put, List.setIfInBounds_toArray, List.set_cons_zero, List.set_cons_succ, i64_w, i32_w]
                        rfl
                      refine take_ (i := 1) (N := some 41) (v := ?_) (a' := ?_) #[true, true, true, false, false, true, false, true, false, false, false, false] rfl rfl (take_ofW HT_.out HW_.out (by kernel_rfl)) (fun _ _ _ h => h) (Or.inl ⟨by rfl, ?_⟩) hHeld ?_ ?_
                      rotate_left
                      · rintro w' ⟨s0, s1, s2, s3, s4, s5, s6, s7, s8, s9, s10, s11, s12, s13, s14, s15, s16, s17, s18, s19, s20, s21, s22, s23⟩
                        go_simp
                        with_reducible rfl
                      rotate_left
                      · simp only [Act.put, List.setIfInBounds_toArray, List.set_cons_zero, List.set_cons_succ, i64_w, i32_w]
                        rfl
                      refine pure_ (i := 3) (N := some 43) (v := ?_) (a' := ?_) #[true, true, true, true, false, true, false, true, false, false, false, false] rfl rfl (any_of HT_.out (by kernel_rfl)) (fun _ _ _ h => h) (Or.inl ⟨by rfl, ?_⟩) ?_ ?_
                      rotate_left
                      · intro w'
                        go_simp
                        with_reducible rfl
                      rotate_left
                      · simp only [Act.put, List.setIfInBounds_toArray, List.set_cons_zero, List.set_cons_succ, i64_w, i32_w]
                        rfl
                      refine take_ (i := 4) (N := some 44) (v := ?_) (a' := ?_) #[true, true, true, true, true, true, false, true, false, false, false, false] rfl rfl (take_ofW HT_.out HW_.out (by kernel_rfl)) (fun _ _ _ h => h) (Or.inl ⟨by rfl, ?_⟩) hHeld ?_ ?_
                      rotate_left
                      · rintro w' ⟨s0, s1, s2, s3, s4, s5, s6, s7, s8, s9, s10, s11, s12, s13, s14, s15, s16, s17, s18, s19, s20, s21, s22, s23⟩
                        go_simp
                        with_reducible rfl
                      rotate_left
                      · simp only [Act.put, List.setIfInBounds_toArray, List.set_cons_zero, List.set_cons_succ, i64_w, i32_w]
                        rfl
                      refine take_ (i := 6) (N := some 46) (v := ?_) (a' := ?_) #[true, true, true, true, true, true, true, true, false, false, false, false] rfl rfl (take_ofW HT_.out HW_.out (by kernel_rfl)) (fun _ _ _ h => h) (Or.inl ⟨by rfl, ?_⟩) hHeld ?_ ?_
                      rotate_left
                      · rintro w' ⟨s0, s1, s2, s3, s4, s5, s6, s7, s8, s9, s10, s11, s12, s13, s14, s15, s16, s17, s18, s19, s20, s21, s22, s23⟩
                        go_simp
                        with_reducible rfl
                      rotate_left
                      · simp only [Act.put, List.setIfInBounds_toArray, List.set_cons_zero, List.set_cons_succ, i64_w, i32_w]
                        rfl
                      refine pure_ (i := 8) (N := some 48) (v := ?_) (a' := ?_) #[true, true, true, true, true, true, true, true, true, false, false, false] rfl rfl (any_of HT_.out (by kernel_rfl)) (fun _ _ _ h => h) (Or.inl ⟨by rfl, ?_⟩) ?_ ?_
                      rotate_left
                      · intro w'
                        go_simp
                        with_reducible rfl
                      rotate_left
                      · simp only [Act.put, List.setIfInBounds_toArray, List.set_cons_zero, List.set_cons_succ, i64_w, i32_w]
                        rfl
                      refine take_ (i := 9) (N := some 49) (v := ?_) (a' := ?_) #[true, true, true, true, true, true, true, true, true, true, false, false] rfl rfl (take_ofW HT_.out HW_.out (by kernel_rfl)) (fun _ _ _ h => h) (Or.inl ⟨by rfl, ?_⟩) hHeld ?_ ?_
                      rotate_left
                      · rintro w' ⟨s0, s1, s2, s3, s4, s5, s6, s7, s8, s9, s10, s11, s12, s13, s14, s15, s16, s17, s18, s19, s20, s21, s22, s23⟩
                        go_simp
                        with_reducible rfl
                      rotate_left
                      · simp only [Act.put, List.setIfInBounds_toArray, List.set_cons_zero, List.set_cons_succ, i64_w, i32_w]
                        rfl
                      refine one_ (i := 10) (N := some 50) #[true, true, true, true, true, true, true, true, true, true, true, false] rfl rfl (one_of HT_.out (by kernel_rfl)) (by decide) (fun K hK => ?_)
                      refine goes_ Tryd.func54 (by kernel_rfl) rfl #[.agg #[.int .i64 ((rd_T72 l0_5 x37_2).f0), .int .i64 ((rd_T72 l0_5 x37_2).f1), .int .i64 ((rd_T72 l0_5 x37_2).f2.f0), .int .i64 ((rd_T72 l0_5 x37_2).f2.f1), .string ((rd_T72 l0_5 x37_2).f2.f2), .slice A206_5 ((rd_T72 l0_5 x37_2).f3).length c206_5], .agg #[.int .i64 ((rd_T72 l1_5 x37_2).f0), .int .i64 ((rd_T72 l1_5 x37_2).f1), .int .i64 ((rd_T72 l1_5 x37_2).f2.f0), .int .i64 ((rd_T72 l1_5 x37_2).f2.f1), .string ((rd_T72 l1_5 x37_2).f2.f2), .slice A207_5 ((rd_T72 l1_5 x37_2).f3).length c207_5]] (by rfl) rfl rfl (by (try simp only [List.map_toArray, List.map_cons, List.map_nil]); first | done | rfl | (simp only [List.length_drop, List.length_take]; rfl)) ?_
                      with_reducible refine (ih k2 (by have := HJ2.out; have := HK2.out; omega) ((rd_T72 l0_5 x37_2).f0) ((rd_T72 l0_5 x37_2).f1) ((rd_T72 l0_5 x37_2).f2.f0) ((rd_T72 l0_5 x37_2).f2.f1) ((rd_T72 l0_5 x37_2).f2.f2) _ _ ((rd_T72 l0_5 x37_2).f3) ((rd_T72 l1_5 x37_2).f0) ((rd_T72 l1_5 x37_2).f1) ((rd_T72 l1_5 x37_2).f2.f0) ((rd_T72 l1_5 x37_2).f2.f1) ((rd_T72 l1_5 x37_2).f2.f2) _ _ ((rd_T72 l1_5 x37_2).f3) false _ ?side1 ?side2 ?side3 ?side4 A28.out).mono ?_
                      (case side1 => repeat (first | exact (Kd.C_below HR206_5.out HB.out) | (with_reducible refine Kd.C_alloc ?_ _) | (with_reducible refine Kd.C_drewN ?_ _) | (with_reducible refine Kd.C_drew ?_)))
                      (case side2 => exact HC206_5.out)
                      (case side3 => repeat (first | exact (Kd.C_below HR207_5.out HB.out) | (with_reducible refine Kd.C_alloc ?_ _) | (with_reducible refine Kd.C_drewN ?_ _) | (with_reducible refine Kd.C_drew ?_)))
                      (case side4 => exact HC207_5.out)
                      rintro e w33 ⟨rfl, hb⟩
                      refine ⟨_, rfl, ?_⟩
                      have n0_ := Aside0.mk (blk_below (g := gb204) (o := .cells #[.int .i64 a0_0, .int .i64 a0_1, .int .i64 a0_2, .int .i64 a0_3, .string a0_4, .slice (some ad206) l0_5.length c0_5] 72 (0, 0)) (by (with_reducible repeat (first | refine blk_drewN ?_ _ | refine blk_drew ?_ | refine blk_alloc ?_ _)); exact BK204.out) hb)
                      have n1_ := Aside0.mk (blk_below (g := gb205) (o := .cells #[.int .i64 a1_0, .int .i64 a1_1, .int .i64 a1_2, .int .i64 a1_3, .string a1_4, .slice (some ad207) l1_5.length c1_5] 72 (0, 0)) (by (with_reducible repeat (first | refine blk_drewN ?_ _ | refine blk_drew ?_ | refine blk_alloc ?_ _)); exact BK205.out) hb)
                      have n2_ := Aside0.mk (below_step (by repeat (first | (with_reducible first | exact HB.out | apply below_alloc | apply pw_below_drewN | apply below_drew1 | refine below_set ?_ GE204.out | refine below_set ?_ GE205.out) | exact HB.out)) hb)
                      clear BK204
                      clear BK205
                      clear HB
                      have BK204 := n0_
                      have BK205 := n1_
                      have HB := n2_
                      clear n0_ n1_ n2_
                      (try clear hb)
                      (try clear hb2)
                      (try clear hk)
                      (try clear hi)
                      refine hK.out _ _ ⟨(blk_cell BK204.out 0).trans rfl, (blk_cell BK204.out 1).trans rfl, (blk_cell BK204.out 2).trans rfl, (blk_cell BK204.out 3).trans rfl, (blk_cell BK204.out 4).trans rfl, (blk_cell BK204.out 5).trans rfl, (blk_cell BK205.out 0).trans rfl, (blk_cell BK205.out 1).trans rfl, (blk_cell BK205.out 2).trans rfl, (blk_cell BK205.out 3).trans rfl, (blk_cell BK205.out 4).trans rfl, (blk_cell BK205.out 5).trans rfl, ((HB.out.cell (World.block_lt_of_cell? w _ hw206_0)).trans hw206_0), ((HB.out.cell (World.block_lt_of_cell? w _ hw206_1)).trans hw206_1), ((HB.out.cell (World.block_lt_of_cell? w _ hw206_2)).trans hw206_2), ((HB.out.cell (World.block_lt_of_cell? w _ hw206_3)).trans hw206_3), ((HB.out.cell (World.block_lt_of_cell? w _ hw206_4)).trans hw206_4), ((HB.out.cell (World.block_lt_of_cell? w _ hw206_5)).trans hw206_5), ((HB.out.cell (World.block_lt_of_cell? w _ hw207_0)).trans hw207_0), ((HB.out.cell (World.block_lt_of_cell? w _ hw207_1)).trans hw207_1), ((HB.out.cell (World.block_lt_of_cell? w _ hw207_2)).trans hw207_2), ((HB.out.cell (World.block_lt_of_cell? w _ hw207_3)).trans hw207_3), ((HB.out.cell (World.block_lt_of_cell? w _ hw207_4)).trans hw207_4), ((HB.out.cell (World.block_lt_of_cell? w _ hw207_5)).trans hw207_5)⟩ (fun hHeld => ?_)
                      clear hK K
                      refine norm_ (a' := ?_) ?_ ?_
                      rotate_left
                      · show Act.put _ (some 50) _ = _
                        simp only [Act.put, List.setIfInBounds_toArray, List.set_cons_zero, List.set_cons_succ, i64_w, i32_w]
                        rfl
                      refine pure_ (i := 11) (N := some 51) (v := ?_) (a' := ?_) #[true, true, true, true, true, true, true, true, true, true, true, true] rfl rfl (any_of HT_.out (by kernel_rfl)) (fun _ _ _ h => h) (Or.inl ⟨by rfl, ?_⟩) ?_ ?_
                      rotate_left
                      · intro w'
                        go_simp
                        with_reducible rfl
                      rotate_left
                      · simp only [Act.put, List.setIfInBounds_toArray, List.set_cons_zero, List.set_cons_succ, i64_w, i32_w]
                        rfl
                      refine done_ (done_of HT_.out (by kernel_rfl)) ?_
                      try go_wp2
                      go_ret
                      exact ⟨by first | rfl | (simp [errW_none, errW_some] <;> rfl) | (simp [*, errW_none, errW_some] <;> rfl), by repeat (first | (with_reducible first | exact HB.out | apply below_alloc | apply pw_below_drewN | apply below_drew1 | refine below_set ?_ GE204.out | refine below_set ?_ GE205.out) | exact HB.out)⟩
                  · rw [if_neg c27] at H
                    exact absurd H (by simp)
                · rw [if_neg c26] at H
                  exact absurd H (by simp)
              · rw [if_neg c25] at H
                exact absurd H (by simp)
            · rw [if_neg c24] at H
              have c24b0 : decide (x37_2 < (l0_5.length : Int)) = false := decide_eq_false c24
              clear c24
              obtain rfl := Option.some.inj H
              go_wp2
              go_ret
              exact ⟨by first | rfl | (simp [errW_none, errW_some] <;> rfl) | (simp [*, errW_none, errW_some] <;> rfl), by repeat (first | (with_reducible first | exact HB.out | apply below_alloc | apply pw_below_drewN | apply below_drew1 | refine below_set ?_ GE204.out | refine below_set ?_ GE205.out) | exact HB.out)⟩
end Go.Proofs.YtefdfgmlmjnmlaaDoor.Rf
end
