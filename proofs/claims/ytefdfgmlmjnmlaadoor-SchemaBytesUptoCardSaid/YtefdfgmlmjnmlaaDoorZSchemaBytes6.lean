/- Lemmas for the law SchemaBytes: what the functions that it reaches compute, with those words of the kit's print that they use. No condition. Joined out of this session's smaller texts (part 6 of 7). -/
import Derived.Test.YtefdfgmlmjnmlaaDoorZSchemaBytes5
import Derived.Test.YtefdfgmlmjnmlaaDoorZSchemaBytes2
import Derived.Test.YtefdfgmlmjnmlaaDoorZSchemaBytes4
import Derived.Test.YtefdfgmlmjnmlaaDoorZSchemaBytes3
import Derived.Shelf.Strings.Builder1
section
set_option linter.unusedSimpArgs false
set_option linter.unusedVariables false
namespace Go.Proofs.YtefdfgmlmjnmlaaDoor.My
open Go.RowKit Go.Proofs.YtefdfgmlmjnmlaaDoorW.PrintWords Go.Proofs.YtefdfgmlmjnmlaaDoor.Rf
theorem add_none (a : Addr) : a.add 0 = a := by simp [Addr.add]
def jEj (l : List S59) (i : Nat) (c : S59) : Bool := !jEf c.f0 || (decide (jGg l c.f0 ≠ (i : Int)) || (decide (c.f1 < 1) || (decide (3 < c.f1) || (decide (c.f5 < 0) || decide (2 < c.f5)))))
def jEo (i : Nat) (c : S59) : Bool := (decide (i = 0) && (!c.f2 || (c.f3 || !c.f4.toList.isEmpty))) || ((c.f4.toList.isEmpty && !decide (c.f5 = 0)) || (decide (c.f5 = 2) && c.f2))
/-- What is wrong with the tables that a column refers to. -/
def jEh (t : S45) (c : S59) (ts : List S45) : Int :=
  let o := if c.f4.toList == t.f0.toList then t else theT ts c.f4
  if ((c.f4.toList == t.f0.toList) = false ∧ findT ts c.f4 < 0) ∨ o.f2.length = 0 then 8
  else if (o.f2.getD 0 z59).f1 ≠ c.f1 then 9 else 0
def colE (t : S45) (i : Nat) (ts : List S45) : Int :=
  let c := t.f2.getD i z59
  if jEj t.f2 i c then 4 else if jEo i c then 4 else if c.f4.toList.isEmpty then 0 else jEh t c ts
theorem bad2_i0 {i : Nat} {x : S59} (h : i = 0) (he : x.f4.toList.isEmpty = false) : jEo i x = true := by
  simp [jEo, h, he]
theorem jGl {i : Nat} {x : S59} (h : x.f5 = 2) (h2 : x.f2 = true) : jEo i x = true := by
  simp [jEo, h, h2]
theorem bad2_no {i : Nat} {x : S59} (he : x.f4.toList.isEmpty = false) (h : ¬ i = 0) (h5 : ¬ x.f5 = 2 ∨ ¬ x.f2 = true) : jEo i x = false := by
  rcases h5 with h5 | h5 <;> simp [jEo, he, h, h5]
theorem ref_self {t : S45} {x y : S59} {ts : List S45} (hs : (x.f4.toList == t.f0.toList) = true) (hz : ¬ t.f2.length = 0) (hy : t.f2.getD 0 z59 = y) : jEh t x ts = if y.f1 ≠ x.f1 then 9 else 0 := by
  unfold jEh
  simp only [hs, if_true]
  rw [if_neg (by intro h; rcases h with h | h; exact absurd h.1 (by decide); exact hz h), hy]
theorem ref_none {t : S45} {x : S59} {ts : List S45} (hs : (x.f4.toList == t.f0.toList) = false) (h : findT ts x.f4 < 0) : jEh t x ts = 8 := by
  unfold jEh
  simp only [hs]
  exact if_pos (.inl ⟨trivial, h⟩)
theorem ref_empty {t : S45} {x : S59} {ts : List S45} (hs : (x.f4.toList == t.f0.toList) = false) (h : (theT ts x.f4).f2.length = 0) : jEh t x ts = 8 := by
  unfold jEh
  simp only [hs]
  rw [if_pos (.inr h)]
theorem ref_other {t : S45} {x z : S59} {ts : List S45} (hs : (x.f4.toList == t.f0.toList) = false) (hn : ¬ findT ts x.f4 < 0) (hz : ¬ (theT ts x.f4).f2.length = 0) (hy : (theT ts x.f4).f2.getD 0 z59 = z) : jEh t x ts = if z.f1 ≠ x.f1 then 9 else 0 := by
  unfold jEh
  simp only [hs]
  rw [if_neg (by intro h; rcases h with h | h; exact hn h.2; exact hz h)]
  simp only [Bool.false_eq_true, if_false, hy]
theorem nine {a b : Int} (h : (a != b) = true) : (if a ≠ b then 9 else 0 : Int) = 9 := if_pos (by simpa using h)
theorem zero0 {a b : Int} (h : (a != b) = false) : (if a ≠ b then 9 else 0 : Int) = 0 := if_neg (by simpa using h)
set_option maxHeartbeats 4000000 in
set_option maxRecDepth 100000 in
theorem column_calls (t : S45) (A : Option Addr) (c : Nat) (A' : Option Addr) (c' : Nat) (i : Nat) (v : Int) (ts : List S45) (B : Option Addr) (d : Nat) (B' : Option Addr) (n' d' : Nat) (w : World)
    (hr : Kd.C k59 w A t.f2.length t.f2) (hts : Kd.C k45 w B ts.length ts) (hT : Tabs w) (hi : i < t.f2.length) (hok : ∀ x, x ∈ t.f2 → x.f0.size ≤ 9223372036854775807) :
    Calls Tryd.prog 60 #[.agg #[.string t.f0, .int .i64 t.f1, .slice A t.f2.length c, .slice A' t.f3.length c'], .int .i64 i, .agg #[.int .i64 v, .slice B ts.length d, .slice B' n' d']] w (jFj (colE t i ts) w) := by
  have hC0 := hr
  obtain ⟨ad, e, hc0, hc1, hc2, hc3, hc4, hc5⟩ := jFp hr (i : Int) (by omega) (by omega)
  subst e
  obtain ⟨_, e', _, hy1, _, _, _, _⟩ := jFp hr 0 (by omega) (by omega)
  cases e'
  have hsz : (t.f2.getD i z59).f0.size ≤ 9223372036854775807 := hok _ (by simp [List.getD, List.getElem?_eq_getElem hi])
  simp only [Int.toNat_natCast, jBn] at hc0 hc1 hc2 hc3 hc4 hc5
  simp only [Int.toNat_zero, jBn, Nat.zero_mul, add_none] at hy1
  have hspec : colE t i ts = (if jEj t.f2 i (t.f2.getD i z59) then 4 else if jEo i (t.f2.getD i z59) then 4 else if (t.f2.getD i z59).f4.toList.isEmpty then 0 else jEh t (t.f2.getD i z59) ts) := rfl
  generalize hx : t.f2.getD i z59 = x at hc0 hc1 hc2 hc3 hc4 hc5 hsz hspec
  generalize hyy : t.f2.getD 0 z59 = y at hy1
  have HYY := jAa.mk hyy
  have HXX := jAa.mk hx
  have HSP := jAa.mk hspec
  have hi0 : (0 : Int) ≤ (i : Int) := by omega
  have hz0 : 0 < t.f2.length := by omega
  have hz3 : ¬ t.f2.length = 0 := by omega
  have hi1 : (i : Int) < (t.f2.length : Int) := by omega
  have b2 := jFh w (.cells #[.string t.f0, .int .i64 t.f1, .slice (some ad) t.f2.length c, .slice A' t.f3.length c'] 45) (.cells #[.int .i64 v, .slice B ts.length d, .slice B' n' d'] 25)
  have d0 := jBg b2 hc0
  have d1 := jBg b2 hc1
  have d2 := jBg b2 hc2
  have d3 := jBg b2 hc3
  have d4 := jBg b2 hc4
  have d5 := jBg b2 hc5
  have b3 := below3 w (.cells #[.string t.f0, .int .i64 t.f1, .slice (some ad) t.f2.length c, .slice A' t.f3.length c'] 45) (.cells #[.int .i64 v, .slice B ts.length d, .slice B' n' d'] 25) (.cells #[.string x.f0, .int .i64 x.f1, .bool x.f2, .bool x.f3, .string x.f4, .int .i64 x.f5] 59)
  have hk3 := jAe (jAe (jCt w (.cells #[.string t.f0, .int .i64 t.f1, .slice (some ad) t.f2.length c, .slice A' t.f3.length c'] 45)) (.cells #[.int .i64 v, .slice B ts.length d, .slice B' n' d'] 25)) (.cells #[.string x.f0, .int .i64 x.f1, .bool x.f2, .bool x.f3, .string x.f4, .int .i64 x.f5] 59)
  have hl3 := jAe (jDu w (.cells #[.string t.f0, .int .i64 t.f1, .slice (some ad) t.f2.length c, .slice A' t.f3.length c'] 45) (.cells #[.int .i64 v, .slice B ts.length d, .slice B' n' d'] 25)) (.cells #[.string x.f0, .int .i64 x.f1, .bool x.f2, .bool x.f3, .string x.f4, .int .i64 x.f5] 59)
  have hm3 := blk_new2 w (.cells #[.string t.f0, .int .i64 t.f1, .slice (some ad) t.f2.length c, .slice A' t.f3.length c'] 45) (.cells #[.int .i64 v, .slice B ts.length d, .slice B' n' d'] 25) (.cells #[.string x.f0, .int .i64 x.f1, .bool x.f2, .bool x.f3, .string x.f4, .int .i64 x.f5] 59)
  have HB3 := jAa.mk b3
  have HK3 := jAa.mk hk3
  have HL3 := jAa.mk hl3
  have HM3 := jAa.mk hm3
  have HR3 := jAa.mk (Kd.C_below hr b3)
  have HS3 := jAa.mk (Kd.C_below hts b3)
  have HT3 := jAa.mk (hT.below b3)
  have HY3 := jAa.mk (jBg b3 hy1)
  clear hc0 hc1 hc2 hc3 hc4 hc5 hx hyy hspec b2 b3 hk3 hl3 hm3 hr hts hT hok hC0 hy1
  cases hn : jEf x.f0 with
  | false =>
    go_enter Tryd.func60, Tryd.ntmps60
    go_wp2_with (first | (go_at_call 32; refine (jCi x.f0 _ hsz HT3.out).mono ?_; rintro e wa ⟨rfl, hba⟩; rw [hn]; have HKa := jAa.mk (jAp HK3.out hba); have HLa := jAa.mk (jAp HL3.out hba); have HMa := jAa.mk (jAp HM3.out hba); have HRa := jAa.mk (Kd.C_below HR3.out hba); have HSa := jAa.mk (Kd.C_below HS3.out hba); have HTa := jAa.mk (HT3.out.below hba); have HBa := jAa.mk (jAu HB3.out hba); have k0a := jAb HKa.out 0; have k1a := jAb HKa.out 1; have k2a := jAb HKa.out 2; have k3a := jAb HKa.out 3; have l0a := jAb HLa.out 0; have l1a := jAb HLa.out 1; have l2a := jAb HLa.out 2; have m0a := jAb HMa.out 0; have m1a := jAb HMa.out 1; have m2a := jAb HMa.out 2; have m3a := jAb HMa.out 3; have m4a := jAb HMa.out 4; have m5a := jAb HMa.out 5))
    go_ret
    exact ⟨by rw [HSP.out]; simp only [jEj, hn]; rfl, HBa.out⟩
  | true =>
    by_cases hp : jGg t.f2 x.f0 = (i : Int)
    · by_cases g1 : x.f1 < 1
      · have hd1 := decide_eq_true g1
        go_enter Tryd.func60, Tryd.ntmps60
        go_wp2_with (first | (go_at_call 32; refine (jCi x.f0 _ hsz HT3.out).mono ?_; rintro e wa ⟨rfl, hba⟩; rw [hn]; have HKa := jAa.mk (jAp HK3.out hba); have HLa := jAa.mk (jAp HL3.out hba); have HMa := jAa.mk (jAp HM3.out hba); have HRa := jAa.mk (Kd.C_below HR3.out hba); have HSa := jAa.mk (Kd.C_below HS3.out hba); have HTa := jAa.mk (HT3.out.below hba); have HBa := jAa.mk (jAu HB3.out hba); have k0a := jAb HKa.out 0; have k1a := jAb HKa.out 1; have k2a := jAb HKa.out 2; have k3a := jAb HKa.out 3; have l0a := jAb HLa.out 0; have l1a := jAb HLa.out 1; have l2a := jAb HLa.out 2; have m0a := jAb HMa.out 0; have m1a := jAb HMa.out 1; have m2a := jAb HMa.out 2; have m3a := jAb HMa.out 3; have m4a := jAb HMa.out 4; have m5a := jAb HMa.out 5) | (go_at_call 34; refine (jCx t (some ad) c A' c' x.f0 _ HRa.out).mono ?_; rintro e wb ⟨rfl, hbb⟩; rw [hp]; have HKb := jAa.mk (jAp HKa.out hbb); have HLb := jAa.mk (jAp HLa.out hbb); have HMb := jAa.mk (jAp HMa.out hbb); have HRb := jAa.mk (Kd.C_below HRa.out hbb); have HSb := jAa.mk (Kd.C_below HSa.out hbb); have HTb := jAa.mk (HTa.out.below hbb); have HBb := jAa.mk (jAu HBa.out hbb); have k0b := jAb HKb.out 0; have k1b := jAb HKb.out 1; have k2b := jAb HKb.out 2; have k3b := jAb HKb.out 3; have l0b := jAb HLb.out 0; have l1b := jAb HLb.out 1; have l2b := jAb HLb.out 2; have m0b := jAb HMb.out 0; have m1b := jAb HMb.out 1; have m2b := jAb HMb.out 2; have m3b := jAb HMb.out 3; have m4b := jAb HMb.out 4; have m5b := jAb HMb.out 5; clear k0a k1a k2a k3a l0a l1a l2a m0a m1a m2a m3a m4a m5a))
        go_ret
        exact ⟨by rw [HSP.out]; simp [jEj, hn, hp, g1], HBb.out⟩
      · have hd1 := decide_eq_false g1
        by_cases g2 : 3 < x.f1
        · have hd2 := decide_eq_true g2
          go_enter Tryd.func60, Tryd.ntmps60
          go_wp2_with (first | (go_at_call 32; refine (jCi x.f0 _ hsz HT3.out).mono ?_; rintro e wa ⟨rfl, hba⟩; rw [hn]; have HKa := jAa.mk (jAp HK3.out hba); have HLa := jAa.mk (jAp HL3.out hba); have HMa := jAa.mk (jAp HM3.out hba); have HRa := jAa.mk (Kd.C_below HR3.out hba); have HSa := jAa.mk (Kd.C_below HS3.out hba); have HTa := jAa.mk (HT3.out.below hba); have HBa := jAa.mk (jAu HB3.out hba); have k0a := jAb HKa.out 0; have k1a := jAb HKa.out 1; have k2a := jAb HKa.out 2; have k3a := jAb HKa.out 3; have l0a := jAb HLa.out 0; have l1a := jAb HLa.out 1; have l2a := jAb HLa.out 2; have m0a := jAb HMa.out 0; have m1a := jAb HMa.out 1; have m2a := jAb HMa.out 2; have m3a := jAb HMa.out 3; have m4a := jAb HMa.out 4; have m5a := jAb HMa.out 5) | (go_at_call 34; refine (jCx t (some ad) c A' c' x.f0 _ HRa.out).mono ?_; rintro e wb ⟨rfl, hbb⟩; rw [hp]; have HKb := jAa.mk (jAp HKa.out hbb); have HLb := jAa.mk (jAp HLa.out hbb); have HMb := jAa.mk (jAp HMa.out hbb); have HRb := jAa.mk (Kd.C_below HRa.out hbb); have HSb := jAa.mk (Kd.C_below HSa.out hbb); have HTb := jAa.mk (HTa.out.below hbb); have HBb := jAa.mk (jAu HBa.out hbb); have k0b := jAb HKb.out 0; have k1b := jAb HKb.out 1; have k2b := jAb HKb.out 2; have k3b := jAb HKb.out 3; have l0b := jAb HLb.out 0; have l1b := jAb HLb.out 1; have l2b := jAb HLb.out 2; have m0b := jAb HMb.out 0; have m1b := jAb HMb.out 1; have m2b := jAb HMb.out 2; have m3b := jAb HMb.out 3; have m4b := jAb HMb.out 4; have m5b := jAb HMb.out 5; clear k0a k1a k2a k3a l0a l1a l2a m0a m1a m2a m3a m4a m5a))
          go_ret
          exact ⟨by rw [HSP.out]; simp [jEj, hn, hp, g2], HBb.out⟩
        · have hd2 := decide_eq_false g2
          by_cases g3 : x.f5 < 0
          · have hd3 := decide_eq_true g3
            go_enter Tryd.func60, Tryd.ntmps60
            go_wp2_with (first | (go_at_call 32; refine (jCi x.f0 _ hsz HT3.out).mono ?_; rintro e wa ⟨rfl, hba⟩; rw [hn]; have HKa := jAa.mk (jAp HK3.out hba); have HLa := jAa.mk (jAp HL3.out hba); have HMa := jAa.mk (jAp HM3.out hba); have HRa := jAa.mk (Kd.C_below HR3.out hba); have HSa := jAa.mk (Kd.C_below HS3.out hba); have HTa := jAa.mk (HT3.out.below hba); have HBa := jAa.mk (jAu HB3.out hba); have k0a := jAb HKa.out 0; have k1a := jAb HKa.out 1; have k2a := jAb HKa.out 2; have k3a := jAb HKa.out 3; have l0a := jAb HLa.out 0; have l1a := jAb HLa.out 1; have l2a := jAb HLa.out 2; have m0a := jAb HMa.out 0; have m1a := jAb HMa.out 1; have m2a := jAb HMa.out 2; have m3a := jAb HMa.out 3; have m4a := jAb HMa.out 4; have m5a := jAb HMa.out 5) | (go_at_call 34; refine (jCx t (some ad) c A' c' x.f0 _ HRa.out).mono ?_; rintro e wb ⟨rfl, hbb⟩; rw [hp]; have HKb := jAa.mk (jAp HKa.out hbb); have HLb := jAa.mk (jAp HLa.out hbb); have HMb := jAa.mk (jAp HMa.out hbb); have HRb := jAa.mk (Kd.C_below HRa.out hbb); have HSb := jAa.mk (Kd.C_below HSa.out hbb); have HTb := jAa.mk (HTa.out.below hbb); have HBb := jAa.mk (jAu HBa.out hbb); have k0b := jAb HKb.out 0; have k1b := jAb HKb.out 1; have k2b := jAb HKb.out 2; have k3b := jAb HKb.out 3; have l0b := jAb HLb.out 0; have l1b := jAb HLb.out 1; have l2b := jAb HLb.out 2; have m0b := jAb HMb.out 0; have m1b := jAb HMb.out 1; have m2b := jAb HMb.out 2; have m3b := jAb HMb.out 3; have m4b := jAb HMb.out 4; have m5b := jAb HMb.out 5; clear k0a k1a k2a k3a l0a l1a l2a m0a m1a m2a m3a m4a m5a))
            go_ret
            exact ⟨by rw [HSP.out]; simp [jEj, hn, hp, g3], HBb.out⟩
          · have hd3 := decide_eq_false g3
            by_cases g4 : 2 < x.f5
            · have hd4 := decide_eq_true g4
              go_enter Tryd.func60, Tryd.ntmps60
              go_wp2_with (first | (go_at_call 32; refine (jCi x.f0 _ hsz HT3.out).mono ?_; rintro e wa ⟨rfl, hba⟩; rw [hn]; have HKa := jAa.mk (jAp HK3.out hba); have HLa := jAa.mk (jAp HL3.out hba); have HMa := jAa.mk (jAp HM3.out hba); have HRa := jAa.mk (Kd.C_below HR3.out hba); have HSa := jAa.mk (Kd.C_below HS3.out hba); have HTa := jAa.mk (HT3.out.below hba); have HBa := jAa.mk (jAu HB3.out hba); have k0a := jAb HKa.out 0; have k1a := jAb HKa.out 1; have k2a := jAb HKa.out 2; have k3a := jAb HKa.out 3; have l0a := jAb HLa.out 0; have l1a := jAb HLa.out 1; have l2a := jAb HLa.out 2; have m0a := jAb HMa.out 0; have m1a := jAb HMa.out 1; have m2a := jAb HMa.out 2; have m3a := jAb HMa.out 3; have m4a := jAb HMa.out 4; have m5a := jAb HMa.out 5) | (go_at_call 34; refine (jCx t (some ad) c A' c' x.f0 _ HRa.out).mono ?_; rintro e wb ⟨rfl, hbb⟩; rw [hp]; have HKb := jAa.mk (jAp HKa.out hbb); have HLb := jAa.mk (jAp HLa.out hbb); have HMb := jAa.mk (jAp HMa.out hbb); have HRb := jAa.mk (Kd.C_below HRa.out hbb); have HSb := jAa.mk (Kd.C_below HSa.out hbb); have HTb := jAa.mk (HTa.out.below hbb); have HBb := jAa.mk (jAu HBa.out hbb); have k0b := jAb HKb.out 0; have k1b := jAb HKb.out 1; have k2b := jAb HKb.out 2; have k3b := jAb HKb.out 3; have l0b := jAb HLb.out 0; have l1b := jAb HLb.out 1; have l2b := jAb HLb.out 2; have m0b := jAb HMb.out 0; have m1b := jAb HMb.out 1; have m2b := jAb HMb.out 2; have m3b := jAb HMb.out 3; have m4b := jAb HMb.out 4; have m5b := jAb HMb.out 5; clear k0a k1a k2a k3a l0a l1a l2a m0a m1a m2a m3a m4a m5a))
              go_ret
              exact ⟨by rw [HSP.out]; simp [jEj, hn, hp, g4], HBb.out⟩
            · have hd4 := decide_eq_false g4
              have hb1 : jEj t.f2 i x = false := by simp [jEj, hn, hp, g1, g2, g3, g4]
              have HB1 := jAa.mk hb1
              clear hb1
              cases he : x.f4.toList.isEmpty with
              | true =>
                go_enter Tryd.func60, Tryd.ntmps60
                go_wp2_with (first | (go_at_call 32; refine (jCi x.f0 _ hsz HT3.out).mono ?_; rintro e wa ⟨rfl, hba⟩; rw [hn]; have HKa := jAa.mk (jAp HK3.out hba); have HLa := jAa.mk (jAp HL3.out hba); have HMa := jAa.mk (jAp HM3.out hba); have HRa := jAa.mk (Kd.C_below HR3.out hba); have HSa := jAa.mk (Kd.C_below HS3.out hba); have HTa := jAa.mk (HT3.out.below hba); have HBa := jAa.mk (jAu HB3.out hba); have k0a := jAb HKa.out 0; have k1a := jAb HKa.out 1; have k2a := jAb HKa.out 2; have k3a := jAb HKa.out 3; have l0a := jAb HLa.out 0; have l1a := jAb HLa.out 1; have l2a := jAb HLa.out 2; have m0a := jAb HMa.out 0; have m1a := jAb HMa.out 1; have m2a := jAb HMa.out 2; have m3a := jAb HMa.out 3; have m4a := jAb HMa.out 4; have m5a := jAb HMa.out 5) | (go_at_call 34; refine (jCx t (some ad) c A' c' x.f0 _ HRa.out).mono ?_; rintro e wb ⟨rfl, hbb⟩; rw [hp]; have HKb := jAa.mk (jAp HKa.out hbb); have HLb := jAa.mk (jAp HLa.out hbb); have HMb := jAa.mk (jAp HMa.out hbb); have HRb := jAa.mk (Kd.C_below HRa.out hbb); have HSb := jAa.mk (Kd.C_below HSa.out hbb); have HTb := jAa.mk (HTa.out.below hbb); have HBb := jAa.mk (jAu HBa.out hbb); have k0b := jAb HKb.out 0; have k1b := jAb HKb.out 1; have k2b := jAb HKb.out 2; have k3b := jAb HKb.out 3; have l0b := jAb HLb.out 0; have l1b := jAb HLb.out 1; have l2b := jAb HLb.out 2; have m0b := jAb HMb.out 0; have m1b := jAb HMb.out 1; have m2b := jAb HMb.out 2; have m3b := jAb HMb.out 3; have m4b := jAb HMb.out 4; have m5b := jAb HMb.out 5; clear k0a k1a k2a k3a l0a l1a l2a m0a m1a m2a m3a m4a m5a))
                all_goals (first | (go_ret; refine ⟨congrArg (fun b => Ending.returned (.int .i64 b)) ?_, HBb.out⟩; rw [HSP.out, HB1.out]))
                all_goals (first | (simp_all [jEo]; done))
              | false =>
                cases hs : (x.f4.toList == t.f0.toList) with
                | true =>
                  go_enter Tryd.func60, Tryd.ntmps60
                  go_wp2_with (first | (go_at_call 32; refine (jCi x.f0 _ hsz HT3.out).mono ?_; rintro e wa ⟨rfl, hba⟩; rw [hn]; have HKa := jAa.mk (jAp HK3.out hba); have HLa := jAa.mk (jAp HL3.out hba); have HMa := jAa.mk (jAp HM3.out hba); have HRa := jAa.mk (Kd.C_below HR3.out hba); have HSa := jAa.mk (Kd.C_below HS3.out hba); have HTa := jAa.mk (HT3.out.below hba); have HBa := jAa.mk (jAu HB3.out hba); have k0a := jAb HKa.out 0; have k1a := jAb HKa.out 1; have k2a := jAb HKa.out 2; have k3a := jAb HKa.out 3; have l0a := jAb HLa.out 0; have l1a := jAb HLa.out 1; have l2a := jAb HLa.out 2; have m0a := jAb HMa.out 0; have m1a := jAb HMa.out 1; have m2a := jAb HMa.out 2; have m3a := jAb HMa.out 3; have m4a := jAb HMa.out 4; have m5a := jAb HMa.out 5) | (go_at_call 34; refine (jCx t (some ad) c A' c' x.f0 _ HRa.out).mono ?_; rintro e wb ⟨rfl, hbb⟩; rw [hp]; have HKb := jAa.mk (jAp HKa.out hbb); have HLb := jAa.mk (jAp HLa.out hbb); have HMb := jAa.mk (jAp HMa.out hbb); have HRb := jAa.mk (Kd.C_below HRa.out hbb); have HSb := jAa.mk (Kd.C_below HSa.out hbb); have HTb := jAa.mk (HTa.out.below hbb); have HBb := jAa.mk (jAu HBa.out hbb); have k0b := jAb HKb.out 0; have k1b := jAb HKb.out 1; have k2b := jAb HKb.out 2; have k3b := jAb HKb.out 3; have l0b := jAb HLb.out 0; have l1b := jAb HLb.out 1; have l2b := jAb HLb.out 2; have m0b := jAb HMb.out 0; have m1b := jAb HMb.out 1; have m2b := jAb HMb.out 2; have m3b := jAb HMb.out 3; have m4b := jAb HMb.out 4; have m5b := jAb HMb.out 5; clear k0a k1a k2a k3a l0a l1a l2a m0a m1a m2a m3a m4a m5a) | (go_at_call 29; refine (jFb v ts B d B' n' d' x.f4 _ HSb.out).mono ?_; rintro e wc ⟨A2, A3, c2, c3, rfl, hl2, hC2, hl3, hC3, hbc⟩; have HKc := jAa.mk (jAp HKb.out hbc); have HLc := jAa.mk (jAp HLb.out hbc); have HMc := jAa.mk (jAp HMb.out hbc); have HRc := jAa.mk (Kd.C_below HRb.out hbc); have HSc := jAa.mk (Kd.C_below HSb.out hbc); have HTc := jAa.mk (HTb.out.below hbc); have HBc := jAa.mk (jAu HBb.out hbc); have k0c := jAb HKc.out 0; have k1c := jAb HKc.out 1; have k2c := jAb HKc.out 2; have k3c := jAb HKc.out 3; have l0c := jAb HLc.out 0; have l1c := jAb HLc.out 1; have l2c := jAb HLc.out 2; have m0c := jAb HMc.out 0; have m1c := jAb HMc.out 1; have m2c := jAb HMc.out 2; have m3c := jAb HMc.out 3; have m4c := jAb HMc.out 4; have m5c := jAb HMc.out 5; clear k0b k1b k2b k3b l0b l1b l2b m0b m1b m2b m3b m4b m5b; have hyc := jBg hbc (jBg hbb (jBg hba HY3.out)); have HC2 := jAa.mk hC2; have HC3 := jAa.mk hC3; clear hl2 hC2 hl3 hC3; have gk := jBu HKc.out; have gm := jBu HMc.out; have gy := World.block_lt_of_cell? wc _ hyc))
                  all_goals (try (go_quiet (fail); go_wp2))
                  all_goals (go_ret; refine ⟨congrArg (fun b => Ending.returned (.int .i64 b)) ?_, ?_⟩)
                  all_goals (first | exact HBb.out | exact HBc.out | exact jAj HBc.out _ | exact jAd (jAj HBc.out _) _ | skip)
                  all_goals (first
                    | (rw [HSP.out, HB1.out, bad2_i0 (by assumption) he]; rfl)
                    | (rw [HSP.out, HB1.out, jGl (by assumption) (by assumption)]; rfl)
                    | (rw [HSP.out, HB1.out, bad2_no he (by assumption) (by first | (left; assumption) | (right; assumption) | (right; simp only [*]; decide)), he]; show _ = jEh t x ts; rw [ref_self hs hz3 HYY.out]; first | exact (nine (by assumption)).symm | exact (zero0 (by assumption)).symm)
                   )
                | false =>
                  by_cases hneg : findT ts x.f4 < 0
                  · have hfd : decide (0 ≤ findT ts x.f4) = false := decide_eq_false (by omega)
                    go_enter Tryd.func60, Tryd.ntmps60
                    go_wp2_with (first | (go_at_call 32; refine (jCi x.f0 _ hsz HT3.out).mono ?_; rintro e wa ⟨rfl, hba⟩; rw [hn]; have HKa := jAa.mk (jAp HK3.out hba); have HLa := jAa.mk (jAp HL3.out hba); have HMa := jAa.mk (jAp HM3.out hba); have HRa := jAa.mk (Kd.C_below HR3.out hba); have HSa := jAa.mk (Kd.C_below HS3.out hba); have HTa := jAa.mk (HT3.out.below hba); have HBa := jAa.mk (jAu HB3.out hba); have k0a := jAb HKa.out 0; have k1a := jAb HKa.out 1; have k2a := jAb HKa.out 2; have k3a := jAb HKa.out 3; have l0a := jAb HLa.out 0; have l1a := jAb HLa.out 1; have l2a := jAb HLa.out 2; have m0a := jAb HMa.out 0; have m1a := jAb HMa.out 1; have m2a := jAb HMa.out 2; have m3a := jAb HMa.out 3; have m4a := jAb HMa.out 4; have m5a := jAb HMa.out 5) | (go_at_call 34; refine (jCx t (some ad) c A' c' x.f0 _ HRa.out).mono ?_; rintro e wb ⟨rfl, hbb⟩; rw [hp]; have HKb := jAa.mk (jAp HKa.out hbb); have HLb := jAa.mk (jAp HLa.out hbb); have HMb := jAa.mk (jAp HMa.out hbb); have HRb := jAa.mk (Kd.C_below HRa.out hbb); have HSb := jAa.mk (Kd.C_below HSa.out hbb); have HTb := jAa.mk (HTa.out.below hbb); have HBb := jAa.mk (jAu HBa.out hbb); have k0b := jAb HKb.out 0; have k1b := jAb HKb.out 1; have k2b := jAb HKb.out 2; have k3b := jAb HKb.out 3; have l0b := jAb HLb.out 0; have l1b := jAb HLb.out 1; have l2b := jAb HLb.out 2; have m0b := jAb HMb.out 0; have m1b := jAb HMb.out 1; have m2b := jAb HMb.out 2; have m3b := jAb HMb.out 3; have m4b := jAb HMb.out 4; have m5b := jAb HMb.out 5; clear k0a k1a k2a k3a l0a l1a l2a m0a m1a m2a m3a m4a m5a) | (go_at_call 29; refine (jFb v ts B d B' n' d' x.f4 _ HSb.out).mono ?_; rintro e wc ⟨A2, A3, c2, c3, rfl, hl2, hC2, hl3, hC3, hbc⟩; rw [hfd]; have HKc := jAa.mk (jAp HKb.out hbc); have HLc := jAa.mk (jAp HLb.out hbc); have HMc := jAa.mk (jAp HMb.out hbc); have HRc := jAa.mk (Kd.C_below HRb.out hbc); have HSc := jAa.mk (Kd.C_below HSb.out hbc); have HTc := jAa.mk (HTb.out.below hbc); have HBc := jAa.mk (jAu HBb.out hbc); have k0c := jAb HKc.out 0; have k1c := jAb HKc.out 1; have k2c := jAb HKc.out 2; have k3c := jAb HKc.out 3; have l0c := jAb HLc.out 0; have l1c := jAb HLc.out 1; have l2c := jAb HLc.out 2; have m0c := jAb HMc.out 0; have m1c := jAb HMc.out 1; have m2c := jAb HMc.out 2; have m3c := jAb HMc.out 3; have m4c := jAb HMc.out 4; have m5c := jAb HMc.out 5; clear k0b k1b k2b k3b l0b l1b l2b m0b m1b m2b m3b m4b m5b; have hyc := jBg hbc (jBg hbb (jBg hba HY3.out)); have HC2 := jAa.mk hC2; have HC3 := jAa.mk hC3; clear hl2 hC2 hl3 hC3; have gk := jBu HKc.out; have gm := jBu HMc.out; have gy := World.block_lt_of_cell? wc _ hyc))
                    all_goals (try (go_quiet (fail); go_wp2))
                    all_goals (go_ret; refine ⟨congrArg (fun b => Ending.returned (.int .i64 b)) ?_, ?_⟩)
                    all_goals (first | exact HBb.out | exact HBc.out | exact jAj HBc.out _ | exact jAd (jAj HBc.out _) _ | skip)
                    all_goals (first
                      | (rw [HSP.out, HB1.out, bad2_i0 (by assumption) he]; rfl)
                      | (rw [HSP.out, HB1.out, jGl (by assumption) (by assumption)]; rfl)
                      | (rw [HSP.out, HB1.out, bad2_no he (by assumption) (by first | (left; assumption) | (right; assumption) | (right; simp only [*]; decide)), he]; show _ = jEh t x ts; rw [ref_none hs hneg])
                     )
                  · have hfd : decide (0 ≤ findT ts x.f4) = true := decide_eq_true (by omega)
                    by_cases hz : (theT ts x.f4).f2.length = 0
                    · go_enter Tryd.func60, Tryd.ntmps60
                      go_wp2_with (first | (go_at_call 32; refine (jCi x.f0 _ hsz HT3.out).mono ?_; rintro e wa ⟨rfl, hba⟩; rw [hn]; have HKa := jAa.mk (jAp HK3.out hba); have HLa := jAa.mk (jAp HL3.out hba); have HMa := jAa.mk (jAp HM3.out hba); have HRa := jAa.mk (Kd.C_below HR3.out hba); have HSa := jAa.mk (Kd.C_below HS3.out hba); have HTa := jAa.mk (HT3.out.below hba); have HBa := jAa.mk (jAu HB3.out hba); have k0a := jAb HKa.out 0; have k1a := jAb HKa.out 1; have k2a := jAb HKa.out 2; have k3a := jAb HKa.out 3; have l0a := jAb HLa.out 0; have l1a := jAb HLa.out 1; have l2a := jAb HLa.out 2; have m0a := jAb HMa.out 0; have m1a := jAb HMa.out 1; have m2a := jAb HMa.out 2; have m3a := jAb HMa.out 3; have m4a := jAb HMa.out 4; have m5a := jAb HMa.out 5) | (go_at_call 34; refine (jCx t (some ad) c A' c' x.f0 _ HRa.out).mono ?_; rintro e wb ⟨rfl, hbb⟩; rw [hp]; have HKb := jAa.mk (jAp HKa.out hbb); have HLb := jAa.mk (jAp HLa.out hbb); have HMb := jAa.mk (jAp HMa.out hbb); have HRb := jAa.mk (Kd.C_below HRa.out hbb); have HSb := jAa.mk (Kd.C_below HSa.out hbb); have HTb := jAa.mk (HTa.out.below hbb); have HBb := jAa.mk (jAu HBa.out hbb); have k0b := jAb HKb.out 0; have k1b := jAb HKb.out 1; have k2b := jAb HKb.out 2; have k3b := jAb HKb.out 3; have l0b := jAb HLb.out 0; have l1b := jAb HLb.out 1; have l2b := jAb HLb.out 2; have m0b := jAb HMb.out 0; have m1b := jAb HMb.out 1; have m2b := jAb HMb.out 2; have m3b := jAb HMb.out 3; have m4b := jAb HMb.out 4; have m5b := jAb HMb.out 5; clear k0a k1a k2a k3a l0a l1a l2a m0a m1a m2a m3a m4a m5a) | (go_at_call 29; refine (jFb v ts B d B' n' d' x.f4 _ HSb.out).mono ?_; rintro e wc ⟨A2, A3, c2, c3, rfl, hl2, hC2, hl3, hC3, hbc⟩; rw [hfd]; have HKc := jAa.mk (jAp HKb.out hbc); have HLc := jAa.mk (jAp HLb.out hbc); have HMc := jAa.mk (jAp HMb.out hbc); have HRc := jAa.mk (Kd.C_below HRb.out hbc); have HSc := jAa.mk (Kd.C_below HSb.out hbc); have HTc := jAa.mk (HTb.out.below hbc); have HBc := jAa.mk (jAu HBb.out hbc); have k0c := jAb HKc.out 0; have k1c := jAb HKc.out 1; have k2c := jAb HKc.out 2; have k3c := jAb HKc.out 3; have l0c := jAb HLc.out 0; have l1c := jAb HLc.out 1; have l2c := jAb HLc.out 2; have m0c := jAb HMc.out 0; have m1c := jAb HMc.out 1; have m2c := jAb HMc.out 2; have m3c := jAb HMc.out 3; have m4c := jAb HMc.out 4; have m5c := jAb HMc.out 5; clear k0b k1b k2b k3b l0b l1b l2b m0b m1b m2b m3b m4b m5b; have hyc := jBg hbc (jBg hbb (jBg hba HY3.out)); have HC2 := jAa.mk hC2; have HC3 := jAa.mk hC3; clear hl2 hC2 hl3 hC3; have gk := jBu HKc.out; have gm := jBu HMc.out; have gy := World.block_lt_of_cell? wc _ hyc))
                      all_goals (try (go_quiet (fail); go_wp2))
                      all_goals (go_ret; refine ⟨congrArg (fun b => Ending.returned (.int .i64 b)) ?_, ?_⟩)
                      all_goals (first | exact HBb.out | exact HBc.out | exact jAj HBc.out _ | exact jAd (jAj HBc.out _) _ | skip)
                      all_goals (first
                        | (rw [HSP.out, HB1.out, bad2_i0 (by assumption) he]; rfl)
                        | (rw [HSP.out, HB1.out, jGl (by assumption) (by assumption)]; rfl)
                        | (rw [HSP.out, HB1.out, bad2_no he (by assumption) (by first | (left; assumption) | (right; assumption) | (right; simp only [*]; decide)), he]; show _ = jEh t x ts; rw [ref_empty hs hz])
                       )
                    · have hz1 : (0 : Int) < ((theT ts x.f4).f2.length : Int) := by omega
                      have hz4 : 0 < (theT ts x.f4).f2.length := by omega
                      go_enter Tryd.func60, Tryd.ntmps60
                      go_wp2_with (first | (go_at_call 32; refine (jCi x.f0 _ hsz HT3.out).mono ?_; rintro e wa ⟨rfl, hba⟩; rw [hn]; have HKa := jAa.mk (jAp HK3.out hba); have HLa := jAa.mk (jAp HL3.out hba); have HMa := jAa.mk (jAp HM3.out hba); have HRa := jAa.mk (Kd.C_below HR3.out hba); have HSa := jAa.mk (Kd.C_below HS3.out hba); have HTa := jAa.mk (HT3.out.below hba); have HBa := jAa.mk (jAu HB3.out hba); have k0a := jAb HKa.out 0; have k1a := jAb HKa.out 1; have k2a := jAb HKa.out 2; have k3a := jAb HKa.out 3; have l0a := jAb HLa.out 0; have l1a := jAb HLa.out 1; have l2a := jAb HLa.out 2; have m0a := jAb HMa.out 0; have m1a := jAb HMa.out 1; have m2a := jAb HMa.out 2; have m3a := jAb HMa.out 3; have m4a := jAb HMa.out 4; have m5a := jAb HMa.out 5) | (go_at_call 34; refine (jCx t (some ad) c A' c' x.f0 _ HRa.out).mono ?_; rintro e wb ⟨rfl, hbb⟩; rw [hp]; have HKb := jAa.mk (jAp HKa.out hbb); have HLb := jAa.mk (jAp HLa.out hbb); have HMb := jAa.mk (jAp HMa.out hbb); have HRb := jAa.mk (Kd.C_below HRa.out hbb); have HSb := jAa.mk (Kd.C_below HSa.out hbb); have HTb := jAa.mk (HTa.out.below hbb); have HBb := jAa.mk (jAu HBa.out hbb); have k0b := jAb HKb.out 0; have k1b := jAb HKb.out 1; have k2b := jAb HKb.out 2; have k3b := jAb HKb.out 3; have l0b := jAb HLb.out 0; have l1b := jAb HLb.out 1; have l2b := jAb HLb.out 2; have m0b := jAb HMb.out 0; have m1b := jAb HMb.out 1; have m2b := jAb HMb.out 2; have m3b := jAb HMb.out 3; have m4b := jAb HMb.out 4; have m5b := jAb HMb.out 5; clear k0a k1a k2a k3a l0a l1a l2a m0a m1a m2a m3a m4a m5a) | (go_at_call 29; refine (jFb v ts B d B' n' d' x.f4 _ HSb.out).mono ?_; rintro e wc ⟨A2, A3, c2, c3, rfl, hl2, hC2, hl3, hC3, hbc⟩; rw [hfd]; obtain ⟨ad2, eA, _, hz2, _, _, _, _⟩ := jFp hC2 0 (by omega) hz1; subst eA; simp only [Int.toNat_zero, jBn, Nat.zero_mul, add_none] at hz2; generalize hzz : (theT ts x.f4).f2.getD 0 z59 = z at hz2; have HZZ := jAa.mk hzz; clear hzz; have hzc := jBg hbc hz2; have gz := World.block_lt_of_cell? wc _ hzc; have HKc := jAa.mk (jAp HKb.out hbc); have HLc := jAa.mk (jAp HLb.out hbc); have HMc := jAa.mk (jAp HMb.out hbc); have HRc := jAa.mk (Kd.C_below HRb.out hbc); have HSc := jAa.mk (Kd.C_below HSb.out hbc); have HTc := jAa.mk (HTb.out.below hbc); have HBc := jAa.mk (jAu HBb.out hbc); have k0c := jAb HKc.out 0; have k1c := jAb HKc.out 1; have k2c := jAb HKc.out 2; have k3c := jAb HKc.out 3; have l0c := jAb HLc.out 0; have l1c := jAb HLc.out 1; have l2c := jAb HLc.out 2; have m0c := jAb HMc.out 0; have m1c := jAb HMc.out 1; have m2c := jAb HMc.out 2; have m3c := jAb HMc.out 3; have m4c := jAb HMc.out 4; have m5c := jAb HMc.out 5; clear k0b k1b k2b k3b l0b l1b l2b m0b m1b m2b m3b m4b m5b; have hyc := jBg hbc (jBg hbb (jBg hba HY3.out)); have HC2 := jAa.mk hC2; have HC3 := jAa.mk hC3; clear hl2 hC2 hl3 hC3; have gk := jBu HKc.out; have gm := jBu HMc.out; have gy := World.block_lt_of_cell? wc _ hyc))
                      all_goals (try (go_quiet (fail); go_wp2))
                      all_goals (go_ret; refine ⟨congrArg (fun b => Ending.returned (.int .i64 b)) ?_, ?_⟩)
                      all_goals (first | exact HBb.out | exact HBc.out | exact jAj HBc.out _ | exact jAd (jAj HBc.out _) _ | skip)
                      all_goals (first
                        | (rw [HSP.out, HB1.out, bad2_i0 (by assumption) he]; rfl)
                        | (rw [HSP.out, HB1.out, jGl (by assumption) (by assumption)]; rfl)
                        | (rw [HSP.out, HB1.out, bad2_no he (by assumption) (by first | (left; assumption) | (right; assumption) | (right; simp only [*]; decide)), he]; show _ = jEh t x ts; rw [ref_other hs (by omega) (by omega) HZZ.out]; first | exact (nine (by assumption)).symm | exact (zero0 (by assumption)).symm)
                       )
    · have hpd : decide (jGg t.f2 x.f0 = (i : Int)) = false := decide_eq_false hp
      go_enter Tryd.func60, Tryd.ntmps60
      go_wp2_with (first | (go_at_call 32; refine (jCi x.f0 _ hsz HT3.out).mono ?_; rintro e wa ⟨rfl, hba⟩; rw [hn]; have HKa := jAa.mk (jAp HK3.out hba); have HLa := jAa.mk (jAp HL3.out hba); have HMa := jAa.mk (jAp HM3.out hba); have HRa := jAa.mk (Kd.C_below HR3.out hba); have HSa := jAa.mk (Kd.C_below HS3.out hba); have HTa := jAa.mk (HT3.out.below hba); have HBa := jAa.mk (jAu HB3.out hba); have k0a := jAb HKa.out 0; have k1a := jAb HKa.out 1; have k2a := jAb HKa.out 2; have k3a := jAb HKa.out 3; have l0a := jAb HLa.out 0; have l1a := jAb HLa.out 1; have l2a := jAb HLa.out 2; have m0a := jAb HMa.out 0; have m1a := jAb HMa.out 1; have m2a := jAb HMa.out 2; have m3a := jAb HMa.out 3; have m4a := jAb HMa.out 4; have m5a := jAb HMa.out 5) | (go_at_call 34; refine (jCx t (some ad) c A' c' x.f0 _ HRa.out).mono ?_; rintro e wb ⟨rfl, hbb⟩; have HKb := jAa.mk (jAp HKa.out hbb); have HLb := jAa.mk (jAp HLa.out hbb); have HMb := jAa.mk (jAp HMa.out hbb); have HRb := jAa.mk (Kd.C_below HRa.out hbb); have HSb := jAa.mk (Kd.C_below HSa.out hbb); have HTb := jAa.mk (HTa.out.below hbb); have HBb := jAa.mk (jAu HBa.out hbb); have k0b := jAb HKb.out 0; have k1b := jAb HKb.out 1; have k2b := jAb HKb.out 2; have k3b := jAb HKb.out 3; have l0b := jAb HLb.out 0; have l1b := jAb HLb.out 1; have l2b := jAb HLb.out 2; have m0b := jAb HMb.out 0; have m1b := jAb HMb.out 1; have m2b := jAb HMb.out 2; have m3b := jAb HMb.out 3; have m4b := jAb HMb.out 4; have m5b := jAb HMb.out 5; clear k0a k1a k2a k3a l0a l1a l2a m0a m1a m2a m3a m4a m5a))
      go_ret
      exact ⟨by rw [HSP.out]; simp only [jEj, hn, decide_eq_true hp]; rfl, HBb.out⟩
end Go.Proofs.YtefdfgmlmjnmlaaDoor.My
end

section
set_option linter.unusedSimpArgs false
set_option linter.unusedVariables false
namespace Go.Proofs.YtefdfgmlmjnmlaaDoor.My
open Go.RowKit Go.Proofs.YtefdfgmlmjnmlaaDoorW.PrintWords Go.Proofs.YtefdfgmlmjnmlaaDoor.Rf
/-- What is wrong with the first column with which something is. -/
def colsE (t : S45) (ts : List S45) : Int := ((List.range t.f2.length).find? (fun i => colE t i ts != 0)).elim 0 (fun i => colE t i ts)
theorem colsE_hit {t : S45} {ts : List S45} {k : Nat} (hk : k < t.f2.length) (ha : ∀ j, j < k → colE t j ts = 0) (h : colE t k ts ≠ 0) : colsE t ts = colE t k ts := by
  have : (List.range t.f2.length).find? (fun i => colE t i ts != 0) = some k := by
    rw [List.find?_range_eq_some]
    exact ⟨by simpa using h, List.mem_range.2 hk, fun j hj => by simp [ha j hj]⟩
  unfold colsE
  rw [this]
  rfl
theorem colsE_none {t : S45} {ts : List S45} (ha : ∀ j, j < t.f2.length → colE t j ts = 0) : colsE t ts = 0 := by
  have : (List.range t.f2.length).find? (fun i => colE t i ts != 0) = none := by
    rw [List.find?_eq_none]
    intro j hj
    simp [ha j (List.mem_range.1 hj)]
  unfold colsE
  rw [this]
  rfl
/-- What is wrong with a table, its checks aside. -/
def jEi (t : S45) (ts : List S45) : Int :=
  if !jEf t.f0 || (decide (t.f1 < 0) || (decide (8 ≤ t.f1) || decide (t.f2.length = 0))) then 4
  else if decide (6 < t.f2.length) || decide (4 < t.f3.length) then 3
  else colsE t ts
theorem jFs (t : S45) (A : Option Addr) (c : Nat) (A' : Option Addr) (c' : Nat) (i : Nat) (v : Int) (ts : List S45) (B : Option Addr) (d : Nat) (B' : Option Addr) (n' d' : Nat) (w : World) (h3 : t.f3.length = 0)
    (hr : Kd.C k59 w A t.f2.length t.f2) (hts : Kd.C k45 w B ts.length ts) (hT : Tabs w) (hi : i < t.f2.length) (hok : ∀ x, x ∈ t.f2 → x.f0.size ≤ 9223372036854775807) :
    Calls Tryd.prog 60 #[.agg #[.string t.f0, .int .i64 t.f1, .slice A t.f2.length c, .slice A' 0 c'], .int .i64 i, .agg #[.int .i64 v, .slice B ts.length d, .slice B' n' d']] w (jFj (colE t i ts) w) := by
  have h := column_calls t A c A' c' i v ts B d B' n' d' w hr hts hT hi hok
  rw [h3] at h
  exact h
set_option maxHeartbeats 4000000 in
set_option maxRecDepth 100000 in
theorem jGx (t : S45) (A : Option Addr) (c : Nat) (A' : Option Addr) (c' : Nat) (v : Int) (ts : List S45) (B : Option Addr) (d : Nat) (B' : Option Addr) (n' d' : Nat) (w : World)
    (hr : Kd.C k59 w A t.f2.length t.f2) (h3 : t.f3 = []) (hts : Kd.C k45 w B ts.length ts) (hT : Tabs w) (hs0 : t.f0.size ≤ 9223372036854775807) (hok : ∀ x, x ∈ t.f2 → x.f0.size ≤ 9223372036854775807) :
    Calls Tryd.prog 36 #[.agg #[.string t.f0, .int .i64 t.f1, .slice A t.f2.length c, .slice A' 0 c'], .agg #[.int .i64 v, .slice B ts.length d, .slice B' n' d']] w (jFj (jEi t ts) w) := by
  have b2 := jFh w (.cells #[.string t.f0, .int .i64 t.f1, .slice A t.f2.length c, .slice A' 0 c'] 45) (.cells #[.int .i64 v, .slice B ts.length d, .slice B' n' d'] 25)
  have HB := jAa.mk b2
  have HK := jAa.mk (jAe (jCt w (.cells #[.string t.f0, .int .i64 t.f1, .slice A t.f2.length c, .slice A' 0 c'] 45)) (.cells #[.int .i64 v, .slice B ts.length d, .slice B' n' d'] 25))
  have HL := jAa.mk (jDu w (.cells #[.string t.f0, .int .i64 t.f1, .slice A t.f2.length c, .slice A' 0 c'] 45) (.cells #[.int .i64 v, .slice B ts.length d, .slice B' n' d'] 25))
  have HR := jAa.mk (Kd.C_below hr b2)
  have HS := jAa.mk (Kd.C_below hts b2)
  have HT := jAa.mk (hT.below b2)
  have HO := jAa.mk hok
  have hn := hr.2.1
  have hl3 : t.f3.length = 0 := by rw [h3]; rfl
  have HL3 := jAa.mk hl3
  clear b2 hr hts hT hok hl3 h3
  cases hnm : jEf t.f0 with
  | false =>
    go_enter Tryd.func36, Tryd.ntmps36
    go_wp2_with (first | (go_at_call 32; refine (jCi t.f0 _ hs0 HT.out).mono ?_; rintro e wa ⟨rfl, hba⟩; rw [hnm]))
    go_ret
    exact ⟨by unfold jEi; rw [hnm]; rfl, jAu HB.out hba⟩
  | true =>
    by_cases g1 : t.f1 < 0
    · have q1 := decide_eq_true g1
      have hres : jEi t ts = 4 := by unfold jEi; rw [hnm]; simp [g1]
      have HRES := jAa.mk hres
      clear hres
      go_enter Tryd.func36, Tryd.ntmps36
      go_wp2_with (first | (go_at_call 32; refine (jCi t.f0 _ hs0 HT.out).mono ?_; rintro e wa ⟨rfl, hba⟩; rw [hnm]; have HKa := jAa.mk (jAp HK.out hba); have HLa := jAa.mk (jAp HL.out hba); have HBa := jAa.mk (jAu HB.out hba); have a0 := jAb HKa.out 0; have a1 := jAb HKa.out 1; have a2 := jAb HKa.out 2; have a3 := jAb HKa.out 3))
      go_ret
      exact ⟨by rw [HRES.out]; rfl, HBa.out⟩
    · have q1 := decide_eq_false g1
      by_cases g2 : 8 ≤ t.f1
      · have q2 := decide_eq_true g2
        have hres : jEi t ts = 4 := by unfold jEi; rw [hnm]; simp [g2]
        have HRES := jAa.mk hres
        clear hres
        go_enter Tryd.func36, Tryd.ntmps36
        go_wp2_with (first | (go_at_call 32; refine (jCi t.f0 _ hs0 HT.out).mono ?_; rintro e wa ⟨rfl, hba⟩; rw [hnm]; have HKa := jAa.mk (jAp HK.out hba); have HLa := jAa.mk (jAp HL.out hba); have HBa := jAa.mk (jAu HB.out hba); have a0 := jAb HKa.out 0; have a1 := jAb HKa.out 1; have a2 := jAb HKa.out 2; have a3 := jAb HKa.out 3))
        go_ret
        exact ⟨by rw [HRES.out]; rfl, HBa.out⟩
      · have q2 := decide_eq_false g2
        by_cases g3 : t.f2.length = 0
        · have q3 : ((t.f2.length : Int) == 0) = true := by simp [g3]
          have hres : jEi t ts = 4 := by unfold jEi; rw [hnm]; simp [g3]
          clear g3
          have HRES := jAa.mk hres
          clear hres
          go_enter Tryd.func36, Tryd.ntmps36
          go_wp2_with (first | (go_at_call 32; refine (jCi t.f0 _ hs0 HT.out).mono ?_; rintro e wa ⟨rfl, hba⟩; rw [hnm]; have HKa := jAa.mk (jAp HK.out hba); have HLa := jAa.mk (jAp HL.out hba); have HBa := jAa.mk (jAu HB.out hba); have a0 := jAb HKa.out 0; have a1 := jAb HKa.out 1; have a2 := jAb HKa.out 2; have a3 := jAb HKa.out 3))
          go_ret
          exact ⟨by rw [HRES.out]; rfl, HBa.out⟩
        · have q3 : ((t.f2.length : Int) == 0) = false := by simp [g3]
          by_cases g4 : 6 < t.f2.length
          · have q4 : decide (6 < (t.f2.length : Int)) = true := decide_eq_true (by omega)
            have hres : jEi t ts = 3 := by unfold jEi; rw [hnm]; simp [g1, g2, g3, g4]
            have HRES := jAa.mk hres
            clear hres
            go_enter Tryd.func36, Tryd.ntmps36
            go_wp2_with (first | (go_at_call 32; refine (jCi t.f0 _ hs0 HT.out).mono ?_; rintro e wa ⟨rfl, hba⟩; rw [hnm]; have HKa := jAa.mk (jAp HK.out hba); have HLa := jAa.mk (jAp HL.out hba); have HBa := jAa.mk (jAu HB.out hba); have a0 := jAb HKa.out 0; have a1 := jAb HKa.out 1; have a2 := jAb HKa.out 2; have a3 := jAb HKa.out 3))
            go_ret
            exact ⟨by rw [HRES.out]; rfl, HBa.out⟩
          · have q4 : decide (6 < (t.f2.length : Int)) = false := decide_eq_false (by omega)
            have hres : jEi t ts = colsE t ts := by unfold jEi; rw [hnm, HL3.out]; simp [g1, g2, g3, g4]
            have HRES := jAa.mk hres
            clear hres
            have HBW : jAa (∀ wa : World, Below ((w.alloc (.cells #[.string t.f0, .int .i64 t.f1, .slice A t.f2.length c, .slice A' 0 c'] 45)).alloc (.cells #[.int .i64 v, .slice B ts.length d, .slice B' n' d'] 25)).heap.size ((w.alloc (.cells #[.string t.f0, .int .i64 t.f1, .slice A t.f2.length c, .slice A' 0 c'] 45)).alloc (.cells #[.int .i64 v, .slice B ts.length d, .slice B' n' d'] 25)) wa → True) := ⟨fun _ _ => trivial⟩
            go_enter Tryd.func36, Tryd.ntmps36
            go_wp2_with (first | (go_at_call 32; refine (jCi t.f0 _ hs0 HT.out).mono ?_; rintro e wa ⟨rfl, hba⟩; rw [hnm]; have HKa := jAa.mk (jAp HK.out hba); have HLa := jAa.mk (jAp HL.out hba); have HBa := jAa.mk (jAu HB.out hba); have a0 := jAb HKa.out 0; have a1 := jAb HKa.out 1; have a2 := jAb HKa.out 2; have a3 := jAb HKa.out 3))
            go_loopw [5, 6, 46] (fun _ _ t46 wr => ∃ k : Nat, t46 = .int .i64 k ∧ k ≤ t.f2.length ∧ jAa (∀ j, j < k → colE t j ts = 0) ∧ jAa (Below ((w.alloc (.cells #[.string t.f0, .int .i64 t.f1, .slice A t.f2.length c, .slice A' 0 c'] 45)).alloc (.cells #[.int .i64 v, .slice B ts.length d, .slice B' n' d'] 25)).heap.size ((w.alloc (.cells #[.string t.f0, .int .i64 t.f1, .slice A t.f2.length c, .slice A' 0 c'] 45)).alloc (.cells #[.int .i64 v, .slice B ts.length d, .slice B' n' d'] 25)) wr)) (fun _ _ t46 _ => t.f2.length - (intOf t46).toNat)
            case atStart => exact ⟨0, rfl, Nat.zero_le _, ⟨fun j hj => absurd hj (by omega)⟩, ⟨hba⟩⟩
            case round =>
              obtain ⟨k, rfl, hk, HA, HBr⟩ := hrel
              have HKr := jAa.mk (jAp HK.out HBr.out)
              have HLr := jAa.mk (jAp HL.out HBr.out)
              clear a0 a1 a2 a3
              have a0 := jAb HKr.out 0
              have a1 := jAb HKr.out 1
              have a2 := jAb HKr.out 2
              have a3 := jAb HKr.out 3
              have b0 := jAb HLr.out 0
              have b1 := jAb HLr.out 1
              have b2 := jAb HLr.out 2
              have HRr := jAa.mk (Kd.C_below HR.out HBr.out)
              have HSr := jAa.mk (Kd.C_below HS.out HBr.out)
              have HTr := jAa.mk (HT.out.below HBr.out)
              by_cases hlt : k < t.f2.length
              · have hi1 : (k : Int) < (t.f2.length : Int) := by omega
                by_cases hce0 : colE t k ts = 0
                · have hce := hce0
                  have hall : ∀ j, j < k + 1 → colE t j ts = 0 := fun j hj => by
                    rcases Nat.lt_or_ge j k with h | h
                    · exact HA.out j h
                    · obtain rfl : j = k := by omega
                      exact hce0
                  have HALL := jAa.mk hall
                  clear hall hce0
                  go_wp2_with (first | (go_at_call 60; refine (jFs t A c A' c' k v ts B d B' n' d' _ HL3.out HRr.out HSr.out HTr.out (by omega) HO.out).mono ?_; rintro e wc ⟨rfl, hbc⟩; rw [hce]))
                  go_roundw
                  case rel => exact ⟨k + 1, by go_num, by omega, HALL, ⟨jAu HBr.out hbc⟩⟩
                  case measure => simp [intOf]; omega
                · have hfin := colsE_hit hlt HA.out hce0
                  have HFIN := jAa.mk hfin
                  generalize hce : colE t k ts = ce at hfin hce0
                  have HCE := jAa.mk hce
                  clear hfin
                  have q5 : (ce != 0) = true := by simpa using hce0
                  go_wp2_with (first | (go_at_call 60; refine (jFs t A c A' c' k v ts B d B' n' d' _ HL3.out HRr.out HSr.out HTr.out (by omega) HO.out).mono ?_; rintro e wc ⟨rfl, hbc⟩; rw [hce]))
                  go_ret
                  exact ⟨by rw [HRES.out, HFIN.out, HCE.out]; rfl, jAu HB.out (jAu HBr.out hbc)⟩
              · have hfin := colsE_none (t := t) (ts := ts) (fun j hj => HA.out j (by omega))
                have HFIN := jAa.mk hfin
                clear hfin
                have hkk : k = t.f2.length := by omega
                subst hkk
                go_wp2
                go_loopw [8, 60] (fun _ t60 w2 => t60 = .int .i64 0 ∧ w2 = wr) (fun _ _ _ => 0)
                case atStart => exact ⟨rfl, rfl⟩
                case round =>
                  obtain ⟨rfl, rfl⟩ := hrel
                  go_wp2
                  go_ret
                  exact ⟨by rw [HRES.out, HFIN.out]; rfl, jAu HB.out HBr.out⟩
end Go.Proofs.YtefdfgmlmjnmlaaDoor.My
end

section
namespace Go.Proofs.YtefdfgmlmjnmlaaDoor.My
open Go.RowKit Go.Proofs.YtefdfgmlmjnmlaaDoorW.PrintWords Go.Proofs.YtefdfgmlmjnmlaaDoor.Rf
theorem row1 {α : Type} (d : Kd α) {w : World} {t : TypeId} {x : α} {cs : List Value} (hK : d.K w x cs) (hl : cs.length = d.sz) {g : Nat} (hb : w.heap[g]? = some (.cells cs.toArray t (0, 0))) : Kd.C d w (some ⟨g, 0, none⟩) [x].length [x] := by
  refine ⟨rfl, by simp, fun _ => ⟨⟨g, 0, none⟩, rfl, fun j p hp => ?_⟩⟩
  cases j with
  | succ j => simp at hp
  | zero =>
    simp only [List.getElem?_cons_zero, Option.some.injEq] at hp
    subst hp
    refine ⟨cs, hl, hK, fun i u hu => ?_⟩
    have := jAb hb i
    have hu' := this.trans (show cs.toArray[i]? = some u by simpa using hu)
    cases i <;> simpa [Addr.add] using hu'
end Go.Proofs.YtefdfgmlmjnmlaaDoor.My
end

section
namespace Go.Proofs.YtefdfgmlmjnmlaaDoor.My
open Go.RowKit Go.Proofs.YtefdfgmlmjnmlaaDoorW.PrintWords Go.Proofs.YtefdfgmlmjnmlaaDoor.Rf
def cId : S59 := ⟨⟨#[105, 100]⟩, 1, true, false, ⟨#[]⟩, 0⟩
def tId : S45 := ⟨⟨#[97]⟩, 0, [cId], []⟩
def tNo : S45 := ⟨⟨#[97]⟩, 0, [], []⟩
theorem rowId {g : Nat} (w : World) (hb : w.heap[g]? = some (.cells #[.string ⟨#[105, 100]⟩, .int .i64 1, .bool true, .bool false, .string ⟨#[]⟩, .int .i64 0] 59 (0, 0))) : Kd.C k59 w (some ⟨g, 0, none⟩) [cId].length [cId] :=
  row1 k59 (k59_mk w cId) rfl hb
theorem good_no (w : World) (hT : Tabs w) : Calls Tryd.prog 36 #[.agg #[.string ⟨#[97]⟩, .int .i64 0, .slice none 0 0, .slice none 0 0], .agg #[.int .i64 0, .slice none 0 0, .slice none 0 0]] w (jFj 4 w) := by
  have h := jGx tNo none 0 none 0 0 [] none 0 none 0 0 w (Kd.C_nil _ _) rfl (Kd.C_nil _ _) hT (by decide) (fun x hx => by cases hx)
  rw [show jEi tNo [] = 4 by kernel_rfl] at h
  exact h
theorem good_id {g : Nat} (w : World) (hT : Tabs w) (hb : w.heap[g]? = some (.cells #[.string ⟨#[105, 100]⟩, .int .i64 1, .bool true, .bool false, .string ⟨#[]⟩, .int .i64 0] 59 (0, 0))) : Calls Tryd.prog 36 #[.agg #[.string ⟨#[97]⟩, .int .i64 0, .slice (some ⟨g, 0, none⟩) 1 1, .slice none 0 0], .agg #[.int .i64 0, .slice none 0 0, .slice none 0 0]] w (jFj 0 w) := by
  have h := jGx tId (some ⟨g, 0, none⟩) 1 none 0 0 [] none 0 none 0 0 w (rowId w hb) rfl (Kd.C_nil _ _) hT (by decide) (fun x hx => by have hx : x ∈ [cId] := hx; simp at hx; subst hx; decide)
  rw [show jEi tId [] = 0 by kernel_rfl] at h
  exact h
theorem name_a1 (w : World) (hT : Tabs w) : Calls Tryd.prog 32 #[.string ⟨#[97, 95, 49]⟩] w (jFd true w) := by
  refine (jCi ⟨#[97, 95, 49]⟩ w (by decide) hT).mono ?_
  rintro e w' ⟨rfl, hb⟩
  exact ⟨by rw [show jEf ⟨#[97, 95, 49]⟩ = true by kernel_rfl], hb⟩
theorem place_id {g : Nat} (w : World) (hb : w.heap[g]? = some (.cells #[.string ⟨#[105, 100]⟩, .int .i64 1, .bool true, .bool false, .string ⟨#[]⟩, .int .i64 0] 59 (0, 0))) : Calls Tryd.prog 34 #[.agg #[.string ⟨#[97]⟩, .int .i64 0, .slice (some ⟨g, 0, none⟩) 1 1, .slice none 0 0], .string ⟨#[120]⟩] w (jFj (-1) w) := by
  have h := jCx tId (some ⟨g, 0, none⟩) 1 none 0 ⟨#[120]⟩ w (rowId w hb)
  rw [show jGg tId.f2 ⟨#[120]⟩ = -1 by kernel_rfl] at h
  exact h
set_option maxRecDepth 100000 in
theorem jEx (w : World) (hT : Tabs w) : Calls Tryd.prog 27 #[] w (jFd true w) := by
  have hb := jFh w (.cells #[.string ⟨#[105, 100]⟩, .int .i64 1, .bool true, .bool false, .string ⟨#[]⟩, .int .i64 0] 59) (.cells #[.string ⟨#[97]⟩, .int .i64 0, .slice (some ⟨w.heap.size, 0, none⟩) 1 1, .slice none 0 0] 45)
  have HK := jAa.mk (jAe (jCt w (.cells #[.string ⟨#[105, 100]⟩, .int .i64 1, .bool true, .bool false, .string ⟨#[]⟩, .int .i64 0] 59)) (.cells #[.string ⟨#[97]⟩, .int .i64 0, .slice (some ⟨w.heap.size, 0, none⟩) 1 1, .slice none 0 0] 45))
  have HK1 := jAa.mk (jDu w (.cells #[.string ⟨#[105, 100]⟩, .int .i64 1, .bool true, .bool false, .string ⟨#[]⟩, .int .i64 0] 59) (.cells #[.string ⟨#[97]⟩, .int .i64 0, .slice (some ⟨w.heap.size, 0, none⟩) 1 1, .slice none 0 0] 45))
  have HT := jAa.mk (hT.below hb)
  have HB := jAa.mk hb
  clear hb hT
  go_enter Tryd.func27, Tryd.ntmps27
  go_wp2_with (first
    | (go_at_call 34; refine (place_id _ HK4.out).mono ?_; rintro e w5 ⟨rfl, hb5⟩)
    | (go_at_call 32; refine (name_a1 _ HT3.out).mono ?_; rintro e w4 ⟨rfl, hb4⟩; have HK4 := jAa.mk (jAp HK3.out hb4); have HL4 := jAa.mk (jAp HL3.out hb4); have c0 := jAb HL4.out 0; have c1 := jAb HL4.out 1; have c2 := jAb HL4.out 2; have c3 := jAb HL4.out 3)
    | (go_at_call 36; refine (good_id _ HT2.out HK2.out).mono ?_; rintro e w3 ⟨rfl, hb3⟩; have HK3 := jAa.mk (jAp HK2.out hb3); have HL3 := jAa.mk (jAp HL2.out hb3); have HT3 := jAa.mk (HT2.out.below hb3))
    | (go_at_call 36; refine (good_no _ HT.out).mono ?_; rintro e w2 ⟨rfl, hb2⟩; have HK2 := jAa.mk (jAp HK.out hb2); have HL2 := jAa.mk (jAp HK1.out hb2); have HT2 := jAa.mk (HT.out.below hb2); have a0 := jAb HL2.out 0; have a1 := jAb HL2.out 1; have a2 := jAb HL2.out 2; have a3 := jAb HL2.out 3))
  go_ret
  exact ⟨rfl, jAu (jAu (jAu (jAu HB.out hb2) hb3) hb4) hb5⟩
end Go.Proofs.YtefdfgmlmjnmlaaDoor.My
end

section
set_option linter.unusedVariables false
set_option linter.unusedSimpArgs false
namespace Go.Proofs.YtefdfgmlmjnmlaaDoor.Rf
open Go.RowKit Go.Proofs.YtefdfgmlmjnmlaaDoorW.PrintWords Go.Proofs.YtefdfgmlmjnmlaaDoorW.PrintLast Go.Proofs.YtefdfgmlmjnmlaaDoorW.PrintMore
attribute [local go_sem] jCg jCo
theorem eqA27 (d : Nat) (w : World) (x0 y0 : Int) (x1 y1 : ByteArray) (x2 y2 : Int) :
    (Op.equalIn (d + 2) 27 (.agg #[.int .i64 x0, .string x1, .int .i64 x2]) (.agg #[.int .i64 y0, .string y1, .int .i64 y2])).run Tryd.prog w = .ok (x0 == y0 && (x1.toList == y1.toList && (x2 == y2))) w := by
  refine eqA_of Tryd.underlying27 (by kernel_rfl) ?_
  refine jDn (by rfl) (by go_simp; rfl) (by go_simp; rfl) (by go_simp) ?_
  refine jDn (by rfl) (by go_simp; rfl) (by go_simp; rfl) (by go_simp) ?_
  exact jGh (by rfl) (by go_simp; rfl) (by go_simp; rfl) (by go_simp)
end Go.Proofs.YtefdfgmlmjnmlaaDoor.Rf
end

section
set_option linter.unusedVariables false
set_option linter.unusedSimpArgs false
namespace Go.Proofs.YtefdfgmlmjnmlaaDoor.Rf
open Go.RowKit Go.Proofs.YtefdfgmlmjnmlaaDoorW.PrintWords Go.Proofs.YtefdfgmlmjnmlaaDoorW.PrintLast Go.Proofs.YtefdfgmlmjnmlaaDoorW.PrintMore
attribute [local go_sem] jCg jCo
theorem eqA59 (d : Nat) (w : World) (x0 y0 : ByteArray) (x1 y1 : Int) (x2 y2 : Bool) (x3 y3 : Bool) (x4 y4 : ByteArray) (x5 y5 : Int) :
    (Op.equalIn (d + 2) 59 (.agg #[.string x0, .int .i64 x1, .bool x2, .bool x3, .string x4, .int .i64 x5]) (.agg #[.string y0, .int .i64 y1, .bool y2, .bool y3, .string y4, .int .i64 y5])).run Tryd.prog w = .ok (x0.toList == y0.toList && (x1 == y1 && (x2 == y2 && (x3 == y3 && (x4.toList == y4.toList && (x5 == y5)))))) w := by
  refine eqA_of Tryd.underlying59 (by kernel_rfl) ?_
  refine jDn (by rfl) (by go_simp; rfl) (by go_simp; rfl) (by go_simp) ?_
  refine jDn (by rfl) (by go_simp; rfl) (by go_simp; rfl) (by go_simp) ?_
  refine jDn (by rfl) (by go_simp; rfl) (by go_simp; rfl) (by go_simp) ?_
  refine jDn (by rfl) (by go_simp; rfl) (by go_simp; rfl) (by go_simp) ?_
  refine jDn (by rfl) (by go_simp; rfl) (by go_simp; rfl) (by go_simp) ?_
  exact jGh (by rfl) (by go_simp; rfl) (by go_simp; rfl) (by go_simp)
end Go.Proofs.YtefdfgmlmjnmlaaDoor.Rf
end

section
set_option linter.unusedVariables false
set_option linter.unusedSimpArgs false
namespace Go.Proofs.YtefdfgmlmjnmlaaDoor.Rf
open Go.RowKit Go.Proofs.YtefdfgmlmjnmlaaDoorW.PrintWords Go.Proofs.YtefdfgmlmjnmlaaDoorW.PrintLast Go.Proofs.YtefdfgmlmjnmlaaDoorW.PrintMore
attribute [local go_sem] jCg jCo
theorem eqA70 (d : Nat) (w : World) (x0 y0 : Int) (x1 y1 : Int) (x2 y2 : ByteArray) :
    (Op.equalIn (d + 2) 70 (.agg #[.int .i64 x0, .int .i64 x1, .string x2]) (.agg #[.int .i64 y0, .int .i64 y1, .string y2])).run Tryd.prog w = .ok (x0 == y0 && (x1 == y1 && (x2.toList == y2.toList))) w := by
  refine eqA_of Tryd.underlying70 (by kernel_rfl) ?_
  refine jDn (by rfl) (by go_simp; rfl) (by go_simp; rfl) (by go_simp) ?_
  refine jDn (by rfl) (by go_simp; rfl) (by go_simp; rfl) (by go_simp) ?_
  exact jGh (by rfl) (by go_simp; rfl) (by go_simp; rfl) (by go_simp)
end Go.Proofs.YtefdfgmlmjnmlaaDoor.Rf
end

section
namespace Go.Proofs.YtefdfgmlmjnmlaaDoor.Rf
open Go.RowKit Go.Proofs.YtefdfgmlmjnmlaaDoorW.PrintWords Go.Proofs.YtefdfgmlmjnmlaaDoorW.PrintLast Go.Proofs.YtefdfgmlmjnmlaaDoorW.PrintMore
def jCb.f (a0_0 : Int) (a0_1 : Int) (a0_2 : ByteArray) : Option (Bool) := some (My.goodV ⟨a0_0, a0_1, a0_2⟩)
theorem jCb.calls (a0_0 : Int) (a0_1 : Int) (a0_2 : ByteArray) (r : Bool) (w : World) (h : jCb.f a0_0 a0_1 a0_2 = some r) :
  Calls Tryd.prog 98 #[.agg #[.int .i64 a0_0, .int .i64 a0_1, .string a0_2]] w fun e w' => e = .returned (.bool r) ∧ Below w.heap.size w w' := by
 obtain rfl := Option.some.inj h
 exact My.valR_calls ⟨a0_0, a0_1, a0_2⟩ w
end Go.Proofs.YtefdfgmlmjnmlaaDoor.Rf
end

section
set_option linter.unusedVariables false
set_option linter.unusedSimpArgs false
namespace Go.Proofs.YtefdfgmlmjnmlaaDoor.Rf
open Go.RowKit Go.Proofs.YtefdfgmlmjnmlaaDoorW.PrintWords Go.Proofs.YtefdfgmlmjnmlaaDoorW.PrintLast Go.Proofs.YtefdfgmlmjnmlaaDoorW.PrintMore
attribute [local go_sem] jCg jCo
mutual
def jAx.j0 : Nat → Int → Bool → Int → Int → Int → Int → ByteArray → List (S72) → Option (Bool)
 | 0, _, _, _, _, _, _, _, _ => none
 | k + 1, x1, x26, x367000, x367001, x367002, x367003, x367004, x367005 => if x26 = true then (some false) else (jAx.l0 k x1 x367005 (x367005.length : Int) 0)
def jAx.l0 : Nat → Int → List (S72) → Int → Int → Option (Bool)
 | 0, _, _, _, _ => none
 | k + 1, x1, x28, x29, x30 => if x30 < x29 then (if 0 ≤ x30 then (if x30 < (x28.length : Int) then ((jAx.f k ((jAq x28 x30).f0) ((jAq x28 x30).f1) ((jAq x28 x30).f2.f0) ((jAq x28 x30).f2.f1) ((jAq x28 x30).f2.f2) ((jAq x28 x30).f3) (wrap64 (x1 - 1))).bind fun t370 => (if t370 = true then (jAx.l0 k x1 x28 x29 (wrap64 (x30 + 1))) else (some false))) else (none)) else (none)) else (some true)
def jAx.f : Nat → Int → Int → Int → Int → ByteArray → List (S72) → Int → Option (Bool)
 | 0, _, _, _, _, _, _, _ => none
 | k + 1, a0_0, a0_1, a0_2, a0_3, a0_4, l0_5, a1 => (jCb.f a0_2 a0_3 a0_4).bind fun t367 => (if t367 = true then (if (l0_5.length : Int) > 2 then (jAx.j0 k a1 true a0_0 a0_1 a0_2 a0_3 a0_4 l0_5) else (if a1 = 0 then (jAx.j0 k a1 (decide ((l0_5.length : Int) > 0)) a0_0 a0_1 a0_2 a0_3 a0_4 l0_5) else (jAx.j0 k a1 false a0_0 a0_1 a0_2 a0_3 a0_4 l0_5))) else (jAx.j0 k a1 true a0_0 a0_1 a0_2 a0_3 a0_4 l0_5))
end
set_option maxHeartbeats 8000000 in
set_option maxRecDepth 100000 in
theorem jAx.calls (k : Nat) : ∀ (a0_0 : Int) (a0_1 : Int) (a0_2 : Int) (a0_3 : Int) (a0_4 : ByteArray) (A0_5 : Option Addr) (c0_5 : Nat) (l0_5 : List (S72)) (a1 : Int) (r : Bool) (w : World) (hr0_5 : Kd.C k72 w A0_5 l0_5.length l0_5) (hc0_5 : l0_5.length ≤ c0_5) (h : jAx.f k a0_0 a0_1 a0_2 a0_3 a0_4 l0_5 a1 = some r),
  Calls Tryd.prog 70 #[.agg #[.int .i64 a0_0, .int .i64 a0_1, .int .i64 a0_2, .int .i64 a0_3, .string a0_4, .slice A0_5 l0_5.length c0_5], .int .i64 a1] w fun e w' => e = .returned (.bool r) ∧ Below w.heap.size w w' := by
 induction k using Nat.strongRecOn with
 | _ k ih =>
 intro a0_0 a0_1 a0_2 a0_3 a0_4 A0_5 c0_5 l0_5 a1 r w hr0_5 hc0_5 h
 cases k with
 | zero => exact absurd h (by simp [jAx.f])
 | succ k =>
 simp only [jAx.f] at h
 have hu72 := Tryd.underlying72
 have hu70 := Tryd.underlying70
 have HR0_5 := jAa.mk hr0_5
 have HC0_5 := jAa.mk hc0_5
 clear hr0_5 hc0_5
 have HB := jAa.mk (Below.refl w.heap.size w)
 have H : ((jCb.f a0_2 a0_3 a0_4).bind fun t367 => (if t367 = true then (if (l0_5.length : Int) > 2 then (jAx.j0 k a1 true a0_0 a0_1 a0_2 a0_3 a0_4 l0_5) else (if a1 = 0 then (jAx.j0 k a1 (decide ((l0_5.length : Int) > 0)) a0_0 a0_1 a0_2 a0_3 a0_4 l0_5) else (jAx.j0 k a1 false a0_0 a0_1 a0_2 a0_3 a0_4 l0_5))) else (jAx.j0 k a1 true a0_0 a0_1 a0_2 a0_3 a0_4 l0_5))) = some r := h
 clear h
 have HC3 := jAa.mk H
 clear H
 go_enter Tryd.func70, Tryd.ntmps70
 go_upto_region 1 with (first | ((with_reducible refine jCa (N := 2) rfl ?_); (try (refine jDr (by rfl) ?_; dsimp only)); refine jBv ?hg (N := 2) ?hd (cs := #[.int .i64 a0_0, .int .i64 a0_1, .int .i64 a0_2, .int .i64 a0_3, .string a0_4, .slice A0_5 l0_5.length c0_5]) (t := 72) ?hr ?_; (case hd => rfl); (case hg => rfl); (case hr => first | (go_simp; done) | (go_simp; rfl)); intro gb366 hg w4 hbox hb; have n0_ := jAa.mk (jAu (by repeat (first | (with_reducible first | exact HB.out | apply jAj | apply jAd | apply jAk) | exact HB.out)) hb); have n1_ := jAa.mk (hbox); have n2_ := jAa.mk ((by rw [hg]; exact (jBj (by repeat (first | (with_reducible first | exact HB.out | apply jAj | apply jAd | apply jAk) | exact HB.out))) : w.heap.size ≤ gb366)); have n3_ := jAa.mk ((by rw [hg]; exact (jBj (by repeat (first | (with_reducible first | exact HB.out | apply jAj | apply jAd | apply jAk) | exact HB.out))) : w.heap.size ≤ gb366)); clear HB; have HB := n0_; have BK366 := n1_; have GW366 := n2_; have GE366 := n3_; clear n0_ n1_ n2_ n3_; clear hb hbox hg))
 (try simp only [Act.put, List.setIfInBounds_toArray, List.set_cons_zero, List.set_cons_succ])
 go_cut [26] (fun v26 wc => ∃ (kq : Nat) (x26_2 : Bool), v26 = .bool x26_2 ∧ jAa (jAx.j0 kq a1 x26_2 a0_0 a0_1 a0_2 a0_3 a0_4 l0_5 = some r) ∧ jAa (kq ≤ k) ∧ jAa (wc.heap[gb366]? = some (.cells #[.int .i64 a0_0, .int .i64 a0_1, .int .i64 a0_2, .int .i64 a0_3, .string a0_4, (.slice A0_5 l0_5.length c0_5)] 72 (0, 0))) ∧ jAa (Below w.heap.size w wc))
 case first =>
  have H := HC3.out
  clear HC3
  replace H := Option.bind_eq_some_iff.mp H
  obtain ⟨t367, A50, H⟩ := H
  replace H : (if t367 = true then (if (l0_5.length : Int) > 2 then (jAx.j0 k a1 true a0_0 a0_1 a0_2 a0_3 a0_4 l0_5) else (if a1 = 0 then (jAx.j0 k a1 (decide ((l0_5.length : Int) > 0)) a0_0 a0_1 a0_2 a0_3 a0_4 l0_5) else (jAx.j0 k a1 false a0_0 a0_1 a0_2 a0_3 a0_4 l0_5))) else (jAx.j0 k a1 true a0_0 a0_1 a0_2 a0_3 a0_4 l0_5)) = some r := H
  have A5 := jAa.mk A50
  clear A50
  by_cases c6 : t367 = true
  ·subst c6
   have H1 : (if (l0_5.length : Int) > 2 then (jAx.j0 k a1 true a0_0 a0_1 a0_2 a0_3 a0_4 l0_5) else (if a1 = 0 then (jAx.j0 k a1 (decide ((l0_5.length : Int) > 0)) a0_0 a0_1 a0_2 a0_3 a0_4 l0_5) else (jAx.j0 k a1 false a0_0 a0_1 a0_2 a0_3 a0_4 l0_5))) = some r := by rw [if_pos rfl] at H; exact H
   clear H
   have H := H1
   clear H1
   by_cases c7 : (l0_5.length : Int) > 2
   ·rw [if_pos c7] at H
    have c7b0 : decide (2 < (l0_5.length : Int)) = true := decide_eq_true c7
    have c7b1 : decide (2 < l0_5.length) = true := decide_eq_true (by omega)
    clear c7
    (first | rw [c7b0] | (simp only [i64_w, i32_w]; rw [c7b0]) | skip)
    have H' := jAa.mk H
    clear H
    have hcz8_0 : w4.cell? ⟨gb366, 0, none⟩ = some (.int .i64 a0_0) := (jAb BK366.out 0).trans rfl
    have hcz8_1 : w4.cell? ⟨gb366, 1, none⟩ = some (.int .i64 a0_1) := (jAb BK366.out 1).trans rfl
    have hcz8_2 : w4.cell? ⟨gb366, 2, none⟩ = some (.int .i64 a0_2) := (jAb BK366.out 2).trans rfl
    have hcz8_3 : w4.cell? ⟨gb366, 3, none⟩ = some (.int .i64 a0_3) := (jAb BK366.out 3).trans rfl
    have hcz8_4 : w4.cell? ⟨gb366, 4, none⟩ = some (.string a0_4) := (jAb BK366.out 4).trans rfl
    have hcz8_5 : w4.cell? ⟨gb366, 5, none⟩ = some (.slice A0_5 l0_5.length c0_5) := (jAb BK366.out 5).trans rfl
    have hfz8_0 := jAg BK366.out 0
    have hfz8_1 := jAg BK366.out 1
    have hfz8_2 := jAg BK366.out 2
    have hfz8_3 := jAg BK366.out 3
    have hfz8_4 := jAg BK366.out 4
    have hfz8_5 := jAg BK366.out 5
    go_wp2_with (first | ((with_reducible refine jBl (f := 98) rfl ?_); refine jCe (some 9) rfl rfl Tryd.func98 (by kernel_rfl) rfl #[.agg #[.int .i64 a0_2, .int .i64 a0_3, .string a0_4]] rfl (by (try simp only [List.map_toArray, List.map_cons, List.map_nil]); first | done | rfl | (simp only [List.length_drop, List.length_take]; rfl)) ?_; (with_reducible refine (jCb.calls a0_2 a0_3 a0_4 true _ A5.out).mono ?_); rintro e w9 ⟨rfl, hb⟩; refine ⟨_, rfl, ?_⟩; have n0_ := jAa.mk (jAp (g := gb366) (o := .cells #[.int .i64 a0_0, .int .i64 a0_1, .int .i64 a0_2, .int .i64 a0_3, .string a0_4, .slice A0_5 l0_5.length c0_5] 72 (0, 0)) (by (with_reducible repeat (first | refine jAf ?_ _ | refine jAi ?_ | refine jAe ?_ _)); exact BK366.out) hb); have n1_ := jAa.mk (jAu (by repeat (first | (with_reducible first | exact HB.out | apply jAj | apply jAd | apply jAk | refine jAh ?_ GE366.out) | exact HB.out)) hb); clear BK366; clear HB; have BK366 := n0_; have HB := n1_; clear n0_ n1_; (try clear hb); (try clear hb2); (try clear hk); (try clear hi); have hcz10_0 : w9.cell? ⟨gb366, 0, none⟩ = some (.int .i64 a0_0) := (jAb BK366.out 0).trans rfl; have hcz10_1 : w9.cell? ⟨gb366, 1, none⟩ = some (.int .i64 a0_1) := (jAb BK366.out 1).trans rfl; have hcz10_2 : w9.cell? ⟨gb366, 2, none⟩ = some (.int .i64 a0_2) := (jAb BK366.out 2).trans rfl; have hcz10_3 : w9.cell? ⟨gb366, 3, none⟩ = some (.int .i64 a0_3) := (jAb BK366.out 3).trans rfl; have hcz10_4 : w9.cell? ⟨gb366, 4, none⟩ = some (.string a0_4) := (jAb BK366.out 4).trans rfl; have hcz10_5 : w9.cell? ⟨gb366, 5, none⟩ = some (.slice A0_5 l0_5.length c0_5) := (jAb BK366.out 5).trans rfl; have hfz10_0 := jAg BK366.out 0; have hfz10_1 := jAg BK366.out 1; have hfz10_2 := jAg BK366.out 2; have hfz10_3 := jAg BK366.out 3; have hfz10_4 := jAg BK366.out 4; have hfz10_5 := jAg BK366.out 5))
    go_meet
    case rel => exact ⟨_, (true), (by first | rfl | (simp; done) | (simp [*]; done)), H', ⟨by first | omega | exact Nat.le_refl _⟩, ⟨by (with_reducible repeat (first | refine jAf ?_ _ | refine jAi ?_ | refine jAe ?_ _)); exact BK366.out⟩, ⟨by repeat (first | (with_reducible first | exact HB.out | apply jAj | apply jAd | apply jAk | refine jAh ?_ GE366.out) | exact HB.out)⟩⟩
   ·rw [if_neg c7] at H
    have c7b0 : decide (2 < (l0_5.length : Int)) = false := decide_eq_false c7
    have c7b1 : decide (2 < l0_5.length) = false := decide_eq_false (by omega)
    clear c7
    (first | rw [c7b0] | (simp only [i64_w, i32_w]; rw [c7b0]) | skip)
    by_cases c11 : a1 = 0
    ·rw [if_pos c11] at H
     have c11b0 : (a1 == 0) = true := beq_iff_eq.mpr c11
     have c11b1 : (a1 != 0) = false := bne_eq_false_iff_eq.mpr c11
     clear c11
     have H' := jAa.mk H
     clear H
     have hcz12_0 : w4.cell? ⟨gb366, 0, none⟩ = some (.int .i64 a0_0) := (jAb BK366.out 0).trans rfl
     have hcz12_1 : w4.cell? ⟨gb366, 1, none⟩ = some (.int .i64 a0_1) := (jAb BK366.out 1).trans rfl
     have hcz12_2 : w4.cell? ⟨gb366, 2, none⟩ = some (.int .i64 a0_2) := (jAb BK366.out 2).trans rfl
     have hcz12_3 : w4.cell? ⟨gb366, 3, none⟩ = some (.int .i64 a0_3) := (jAb BK366.out 3).trans rfl
     have hcz12_4 : w4.cell? ⟨gb366, 4, none⟩ = some (.string a0_4) := (jAb BK366.out 4).trans rfl
     have hcz12_5 : w4.cell? ⟨gb366, 5, none⟩ = some (.slice A0_5 l0_5.length c0_5) := (jAb BK366.out 5).trans rfl
     have hfz12_0 := jAg BK366.out 0
     have hfz12_1 := jAg BK366.out 1
     have hfz12_2 := jAg BK366.out 2
     have hfz12_3 := jAg BK366.out 3
     have hfz12_4 := jAg BK366.out 4
     have hfz12_5 := jAg BK366.out 5
     go_wp2_with (first | ((with_reducible refine jBl (f := 98) rfl ?_); refine jCe (some 9) rfl rfl Tryd.func98 (by kernel_rfl) rfl #[.agg #[.int .i64 a0_2, .int .i64 a0_3, .string a0_4]] rfl (by (try simp only [List.map_toArray, List.map_cons, List.map_nil]); first | done | rfl | (simp only [List.length_drop, List.length_take]; rfl)) ?_; (with_reducible refine (jCb.calls a0_2 a0_3 a0_4 true _ A5.out).mono ?_); rintro e w13 ⟨rfl, hb⟩; refine ⟨_, rfl, ?_⟩; have n0_ := jAa.mk (jAp (g := gb366) (o := .cells #[.int .i64 a0_0, .int .i64 a0_1, .int .i64 a0_2, .int .i64 a0_3, .string a0_4, .slice A0_5 l0_5.length c0_5] 72 (0, 0)) (by (with_reducible repeat (first | refine jAf ?_ _ | refine jAi ?_ | refine jAe ?_ _)); exact BK366.out) hb); have n1_ := jAa.mk (jAu (by repeat (first | (with_reducible first | exact HB.out | apply jAj | apply jAd | apply jAk | refine jAh ?_ GE366.out) | exact HB.out)) hb); clear BK366; clear HB; have BK366 := n0_; have HB := n1_; clear n0_ n1_; (try clear hb); (try clear hb2); (try clear hk); (try clear hi); have hcz14_0 : w13.cell? ⟨gb366, 0, none⟩ = some (.int .i64 a0_0) := (jAb BK366.out 0).trans rfl; have hcz14_1 : w13.cell? ⟨gb366, 1, none⟩ = some (.int .i64 a0_1) := (jAb BK366.out 1).trans rfl; have hcz14_2 : w13.cell? ⟨gb366, 2, none⟩ = some (.int .i64 a0_2) := (jAb BK366.out 2).trans rfl; have hcz14_3 : w13.cell? ⟨gb366, 3, none⟩ = some (.int .i64 a0_3) := (jAb BK366.out 3).trans rfl; have hcz14_4 : w13.cell? ⟨gb366, 4, none⟩ = some (.string a0_4) := (jAb BK366.out 4).trans rfl; have hcz14_5 : w13.cell? ⟨gb366, 5, none⟩ = some (.slice A0_5 l0_5.length c0_5) := (jAb BK366.out 5).trans rfl; have hfz14_0 := jAg BK366.out 0; have hfz14_1 := jAg BK366.out 1; have hfz14_2 := jAg BK366.out 2; have hfz14_3 := jAg BK366.out 3; have hfz14_4 := jAg BK366.out 4; have hfz14_5 := jAg BK366.out 5))
     go_meet
     case rel => exact ⟨_, (decide ((l0_5.length : Int) > 0)), (by first | rfl | (simp; done) | (simp [*]; done)), H', ⟨by first | omega | exact Nat.le_refl _⟩, ⟨by (with_reducible repeat (first | refine jAf ?_ _ | refine jAi ?_ | refine jAe ?_ _)); exact BK366.out⟩, ⟨by repeat (first | (with_reducible first | exact HB.out | apply jAj | apply jAd | apply jAk | refine jAh ?_ GE366.out) | exact HB.out)⟩⟩
    ·rw [if_neg c11] at H
     have c11b0 : (a1 == 0) = false := beq_eq_false_iff_ne.mpr c11
     have c11b1 : (a1 != 0) = true := bne_iff_ne.mpr c11
     have H' := jAa.mk H
     clear H
     have hcz15_0 : w4.cell? ⟨gb366, 0, none⟩ = some (.int .i64 a0_0) := (jAb BK366.out 0).trans rfl
     have hcz15_1 : w4.cell? ⟨gb366, 1, none⟩ = some (.int .i64 a0_1) := (jAb BK366.out 1).trans rfl
     have hcz15_2 : w4.cell? ⟨gb366, 2, none⟩ = some (.int .i64 a0_2) := (jAb BK366.out 2).trans rfl
     have hcz15_3 : w4.cell? ⟨gb366, 3, none⟩ = some (.int .i64 a0_3) := (jAb BK366.out 3).trans rfl
     have hcz15_4 : w4.cell? ⟨gb366, 4, none⟩ = some (.string a0_4) := (jAb BK366.out 4).trans rfl
     have hcz15_5 : w4.cell? ⟨gb366, 5, none⟩ = some (.slice A0_5 l0_5.length c0_5) := (jAb BK366.out 5).trans rfl
     have hfz15_0 := jAg BK366.out 0
     have hfz15_1 := jAg BK366.out 1
     have hfz15_2 := jAg BK366.out 2
     have hfz15_3 := jAg BK366.out 3
     have hfz15_4 := jAg BK366.out 4
     have hfz15_5 := jAg BK366.out 5
     go_wp2_with (first | ((with_reducible refine jBl (f := 98) rfl ?_); refine jCe (some 9) rfl rfl Tryd.func98 (by kernel_rfl) rfl #[.agg #[.int .i64 a0_2, .int .i64 a0_3, .string a0_4]] rfl (by (try simp only [List.map_toArray, List.map_cons, List.map_nil]); first | done | rfl | (simp only [List.length_drop, List.length_take]; rfl)) ?_; (with_reducible refine (jCb.calls a0_2 a0_3 a0_4 true _ A5.out).mono ?_); rintro e w16 ⟨rfl, hb⟩; refine ⟨_, rfl, ?_⟩; have n0_ := jAa.mk (jAp (g := gb366) (o := .cells #[.int .i64 a0_0, .int .i64 a0_1, .int .i64 a0_2, .int .i64 a0_3, .string a0_4, .slice A0_5 l0_5.length c0_5] 72 (0, 0)) (by (with_reducible repeat (first | refine jAf ?_ _ | refine jAi ?_ | refine jAe ?_ _)); exact BK366.out) hb); have n1_ := jAa.mk (jAu (by repeat (first | (with_reducible first | exact HB.out | apply jAj | apply jAd | apply jAk | refine jAh ?_ GE366.out) | exact HB.out)) hb); clear BK366; clear HB; have BK366 := n0_; have HB := n1_; clear n0_ n1_; (try clear hb); (try clear hb2); (try clear hk); (try clear hi); have hcz17_0 : w16.cell? ⟨gb366, 0, none⟩ = some (.int .i64 a0_0) := (jAb BK366.out 0).trans rfl; have hcz17_1 : w16.cell? ⟨gb366, 1, none⟩ = some (.int .i64 a0_1) := (jAb BK366.out 1).trans rfl; have hcz17_2 : w16.cell? ⟨gb366, 2, none⟩ = some (.int .i64 a0_2) := (jAb BK366.out 2).trans rfl; have hcz17_3 : w16.cell? ⟨gb366, 3, none⟩ = some (.int .i64 a0_3) := (jAb BK366.out 3).trans rfl; have hcz17_4 : w16.cell? ⟨gb366, 4, none⟩ = some (.string a0_4) := (jAb BK366.out 4).trans rfl; have hcz17_5 : w16.cell? ⟨gb366, 5, none⟩ = some (.slice A0_5 l0_5.length c0_5) := (jAb BK366.out 5).trans rfl; have hfz17_0 := jAg BK366.out 0; have hfz17_1 := jAg BK366.out 1; have hfz17_2 := jAg BK366.out 2; have hfz17_3 := jAg BK366.out 3; have hfz17_4 := jAg BK366.out 4; have hfz17_5 := jAg BK366.out 5))
     go_meet
     case rel => exact ⟨_, (false), (by first | rfl | (simp; done) | (simp [*]; done)), H', ⟨by first | omega | exact Nat.le_refl _⟩, ⟨by (with_reducible repeat (first | refine jAf ?_ _ | refine jAi ?_ | refine jAe ?_ _)); exact BK366.out⟩, ⟨by repeat (first | (with_reducible first | exact HB.out | apply jAj | apply jAd | apply jAk | refine jAh ?_ GE366.out) | exact HB.out)⟩⟩
  ·replace c6 := Bool.eq_false_iff.mpr c6
   subst c6
   have H1 : (jAx.j0 k a1 true a0_0 a0_1 a0_2 a0_3 a0_4 l0_5) = some r := by rw [if_neg (show ¬ (false = true) by decide)] at H; exact H
   clear H
   have H := H1
   clear H1
   have H' := jAa.mk H
   clear H
   have hcz18_0 : w4.cell? ⟨gb366, 0, none⟩ = some (.int .i64 a0_0) := (jAb BK366.out 0).trans rfl
   have hcz18_1 : w4.cell? ⟨gb366, 1, none⟩ = some (.int .i64 a0_1) := (jAb BK366.out 1).trans rfl
   have hcz18_2 : w4.cell? ⟨gb366, 2, none⟩ = some (.int .i64 a0_2) := (jAb BK366.out 2).trans rfl
   have hcz18_3 : w4.cell? ⟨gb366, 3, none⟩ = some (.int .i64 a0_3) := (jAb BK366.out 3).trans rfl
   have hcz18_4 : w4.cell? ⟨gb366, 4, none⟩ = some (.string a0_4) := (jAb BK366.out 4).trans rfl
   have hcz18_5 : w4.cell? ⟨gb366, 5, none⟩ = some (.slice A0_5 l0_5.length c0_5) := (jAb BK366.out 5).trans rfl
   have hfz18_0 := jAg BK366.out 0
   have hfz18_1 := jAg BK366.out 1
   have hfz18_2 := jAg BK366.out 2
   have hfz18_3 := jAg BK366.out 3
   have hfz18_4 := jAg BK366.out 4
   have hfz18_5 := jAg BK366.out 5
   go_wp2_with (first | ((with_reducible refine jBl (f := 98) rfl ?_); refine jCe (some 9) rfl rfl Tryd.func98 (by kernel_rfl) rfl #[.agg #[.int .i64 a0_2, .int .i64 a0_3, .string a0_4]] rfl (by (try simp only [List.map_toArray, List.map_cons, List.map_nil]); first | done | rfl | (simp only [List.length_drop, List.length_take]; rfl)) ?_; (with_reducible refine (jCb.calls a0_2 a0_3 a0_4 false _ A5.out).mono ?_); rintro e w19 ⟨rfl, hb⟩; refine ⟨_, rfl, ?_⟩; have n0_ := jAa.mk (jAp (g := gb366) (o := .cells #[.int .i64 a0_0, .int .i64 a0_1, .int .i64 a0_2, .int .i64 a0_3, .string a0_4, .slice A0_5 l0_5.length c0_5] 72 (0, 0)) (by (with_reducible repeat (first | refine jAf ?_ _ | refine jAi ?_ | refine jAe ?_ _)); exact BK366.out) hb); have n1_ := jAa.mk (jAu (by repeat (first | (with_reducible first | exact HB.out | apply jAj | apply jAd | apply jAk | refine jAh ?_ GE366.out) | exact HB.out)) hb); clear BK366; clear HB; have BK366 := n0_; have HB := n1_; clear n0_ n1_; (try clear hb); (try clear hb2); (try clear hk); (try clear hi)))
   go_meet
   case rel => exact ⟨_, (true), (by first | rfl | (simp; done) | (simp [*]; done)), H', ⟨by first | omega | exact Nat.le_refl _⟩, ⟨by (with_reducible repeat (first | refine jAf ?_ _ | refine jAi ?_ | refine jAe ?_ _)); exact BK366.out⟩, ⟨by repeat (first | (with_reducible first | exact HB.out | apply jAj | apply jAd | apply jAk | refine jAh ?_ GE366.out) | exact HB.out)⟩⟩
 case rest =>
  clear HC3
  try clear c1
  try clear p2
  try clear c6
  try clear c7
  try clear c7b0
  try clear c7b1
  try clear c9
  try clear c11
  try clear c11b0
  try clear c11b1
  try clear hcz10_0
  try clear hcz10_1
  try clear hcz10_2
  try clear hcz10_3
  try clear hcz10_4
  try clear hcz10_5
  try clear hcz12_0
  try clear hcz12_1
  try clear hcz12_2
  try clear hcz12_3
  try clear hcz12_4
  try clear hcz12_5
  try clear hcz14_0
  try clear hcz14_1
  try clear hcz14_2
  try clear hcz14_3
  try clear hcz14_4
  try clear hcz14_5
  try clear hcz15_0
  try clear hcz15_1
  try clear hcz15_2
  try clear hcz15_3
  try clear hcz15_4
  try clear hcz15_5
  try clear hcz17_0
  try clear hcz17_1
  try clear hcz17_2
  try clear hcz17_3
  try clear hcz17_4
  try clear hcz17_5
  try clear hcz18_0
  try clear hcz18_1
  try clear hcz18_2
  try clear hcz18_3
  try clear hcz18_4
  try clear hcz18_5
  try clear hcz8_0
  try clear hcz8_1
  try clear hcz8_2
  try clear hcz8_3
  try clear hcz8_4
  try clear hcz8_5
  try clear hfz10_0
  try clear hfz10_1
  try clear hfz10_2
  try clear hfz10_3
  try clear hfz10_4
  try clear hfz10_5
  try clear hfz12_0
  try clear hfz12_1
  try clear hfz12_2
  try clear hfz12_3
  try clear hfz12_4
  try clear hfz12_5
  try clear hfz14_0
  try clear hfz14_1
  try clear hfz14_2
  try clear hfz14_3
  try clear hfz14_4
  try clear hfz14_5
  try clear hfz15_0
  try clear hfz15_1
  try clear hfz15_2
  try clear hfz15_3
  try clear hfz15_4
  try clear hfz15_5
  try clear hfz17_0
  try clear hfz17_1
  try clear hfz17_2
  try clear hfz17_3
  try clear hfz17_4
  try clear hfz17_5
  try clear hfz18_0
  try clear hfz18_1
  try clear hfz18_2
  try clear hfz18_3
  try clear hfz18_4
  try clear hfz18_5
  try clear hfz8_0
  try clear hfz8_1
  try clear hfz8_2
  try clear hfz8_3
  try clear hfz8_4
  try clear hfz8_5
  obtain ⟨kq, x26_2, rfl, HA, HJ2, BK366, HB⟩ := hcut
  cases kq with
  | zero => exact absurd HA.out (by simp [jAx.j0])
  | succ kj2 =>
   have H := HA.out
   clear HA
   simp only [jAx.j0] at H
   by_cases c20 : x26_2 = true
   ·subst c20
    have H1 : (some false) = some r := by rw [if_pos rfl] at H; exact H
    clear H
    have H := H1
    clear H1
    obtain rfl := Option.some.inj H
    go_wp2
    go_ret
    exact ⟨by first | rfl | (simp [jBd, jBe] <;> rfl) | (simp [*, jBd, jBe] <;> rfl), by repeat (first | (with_reducible first | exact HB.out | apply jAj | apply jAd | apply jAk | refine jAh ?_ GE366.out) | exact HB.out)⟩
   ·replace c20 := Bool.eq_false_iff.mpr c20
    subst c20
    have H1 : (jAx.l0 kj2 a1 l0_5 (l0_5.length : Int) 0) = some r := by rw [if_neg (show ¬ (false = true) by decide)] at H; exact H
    clear H
    have H := H1
    clear H1
    have H' := jAa.mk H
    clear H
    have hcz21_0 : wc.cell? ⟨gb366, 0, none⟩ = some (.int .i64 a0_0) := (jAb BK366.out 0).trans rfl
    have hcz21_1 : wc.cell? ⟨gb366, 1, none⟩ = some (.int .i64 a0_1) := (jAb BK366.out 1).trans rfl
    have hcz21_2 : wc.cell? ⟨gb366, 2, none⟩ = some (.int .i64 a0_2) := (jAb BK366.out 2).trans rfl
    have hcz21_3 : wc.cell? ⟨gb366, 3, none⟩ = some (.int .i64 a0_3) := (jAb BK366.out 3).trans rfl
    have hcz21_4 : wc.cell? ⟨gb366, 4, none⟩ = some (.string a0_4) := (jAb BK366.out 4).trans rfl
    have hcz21_5 : wc.cell? ⟨gb366, 5, none⟩ = some (.slice A0_5 l0_5.length c0_5) := (jAb BK366.out 5).trans rfl
    have hfz21_0 := jAg BK366.out 0
    have hfz21_1 := jAg BK366.out 1
    have hfz21_2 := jAg BK366.out 2
    have hfz21_3 := jAg BK366.out 3
    have hfz21_4 := jAg BK366.out 4
    have hfz21_5 := jAg BK366.out 5
    go_wp2
    go_loopg [30] kj2 (fun kq v30 w' => ∃ (x30_2 : Int), v30 = .int .i64 x30_2 ∧ jAa (jAx.l0 kq a1 l0_5 (l0_5.length : Int) x30_2 = some r) ∧ jAa (kq ≤ kj2) ∧ jAa (w'.heap[gb366]? = some (.cells #[.int .i64 a0_0, .int .i64 a0_1, .int .i64 a0_2, .int .i64 a0_3, .string a0_4, (.slice A0_5 l0_5.length c0_5)] 72 (0, 0))) ∧ jAa (Below w.heap.size w w'))
    case atStart => exact ⟨(0), (by first | rfl | (simp; done) | (simp [*]; done)), H', ⟨Nat.le_refl _⟩, ⟨by (with_reducible repeat (first | refine jAf ?_ _ | refine jAi ?_ | refine jAe ?_ _)); exact BK366.out⟩, ⟨by repeat (first | (with_reducible first | exact HB.out | apply jAj | apply jAd | apply jAk | refine jAh ?_ GE366.out) | exact HB.out)⟩⟩
    case round =>
     clear H'
     try clear c1
     try clear c2
     try clear p2
     try clear c6
     try clear c7
     try clear c7b0
     try clear c7b1
     try clear c9
     try clear c11
     try clear c11b0
     try clear c11b1
     try clear c20
     try clear hcz10_0
     try clear hcz10_1
     try clear hcz10_2
     try clear hcz10_3
     try clear hcz10_4
     try clear hcz10_5
     try clear hcz12_0
     try clear hcz12_1
     try clear hcz12_2
     try clear hcz12_3
     try clear hcz12_4
     try clear hcz12_5
     try clear hcz14_0
     try clear hcz14_1
     try clear hcz14_2
     try clear hcz14_3
     try clear hcz14_4
     try clear hcz14_5
     try clear hcz15_0
     try clear hcz15_1
     try clear hcz15_2
     try clear hcz15_3
     try clear hcz15_4
     try clear hcz15_5
     try clear hcz17_0
     try clear hcz17_1
     try clear hcz17_2
     try clear hcz17_3
     try clear hcz17_4
     try clear hcz17_5
     try clear hcz18_0
     try clear hcz18_1
     try clear hcz18_2
     try clear hcz18_3
     try clear hcz18_4
     try clear hcz18_5
     try clear hcz21_0
     try clear hcz21_1
     try clear hcz21_2
     try clear hcz21_3
     try clear hcz21_4
     try clear hcz21_5
     try clear hcz8_0
     try clear hcz8_1
     try clear hcz8_2
     try clear hcz8_3
     try clear hcz8_4
     try clear hcz8_5
     try clear hfz10_0
     try clear hfz10_1
     try clear hfz10_2
     try clear hfz10_3
     try clear hfz10_4
     try clear hfz10_5
     try clear hfz12_0
     try clear hfz12_1
     try clear hfz12_2
     try clear hfz12_3
     try clear hfz12_4
     try clear hfz12_5
     try clear hfz14_0
     try clear hfz14_1
     try clear hfz14_2
     try clear hfz14_3
     try clear hfz14_4
     try clear hfz14_5
     try clear hfz15_0
     try clear hfz15_1
     try clear hfz15_2
     try clear hfz15_3
     try clear hfz15_4
     try clear hfz15_5
     try clear hfz17_0
     try clear hfz17_1
     try clear hfz17_2
     try clear hfz17_3
     try clear hfz17_4
     try clear hfz17_5
     try clear hfz18_0
     try clear hfz18_1
     try clear hfz18_2
     try clear hfz18_3
     try clear hfz18_4
     try clear hfz18_5
     try clear hfz21_0
     try clear hfz21_1
     try clear hfz21_2
     try clear hfz21_3
     try clear hfz21_4
     try clear hfz21_5
     try clear hfz8_0
     try clear hfz8_1
     try clear hfz8_2
     try clear hfz8_3
     try clear hfz8_4
     try clear hfz8_5
     try clear p2
     obtain ⟨x30_2, rfl, HA, HK2, BK366, HB⟩ := hrel
     cases gk with
     | zero => exact absurd HA.out (by simp [jAx.l0])
     | succ k2 =>
      have H := HA.out
      clear HA
      simp only [jAx.l0] at H
      by_cases c22 : x30_2 < (l0_5.length : Int)
      ·rw [if_pos c22] at H
       have c22b0 : decide (x30_2 < (l0_5.length : Int)) = true := decide_eq_true c22
       clear c22
       by_cases c23 : 0 ≤ x30_2
       ·rw [if_pos c23] at H
        have c23b0 : decide (0 ≤ x30_2) = true := decide_eq_true c23
        clear c23
        by_cases c24 : x30_2 < (l0_5.length : Int)
        ·rw [if_pos c24] at H
         have c24b0 : decide (x30_2 < (l0_5.length : Int)) = true := decide_eq_true c24
         clear c24
         replace H := Option.bind_eq_some_iff.mp H
         obtain ⟨t370, A250, H⟩ := H
         replace H : (if t370 = true then (jAx.l0 k2 a1 l0_5 (l0_5.length : Int) (wrap64 (x30_2 + 1))) else (some false)) = some r := H
         have A25 := jAa.mk A250
         clear A250
         by_cases c26 : t370 = true
         ·subst c26
          have H1 : (jAx.l0 k2 a1 l0_5 (l0_5.length : Int) (wrap64 (x30_2 + 1))) = some r := by rw [if_pos rfl] at H; exact H
          clear H
          have H := H1
          clear H1
          have H' := jAa.mk H
          clear H
          have p368 : 0 ≤ (x30_2 : Int) := of_decide_eq_true (by first | (with_reducible assumption) | assumption)
          have q368 : x30_2 < (l0_5.length : Int) := of_decide_eq_true (by first | (with_reducible assumption) | assumption)
          obtain ⟨ad368, A368_5, c368_5, e368, hx368_0, hx368_1, hx368_2, hx368_3, hx368_4, hx368_5, hl368_5, hi368_5⟩ := jDx HR0_5.out x30_2 p368 q368
          cases e368
          replace hx368_0 := (HB.out.cell (World.block_lt_of_cell? w _ hx368_0)).trans hx368_0
          replace hx368_1 := (HB.out.cell (World.block_lt_of_cell? w _ hx368_1)).trans hx368_1
          replace hx368_2 := (HB.out.cell (World.block_lt_of_cell? w _ hx368_2)).trans hx368_2
          replace hx368_3 := (HB.out.cell (World.block_lt_of_cell? w _ hx368_3)).trans hx368_3
          replace hx368_4 := (HB.out.cell (World.block_lt_of_cell? w _ hx368_4)).trans hx368_4
          replace hx368_5 := (HB.out.cell (World.block_lt_of_cell? w _ hx368_5)).trans hx368_5
          have HR368_5 := jAa.mk hi368_5
          have HC368_5 := jAa.mk hl368_5
          clear hi368_5 hl368_5
          replace p368 := eq_true p368
          replace q368 := eq_true q368
          go_wp2_with (first | ((with_reducible refine jCa (N := 6) rfl ?_); (try (refine jDr (by rfl) ?_; dsimp only)); refine jBv ?hg (N := 6) ?hd (cs := #[.int .i64 0, .int .i64 0, .int .i64 0, .int .i64 0, .string (⟨#[]⟩ : ByteArray), .slice none 0 0]) (t := 72) ?hr ?_; (case hd => rfl); (case hg => rfl); (case hr => first | (go_simp; done) | (go_simp; rfl)); intro gb369 hg w27 hbox hb; have n0_ := jAa.mk (jAp (g := gb366) (o := .cells #[.int .i64 a0_0, .int .i64 a0_1, .int .i64 a0_2, .int .i64 a0_3, .string a0_4, .slice (some ad368) l0_5.length c0_5] 72 (0, 0)) (by (with_reducible repeat (first | refine jAf ?_ _ | refine jAi ?_ | refine jAe ?_ _)); exact BK366.out) hb); have n1_ := jAa.mk (jAu (by repeat (first | (with_reducible first | exact HB.out | apply jAj | apply jAd | apply jAk | refine jAh ?_ GE366.out) | exact HB.out)) hb); have n2_ := jAa.mk (hbox); have n3_ := jAa.mk ((by rw [hg]; exact (jBj (by repeat (first | (with_reducible first | exact HB.out | apply jAj | apply jAd | apply jAk | refine jAh ?_ GE366.out) | exact HB.out))) : w.heap.size ≤ gb369)); have n4_ := jAa.mk ((by rw [hg]; exact (jBj (by repeat (first | (with_reducible first | exact HB.out | apply jAj | apply jAd | apply jAk | refine jAh ?_ GE366.out) | exact HB.out))) : w.heap.size ≤ gb369)); have n5_ := jAa.mk ((by rw [hg]; exact Nat.ne_of_lt (jBu (g := gb366) (o := .cells #[.int .i64 a0_0, .int .i64 a0_1, .int .i64 a0_2, .int .i64 a0_3, .string a0_4, .slice (some ad368) l0_5.length c0_5] 72 (0, 0)) (by (with_reducible repeat (first | refine jAf ?_ _ | refine jAi ?_ | refine jAe ?_ _)); exact BK366.out)) : gb366 ≠ gb369)); have n6_ := jAa.mk ((by rw [hg]; exact Nat.ne_of_gt (jBu (g := gb366) (o := .cells #[.int .i64 a0_0, .int .i64 a0_1, .int .i64 a0_2, .int .i64 a0_3, .string a0_4, .slice (some ad368) l0_5.length c0_5] 72 (0, 0)) (by (with_reducible repeat (first | refine jAf ?_ _ | refine jAi ?_ | refine jAe ?_ _)); exact BK366.out)) : gb369 ≠ gb366)); clear BK366; clear HB; have BK366 := n0_; have HB := n1_; have BK369 := n2_; have GW369 := n3_; have GE369 := n4_; have NB366_369 := n5_; have NB369_366 := n6_; clear n0_ n1_ n2_ n3_ n4_ n5_ n6_; clear hb hbox hg; have hnb28 := NB369_366.out; have hnc28 := NB366_369.out; have hcz29_0 : w27.cell? ⟨gb369, 0, none⟩ = some (.int .i64 0) := (jAb BK369.out 0).trans rfl; have hcz29_1 : w27.cell? ⟨gb369, 1, none⟩ = some (.int .i64 0) := (jAb BK369.out 1).trans rfl; have hcz29_2 : w27.cell? ⟨gb369, 2, none⟩ = some (.int .i64 0) := (jAb BK369.out 2).trans rfl; have hcz29_3 : w27.cell? ⟨gb369, 3, none⟩ = some (.int .i64 0) := (jAb BK369.out 3).trans rfl; have hcz29_4 : w27.cell? ⟨gb369, 4, none⟩ = some (.string (⟨#[]⟩ : ByteArray)) := (jAb BK369.out 4).trans rfl; have hcz29_5 : w27.cell? ⟨gb369, 5, none⟩ = some (.slice none 0 0) := (jAb BK369.out 5).trans rfl; have hfz29_0 := jAg BK369.out 0; have hfz29_1 := jAg BK369.out 1; have hfz29_2 := jAg BK369.out 2; have hfz29_3 := jAg BK369.out 3; have hfz29_4 := jAg BK369.out 4; have hfz29_5 := jAg BK369.out 5) | ((with_reducible refine jBl (f := 70) rfl ?_); refine jCe (some 37) rfl rfl Tryd.func70 (by kernel_rfl) rfl #[.agg #[.int .i64 ((jAq l0_5 x30_2).f0), .int .i64 ((jAq l0_5 x30_2).f1), .int .i64 ((jAq l0_5 x30_2).f2.f0), .int .i64 ((jAq l0_5 x30_2).f2.f1), .string ((jAq l0_5 x30_2).f2.f2), .slice A368_5 ((jAq l0_5 x30_2).f3).length c368_5], .int .i64 (wrap64 (a1 - 1))] rfl (by (try simp only [List.map_toArray, List.map_cons, List.map_nil]); first | done | rfl | (simp only [List.length_drop, List.length_take]; rfl)) ?_; (with_reducible refine (ih k2 (by have := HJ2.out; have := HK2.out; omega) ((jAq l0_5 x30_2).f0) ((jAq l0_5 x30_2).f1) ((jAq l0_5 x30_2).f2.f0) ((jAq l0_5 x30_2).f2.f1) ((jAq l0_5 x30_2).f2.f2) _ _ ((jAq l0_5 x30_2).f3) (wrap64 (a1 - 1)) true _ ?side1 ?side2 A25.out).mono ?_); (case side1 => exact Kd.C_below HR368_5.out (by repeat (first | (with_reducible first | exact HB.out | apply jAj | apply jAd | apply jAk | refine jAh ?_ GE366.out | refine jAh ?_ GE369.out) | exact HB.out))); (case side2 => exact HC368_5.out); rintro e w30 ⟨rfl, hb⟩; refine ⟨_, rfl, ?_⟩; have n0_ := jAa.mk (jAp (g := gb366) (o := .cells #[.int .i64 a0_0, .int .i64 a0_1, .int .i64 a0_2, .int .i64 a0_3, .string a0_4, .slice (some ad368) l0_5.length c0_5] 72 (0, 0)) (by (with_reducible repeat (first | refine jAf ?_ _ | refine jAi ?_ | refine jAe ?_ _)); refine jBa ?_ NB366_369.out _; (with_reducible repeat (first | refine jAf ?_ _ | refine jAi ?_ | refine jAe ?_ _)); refine jBa ?_ NB366_369.out _; (with_reducible repeat (first | refine jAf ?_ _ | refine jAi ?_ | refine jAe ?_ _)); refine jBa ?_ NB366_369.out _; (with_reducible repeat (first | refine jAf ?_ _ | refine jAi ?_ | refine jAe ?_ _)); refine jBa ?_ NB366_369.out _; (with_reducible repeat (first | refine jAf ?_ _ | refine jAi ?_ | refine jAe ?_ _)); refine jBa ?_ NB366_369.out _; (with_reducible repeat (first | refine jAf ?_ _ | refine jAi ?_ | refine jAe ?_ _)); refine jBa ?_ NB366_369.out _; (with_reducible repeat (first | refine jAf ?_ _ | refine jAi ?_ | refine jAe ?_ _)); exact BK366.out) hb); have n1_ := jAa.mk (jAp (g := gb369) (o := .cells #[.int .i64 ((jAq l0_5 x30_2).f0), .int .i64 ((jAq l0_5 x30_2).f1), .int .i64 ((jAq l0_5 x30_2).f2.f0), .int .i64 ((jAq l0_5 x30_2).f2.f1), .string ((jAq l0_5 x30_2).f2.f2), .slice A368_5 ((jAq l0_5 x30_2).f3).length c368_5] 72 (0, 0)) (by (with_reducible repeat (first | refine jAf ?_ _ | refine jAi ?_ | refine jAe ?_ _)); refine jBf (cs := #[.int .i64 ((jAq l0_5 x30_2).f0), .int .i64 ((jAq l0_5 x30_2).f1), .int .i64 ((jAq l0_5 x30_2).f2.f0), .int .i64 ((jAq l0_5 x30_2).f2.f1), .string ((jAq l0_5 x30_2).f2.f2), .slice none 0 0]) ?_ 5 _ rfl; (with_reducible repeat (first | refine jAf ?_ _ | refine jAi ?_ | refine jAe ?_ _)); refine jBf (cs := #[.int .i64 ((jAq l0_5 x30_2).f0), .int .i64 ((jAq l0_5 x30_2).f1), .int .i64 ((jAq l0_5 x30_2).f2.f0), .int .i64 ((jAq l0_5 x30_2).f2.f1), .string (⟨#[]⟩ : ByteArray), .slice none 0 0]) ?_ 4 _ rfl; (with_reducible repeat (first | refine jAf ?_ _ | refine jAi ?_ | refine jAe ?_ _)); refine jBf (cs := #[.int .i64 ((jAq l0_5 x30_2).f0), .int .i64 ((jAq l0_5 x30_2).f1), .int .i64 ((jAq l0_5 x30_2).f2.f0), .int .i64 0, .string (⟨#[]⟩ : ByteArray), .slice none 0 0]) ?_ 3 _ rfl; (with_reducible repeat (first | refine jAf ?_ _ | refine jAi ?_ | refine jAe ?_ _)); refine jBf (cs := #[.int .i64 ((jAq l0_5 x30_2).f0), .int .i64 ((jAq l0_5 x30_2).f1), .int .i64 0, .int .i64 0, .string (⟨#[]⟩ : ByteArray), .slice none 0 0]) ?_ 2 _ rfl; (with_reducible repeat (first | refine jAf ?_ _ | refine jAi ?_ | refine jAe ?_ _)); refine jBf (cs := #[.int .i64 ((jAq l0_5 x30_2).f0), .int .i64 0, .int .i64 0, .int .i64 0, .string (⟨#[]⟩ : ByteArray), .slice none 0 0]) ?_ 1 _ rfl; (with_reducible repeat (first | refine jAf ?_ _ | refine jAi ?_ | refine jAe ?_ _)); refine jBf (cs := #[.int .i64 0, .int .i64 0, .int .i64 0, .int .i64 0, .string (⟨#[]⟩ : ByteArray), .slice none 0 0]) ?_ 0 _ rfl; (with_reducible repeat (first | refine jAf ?_ _ | refine jAi ?_ | refine jAe ?_ _)); exact BK369.out) hb); have n2_ := jAa.mk (jAu (by repeat (first | (with_reducible first | exact HB.out | apply jAj | apply jAd | apply jAk | refine jAh ?_ GE366.out | refine jAh ?_ GE369.out) | exact HB.out)) hb); clear BK366; clear BK369; clear HB; have BK366 := n0_; have BK369 := n1_; have HB := n2_; clear n0_ n1_ n2_; (try clear hb); (try clear hb2); (try clear hk); (try clear hi)))
          go_roundg k2
          case measure => have := HJ2.out; have := HK2.out; omega
          case rel => exact ⟨(wrap64 (x30_2 + 1)), (by first | rfl | (simp; done) | (simp [*]; done)), H', ⟨by have := HJ2.out; have := HK2.out; omega⟩, ⟨by (with_reducible repeat (first | refine jAf ?_ _ | refine jAi ?_ | refine jAe ?_ _)); exact BK366.out⟩, ⟨by repeat (first | (with_reducible first | exact HB.out | apply jAj | apply jAd | apply jAk | refine jAh ?_ GE366.out | refine jAh ?_ GE369.out) | exact HB.out)⟩⟩
         ·replace c26 := Bool.eq_false_iff.mpr c26
          subst c26
          have H1 : (some false) = some r := by rw [if_neg (show ¬ (false = true) by decide)] at H; exact H
          clear H
          have H := H1
          clear H1
          obtain rfl := Option.some.inj H
          have p368 : 0 ≤ (x30_2 : Int) := of_decide_eq_true (by first | (with_reducible assumption) | assumption)
          have q368 : x30_2 < (l0_5.length : Int) := of_decide_eq_true (by first | (with_reducible assumption) | assumption)
          obtain ⟨ad368, A368_5, c368_5, e368, hx368_0, hx368_1, hx368_2, hx368_3, hx368_4, hx368_5, hl368_5, hi368_5⟩ := jDx HR0_5.out x30_2 p368 q368
          cases e368
          replace hx368_0 := (HB.out.cell (World.block_lt_of_cell? w _ hx368_0)).trans hx368_0
          replace hx368_1 := (HB.out.cell (World.block_lt_of_cell? w _ hx368_1)).trans hx368_1
          replace hx368_2 := (HB.out.cell (World.block_lt_of_cell? w _ hx368_2)).trans hx368_2
          replace hx368_3 := (HB.out.cell (World.block_lt_of_cell? w _ hx368_3)).trans hx368_3
          replace hx368_4 := (HB.out.cell (World.block_lt_of_cell? w _ hx368_4)).trans hx368_4
          replace hx368_5 := (HB.out.cell (World.block_lt_of_cell? w _ hx368_5)).trans hx368_5
          have HR368_5 := jAa.mk hi368_5
          have HC368_5 := jAa.mk hl368_5
          clear hi368_5 hl368_5
          replace p368 := eq_true p368
          replace q368 := eq_true q368
          go_wp2_with (first | ((with_reducible refine jCa (N := 6) rfl ?_); (try (refine jDr (by rfl) ?_; dsimp only)); refine jBv ?hg (N := 6) ?hd (cs := #[.int .i64 0, .int .i64 0, .int .i64 0, .int .i64 0, .string (⟨#[]⟩ : ByteArray), .slice none 0 0]) (t := 72) ?hr ?_; (case hd => rfl); (case hg => rfl); (case hr => first | (go_simp; done) | (go_simp; rfl)); intro gb369 hg w31 hbox hb; have n0_ := jAa.mk (jAp (g := gb366) (o := .cells #[.int .i64 a0_0, .int .i64 a0_1, .int .i64 a0_2, .int .i64 a0_3, .string a0_4, .slice (some ad368) l0_5.length c0_5] 72 (0, 0)) (by (with_reducible repeat (first | refine jAf ?_ _ | refine jAi ?_ | refine jAe ?_ _)); exact BK366.out) hb); have n1_ := jAa.mk (jAu (by repeat (first | (with_reducible first | exact HB.out | apply jAj | apply jAd | apply jAk | refine jAh ?_ GE366.out) | exact HB.out)) hb); have n2_ := jAa.mk (hbox); have n3_ := jAa.mk ((by rw [hg]; exact (jBj (by repeat (first | (with_reducible first | exact HB.out | apply jAj | apply jAd | apply jAk | refine jAh ?_ GE366.out) | exact HB.out))) : w.heap.size ≤ gb369)); have n4_ := jAa.mk ((by rw [hg]; exact (jBj (by repeat (first | (with_reducible first | exact HB.out | apply jAj | apply jAd | apply jAk | refine jAh ?_ GE366.out) | exact HB.out))) : w.heap.size ≤ gb369)); have n5_ := jAa.mk ((by rw [hg]; exact Nat.ne_of_lt (jBu (g := gb366) (o := .cells #[.int .i64 a0_0, .int .i64 a0_1, .int .i64 a0_2, .int .i64 a0_3, .string a0_4, .slice (some ad368) l0_5.length c0_5] 72 (0, 0)) (by (with_reducible repeat (first | refine jAf ?_ _ | refine jAi ?_ | refine jAe ?_ _)); exact BK366.out)) : gb366 ≠ gb369)); have n6_ := jAa.mk ((by rw [hg]; exact Nat.ne_of_gt (jBu (g := gb366) (o := .cells #[.int .i64 a0_0, .int .i64 a0_1, .int .i64 a0_2, .int .i64 a0_3, .string a0_4, .slice (some ad368) l0_5.length c0_5] 72 (0, 0)) (by (with_reducible repeat (first | refine jAf ?_ _ | refine jAi ?_ | refine jAe ?_ _)); exact BK366.out)) : gb369 ≠ gb366)); clear BK366; clear HB; have BK366 := n0_; have HB := n1_; have BK369 := n2_; have GW369 := n3_; have GE369 := n4_; have NB366_369 := n5_; have NB369_366 := n6_; clear n0_ n1_ n2_ n3_ n4_ n5_ n6_; clear hb hbox hg; have hnb32 := NB369_366.out; have hnc32 := NB366_369.out; have hcz33_0 : w31.cell? ⟨gb369, 0, none⟩ = some (.int .i64 0) := (jAb BK369.out 0).trans rfl; have hcz33_1 : w31.cell? ⟨gb369, 1, none⟩ = some (.int .i64 0) := (jAb BK369.out 1).trans rfl; have hcz33_2 : w31.cell? ⟨gb369, 2, none⟩ = some (.int .i64 0) := (jAb BK369.out 2).trans rfl; have hcz33_3 : w31.cell? ⟨gb369, 3, none⟩ = some (.int .i64 0) := (jAb BK369.out 3).trans rfl; have hcz33_4 : w31.cell? ⟨gb369, 4, none⟩ = some (.string (⟨#[]⟩ : ByteArray)) := (jAb BK369.out 4).trans rfl; have hcz33_5 : w31.cell? ⟨gb369, 5, none⟩ = some (.slice none 0 0) := (jAb BK369.out 5).trans rfl; have hfz33_0 := jAg BK369.out 0; have hfz33_1 := jAg BK369.out 1; have hfz33_2 := jAg BK369.out 2; have hfz33_3 := jAg BK369.out 3; have hfz33_4 := jAg BK369.out 4; have hfz33_5 := jAg BK369.out 5) | ((with_reducible refine jBl (f := 70) rfl ?_); refine jCe (some 37) rfl rfl Tryd.func70 (by kernel_rfl) rfl #[.agg #[.int .i64 ((jAq l0_5 x30_2).f0), .int .i64 ((jAq l0_5 x30_2).f1), .int .i64 ((jAq l0_5 x30_2).f2.f0), .int .i64 ((jAq l0_5 x30_2).f2.f1), .string ((jAq l0_5 x30_2).f2.f2), .slice A368_5 ((jAq l0_5 x30_2).f3).length c368_5], .int .i64 (wrap64 (a1 - 1))] rfl (by (try simp only [List.map_toArray, List.map_cons, List.map_nil]); first | done | rfl | (simp only [List.length_drop, List.length_take]; rfl)) ?_; (with_reducible refine (ih k2 (by have := HJ2.out; have := HK2.out; omega) ((jAq l0_5 x30_2).f0) ((jAq l0_5 x30_2).f1) ((jAq l0_5 x30_2).f2.f0) ((jAq l0_5 x30_2).f2.f1) ((jAq l0_5 x30_2).f2.f2) _ _ ((jAq l0_5 x30_2).f3) (wrap64 (a1 - 1)) false _ ?side1 ?side2 A25.out).mono ?_); (case side1 => exact Kd.C_below HR368_5.out (by repeat (first | (with_reducible first | exact HB.out | apply jAj | apply jAd | apply jAk | refine jAh ?_ GE366.out | refine jAh ?_ GE369.out) | exact HB.out))); (case side2 => exact HC368_5.out); rintro e w34 ⟨rfl, hb⟩; refine ⟨_, rfl, ?_⟩; have n0_ := jAa.mk (jAp (g := gb366) (o := .cells #[.int .i64 a0_0, .int .i64 a0_1, .int .i64 a0_2, .int .i64 a0_3, .string a0_4, .slice (some ad368) l0_5.length c0_5] 72 (0, 0)) (by (with_reducible repeat (first | refine jAf ?_ _ | refine jAi ?_ | refine jAe ?_ _)); refine jBa ?_ NB366_369.out _; (with_reducible repeat (first | refine jAf ?_ _ | refine jAi ?_ | refine jAe ?_ _)); refine jBa ?_ NB366_369.out _; (with_reducible repeat (first | refine jAf ?_ _ | refine jAi ?_ | refine jAe ?_ _)); refine jBa ?_ NB366_369.out _; (with_reducible repeat (first | refine jAf ?_ _ | refine jAi ?_ | refine jAe ?_ _)); refine jBa ?_ NB366_369.out _; (with_reducible repeat (first | refine jAf ?_ _ | refine jAi ?_ | refine jAe ?_ _)); refine jBa ?_ NB366_369.out _; (with_reducible repeat (first | refine jAf ?_ _ | refine jAi ?_ | refine jAe ?_ _)); refine jBa ?_ NB366_369.out _; (with_reducible repeat (first | refine jAf ?_ _ | refine jAi ?_ | refine jAe ?_ _)); exact BK366.out) hb); have n1_ := jAa.mk (jAp (g := gb369) (o := .cells #[.int .i64 ((jAq l0_5 x30_2).f0), .int .i64 ((jAq l0_5 x30_2).f1), .int .i64 ((jAq l0_5 x30_2).f2.f0), .int .i64 ((jAq l0_5 x30_2).f2.f1), .string ((jAq l0_5 x30_2).f2.f2), .slice A368_5 ((jAq l0_5 x30_2).f3).length c368_5] 72 (0, 0)) (by (with_reducible repeat (first | refine jAf ?_ _ | refine jAi ?_ | refine jAe ?_ _)); refine jBf (cs := #[.int .i64 ((jAq l0_5 x30_2).f0), .int .i64 ((jAq l0_5 x30_2).f1), .int .i64 ((jAq l0_5 x30_2).f2.f0), .int .i64 ((jAq l0_5 x30_2).f2.f1), .string ((jAq l0_5 x30_2).f2.f2), .slice none 0 0]) ?_ 5 _ rfl; (with_reducible repeat (first | refine jAf ?_ _ | refine jAi ?_ | refine jAe ?_ _)); refine jBf (cs := #[.int .i64 ((jAq l0_5 x30_2).f0), .int .i64 ((jAq l0_5 x30_2).f1), .int .i64 ((jAq l0_5 x30_2).f2.f0), .int .i64 ((jAq l0_5 x30_2).f2.f1), .string (⟨#[]⟩ : ByteArray), .slice none 0 0]) ?_ 4 _ rfl; (with_reducible repeat (first | refine jAf ?_ _ | refine jAi ?_ | refine jAe ?_ _)); refine jBf (cs := #[.int .i64 ((jAq l0_5 x30_2).f0), .int .i64 ((jAq l0_5 x30_2).f1), .int .i64 ((jAq l0_5 x30_2).f2.f0), .int .i64 0, .string (⟨#[]⟩ : ByteArray), .slice none 0 0]) ?_ 3 _ rfl; (with_reducible repeat (first | refine jAf ?_ _ | refine jAi ?_ | refine jAe ?_ _)); refine jBf (cs := #[.int .i64 ((jAq l0_5 x30_2).f0), .int .i64 ((jAq l0_5 x30_2).f1), .int .i64 0, .int .i64 0, .string (⟨#[]⟩ : ByteArray), .slice none 0 0]) ?_ 2 _ rfl; (with_reducible repeat (first | refine jAf ?_ _ | refine jAi ?_ | refine jAe ?_ _)); refine jBf (cs := #[.int .i64 ((jAq l0_5 x30_2).f0), .int .i64 0, .int .i64 0, .int .i64 0, .string (⟨#[]⟩ : ByteArray), .slice none 0 0]) ?_ 1 _ rfl; (with_reducible repeat (first | refine jAf ?_ _ | refine jAi ?_ | refine jAe ?_ _)); refine jBf (cs := #[.int .i64 0, .int .i64 0, .int .i64 0, .int .i64 0, .string (⟨#[]⟩ : ByteArray), .slice none 0 0]) ?_ 0 _ rfl; (with_reducible repeat (first | refine jAf ?_ _ | refine jAi ?_ | refine jAe ?_ _)); exact BK369.out) hb); have n2_ := jAa.mk (jAu (by repeat (first | (with_reducible first | exact HB.out | apply jAj | apply jAd | apply jAk | refine jAh ?_ GE366.out | refine jAh ?_ GE369.out) | exact HB.out)) hb); clear BK366; clear BK369; clear HB; have BK366 := n0_; have BK369 := n1_; have HB := n2_; clear n0_ n1_ n2_; (try clear hb); (try clear hb2); (try clear hk); (try clear hi)))
          go_ret
          exact ⟨by first | rfl | (simp [jBd, jBe] <;> rfl) | (simp [*, jBd, jBe] <;> rfl), by repeat (first | (with_reducible first | exact HB.out | apply jAj | apply jAd | apply jAk | refine jAh ?_ GE366.out | refine jAh ?_ GE369.out) | exact HB.out)⟩
        ·rw [if_neg c24] at H
         exact absurd H (by simp)
       ·rw [if_neg c23] at H
        exact absurd H (by simp)
      ·rw [if_neg c22] at H
       have c22b0 : decide (x30_2 < (l0_5.length : Int)) = false := decide_eq_false c22
       clear c22
       obtain rfl := Option.some.inj H
       go_wp2
       go_ret
       exact ⟨by first | rfl | (simp [jBd, jBe] <;> rfl) | (simp [*, jBd, jBe] <;> rfl), by repeat (first | (with_reducible first | exact HB.out | apply jAj | apply jAd | apply jAk | refine jAh ?_ GE366.out) | exact HB.out)⟩
end Go.Proofs.YtefdfgmlmjnmlaaDoor.Rf
end

section
set_option linter.unusedVariables false
set_option linter.unusedSimpArgs false
namespace Go.Proofs.YtefdfgmlmjnmlaaDoor.Rf
open Go.RowKit Go.Proofs.YtefdfgmlmjnmlaaDoorW.PrintWords Go.Proofs.YtefdfgmlmjnmlaaDoorW.PrintLast Go.Proofs.YtefdfgmlmjnmlaaDoorW.PrintMore
attribute [local go_sem] jCg jCo
mutual
def jAv.j0 : Nat → Bool → Int → List (S45) → List (S27) → Option (Bool)
 | 0, _, _, _, _ => none
 | k + 1, x16, x372000, x372001, x372002 => if x16 = true then (some false) else (jAv.l0 k x372001 (x372001.length : Int) 0)
def jAv.l0 : Nat → List (S45) → Int → Int → Option (Bool)
 | 0, _, _, _ => none
 | k + 1, x18, x19, x20 => if x20 < x19 then (if 0 ≤ x20 then (if x20 < (x18.length : Int) then (if (((jAl x18 x20).f2).length : Int) > 6 then (jAv.j2 k x18 x19 x20 true ((jAl x18 x20).f0) ((jAl x18 x20).f1) ((jAl x18 x20).f2) ((jAl x18 x20).f3)) else (jAv.j2 k x18 x19 x20 (decide ((((jAl x18 x20).f3).length : Int) > 4)) ((jAl x18 x20).f0) ((jAl x18 x20).f1) ((jAl x18 x20).f2) ((jAl x18 x20).f3))) else (none)) else (none)) else (some true)
def jAv.j2 : Nat → List (S45) → Int → Int → Bool → ByteArray → Int → List (S59) → List (S72) → Option (Bool)
 | 0, _, _, _, _, _, _, _, _ => none
 | k + 1, x18, x19, x20, x33, x374000, x374001, x374002, x374003 => if x33 = true then (some false) else (jAv.l1 k x18 x19 x20 x374003 (x374003.length : Int) 0)
def jAv.l1 : Nat → List (S45) → Int → Int → List (S72) → Int → Int → Option (Bool)
 | 0, _, _, _, _, _, _ => none
 | k + 1, x18, x19, x20, x35, x36, x37 => if x37 < x36 then (if 0 ≤ x37 then (if x37 < (x35.length : Int) then ((jAx.f k ((jAq x35 x37).f0) ((jAq x35 x37).f1) ((jAq x35 x37).f2.f0) ((jAq x35 x37).f2.f1) ((jAq x35 x37).f2.f2) ((jAq x35 x37).f3) 8).bind fun t376 => (if t376 = true then (jAv.l1 k x18 x19 x20 x35 x36 (wrap64 (x37 + 1))) else (some false))) else (none)) else (none)) else (jAv.l0 k x18 x19 (wrap64 (x20 + 1)))
end
def jAv.f (k : Nat) (a0_0 : Int) (l0_1 : List (S45)) (l0_2 : List (S27)) : Option (Bool) := if (l0_1.length : Int) > 12 then (jAv.j0 k true a0_0 l0_1 l0_2) else (jAv.j0 k (decide ((l0_2.length : Int) > 64)) a0_0 l0_1 l0_2)
set_option maxHeartbeats 8000000 in
set_option maxRecDepth 100000 in
theorem jAv.calls (k : Nat) (a0_0 : Int) (A0_1 : Option Addr) (c0_1 : Nat) (l0_1 : List (S45)) (A0_2 : Option Addr) (c0_2 : Nat) (l0_2 : List (S27)) (r : Bool) (w : World) (hr0_1 : Kd.C k45 w A0_1 l0_1.length l0_1) (hc0_1 : l0_1.length ≤ c0_1) (hr0_2 : Kd.C k27 w A0_2 l0_2.length l0_2) (hc0_2 : l0_2.length ≤ c0_2) (h : jAv.f k a0_0 l0_1 l0_2 = some r) :
  Calls Tryd.prog 42 #[.agg #[.int .i64 a0_0, .slice A0_1 l0_1.length c0_1, .slice A0_2 l0_2.length c0_2]] w fun e w' => e = .returned (.bool r) ∧ Below w.heap.size w w' := by
 have hu25 := Tryd.underlying25
 have hu45 := Tryd.underlying45
 have hu72 := Tryd.underlying72
 have HR0_1 := jAa.mk hr0_1
 have HC0_1 := jAa.mk hc0_1
 clear hr0_1 hc0_1
 have HR0_2 := jAa.mk hr0_2
 have HC0_2 := jAa.mk hc0_2
 clear hr0_2 hc0_2
 have HB := jAa.mk (Below.refl w.heap.size w)
 have H : (if (l0_1.length : Int) > 12 then (jAv.j0 k true a0_0 l0_1 l0_2) else (jAv.j0 k (decide ((l0_2.length : Int) > 64)) a0_0 l0_1 l0_2)) = some r := h
 clear h
 have HC2 := jAa.mk H
 clear H
 go_enter Tryd.func42, Tryd.ntmps42
 go_upto_region 1 with (first | ((with_reducible refine jCa (N := 1) rfl ?_); (try (refine jDr (by rfl) ?_; dsimp only)); refine jBv ?hg (N := 1) ?hd (cs := #[.int .i64 a0_0, .slice A0_1 l0_1.length c0_1, .slice A0_2 l0_2.length c0_2]) (t := 25) ?hr ?_; (case hd => rfl); (case hg => rfl); (case hr => first | (go_simp; done) | (go_simp; rfl)); intro gb371 hg w3 hbox hb; have n0_ := jAa.mk (jAu (by repeat (first | (with_reducible first | exact HB.out | apply jAj | apply jAd | apply jAk) | exact HB.out)) hb); have n1_ := jAa.mk (hbox); have n2_ := jAa.mk ((by rw [hg]; exact (jBj (by repeat (first | (with_reducible first | exact HB.out | apply jAj | apply jAd | apply jAk) | exact HB.out))) : w.heap.size ≤ gb371)); have n3_ := jAa.mk ((by rw [hg]; exact (jBj (by repeat (first | (with_reducible first | exact HB.out | apply jAj | apply jAd | apply jAk) | exact HB.out))) : w.heap.size ≤ gb371)); clear HB; have HB := n0_; have BK371 := n1_; have GW371 := n2_; have GE371 := n3_; clear n0_ n1_ n2_ n3_; clear hb hbox hg))
 (try simp only [Act.put, List.setIfInBounds_toArray, List.set_cons_zero, List.set_cons_succ])
 go_cut [16] (fun v16 wc => ∃ (kq : Nat) (x16_1 : Bool), v16 = .bool x16_1 ∧ jAa (jAv.j0 kq x16_1 a0_0 l0_1 l0_2 = some r) ∧ jAa (kq ≤ k) ∧ jAa (wc.heap[gb371]? = some (.cells #[.int .i64 a0_0, (.slice A0_1 l0_1.length c0_1), (.slice A0_2 l0_2.length c0_2)] 25 (0, 0))) ∧ jAa (Below w.heap.size w wc))
 case first =>
  have H := HC2.out
  clear HC2
  by_cases c4 : (l0_1.length : Int) > 12
  ·rw [if_pos c4] at H
   have c4b0 : decide (12 < (l0_1.length : Int)) = true := decide_eq_true c4
   have c4b1 : decide (12 < l0_1.length) = true := decide_eq_true (by omega)
   clear c4
   (first | rw [c4b0] | (simp only [i64_w, i32_w]; rw [c4b0]) | skip)
   have H' := jAa.mk H
   clear H
   have hcz5_0 : w3.cell? ⟨gb371, 0, none⟩ = some (.int .i64 a0_0) := (jAb BK371.out 0).trans rfl
   have hcz5_1 : w3.cell? ⟨gb371, 1, none⟩ = some (.slice A0_1 l0_1.length c0_1) := (jAb BK371.out 1).trans rfl
   have hcz5_2 : w3.cell? ⟨gb371, 2, none⟩ = some (.slice A0_2 l0_2.length c0_2) := (jAb BK371.out 2).trans rfl
   have hfz5_0 := jAg BK371.out 0
   have hfz5_1 := jAg BK371.out 1
   have hfz5_2 := jAg BK371.out 2
   go_wp2
   go_meet
   case rel => exact ⟨_, (true), (by first | rfl | (simp; done) | (simp [*]; done)), H', ⟨by first | omega | exact Nat.le_refl _⟩, ⟨by (with_reducible repeat (first | refine jAf ?_ _ | refine jAi ?_ | refine jAe ?_ _)); exact BK371.out⟩, ⟨by repeat (first | (with_reducible first | exact HB.out | apply jAj | apply jAd | apply jAk | refine jAh ?_ GE371.out) | exact HB.out)⟩⟩
  ·rw [if_neg c4] at H
   have c4b0 : decide (12 < (l0_1.length : Int)) = false := decide_eq_false c4
   have c4b1 : decide (12 < l0_1.length) = false := decide_eq_false (by omega)
   clear c4
   (first | rw [c4b0] | (simp only [i64_w, i32_w]; rw [c4b0]) | skip)
   have H' := jAa.mk H
   clear H
   have hcz6_0 : w3.cell? ⟨gb371, 0, none⟩ = some (.int .i64 a0_0) := (jAb BK371.out 0).trans rfl
   have hcz6_1 : w3.cell? ⟨gb371, 1, none⟩ = some (.slice A0_1 l0_1.length c0_1) := (jAb BK371.out 1).trans rfl
   have hcz6_2 : w3.cell? ⟨gb371, 2, none⟩ = some (.slice A0_2 l0_2.length c0_2) := (jAb BK371.out 2).trans rfl
   have hfz6_0 := jAg BK371.out 0
   have hfz6_1 := jAg BK371.out 1
   have hfz6_2 := jAg BK371.out 2
   go_wp2
   go_meet
   case rel => exact ⟨_, (decide ((l0_2.length : Int) > 64)), (by first | rfl | (simp; done) | (simp [*]; done)), H', ⟨by first | omega | exact Nat.le_refl _⟩, ⟨by (with_reducible repeat (first | refine jAf ?_ _ | refine jAi ?_ | refine jAe ?_ _)); exact BK371.out⟩, ⟨by repeat (first | (with_reducible first | exact HB.out | apply jAj | apply jAd | apply jAk | refine jAh ?_ GE371.out) | exact HB.out)⟩⟩
 case rest =>
  clear HC2
  try clear p2
  try clear c4
  try clear c4b0
  try clear c4b1
  try clear hcz5_0
  try clear hcz5_1
  try clear hcz5_2
  try clear hcz6_0
  try clear hcz6_1
  try clear hcz6_2
  try clear hfz5_0
  try clear hfz5_1
  try clear hfz5_2
  try clear hfz6_0
  try clear hfz6_1
  try clear hfz6_2
  obtain ⟨kq, x16_1, rfl, HA, HJ1, BK371, HB⟩ := hcut
  cases kq with
  | zero => exact absurd HA.out (by simp [jAv.j0])
  | succ kj1 =>
   have H := HA.out
   clear HA
   simp only [jAv.j0] at H
   by_cases c7 : x16_1 = true
   ·subst c7
    have H1 : (some false) = some r := by rw [if_pos rfl] at H; exact H
    clear H
    have H := H1
    clear H1
    obtain rfl := Option.some.inj H
    go_wp2
    go_ret
    exact ⟨by first | rfl | (simp [jBd, jBe] <;> rfl) | (simp [*, jBd, jBe] <;> rfl), by repeat (first | (with_reducible first | exact HB.out | apply jAj | apply jAd | apply jAk | refine jAh ?_ GE371.out) | exact HB.out)⟩
   ·replace c7 := Bool.eq_false_iff.mpr c7
    subst c7
    have H1 : (jAv.l0 kj1 l0_1 (l0_1.length : Int) 0) = some r := by rw [if_neg (show ¬ (false = true) by decide)] at H; exact H
    clear H
    have H := H1
    clear H1
    have H' := jAa.mk H
    clear H
    have hcz8_0 : wc.cell? ⟨gb371, 0, none⟩ = some (.int .i64 a0_0) := (jAb BK371.out 0).trans rfl
    have hcz8_1 : wc.cell? ⟨gb371, 1, none⟩ = some (.slice A0_1 l0_1.length c0_1) := (jAb BK371.out 1).trans rfl
    have hcz8_2 : wc.cell? ⟨gb371, 2, none⟩ = some (.slice A0_2 l0_2.length c0_2) := (jAb BK371.out 2).trans rfl
    have hfz8_0 := jAg BK371.out 0
    have hfz8_1 := jAg BK371.out 1
    have hfz8_2 := jAg BK371.out 2
    go_wp2
    go_loopg [20] kj1 (fun kq v20 w' => ∃ (x20_2 : Int), v20 = .int .i64 x20_2 ∧ jAa (jAv.l0 kq l0_1 (l0_1.length : Int) x20_2 = some r) ∧ jAa (kq ≤ kj1) ∧ jAa (w'.heap[gb371]? = some (.cells #[.int .i64 a0_0, (.slice A0_1 l0_1.length c0_1), (.slice A0_2 l0_2.length c0_2)] 25 (0, 0))) ∧ jAa (Below w.heap.size w w'))
    case atStart => exact ⟨(0), (by first | rfl | (simp; done) | (simp [*]; done)), H', ⟨Nat.le_refl _⟩, ⟨by (with_reducible repeat (first | refine jAf ?_ _ | refine jAi ?_ | refine jAe ?_ _)); exact BK371.out⟩, ⟨by repeat (first | (with_reducible first | exact HB.out | apply jAj | apply jAd | apply jAk | refine jAh ?_ GE371.out) | exact HB.out)⟩⟩
    case round =>
     clear H'
     try clear p2
     try clear c4
     try clear c4b0
     try clear c4b1
     try clear c7
     try clear hcz5_0
     try clear hcz5_1
     try clear hcz5_2
     try clear hcz6_0
     try clear hcz6_1
     try clear hcz6_2
     try clear hcz8_0
     try clear hcz8_1
     try clear hcz8_2
     try clear hfz5_0
     try clear hfz5_1
     try clear hfz5_2
     try clear hfz6_0
     try clear hfz6_1
     try clear hfz6_2
     try clear hfz8_0
     try clear hfz8_1
     try clear hfz8_2
     try clear p2
     obtain ⟨x20_2, rfl, HA, HK2, BK371, HB⟩ := hrel
     cases gk with
     | zero => exact absurd HA.out (by simp [jAv.l0])
     | succ k2 =>
      have H := HA.out
      clear HA
      simp only [jAv.l0] at H
      by_cases c9 : x20_2 < (l0_1.length : Int)
      ·rw [if_pos c9] at H
       have c9b0 : decide (x20_2 < (l0_1.length : Int)) = true := decide_eq_true c9
       clear c9
       by_cases c10 : 0 ≤ x20_2
       ·rw [if_pos c10] at H
        have c10b0 : decide (0 ≤ x20_2) = true := decide_eq_true c10
        clear c10
        by_cases c11 : x20_2 < (l0_1.length : Int)
        ·rw [if_pos c11] at H
         have c11b0 : decide (x20_2 < (l0_1.length : Int)) = true := decide_eq_true c11
         clear c11
         have HC12 := jAa.mk H
         clear H
         have p372 : 0 ≤ (x20_2 : Int) := of_decide_eq_true (by first | (with_reducible assumption) | assumption)
         have q372 : x20_2 < (l0_1.length : Int) := of_decide_eq_true (by first | (with_reducible assumption) | assumption)
         obtain ⟨ad372, A372_2, c372_2, A372_3, c372_3, e372, hx372_0, hx372_1, hx372_2, hx372_3, hl372_2, hi372_2, hl372_3, hi372_3⟩ := jGf HR0_1.out x20_2 p372 q372
         cases e372
         replace hx372_0 := (HB.out.cell (World.block_lt_of_cell? w _ hx372_0)).trans hx372_0
         replace hx372_1 := (HB.out.cell (World.block_lt_of_cell? w _ hx372_1)).trans hx372_1
         replace hx372_2 := (HB.out.cell (World.block_lt_of_cell? w _ hx372_2)).trans hx372_2
         replace hx372_3 := (HB.out.cell (World.block_lt_of_cell? w _ hx372_3)).trans hx372_3
         have HR372_2 := jAa.mk hi372_2
         have HC372_2 := jAa.mk hl372_2
         clear hi372_2 hl372_2
         have HR372_3 := jAa.mk hi372_3
         have HC372_3 := jAa.mk hl372_3
         clear hi372_3 hl372_3
         replace p372 := eq_true p372
         replace q372 := eq_true q372
         go_upto_region 6 with (first | ((with_reducible refine jCa (N := 4) rfl ?_); (try (refine jDr (by rfl) ?_; dsimp only)); refine jBv ?hg (N := 4) ?hd (cs := #[.string (⟨#[]⟩ : ByteArray), .int .i64 0, .slice none 0 0, .slice none 0 0]) (t := 45) ?hr ?_; (case hd => rfl); (case hg => rfl); (case hr => first | (go_simp; done) | (go_simp; rfl)); intro gb373 hg w13 hbox hb; have n0_ := jAa.mk (jAp (g := gb371) (o := .cells #[.int .i64 a0_0, .slice (some ad372) l0_1.length c0_1, .slice A0_2 l0_2.length c0_2] 25 (0, 0)) (by (with_reducible repeat (first | refine jAf ?_ _ | refine jAi ?_ | refine jAe ?_ _)); exact BK371.out) hb); have n1_ := jAa.mk (jAu (by repeat (first | (with_reducible first | exact HB.out | apply jAj | apply jAd | apply jAk | refine jAh ?_ GE371.out) | exact HB.out)) hb); have n2_ := jAa.mk (hbox); have n3_ := jAa.mk ((by rw [hg]; exact (jBj (by repeat (first | (with_reducible first | exact HB.out | apply jAj | apply jAd | apply jAk | refine jAh ?_ GE371.out) | exact HB.out))) : w.heap.size ≤ gb373)); have n4_ := jAa.mk ((by rw [hg]; exact (jBj (by repeat (first | (with_reducible first | exact HB.out | apply jAj | apply jAd | apply jAk | refine jAh ?_ GE371.out) | exact HB.out))) : w.heap.size ≤ gb373)); have n5_ := jAa.mk ((by rw [hg]; exact Nat.ne_of_lt (jBu (g := gb371) (o := .cells #[.int .i64 a0_0, .slice (some ad372) l0_1.length c0_1, .slice A0_2 l0_2.length c0_2] 25 (0, 0)) (by (with_reducible repeat (first | refine jAf ?_ _ | refine jAi ?_ | refine jAe ?_ _)); exact BK371.out)) : gb371 ≠ gb373)); have n6_ := jAa.mk ((by rw [hg]; exact Nat.ne_of_gt (jBu (g := gb371) (o := .cells #[.int .i64 a0_0, .slice (some ad372) l0_1.length c0_1, .slice A0_2 l0_2.length c0_2] 25 (0, 0)) (by (with_reducible repeat (first | refine jAf ?_ _ | refine jAi ?_ | refine jAe ?_ _)); exact BK371.out)) : gb373 ≠ gb371)); clear BK371; clear HB; have BK371 := n0_; have HB := n1_; have BK373 := n2_; have GW373 := n3_; have GE373 := n4_; have NB371_373 := n5_; have NB373_371 := n6_; clear n0_ n1_ n2_ n3_ n4_ n5_ n6_; clear hb hbox hg; have hnb14 := NB373_371.out; have hnc14 := NB371_373.out; have hcz15_0 : w13.cell? ⟨gb373, 0, none⟩ = some (.string (⟨#[]⟩ : ByteArray)) := (jAb BK373.out 0).trans rfl; have hcz15_1 : w13.cell? ⟨gb373, 1, none⟩ = some (.int .i64 0) := (jAb BK373.out 1).trans rfl; have hcz15_2 : w13.cell? ⟨gb373, 2, none⟩ = some (.slice none 0 0) := (jAb BK373.out 2).trans rfl; have hcz15_3 : w13.cell? ⟨gb373, 3, none⟩ = some (.slice none 0 0) := (jAb BK373.out 3).trans rfl; have hfz15_0 := jAg BK373.out 0; have hfz15_1 := jAg BK373.out 1; have hfz15_2 := jAg BK373.out 2; have hfz15_3 := jAg BK373.out 3))
         (try simp only [Act.put, List.setIfInBounds_toArray, List.set_cons_zero, List.set_cons_succ])
         go_cut [33] (fun v33 wc => ∃ (kq : Nat) (x33_11 : Bool), v33 = .bool x33_11 ∧ jAa (jAv.j2 kq l0_1 (l0_1.length : Int) x20_2 x33_11 ((jAl l0_1 x20_2).f0) ((jAl l0_1 x20_2).f1) ((jAl l0_1 x20_2).f2) ((jAl l0_1 x20_2).f3) = some r) ∧ jAa (kq ≤ k2) ∧ jAa (wc.heap[gb371]? = some (.cells #[.int .i64 a0_0, (.slice (some ad372) l0_1.length c0_1), (.slice A0_2 l0_2.length c0_2)] 25 (0, 0))) ∧ jAa (wc.heap[gb373]? = some (.cells #[.string ((jAl l0_1 x20_2).f0), .int .i64 ((jAl l0_1 x20_2).f1), (.slice A372_2 ((jAl l0_1 x20_2).f2).length c372_2), (.slice A372_3 ((jAl l0_1 x20_2).f3).length c372_3)] 45 (0, 0))) ∧ jAa (Below w.heap.size w wc))
         case first =>
          have H := HC12.out
          clear HC12
          by_cases c16 : (((jAl l0_1 x20_2).f2).length : Int) > 6
          ·rw [if_pos c16] at H
           have c16b0 : decide (6 < (((jAl l0_1 x20_2).f2).length : Int)) = true := decide_eq_true c16
           have c16b1 : decide (6 < ((jAl l0_1 x20_2).f2).length) = true := decide_eq_true (by omega)
           clear c16
           (first | rw [c16b0] | (simp only [i64_w, i32_w]; rw [c16b0]) | skip)
           have H' := jAa.mk H
           clear H
           have hnb17 := NB373_371.out
           have hnc17 := NB371_373.out
           have hcz18_0 : w13.cell? ⟨gb373, 0, none⟩ = some (.string (⟨#[]⟩ : ByteArray)) := (jAb BK373.out 0).trans rfl
           have hcz18_1 : w13.cell? ⟨gb373, 1, none⟩ = some (.int .i64 0) := (jAb BK373.out 1).trans rfl
           have hcz18_2 : w13.cell? ⟨gb373, 2, none⟩ = some (.slice none 0 0) := (jAb BK373.out 2).trans rfl
           have hcz18_3 : w13.cell? ⟨gb373, 3, none⟩ = some (.slice none 0 0) := (jAb BK373.out 3).trans rfl
           have hfz18_0 := jAg BK373.out 0
           have hfz18_1 := jAg BK373.out 1
           have hfz18_2 := jAg BK373.out 2
           have hfz18_3 := jAg BK373.out 3
           go_wp2
           go_meet
           case rel => exact ⟨_, (true), (by first | rfl | (simp; done) | (simp [*]; done)), H', ⟨by have := HJ1.out; have := HK2.out; first | omega | exact Nat.le_refl _⟩, ⟨by (with_reducible repeat (first | refine jAf ?_ _ | refine jAi ?_ | refine jAe ?_ _)); refine jBa ?_ NB371_373.out _; (with_reducible repeat (first | refine jAf ?_ _ | refine jAi ?_ | refine jAe ?_ _)); refine jBa ?_ NB371_373.out _; (with_reducible repeat (first | refine jAf ?_ _ | refine jAi ?_ | refine jAe ?_ _)); refine jBa ?_ NB371_373.out _; (with_reducible repeat (first | refine jAf ?_ _ | refine jAi ?_ | refine jAe ?_ _)); refine jBa ?_ NB371_373.out _; (with_reducible repeat (first | refine jAf ?_ _ | refine jAi ?_ | refine jAe ?_ _)); exact BK371.out⟩, ⟨by (with_reducible repeat (first | refine jAf ?_ _ | refine jAi ?_ | refine jAe ?_ _)); refine jBf (cs := #[.string ((jAl l0_1 x20_2).f0), .int .i64 ((jAl l0_1 x20_2).f1), .slice A372_2 ((jAl l0_1 x20_2).f2).length c372_2, .slice none 0 0]) ?_ 3 _ rfl; (with_reducible repeat (first | refine jAf ?_ _ | refine jAi ?_ | refine jAe ?_ _)); refine jBf (cs := #[.string ((jAl l0_1 x20_2).f0), .int .i64 ((jAl l0_1 x20_2).f1), .slice none 0 0, .slice none 0 0]) ?_ 2 _ rfl; (with_reducible repeat (first | refine jAf ?_ _ | refine jAi ?_ | refine jAe ?_ _)); refine jBf (cs := #[.string ((jAl l0_1 x20_2).f0), .int .i64 0, .slice none 0 0, .slice none 0 0]) ?_ 1 _ rfl; (with_reducible repeat (first | refine jAf ?_ _ | refine jAi ?_ | refine jAe ?_ _)); refine jBf (cs := #[.string (⟨#[]⟩ : ByteArray), .int .i64 0, .slice none 0 0, .slice none 0 0]) ?_ 0 _ rfl; (with_reducible repeat (first | refine jAf ?_ _ | refine jAi ?_ | refine jAe ?_ _)); exact BK373.out⟩, ⟨by repeat (first | (with_reducible first | exact HB.out | apply jAj | apply jAd | apply jAk | refine jAh ?_ GE371.out | refine jAh ?_ GE373.out) | exact HB.out)⟩⟩
          ·rw [if_neg c16] at H
           have c16b0 : decide (6 < (((jAl l0_1 x20_2).f2).length : Int)) = false := decide_eq_false c16
           have c16b1 : decide (6 < ((jAl l0_1 x20_2).f2).length) = false := decide_eq_false (by omega)
           clear c16
           (first | rw [c16b0] | (simp only [i64_w, i32_w]; rw [c16b0]) | skip)
           have H' := jAa.mk H
           clear H
           have hnb19 := NB373_371.out
           have hnc19 := NB371_373.out
           have hcz20_0 : w13.cell? ⟨gb373, 0, none⟩ = some (.string (⟨#[]⟩ : ByteArray)) := (jAb BK373.out 0).trans rfl
           have hcz20_1 : w13.cell? ⟨gb373, 1, none⟩ = some (.int .i64 0) := (jAb BK373.out 1).trans rfl
           have hcz20_2 : w13.cell? ⟨gb373, 2, none⟩ = some (.slice none 0 0) := (jAb BK373.out 2).trans rfl
           have hcz20_3 : w13.cell? ⟨gb373, 3, none⟩ = some (.slice none 0 0) := (jAb BK373.out 3).trans rfl
           have hfz20_0 := jAg BK373.out 0
           have hfz20_1 := jAg BK373.out 1
           have hfz20_2 := jAg BK373.out 2
           have hfz20_3 := jAg BK373.out 3
           go_wp2
           go_meet
           case rel => exact ⟨_, (decide ((((jAl l0_1 x20_2).f3).length : Int) > 4)), (by first | rfl | (simp; done) | (simp [*]; done)), H', ⟨by have := HJ1.out; have := HK2.out; first | omega | exact Nat.le_refl _⟩, ⟨by (with_reducible repeat (first | refine jAf ?_ _ | refine jAi ?_ | refine jAe ?_ _)); refine jBa ?_ NB371_373.out _; (with_reducible repeat (first | refine jAf ?_ _ | refine jAi ?_ | refine jAe ?_ _)); refine jBa ?_ NB371_373.out _; (with_reducible repeat (first | refine jAf ?_ _ | refine jAi ?_ | refine jAe ?_ _)); refine jBa ?_ NB371_373.out _; (with_reducible repeat (first | refine jAf ?_ _ | refine jAi ?_ | refine jAe ?_ _)); refine jBa ?_ NB371_373.out _; (with_reducible repeat (first | refine jAf ?_ _ | refine jAi ?_ | refine jAe ?_ _)); exact BK371.out⟩, ⟨by (with_reducible repeat (first | refine jAf ?_ _ | refine jAi ?_ | refine jAe ?_ _)); refine jBf (cs := #[.string ((jAl l0_1 x20_2).f0), .int .i64 ((jAl l0_1 x20_2).f1), .slice A372_2 ((jAl l0_1 x20_2).f2).length c372_2, .slice none 0 0]) ?_ 3 _ rfl; (with_reducible repeat (first | refine jAf ?_ _ | refine jAi ?_ | refine jAe ?_ _)); refine jBf (cs := #[.string ((jAl l0_1 x20_2).f0), .int .i64 ((jAl l0_1 x20_2).f1), .slice none 0 0, .slice none 0 0]) ?_ 2 _ rfl; (with_reducible repeat (first | refine jAf ?_ _ | refine jAi ?_ | refine jAe ?_ _)); refine jBf (cs := #[.string ((jAl l0_1 x20_2).f0), .int .i64 0, .slice none 0 0, .slice none 0 0]) ?_ 1 _ rfl; (with_reducible repeat (first | refine jAf ?_ _ | refine jAi ?_ | refine jAe ?_ _)); refine jBf (cs := #[.string (⟨#[]⟩ : ByteArray), .int .i64 0, .slice none 0 0, .slice none 0 0]) ?_ 0 _ rfl; (with_reducible repeat (first | refine jAf ?_ _ | refine jAi ?_ | refine jAe ?_ _)); exact BK373.out⟩, ⟨by repeat (first | (with_reducible first | exact HB.out | apply jAj | apply jAd | apply jAk | refine jAh ?_ GE371.out | refine jAh ?_ GE373.out) | exact HB.out)⟩⟩
         case rest =>
          clear HC12
          try clear c1
          try clear p2
          try clear c3
          try clear p3
          try clear q3
          try clear hx3
          try clear c4
          try clear c4b0
          try clear c4b1
          try clear c7
          try clear c9
          try clear c9b0
          try clear c10
          try clear c10b0
          try clear c11
          try clear c11b0
          try clear c14
          try clear c16
          try clear c16b0
          try clear c16b1
          try clear c17
          try clear c19
          try clear hcz15_0
          try clear hcz15_1
          try clear hcz15_2
          try clear hcz15_3
          try clear hcz18_0
          try clear hcz18_1
          try clear hcz18_2
          try clear hcz18_3
          try clear hcz20_0
          try clear hcz20_1
          try clear hcz20_2
          try clear hcz20_3
          try clear hcz5_0
          try clear hcz5_1
          try clear hcz5_2
          try clear hcz6_0
          try clear hcz6_1
          try clear hcz6_2
          try clear hcz8_0
          try clear hcz8_1
          try clear hcz8_2
          try clear hfz15_0
          try clear hfz15_1
          try clear hfz15_2
          try clear hfz15_3
          try clear hfz18_0
          try clear hfz18_1
          try clear hfz18_2
          try clear hfz18_3
          try clear hfz20_0
          try clear hfz20_1
          try clear hfz20_2
          try clear hfz20_3
          try clear hfz5_0
          try clear hfz5_1
          try clear hfz5_2
          try clear hfz6_0
          try clear hfz6_1
          try clear hfz6_2
          try clear hfz8_0
          try clear hfz8_1
          try clear hfz8_2
          try clear hx372_0
          try clear hx372_1
          try clear hx372_2
          try clear hx372_3
          try clear p2
          try clear p372
          try clear q372
          obtain ⟨kq, x33_11, rfl, HA, HJ11, BK371, BK373, HB⟩ := hcut
          cases kq with
          | zero => exact absurd HA.out (by simp [jAv.j2])
          | succ kj11 =>
           have H := HA.out
           clear HA
           simp only [jAv.j2] at H
           by_cases c21 : x33_11 = true
           ·subst c21
            have H1 : (some false) = some r := by rw [if_pos rfl] at H; exact H
            clear H
            have H := H1
            clear H1
            obtain rfl := Option.some.inj H
            go_wp2
            go_ret
            exact ⟨by first | rfl | (simp [jBd, jBe] <;> rfl) | (simp [*, jBd, jBe] <;> rfl), by repeat (first | (with_reducible first | exact HB.out | apply jAj | apply jAd | apply jAk | refine jAh ?_ GE371.out | refine jAh ?_ GE373.out) | exact HB.out)⟩
           ·replace c21 := Bool.eq_false_iff.mpr c21
            subst c21
            have H1 : (jAv.l1 kj11 l0_1 (l0_1.length : Int) x20_2 ((jAl l0_1 x20_2).f3) (((jAl l0_1 x20_2).f3).length : Int) 0) = some r := by rw [if_neg (show ¬ (false = true) by decide)] at H; exact H
            clear H
            have H := H1
            clear H1
            have H' := jAa.mk H
            clear H
            have hnb22 := NB373_371.out
            have hnc22 := NB371_373.out
            have hcz23_0 : wc.cell? ⟨gb373, 0, none⟩ = some (.string ((jAl l0_1 x20_2).f0)) := (jAb BK373.out 0).trans rfl
            have hcz23_1 : wc.cell? ⟨gb373, 1, none⟩ = some (.int .i64 ((jAl l0_1 x20_2).f1)) := (jAb BK373.out 1).trans rfl
            have hcz23_2 : wc.cell? ⟨gb373, 2, none⟩ = some (.slice A372_2 ((jAl l0_1 x20_2).f2).length c372_2) := (jAb BK373.out 2).trans rfl
            have hcz23_3 : wc.cell? ⟨gb373, 3, none⟩ = some (.slice A372_3 ((jAl l0_1 x20_2).f3).length c372_3) := (jAb BK373.out 3).trans rfl
            have hfz23_0 := jAg BK373.out 0
            have hfz23_1 := jAg BK373.out 1
            have hfz23_2 := jAg BK373.out 2
            have hfz23_3 := jAg BK373.out 3
            go_wp2
            go_loopg [37] kj11 (fun kq v37 w' => ∃ (x37_4 : Int), v37 = .int .i64 x37_4 ∧ jAa (jAv.l1 kq l0_1 (l0_1.length : Int) x20_2 ((jAl l0_1 x20_2).f3) (((jAl l0_1 x20_2).f3).length : Int) x37_4 = some r) ∧ jAa (kq ≤ kj11) ∧ jAa (w'.heap[gb371]? = some (.cells #[.int .i64 a0_0, (.slice (some ad372) l0_1.length c0_1), (.slice A0_2 l0_2.length c0_2)] 25 (0, 0))) ∧ jAa (w'.heap[gb373]? = some (.cells #[.string ((jAl l0_1 x20_2).f0), .int .i64 ((jAl l0_1 x20_2).f1), (.slice A372_2 ((jAl l0_1 x20_2).f2).length c372_2), (.slice A372_3 ((jAl l0_1 x20_2).f3).length c372_3)] 45 (0, 0))) ∧ jAa (Below w.heap.size w w'))
            case atStart => exact ⟨(0), (by first | rfl | (simp; done) | (simp [*]; done)), H', ⟨Nat.le_refl _⟩, ⟨by (with_reducible repeat (first | refine jAf ?_ _ | refine jAi ?_ | refine jAe ?_ _)); exact BK371.out⟩, ⟨by (with_reducible repeat (first | refine jAf ?_ _ | refine jAi ?_ | refine jAe ?_ _)); exact BK373.out⟩, ⟨by repeat (first | (with_reducible first | exact HB.out | apply jAj | apply jAd | apply jAk | refine jAh ?_ GE371.out | refine jAh ?_ GE373.out) | exact HB.out)⟩⟩
            case round =>
             clear H'
             try clear c1
             try clear c2
             try clear p2
             try clear c3
             try clear p3
             try clear q3
             try clear hx3
             try clear c4
             try clear c4b0
             try clear c4b1
             try clear c7
             try clear c9
             try clear c9b0
             try clear c10
             try clear c10b0
             try clear c11
             try clear c11b0
             try clear c14
             try clear c16
             try clear c16b0
             try clear c16b1
             try clear c17
             try clear c19
             try clear c21
             try clear c22
             try clear hcz15_0
             try clear hcz15_1
             try clear hcz15_2
             try clear hcz15_3
             try clear hcz18_0
             try clear hcz18_1
             try clear hcz18_2
             try clear hcz18_3
             try clear hcz20_0
             try clear hcz20_1
             try clear hcz20_2
             try clear hcz20_3
             try clear hcz23_0
             try clear hcz23_1
             try clear hcz23_2
             try clear hcz23_3
             try clear hcz5_0
             try clear hcz5_1
             try clear hcz5_2
             try clear hcz6_0
             try clear hcz6_1
             try clear hcz6_2
             try clear hcz8_0
             try clear hcz8_1
             try clear hcz8_2
             try clear hfz15_0
             try clear hfz15_1
             try clear hfz15_2
             try clear hfz15_3
             try clear hfz18_0
             try clear hfz18_1
             try clear hfz18_2
             try clear hfz18_3
             try clear hfz20_0
             try clear hfz20_1
             try clear hfz20_2
             try clear hfz20_3
             try clear hfz23_0
             try clear hfz23_1
             try clear hfz23_2
             try clear hfz23_3
             try clear hfz5_0
             try clear hfz5_1
             try clear hfz5_2
             try clear hfz6_0
             try clear hfz6_1
             try clear hfz6_2
             try clear hfz8_0
             try clear hfz8_1
             try clear hfz8_2
             try clear hx372_0
             try clear hx372_1
             try clear hx372_2
             try clear hx372_3
             try clear p2
             try clear p3
             try clear p372
             try clear q3
             try clear q372
             obtain ⟨x37_4, rfl, HA, HK4, BK371, BK373, HB⟩ := hrel
             cases gk with
             | zero => exact absurd HA.out (by simp [jAv.l1])
             | succ k4 =>
              have H := HA.out
              clear HA
              simp only [jAv.l1] at H
              by_cases c24 : x37_4 < (((jAl l0_1 x20_2).f3).length : Int)
              ·rw [if_pos c24] at H
               have c24b0 : decide (x37_4 < (((jAl l0_1 x20_2).f3).length : Int)) = true := decide_eq_true c24
               clear c24
               by_cases c25 : 0 ≤ x37_4
               ·rw [if_pos c25] at H
                have c25b0 : decide (0 ≤ x37_4) = true := decide_eq_true c25
                clear c25
                by_cases c26 : x37_4 < (((jAl l0_1 x20_2).f3).length : Int)
                ·rw [if_pos c26] at H
                 have c26b0 : decide (x37_4 < (((jAl l0_1 x20_2).f3).length : Int)) = true := decide_eq_true c26
                 clear c26
                 replace H := Option.bind_eq_some_iff.mp H
                 obtain ⟨t376, A270, H⟩ := H
                 replace H : (if t376 = true then (jAv.l1 k4 l0_1 (l0_1.length : Int) x20_2 ((jAl l0_1 x20_2).f3) (((jAl l0_1 x20_2).f3).length : Int) (wrap64 (x37_4 + 1))) else (some false)) = some r := H
                 have A27 := jAa.mk A270
                 clear A270
                 by_cases c28 : t376 = true
                 ·subst c28
                  have H1 : (jAv.l1 k4 l0_1 (l0_1.length : Int) x20_2 ((jAl l0_1 x20_2).f3) (((jAl l0_1 x20_2).f3).length : Int) (wrap64 (x37_4 + 1))) = some r := by rw [if_pos rfl] at H; exact H
                  clear H
                  have H := H1
                  clear H1
                  have H' := jAa.mk H
                  clear H
                  have p374 : 0 ≤ (x37_4 : Int) := of_decide_eq_true (by first | (with_reducible assumption) | assumption)
                  have q374 : x37_4 < (((jAl l0_1 x20_2).f3).length : Int) := of_decide_eq_true (by first | (with_reducible assumption) | assumption)
                  obtain ⟨ad374, A374_5, c374_5, e374, hx374_0, hx374_1, hx374_2, hx374_3, hx374_4, hx374_5, hl374_5, hi374_5⟩ := jDx HR372_3.out x37_4 p374 q374
                  cases e374
                  replace hx374_0 := (HB.out.cell (World.block_lt_of_cell? w _ hx374_0)).trans hx374_0
                  replace hx374_1 := (HB.out.cell (World.block_lt_of_cell? w _ hx374_1)).trans hx374_1
                  replace hx374_2 := (HB.out.cell (World.block_lt_of_cell? w _ hx374_2)).trans hx374_2
                  replace hx374_3 := (HB.out.cell (World.block_lt_of_cell? w _ hx374_3)).trans hx374_3
                  replace hx374_4 := (HB.out.cell (World.block_lt_of_cell? w _ hx374_4)).trans hx374_4
                  replace hx374_5 := (HB.out.cell (World.block_lt_of_cell? w _ hx374_5)).trans hx374_5
                  have HR374_5 := jAa.mk hi374_5
                  have HC374_5 := jAa.mk hl374_5
                  clear hi374_5 hl374_5
                  replace p374 := eq_true p374
                  replace q374 := eq_true q374
                  go_wp2_with (first | ((with_reducible refine jCa (N := 6) rfl ?_); (try (refine jDr (by rfl) ?_; dsimp only)); refine jBv ?hg (N := 6) ?hd (cs := #[.int .i64 0, .int .i64 0, .int .i64 0, .int .i64 0, .string (⟨#[]⟩ : ByteArray), .slice none 0 0]) (t := 72) ?hr ?_; (case hd => rfl); (case hg => rfl); (case hr => first | (go_simp; done) | (go_simp; rfl)); intro gb375 hg w29 hbox hb; have n0_ := jAa.mk (jAp (g := gb371) (o := .cells #[.int .i64 a0_0, .slice (some ad372) l0_1.length c0_1, .slice A0_2 l0_2.length c0_2] 25 (0, 0)) (by (with_reducible repeat (first | refine jAf ?_ _ | refine jAi ?_ | refine jAe ?_ _)); exact BK371.out) hb); have n1_ := jAa.mk (jAp (g := gb373) (o := .cells #[.string ((jAl l0_1 x20_2).f0), .int .i64 ((jAl l0_1 x20_2).f1), .slice A372_2 ((jAl l0_1 x20_2).f2).length c372_2, .slice (some ad374) ((jAl l0_1 x20_2).f3).length c372_3] 45 (0, 0)) (by (with_reducible repeat (first | refine jAf ?_ _ | refine jAi ?_ | refine jAe ?_ _)); exact BK373.out) hb); have n2_ := jAa.mk (jAu (by repeat (first | (with_reducible first | exact HB.out | apply jAj | apply jAd | apply jAk | refine jAh ?_ GE371.out | refine jAh ?_ GE373.out) | exact HB.out)) hb); have n3_ := jAa.mk (hbox); have n4_ := jAa.mk ((by rw [hg]; exact (jBj (by repeat (first | (with_reducible first | exact HB.out | apply jAj | apply jAd | apply jAk | refine jAh ?_ GE371.out | refine jAh ?_ GE373.out) | exact HB.out))) : w.heap.size ≤ gb375)); have n5_ := jAa.mk ((by rw [hg]; exact (jBj (by repeat (first | (with_reducible first | exact HB.out | apply jAj | apply jAd | apply jAk | refine jAh ?_ GE371.out | refine jAh ?_ GE373.out) | exact HB.out))) : w.heap.size ≤ gb375)); have n6_ := jAa.mk ((by rw [hg]; exact Nat.ne_of_lt (jBu (g := gb371) (o := .cells #[.int .i64 a0_0, .slice (some ad372) l0_1.length c0_1, .slice A0_2 l0_2.length c0_2] 25 (0, 0)) (by (with_reducible repeat (first | refine jAf ?_ _ | refine jAi ?_ | refine jAe ?_ _)); exact BK371.out)) : gb371 ≠ gb375)); have n7_ := jAa.mk ((by rw [hg]; exact Nat.ne_of_gt (jBu (g := gb371) (o := .cells #[.int .i64 a0_0, .slice (some ad372) l0_1.length c0_1, .slice A0_2 l0_2.length c0_2] 25 (0, 0)) (by (with_reducible repeat (first | refine jAf ?_ _ | refine jAi ?_ | refine jAe ?_ _)); exact BK371.out)) : gb375 ≠ gb371)); have n8_ := jAa.mk ((by rw [hg]; exact Nat.ne_of_lt (jBu (g := gb373) (o := .cells #[.string ((jAl l0_1 x20_2).f0), .int .i64 ((jAl l0_1 x20_2).f1), .slice A372_2 ((jAl l0_1 x20_2).f2).length c372_2, .slice (some ad374) ((jAl l0_1 x20_2).f3).length c372_3] 45 (0, 0)) (by (with_reducible repeat (first | refine jAf ?_ _ | refine jAi ?_ | refine jAe ?_ _)); exact BK373.out)) : gb373 ≠ gb375)); have n9_ := jAa.mk ((by rw [hg]; exact Nat.ne_of_gt (jBu (g := gb373) (o := .cells #[.string ((jAl l0_1 x20_2).f0), .int .i64 ((jAl l0_1 x20_2).f1), .slice A372_2 ((jAl l0_1 x20_2).f2).length c372_2, .slice (some ad374) ((jAl l0_1 x20_2).f3).length c372_3] 45 (0, 0)) (by (with_reducible repeat (first | refine jAf ?_ _ | refine jAi ?_ | refine jAe ?_ _)); exact BK373.out)) : gb375 ≠ gb373)); clear BK371; clear BK373; clear HB; have BK371 := n0_; have BK373 := n1_; have HB := n2_; have BK375 := n3_; have GW375 := n4_; have GE375 := n5_; have NB371_375 := n6_; have NB375_371 := n7_; have NB373_375 := n8_; have NB375_373 := n9_; clear n0_ n1_ n2_ n3_ n4_ n5_ n6_ n7_ n8_ n9_; clear hb hbox hg; have hnb30 := NB375_371.out; have hnc30 := NB371_375.out; have hnb31 := NB375_373.out; have hnc31 := NB373_375.out; have hcz32_0 : w29.cell? ⟨gb375, 0, none⟩ = some (.int .i64 0) := (jAb BK375.out 0).trans rfl; have hcz32_1 : w29.cell? ⟨gb375, 1, none⟩ = some (.int .i64 0) := (jAb BK375.out 1).trans rfl; have hcz32_2 : w29.cell? ⟨gb375, 2, none⟩ = some (.int .i64 0) := (jAb BK375.out 2).trans rfl; have hcz32_3 : w29.cell? ⟨gb375, 3, none⟩ = some (.int .i64 0) := (jAb BK375.out 3).trans rfl; have hcz32_4 : w29.cell? ⟨gb375, 4, none⟩ = some (.string (⟨#[]⟩ : ByteArray)) := (jAb BK375.out 4).trans rfl; have hcz32_5 : w29.cell? ⟨gb375, 5, none⟩ = some (.slice none 0 0) := (jAb BK375.out 5).trans rfl; have hfz32_0 := jAg BK375.out 0; have hfz32_1 := jAg BK375.out 1; have hfz32_2 := jAg BK375.out 2; have hfz32_3 := jAg BK375.out 3; have hfz32_4 := jAg BK375.out 4; have hfz32_5 := jAg BK375.out 5) | ((with_reducible refine jBl (f := 70) rfl ?_); refine jCe (some 42) rfl rfl Tryd.func70 (by kernel_rfl) rfl #[.agg #[.int .i64 ((jAq ((jAl l0_1 x20_2).f3) x37_4).f0), .int .i64 ((jAq ((jAl l0_1 x20_2).f3) x37_4).f1), .int .i64 ((jAq ((jAl l0_1 x20_2).f3) x37_4).f2.f0), .int .i64 ((jAq ((jAl l0_1 x20_2).f3) x37_4).f2.f1), .string ((jAq ((jAl l0_1 x20_2).f3) x37_4).f2.f2), .slice A374_5 ((jAq ((jAl l0_1 x20_2).f3) x37_4).f3).length c374_5], .int .i64 8] rfl (by (try simp only [List.map_toArray, List.map_cons, List.map_nil]); first | done | rfl | (simp only [List.length_drop, List.length_take]; rfl)) ?_; (with_reducible refine (jAx.calls k4 ((jAq ((jAl l0_1 x20_2).f3) x37_4).f0) ((jAq ((jAl l0_1 x20_2).f3) x37_4).f1) ((jAq ((jAl l0_1 x20_2).f3) x37_4).f2.f0) ((jAq ((jAl l0_1 x20_2).f3) x37_4).f2.f1) ((jAq ((jAl l0_1 x20_2).f3) x37_4).f2.f2) _ _ ((jAq ((jAl l0_1 x20_2).f3) x37_4).f3) 8 true _ ?side1 ?side2 A27.out).mono ?_); (case side1 => exact Kd.C_below HR374_5.out (by repeat (first | (with_reducible first | exact HB.out | apply jAj | apply jAd | apply jAk | refine jAh ?_ GE371.out | refine jAh ?_ GE373.out | refine jAh ?_ GE375.out) | exact HB.out))); (case side2 => exact HC374_5.out); rintro e w33 ⟨rfl, hb⟩; refine ⟨_, rfl, ?_⟩; have n0_ := jAa.mk (jAp (g := gb371) (o := .cells #[.int .i64 a0_0, .slice (some ad372) l0_1.length c0_1, .slice A0_2 l0_2.length c0_2] 25 (0, 0)) (by (with_reducible repeat (first | refine jAf ?_ _ | refine jAi ?_ | refine jAe ?_ _)); refine jBa ?_ NB371_375.out _; (with_reducible repeat (first | refine jAf ?_ _ | refine jAi ?_ | refine jAe ?_ _)); refine jBa ?_ NB371_375.out _; (with_reducible repeat (first | refine jAf ?_ _ | refine jAi ?_ | refine jAe ?_ _)); refine jBa ?_ NB371_375.out _; (with_reducible repeat (first | refine jAf ?_ _ | refine jAi ?_ | refine jAe ?_ _)); refine jBa ?_ NB371_375.out _; (with_reducible repeat (first | refine jAf ?_ _ | refine jAi ?_ | refine jAe ?_ _)); refine jBa ?_ NB371_375.out _; (with_reducible repeat (first | refine jAf ?_ _ | refine jAi ?_ | refine jAe ?_ _)); refine jBa ?_ NB371_375.out _; (with_reducible repeat (first | refine jAf ?_ _ | refine jAi ?_ | refine jAe ?_ _)); exact BK371.out) hb); have n1_ := jAa.mk (jAp (g := gb373) (o := .cells #[.string ((jAl l0_1 x20_2).f0), .int .i64 ((jAl l0_1 x20_2).f1), .slice A372_2 ((jAl l0_1 x20_2).f2).length c372_2, .slice (some ad374) ((jAl l0_1 x20_2).f3).length c372_3] 45 (0, 0)) (by (with_reducible repeat (first | refine jAf ?_ _ | refine jAi ?_ | refine jAe ?_ _)); refine jBa ?_ NB373_375.out _; (with_reducible repeat (first | refine jAf ?_ _ | refine jAi ?_ | refine jAe ?_ _)); refine jBa ?_ NB373_375.out _; (with_reducible repeat (first | refine jAf ?_ _ | refine jAi ?_ | refine jAe ?_ _)); refine jBa ?_ NB373_375.out _; (with_reducible repeat (first | refine jAf ?_ _ | refine jAi ?_ | refine jAe ?_ _)); refine jBa ?_ NB373_375.out _; (with_reducible repeat (first | refine jAf ?_ _ | refine jAi ?_ | refine jAe ?_ _)); refine jBa ?_ NB373_375.out _; (with_reducible repeat (first | refine jAf ?_ _ | refine jAi ?_ | refine jAe ?_ _)); refine jBa ?_ NB373_375.out _; (with_reducible repeat (first | refine jAf ?_ _ | refine jAi ?_ | refine jAe ?_ _)); exact BK373.out) hb); have n2_ := jAa.mk (jAp (g := gb375) (o := .cells #[.int .i64 ((jAq ((jAl l0_1 x20_2).f3) x37_4).f0), .int .i64 ((jAq ((jAl l0_1 x20_2).f3) x37_4).f1), .int .i64 ((jAq ((jAl l0_1 x20_2).f3) x37_4).f2.f0), .int .i64 ((jAq ((jAl l0_1 x20_2).f3) x37_4).f2.f1), .string ((jAq ((jAl l0_1 x20_2).f3) x37_4).f2.f2), .slice A374_5 ((jAq ((jAl l0_1 x20_2).f3) x37_4).f3).length c374_5] 72 (0, 0)) (by (with_reducible repeat (first | refine jAf ?_ _ | refine jAi ?_ | refine jAe ?_ _)); refine jBf (cs := #[.int .i64 ((jAq ((jAl l0_1 x20_2).f3) x37_4).f0), .int .i64 ((jAq ((jAl l0_1 x20_2).f3) x37_4).f1), .int .i64 ((jAq ((jAl l0_1 x20_2).f3) x37_4).f2.f0), .int .i64 ((jAq ((jAl l0_1 x20_2).f3) x37_4).f2.f1), .string ((jAq ((jAl l0_1 x20_2).f3) x37_4).f2.f2), .slice none 0 0]) ?_ 5 _ rfl; (with_reducible repeat (first | refine jAf ?_ _ | refine jAi ?_ | refine jAe ?_ _)); refine jBf (cs := #[.int .i64 ((jAq ((jAl l0_1 x20_2).f3) x37_4).f0), .int .i64 ((jAq ((jAl l0_1 x20_2).f3) x37_4).f1), .int .i64 ((jAq ((jAl l0_1 x20_2).f3) x37_4).f2.f0), .int .i64 ((jAq ((jAl l0_1 x20_2).f3) x37_4).f2.f1), .string (⟨#[]⟩ : ByteArray), .slice none 0 0]) ?_ 4 _ rfl; (with_reducible repeat (first | refine jAf ?_ _ | refine jAi ?_ | refine jAe ?_ _)); refine jBf (cs := #[.int .i64 ((jAq ((jAl l0_1 x20_2).f3) x37_4).f0), .int .i64 ((jAq ((jAl l0_1 x20_2).f3) x37_4).f1), .int .i64 ((jAq ((jAl l0_1 x20_2).f3) x37_4).f2.f0), .int .i64 0, .string (⟨#[]⟩ : ByteArray), .slice none 0 0]) ?_ 3 _ rfl; (with_reducible repeat (first | refine jAf ?_ _ | refine jAi ?_ | refine jAe ?_ _)); refine jBf (cs := #[.int .i64 ((jAq ((jAl l0_1 x20_2).f3) x37_4).f0), .int .i64 ((jAq ((jAl l0_1 x20_2).f3) x37_4).f1), .int .i64 0, .int .i64 0, .string (⟨#[]⟩ : ByteArray), .slice none 0 0]) ?_ 2 _ rfl; (with_reducible repeat (first | refine jAf ?_ _ | refine jAi ?_ | refine jAe ?_ _)); refine jBf (cs := #[.int .i64 ((jAq ((jAl l0_1 x20_2).f3) x37_4).f0), .int .i64 0, .int .i64 0, .int .i64 0, .string (⟨#[]⟩ : ByteArray), .slice none 0 0]) ?_ 1 _ rfl; (with_reducible repeat (first | refine jAf ?_ _ | refine jAi ?_ | refine jAe ?_ _)); refine jBf (cs := #[.int .i64 0, .int .i64 0, .int .i64 0, .int .i64 0, .string (⟨#[]⟩ : ByteArray), .slice none 0 0]) ?_ 0 _ rfl; (with_reducible repeat (first | refine jAf ?_ _ | refine jAi ?_ | refine jAe ?_ _)); exact BK375.out) hb); have n3_ := jAa.mk (jAu (by repeat (first | (with_reducible first | exact HB.out | apply jAj | apply jAd | apply jAk | refine jAh ?_ GE371.out | refine jAh ?_ GE373.out | refine jAh ?_ GE375.out) | exact HB.out)) hb); clear BK371; clear BK373; clear BK375; clear HB; have BK371 := n0_; have BK373 := n1_; have BK375 := n2_; have HB := n3_; clear n0_ n1_ n2_ n3_; (try clear hb); (try clear hb2); (try clear hk); (try clear hi)))
                  go_roundg k4
                  case measure => have := HJ1.out; have := HK2.out; have := HJ11.out; have := HK4.out; omega
                  case rel => exact ⟨(wrap64 (x37_4 + 1)), (by first | rfl | (simp; done) | (simp [*]; done)), H', ⟨by have := HJ1.out; have := HK2.out; have := HJ11.out; have := HK4.out; omega⟩, ⟨by (with_reducible repeat (first | refine jAf ?_ _ | refine jAi ?_ | refine jAe ?_ _)); exact BK371.out⟩, ⟨by (with_reducible repeat (first | refine jAf ?_ _ | refine jAi ?_ | refine jAe ?_ _)); exact BK373.out⟩, ⟨by repeat (first | (with_reducible first | exact HB.out | apply jAj | apply jAd | apply jAk | refine jAh ?_ GE371.out | refine jAh ?_ GE373.out | refine jAh ?_ GE375.out) | exact HB.out)⟩⟩
                 ·replace c28 := Bool.eq_false_iff.mpr c28
                  subst c28
                  have H1 : (some false) = some r := by rw [if_neg (show ¬ (false = true) by decide)] at H; exact H
                  clear H
                  have H := H1
                  clear H1
                  obtain rfl := Option.some.inj H
                  have p374 : 0 ≤ (x37_4 : Int) := of_decide_eq_true (by first | (with_reducible assumption) | assumption)
                  have q374 : x37_4 < (((jAl l0_1 x20_2).f3).length : Int) := of_decide_eq_true (by first | (with_reducible assumption) | assumption)
                  obtain ⟨ad374, A374_5, c374_5, e374, hx374_0, hx374_1, hx374_2, hx374_3, hx374_4, hx374_5, hl374_5, hi374_5⟩ := jDx HR372_3.out x37_4 p374 q374
                  cases e374
                  replace hx374_0 := (HB.out.cell (World.block_lt_of_cell? w _ hx374_0)).trans hx374_0
                  replace hx374_1 := (HB.out.cell (World.block_lt_of_cell? w _ hx374_1)).trans hx374_1
                  replace hx374_2 := (HB.out.cell (World.block_lt_of_cell? w _ hx374_2)).trans hx374_2
                  replace hx374_3 := (HB.out.cell (World.block_lt_of_cell? w _ hx374_3)).trans hx374_3
                  replace hx374_4 := (HB.out.cell (World.block_lt_of_cell? w _ hx374_4)).trans hx374_4
                  replace hx374_5 := (HB.out.cell (World.block_lt_of_cell? w _ hx374_5)).trans hx374_5
                  have HR374_5 := jAa.mk hi374_5
                  have HC374_5 := jAa.mk hl374_5
                  clear hi374_5 hl374_5
                  replace p374 := eq_true p374
                  replace q374 := eq_true q374
                  go_wp2_with (first | ((with_reducible refine jCa (N := 6) rfl ?_); (try (refine jDr (by rfl) ?_; dsimp only)); refine jBv ?hg (N := 6) ?hd (cs := #[.int .i64 0, .int .i64 0, .int .i64 0, .int .i64 0, .string (⟨#[]⟩ : ByteArray), .slice none 0 0]) (t := 72) ?hr ?_; (case hd => rfl); (case hg => rfl); (case hr => first | (go_simp; done) | (go_simp; rfl)); intro gb375 hg w34 hbox hb; have n0_ := jAa.mk (jAp (g := gb371) (o := .cells #[.int .i64 a0_0, .slice (some ad372) l0_1.length c0_1, .slice A0_2 l0_2.length c0_2] 25 (0, 0)) (by (with_reducible repeat (first | refine jAf ?_ _ | refine jAi ?_ | refine jAe ?_ _)); exact BK371.out) hb); have n1_ := jAa.mk (jAp (g := gb373) (o := .cells #[.string ((jAl l0_1 x20_2).f0), .int .i64 ((jAl l0_1 x20_2).f1), .slice A372_2 ((jAl l0_1 x20_2).f2).length c372_2, .slice (some ad374) ((jAl l0_1 x20_2).f3).length c372_3] 45 (0, 0)) (by (with_reducible repeat (first | refine jAf ?_ _ | refine jAi ?_ | refine jAe ?_ _)); exact BK373.out) hb); have n2_ := jAa.mk (jAu (by repeat (first | (with_reducible first | exact HB.out | apply jAj | apply jAd | apply jAk | refine jAh ?_ GE371.out | refine jAh ?_ GE373.out) | exact HB.out)) hb); have n3_ := jAa.mk (hbox); have n4_ := jAa.mk ((by rw [hg]; exact (jBj (by repeat (first | (with_reducible first | exact HB.out | apply jAj | apply jAd | apply jAk | refine jAh ?_ GE371.out | refine jAh ?_ GE373.out) | exact HB.out))) : w.heap.size ≤ gb375)); have n5_ := jAa.mk ((by rw [hg]; exact (jBj (by repeat (first | (with_reducible first | exact HB.out | apply jAj | apply jAd | apply jAk | refine jAh ?_ GE371.out | refine jAh ?_ GE373.out) | exact HB.out))) : w.heap.size ≤ gb375)); have n6_ := jAa.mk ((by rw [hg]; exact Nat.ne_of_lt (jBu (g := gb371) (o := .cells #[.int .i64 a0_0, .slice (some ad372) l0_1.length c0_1, .slice A0_2 l0_2.length c0_2] 25 (0, 0)) (by (with_reducible repeat (first | refine jAf ?_ _ | refine jAi ?_ | refine jAe ?_ _)); exact BK371.out)) : gb371 ≠ gb375)); have n7_ := jAa.mk ((by rw [hg]; exact Nat.ne_of_gt (jBu (g := gb371) (o := .cells #[.int .i64 a0_0, .slice (some ad372) l0_1.length c0_1, .slice A0_2 l0_2.length c0_2] 25 (0, 0)) (by (with_reducible repeat (first | refine jAf ?_ _ | refine jAi ?_ | refine jAe ?_ _)); exact BK371.out)) : gb375 ≠ gb371)); have n8_ := jAa.mk ((by rw [hg]; exact Nat.ne_of_lt (jBu (g := gb373) (o := .cells #[.string ((jAl l0_1 x20_2).f0), .int .i64 ((jAl l0_1 x20_2).f1), .slice A372_2 ((jAl l0_1 x20_2).f2).length c372_2, .slice (some ad374) ((jAl l0_1 x20_2).f3).length c372_3] 45 (0, 0)) (by (with_reducible repeat (first | refine jAf ?_ _ | refine jAi ?_ | refine jAe ?_ _)); exact BK373.out)) : gb373 ≠ gb375)); have n9_ := jAa.mk ((by rw [hg]; exact Nat.ne_of_gt (jBu (g := gb373) (o := .cells #[.string ((jAl l0_1 x20_2).f0), .int .i64 ((jAl l0_1 x20_2).f1), .slice A372_2 ((jAl l0_1 x20_2).f2).length c372_2, .slice (some ad374) ((jAl l0_1 x20_2).f3).length c372_3] 45 (0, 0)) (by (with_reducible repeat (first | refine jAf ?_ _ | refine jAi ?_ | refine jAe ?_ _)); exact BK373.out)) : gb375 ≠ gb373)); clear BK371; clear BK373; clear HB; have BK371 := n0_; have BK373 := n1_; have HB := n2_; have BK375 := n3_; have GW375 := n4_; have GE375 := n5_; have NB371_375 := n6_; have NB375_371 := n7_; have NB373_375 := n8_; have NB375_373 := n9_; clear n0_ n1_ n2_ n3_ n4_ n5_ n6_ n7_ n8_ n9_; clear hb hbox hg; have hnb35 := NB375_371.out; have hnc35 := NB371_375.out; have hnb36 := NB375_373.out; have hnc36 := NB373_375.out; have hcz37_0 : w34.cell? ⟨gb375, 0, none⟩ = some (.int .i64 0) := (jAb BK375.out 0).trans rfl; have hcz37_1 : w34.cell? ⟨gb375, 1, none⟩ = some (.int .i64 0) := (jAb BK375.out 1).trans rfl; have hcz37_2 : w34.cell? ⟨gb375, 2, none⟩ = some (.int .i64 0) := (jAb BK375.out 2).trans rfl; have hcz37_3 : w34.cell? ⟨gb375, 3, none⟩ = some (.int .i64 0) := (jAb BK375.out 3).trans rfl; have hcz37_4 : w34.cell? ⟨gb375, 4, none⟩ = some (.string (⟨#[]⟩ : ByteArray)) := (jAb BK375.out 4).trans rfl; have hcz37_5 : w34.cell? ⟨gb375, 5, none⟩ = some (.slice none 0 0) := (jAb BK375.out 5).trans rfl; have hfz37_0 := jAg BK375.out 0; have hfz37_1 := jAg BK375.out 1; have hfz37_2 := jAg BK375.out 2; have hfz37_3 := jAg BK375.out 3; have hfz37_4 := jAg BK375.out 4; have hfz37_5 := jAg BK375.out 5) | ((with_reducible refine jBl (f := 70) rfl ?_); refine jCe (some 42) rfl rfl Tryd.func70 (by kernel_rfl) rfl #[.agg #[.int .i64 ((jAq ((jAl l0_1 x20_2).f3) x37_4).f0), .int .i64 ((jAq ((jAl l0_1 x20_2).f3) x37_4).f1), .int .i64 ((jAq ((jAl l0_1 x20_2).f3) x37_4).f2.f0), .int .i64 ((jAq ((jAl l0_1 x20_2).f3) x37_4).f2.f1), .string ((jAq ((jAl l0_1 x20_2).f3) x37_4).f2.f2), .slice A374_5 ((jAq ((jAl l0_1 x20_2).f3) x37_4).f3).length c374_5], .int .i64 8] rfl (by (try simp only [List.map_toArray, List.map_cons, List.map_nil]); first | done | rfl | (simp only [List.length_drop, List.length_take]; rfl)) ?_; (with_reducible refine (jAx.calls k4 ((jAq ((jAl l0_1 x20_2).f3) x37_4).f0) ((jAq ((jAl l0_1 x20_2).f3) x37_4).f1) ((jAq ((jAl l0_1 x20_2).f3) x37_4).f2.f0) ((jAq ((jAl l0_1 x20_2).f3) x37_4).f2.f1) ((jAq ((jAl l0_1 x20_2).f3) x37_4).f2.f2) _ _ ((jAq ((jAl l0_1 x20_2).f3) x37_4).f3) 8 false _ ?side1 ?side2 A27.out).mono ?_); (case side1 => exact Kd.C_below HR374_5.out (by repeat (first | (with_reducible first | exact HB.out | apply jAj | apply jAd | apply jAk | refine jAh ?_ GE371.out | refine jAh ?_ GE373.out | refine jAh ?_ GE375.out) | exact HB.out))); (case side2 => exact HC374_5.out); rintro e w38 ⟨rfl, hb⟩; refine ⟨_, rfl, ?_⟩; have n0_ := jAa.mk (jAp (g := gb371) (o := .cells #[.int .i64 a0_0, .slice (some ad372) l0_1.length c0_1, .slice A0_2 l0_2.length c0_2] 25 (0, 0)) (by (with_reducible repeat (first | refine jAf ?_ _ | refine jAi ?_ | refine jAe ?_ _)); refine jBa ?_ NB371_375.out _; (with_reducible repeat (first | refine jAf ?_ _ | refine jAi ?_ | refine jAe ?_ _)); refine jBa ?_ NB371_375.out _; (with_reducible repeat (first | refine jAf ?_ _ | refine jAi ?_ | refine jAe ?_ _)); refine jBa ?_ NB371_375.out _; (with_reducible repeat (first | refine jAf ?_ _ | refine jAi ?_ | refine jAe ?_ _)); refine jBa ?_ NB371_375.out _; (with_reducible repeat (first | refine jAf ?_ _ | refine jAi ?_ | refine jAe ?_ _)); refine jBa ?_ NB371_375.out _; (with_reducible repeat (first | refine jAf ?_ _ | refine jAi ?_ | refine jAe ?_ _)); refine jBa ?_ NB371_375.out _; (with_reducible repeat (first | refine jAf ?_ _ | refine jAi ?_ | refine jAe ?_ _)); exact BK371.out) hb); have n1_ := jAa.mk (jAp (g := gb373) (o := .cells #[.string ((jAl l0_1 x20_2).f0), .int .i64 ((jAl l0_1 x20_2).f1), .slice A372_2 ((jAl l0_1 x20_2).f2).length c372_2, .slice (some ad374) ((jAl l0_1 x20_2).f3).length c372_3] 45 (0, 0)) (by (with_reducible repeat (first | refine jAf ?_ _ | refine jAi ?_ | refine jAe ?_ _)); refine jBa ?_ NB373_375.out _; (with_reducible repeat (first | refine jAf ?_ _ | refine jAi ?_ | refine jAe ?_ _)); refine jBa ?_ NB373_375.out _; (with_reducible repeat (first | refine jAf ?_ _ | refine jAi ?_ | refine jAe ?_ _)); refine jBa ?_ NB373_375.out _; (with_reducible repeat (first | refine jAf ?_ _ | refine jAi ?_ | refine jAe ?_ _)); refine jBa ?_ NB373_375.out _; (with_reducible repeat (first | refine jAf ?_ _ | refine jAi ?_ | refine jAe ?_ _)); refine jBa ?_ NB373_375.out _; (with_reducible repeat (first | refine jAf ?_ _ | refine jAi ?_ | refine jAe ?_ _)); refine jBa ?_ NB373_375.out _; (with_reducible repeat (first | refine jAf ?_ _ | refine jAi ?_ | refine jAe ?_ _)); exact BK373.out) hb); have n2_ := jAa.mk (jAp (g := gb375) (o := .cells #[.int .i64 ((jAq ((jAl l0_1 x20_2).f3) x37_4).f0), .int .i64 ((jAq ((jAl l0_1 x20_2).f3) x37_4).f1), .int .i64 ((jAq ((jAl l0_1 x20_2).f3) x37_4).f2.f0), .int .i64 ((jAq ((jAl l0_1 x20_2).f3) x37_4).f2.f1), .string ((jAq ((jAl l0_1 x20_2).f3) x37_4).f2.f2), .slice A374_5 ((jAq ((jAl l0_1 x20_2).f3) x37_4).f3).length c374_5] 72 (0, 0)) (by (with_reducible repeat (first | refine jAf ?_ _ | refine jAi ?_ | refine jAe ?_ _)); refine jBf (cs := #[.int .i64 ((jAq ((jAl l0_1 x20_2).f3) x37_4).f0), .int .i64 ((jAq ((jAl l0_1 x20_2).f3) x37_4).f1), .int .i64 ((jAq ((jAl l0_1 x20_2).f3) x37_4).f2.f0), .int .i64 ((jAq ((jAl l0_1 x20_2).f3) x37_4).f2.f1), .string ((jAq ((jAl l0_1 x20_2).f3) x37_4).f2.f2), .slice none 0 0]) ?_ 5 _ rfl; (with_reducible repeat (first | refine jAf ?_ _ | refine jAi ?_ | refine jAe ?_ _)); refine jBf (cs := #[.int .i64 ((jAq ((jAl l0_1 x20_2).f3) x37_4).f0), .int .i64 ((jAq ((jAl l0_1 x20_2).f3) x37_4).f1), .int .i64 ((jAq ((jAl l0_1 x20_2).f3) x37_4).f2.f0), .int .i64 ((jAq ((jAl l0_1 x20_2).f3) x37_4).f2.f1), .string (⟨#[]⟩ : ByteArray), .slice none 0 0]) ?_ 4 _ rfl; (with_reducible repeat (first | refine jAf ?_ _ | refine jAi ?_ | refine jAe ?_ _)); refine jBf (cs := #[.int .i64 ((jAq ((jAl l0_1 x20_2).f3) x37_4).f0), .int .i64 ((jAq ((jAl l0_1 x20_2).f3) x37_4).f1), .int .i64 ((jAq ((jAl l0_1 x20_2).f3) x37_4).f2.f0), .int .i64 0, .string (⟨#[]⟩ : ByteArray), .slice none 0 0]) ?_ 3 _ rfl; (with_reducible repeat (first | refine jAf ?_ _ | refine jAi ?_ | refine jAe ?_ _)); refine jBf (cs := #[.int .i64 ((jAq ((jAl l0_1 x20_2).f3) x37_4).f0), .int .i64 ((jAq ((jAl l0_1 x20_2).f3) x37_4).f1), .int .i64 0, .int .i64 0, .string (⟨#[]⟩ : ByteArray), .slice none 0 0]) ?_ 2 _ rfl; (with_reducible repeat (first | refine jAf ?_ _ | refine jAi ?_ | refine jAe ?_ _)); refine jBf (cs := #[.int .i64 ((jAq ((jAl l0_1 x20_2).f3) x37_4).f0), .int .i64 0, .int .i64 0, .int .i64 0, .string (⟨#[]⟩ : ByteArray), .slice none 0 0]) ?_ 1 _ rfl; (with_reducible repeat (first | refine jAf ?_ _ | refine jAi ?_ | refine jAe ?_ _)); refine jBf (cs := #[.int .i64 0, .int .i64 0, .int .i64 0, .int .i64 0, .string (⟨#[]⟩ : ByteArray), .slice none 0 0]) ?_ 0 _ rfl; (with_reducible repeat (first | refine jAf ?_ _ | refine jAi ?_ | refine jAe ?_ _)); exact BK375.out) hb); have n3_ := jAa.mk (jAu (by repeat (first | (with_reducible first | exact HB.out | apply jAj | apply jAd | apply jAk | refine jAh ?_ GE371.out | refine jAh ?_ GE373.out | refine jAh ?_ GE375.out) | exact HB.out)) hb); clear BK371; clear BK373; clear BK375; clear HB; have BK371 := n0_; have BK373 := n1_; have BK375 := n2_; have HB := n3_; clear n0_ n1_ n2_ n3_; (try clear hb); (try clear hb2); (try clear hk); (try clear hi)))
                  go_ret
                  exact ⟨by first | rfl | (simp [jBd, jBe] <;> rfl) | (simp [*, jBd, jBe] <;> rfl), by repeat (first | (with_reducible first | exact HB.out | apply jAj | apply jAd | apply jAk | refine jAh ?_ GE371.out | refine jAh ?_ GE373.out | refine jAh ?_ GE375.out) | exact HB.out)⟩
                ·rw [if_neg c26] at H
                 exact absurd H (by simp)
               ·rw [if_neg c25] at H
                exact absurd H (by simp)
              ·rw [if_neg c24] at H
               have c24b0 : decide (x37_4 < (((jAl l0_1 x20_2).f3).length : Int)) = false := decide_eq_false c24
               clear c24
               have H' := jAa.mk H
               clear H
               go_wp2
               go_roundg k4
               case measure => have := HJ1.out; have := HK2.out; have := HJ11.out; have := HK4.out; omega
               case rel => exact ⟨(wrap64 (x20_2 + 1)), (by first | rfl | (simp; done) | (simp [*]; done)), H', ⟨by have := HJ1.out; have := HK2.out; have := HJ11.out; have := HK4.out; omega⟩, ⟨by (with_reducible repeat (first | refine jAf ?_ _ | refine jAi ?_ | refine jAe ?_ _)); exact BK371.out⟩, ⟨by repeat (first | (with_reducible first | exact HB.out | apply jAj | apply jAd | apply jAk | refine jAh ?_ GE371.out | refine jAh ?_ GE373.out) | exact HB.out)⟩⟩
        ·rw [if_neg c11] at H
         exact absurd H (by simp)
       ·rw [if_neg c10] at H
        exact absurd H (by simp)
      ·rw [if_neg c9] at H
       have c9b0 : decide (x20_2 < (l0_1.length : Int)) = false := decide_eq_false c9
       clear c9
       obtain rfl := Option.some.inj H
       go_wp2
       go_ret
       exact ⟨by first | rfl | (simp [jBd, jBe] <;> rfl) | (simp [*, jBd, jBe] <;> rfl), by repeat (first | (with_reducible first | exact HB.out | apply jAj | apply jAd | apply jAk | refine jAh ?_ GE371.out) | exact HB.out)⟩
end Go.Proofs.YtefdfgmlmjnmlaaDoor.Rf
end

section
set_option linter.unusedSimpArgs false
set_option linter.unusedVariables false
namespace Go.Proofs.YtefdfgmlmjnmlaaDoor.My
open Go.RowKit Go.Proofs.YtefdfgmlmjnmlaaDoorW.PrintWords Go.Proofs.YtefdfgmlmjnmlaaDoor.Rf
open Go.Proofs.YtefdfgmlmjnmlaaDoorW.PrintLast Go.Proofs.YtefdfgmlmjnmlaaDoorW.PrintMore
theorem fits_l0 (d : Int) (l : List S72) (hl : l.length ≤ 9223372036854775807) (h : ∀ x, x ∈ l → Ev (fun k => jAx.f k x.f0 x.f1 x.f2.f0 x.f2.f1 x.f2.f2 x.f3 (wrap64 (d - 1))) true) : ∀ m i, i + m = l.length →
    Ev (fun k => jAx.l0 k d l (l.length : Int) (i : Int)) true := by
  intro m
  induction m with
  | zero =>
    intro i hi
    exact Ev.step (f := fun _ => some true) (fun k => by simp only [jAx.l0]; rw [if_neg (by omega)]) (Ev.now _)
  | succ m ih =>
    intro i hi
    have hlt : i < l.length := by omega
    refine Ev.step (fun k => by simp only [jAx.l0]; rw [if_pos (by omega), if_pos (by omega), if_pos (by omega), jEb, jCr hlt hl]) ?_
    exact Ev.bind (h _ (jCn (z := z72) hlt)) (Ev.congr (fun k => if_pos rfl) (ih (i + 1) (by omega)))
theorem fits_ev {d : Nat} {e : S72} (h : FitE d e) : d < 1000 → Ev (fun k => jAx.f k e.f0 e.f1 e.f2.f0 e.f2.f1 e.f2.f2 e.f3 (d : Int)) true := by
  induction h with
  | mk d e v a b c l z hh ih =>
    intro hd
    have hl : Ev (fun k => jAx.l0 k (d : Int) e.f3 (e.f3.length : Int) ((0 : Nat) : Int)) true := by
      refine fits_l0 (d : Int) e.f3 (by omega) (fun x hx => ?_) e.f3.length 0 (by omega)
      have hd0 : d ≠ 0 := fun h0 => by rw [z h0] at hx; cases hx
      have e1 : wrap64 ((d : Int) - 1) = ((d - 1 : Nat) : Int) := by unfold wrap64; omega
      rw [e1]
      exact ih x hx (by omega)
    have hj : Ev (fun k => jAx.j0 k (d : Int) false e.f0 e.f1 e.f2.f0 e.f2.f1 e.f2.f2 e.f3) true := Ev.step (fun k => by simp only [jAx.j0]; rw [if_neg (by decide)]; rfl) hl
    refine Ev.step (f := fun k => jAx.j0 k (d : Int) false e.f0 e.f1 e.f2.f0 e.f2.f1 e.f2.f2 e.f3) (fun k => ?_) hj
    simp only [jAx.f, jCb.f, Option.bind_some]
    rw [if_pos v, if_neg (by omega)]
    by_cases h0 : d = 0
    · rw [if_pos (by omega), z h0]
      rfl
    · rw [if_neg (by omega)]
theorem Fits_l1 (ts : List S45) (n j : Int) (l : List S72) (hl : l.length ≤ 9223372036854775807) (h : ∀ x, x ∈ l → FitE 8 x) (hn : Ev (fun k => jAv.l0 k ts n (wrap64 (j + 1))) true) : ∀ m i, i + m = l.length →
    Ev (fun k => jAv.l1 k ts n j l (l.length : Int) (i : Int)) true := by
  intro m
  induction m with
  | zero =>
    intro i hi
    exact Ev.step (fun k => by simp only [jAv.l1]; rw [if_neg (by omega)]) hn
  | succ m ih =>
    intro i hi
    have hlt : i < l.length := by omega
    refine Ev.step (fun k => by simp only [jAv.l1]; rw [if_pos (by omega), if_pos (by omega), if_pos (by omega), jEb, jCr hlt hl]) ?_
    have hx := fits_ev (d := 8) (h _ (jCn (z := z72) hlt)) (by omega)
    exact Ev.bind hx (Ev.congr (fun k => if_pos rfl) (ih (i + 1) (by omega)))
theorem Fits_l0 (ts : List S45) (hl : ts.length ≤ 9223372036854775807) (h : ∀ t, t ∈ ts → FitT t) : ∀ m i, i + m = ts.length →
    Ev (fun k => jAv.l0 k ts (ts.length : Int) (i : Int)) true := by
  intro m
  induction m with
  | zero =>
    intro i hi
    exact Ev.step (f := fun _ => some true) (fun k => by simp only [jAv.l0]; rw [if_neg (by omega)]) (Ev.now _)
  | succ m ih =>
    intro i hi
    have hlt : i < ts.length := by omega
    have ht := h _ (jCn (z := z45) hlt)
    have hi1 := ih (i + 1) (by omega)
    have h1 := ht.cols
    have h2 := ht.checks
    generalize hg : ts.getD i z45 = t at ht h1 h2
    have h3 := Fits_l1 ts (ts.length : Int) (i : Int) t.f3 (by omega) ht.each (by rw [jCr hlt hl]; exact hi1) t.f3.length 0 (by omega)
    refine Ev.step (f := fun k => jAv.j2 k ts (ts.length : Int) (i : Int) false t.f0 t.f1 t.f2 t.f3) (fun k => ?_) (Ev.step (fun k => by simp only [jAv.j2]; rw [if_neg (by decide)]; rfl) h3)
    simp only [jAv.l0]
    rw [if_pos (by omega), if_pos (by omega), if_pos (by omega), jGi, hg, if_neg (by omega), decide_eq_false (by omega)]
theorem Fits_ev (v : Int) (ts : List S45) (gs : List S27) (hl : ts.length ≤ 12) (h : ∀ t, t ∈ ts → FitT t) (hg : gs.length ≤ 64) : Ev (fun k => jAv.f k v ts gs) true := by
  refine Ev.congr (f := fun k => jAv.j0 k false v ts gs) (fun k => ?_) (Ev.step (fun k => by simp only [jAv.j0]; rw [if_neg (by decide)]; rfl) (Fits_l0 ts (by omega) h ts.length 0 (by omega)))
  unfold jAv.f
  rw [if_neg (by omega), decide_eq_false (by omega)]
end Go.Proofs.YtefdfgmlmjnmlaaDoor.My
end

section
set_option linter.unusedSimpArgs false
set_option linter.unusedVariables false
namespace Go.Proofs.YtefdfgmlmjnmlaaDoor.My
open Go.RowKit Go.Shelf Go.Proofs.YtefdfgmlmjnmlaaDoorW.PrintWords Go.Proofs.YtefdfgmlmjnmlaaDoor.Rf
/-- Blocks of other types than the bytes', and other blocks than b, are as they were. -/
def KeepT (b : Nat) (w w' : World) : Prop := ∀ k cells t, w.heap[k]? = some (.cells cells t (0, 0)) → t ≠ 5 → k ≠ b → w'.heap[k]? = some (.cells cells t (0, 0))
theorem KeepT.refl (b : Nat) (w : World) : KeepT b w w := fun _ _ _ h _ _ => h
theorem KeepT.trans {b : Nat} {w w1 w2 : World} (h : KeepT b w w1) (k : KeepT b w1 w2) : KeepT b w w2 := fun j c t hj ht hb => k j c t (h j c t hj ht hb) ht hb
theorem KeepT.set {b : Nat} {w w1 : World} (h : KeepT b w w1) (j : Nat) (u : Value) : KeepT b w (w1.setCell ⟨b, j, none⟩ u) := fun k c t hk ht hb => by
  rw [Below.heap_setCell _ _ _ _ hb]
  exact h k c t hk ht hb
abbrev Used (B b : Nat) (bs : List Value) (w : World) : Prop := Lib.BuilderAt 111 5 B b (.pointer (some ⟨b, 0, none⟩)) bs w
abbrev Bld (B b : Nat) (bs : List Value) (w : World) : Prop := Lib.IsBuilder 111 5 B b bs w
theorem size109 : (Tryd.prog.info? 109).map (·.size) = some 2 := by kernel_rfl
theorem lies111 : liesAt Tryd.prog Tryd.prog.depth 111 (2 / Tryd.prog.cellsOf 111) 0 109 1 = true := by kernel_rfl
theorem infoByte5 : (Tryd.prog.info? 5).map (fun i => (i.zero, i.size, i.bytes)) = some (some (.int .u8 0), 1, 1) := by kernel_rfl
set_option maxHeartbeats 1000000 in
set_option maxRecDepth 100000 in
theorem jHi (b : Nat) (w : World) (h0 : w.cell? ⟨b, 0, none⟩ = some (.pointer (some ⟨b, 0, none⟩))) :
    Calls Tryd.prog 120 #[.pointer (some ⟨b, 0, none⟩)] w fun e w' => e = .returned (.tuple #[]) ∧ w' = w := by
  obtain ⟨j, hj, _⟩ := Option.map_eq_some_iff.1 size109
  go_enter Tryd.func120, Tryd.ntmps120
  go_wp2
  rw [Lib.run_neq_ptr_same w _ Tryd.underlying106 hj]
  go_wp2
  go_end0
  exact ⟨rfl, rfl⟩
set_option maxHeartbeats 1000000 in
set_option maxRecDepth 100000 in
theorem jGy (b : Nat) (w : World) (h0 : w.cell? ⟨b, 0, none⟩ = some (.pointer none)) (hsh : w.shape? b = some (111, 2)) (hfz : w.frozen? ⟨b, 0, none⟩ = false) :
    Calls Tryd.prog 120 #[.pointer (some ⟨b, 0, none⟩)] w fun e w' => e = .returned (.tuple #[]) ∧ w' = w.setCell ⟨b, 0, none⟩ (.pointer (some ⟨b, 0, none⟩)) := by
  obtain ⟨j, hj, hjs⟩ := Option.map_eq_some_iff.1 size109
  go_enter Tryd.func120, Tryd.ntmps120
  go_wp2
  rw [Lib.run_to_unsafe w ⟨b, 0, none⟩ Tryd.underlying106 Tryd.underlying161 hj (by rw [hjs]; decide) hsh (Nat.zero_lt_succ 1)]
  simp only [Result.andThen]
  rw [Oper.upon_value]
  go_wp2
  rw [run_callFunc_extern Tryd.func128 (by kernel_rfl) (by kernel_rfl) (by kernel_rfl) (e := Extern.AbiNoEscape.same) (by kernel_rfl)]
  rw [Lib.run_noEscape]
  simp only [Result.andThen]
  rw [Oper.upon_value]
  go_wp2
  rw [Lib.run_from_unsafe w ⟨b, 0, none⟩ Tryd.underlying161 Tryd.underlying106 hj hsh lies111]
  simp only [Result.andThen]
  rw [Oper.upon_value]
  go_wp2
  go_end0
  exact ⟨rfl, rfl⟩
structure ChkPost (B b : Nat) (bs : List Value) (w : World) (e : Ending) (w' : World) : Prop where
  out : e = .returned (.tuple #[]) ∧ Used B b bs w' ∧ Below B w w' ∧ KeepT b w w'
theorem jEy (B b : Nat) (bs : List Value) (w : World) (h : Bld B b bs w) : Calls Tryd.prog 120 #[.pointer (some ⟨b, 0, none⟩)] w (ChkPost B b bs w) := by
  rcases h with h | h
  · refine (jGy b w h.cell0 h.shape h.frozen0).mono ?_
    rintro e w' ⟨rfl, rfl⟩
    exact ⟨rfl, h.used _, (Below.refl B w).setCell (p := ⟨b, 0, none⟩) h.1 _, (KeepT.refl b w).set 0 _⟩
  · refine (jHi b w h.cell0).mono ?_
    rintro e w' ⟨rfl, rfl⟩
    exact ⟨rfl, h, Below.refl B _, KeepT.refl b _⟩
theorem jGz {b : Nat} {w1 w2 : World} {v : Value} {B n : Nat} {bs : List Value} (hown : w1.ownsRow B 5 1 v n bs) (hg : w1.grownBy w2 v.ownBlock) : KeepT b w1 w2 := by
  intro k cells t hk ht _
  have hlt : k < w1.heap.size := by
    rcases Nat.lt_or_ge k w1.heap.size with h' | h'
    · exact h'
    · simp [Array.getElem?_eq_none h'] at hk
  rw [hg.block k hlt (Lib.ownBlock_ne hown hk ht).symm]
  exact hk
theorem jCp (b : Nat) (w : World) (o : Obj) : KeepT b w (w.alloc o) := by
  intro k cells t hk _ _
  have hlt : k < w.heap.size := by
    rcases Nat.lt_or_ge k w.heap.size with h' | h'
    · exact h'
    · simp [Array.getElem?_eq_none h'] at hk
  rw [Below.heap_alloc _ _ _ hlt]
  exact hk
structure WbPost (B b : Nat) (bs : List Value) (w : World) (r : Value) (e : Ending) (w' : World) : Prop where
  out : e = .returned r ∧ Used B b bs w' ∧ Below B w w' ∧ KeepT b w w'
set_option maxHeartbeats 2000000 in
set_option maxRecDepth 100000 in
theorem jEz (B b : Nat) (bs : List Value) (c : Int) (w : World) (h : Bld B b bs w) (hlen : bs.length + 1 ≤ 140737488355328) (hBw : B ≤ w.heap.size) :
    Calls Tryd.prog 102 #[.pointer (some ⟨b, 0, none⟩), .int .u8 c] w (WbPost B b (bs ++ [.int .u8 c]) w .nilIface) := by
  obtain ⟨i0, hi, hz0, hz1, hz2⟩ := info_parts infoByte5
  go_enter Tryd.func102, Tryd.ntmps102
  go_wp2_with (go_at_call 120; refine (jEy B b bs _ h).mono ?_)
  rintro e w1 ⟨rfl, h1, hb1, hk1⟩
  obtain ⟨hB, v, hbk, hown, hne⟩ := h1
  have c0 : w1.cell? ⟨b, 0, none⟩ = some (.pointer (some ⟨b, 0, none⟩)) := by rw [Lib.cell_of_heap hbk]; rfl
  have c1 : w1.cell? ⟨b, 1, none⟩ = some v := by rw [Lib.cell_of_heap hbk]; rfl
  go_wp2_with (at_builtin; refine wpList_append_own _ rfl _ _ 107 rfl B 5 i0 (.int .u8 0) 1 1 Tryd.underlying107 hi hz0 hz1 hz2 rfl (by decide) _ _ _ rfl (hown.alloc _) ⟨w1.heap.size, 0, none⟩ 1 1 [.int .u8 c] rfl rfl ?c1 ?c2 ?c3 ?c4 ?c5 ?_)
  case c1 =>
    intro j u hj
    match j, hj with
    | 0, hj => simp at hj; subst hj; simp [Addr.add]
  case c2 => intro u hu; simp at hu; subst hu; rfl
  case c3 => unfold maxLen; omega
  case c4 => omega
  case c5 => have := hb1.size; simp; omega
  intro v' w2 hown' hgrow _
  have hlt : b < w1.heap.size := by
    rcases Nat.lt_or_ge b w1.heap.size with h' | h'
    · exact h'
    · simp [Array.getElem?_eq_none h'] at hbk
  have hb2 : w2.heap[b]? = some (.cells #[.pointer (some ⟨b, 0, none⟩), v] 111 (0, 0)) := by
    rw [hgrow.block b (by simp; omega) (fun e => hne e.symm), Lib.alloc_old w1 _ b hlt]
    exact hbk
  have hk2 := (hk1.trans (jCp b w1 _)).trans (jGz (b := b) (hown.alloc _) hgrow)
  have d0 : w2.cell? ⟨b, 0, none⟩ = some (.pointer (some ⟨b, 0, none⟩)) := by rw [Lib.cell_of_heap hb2]; rfl
  have d1 : w2.cell? ⟨b, 1, none⟩ = some v := by rw [Lib.cell_of_heap hb2]; rfl
  have f1 : w2.frozen? ⟨b, 1, none⟩ = false := Lib.frozen_of_heap hb2 1
  obtain ⟨g, cap, rfl⟩ : ∃ g cap, v' = .slice (some ⟨g, 0, none⟩) (bs.length + 1) cap := by
    rcases hown'.2 with ⟨_, h0⟩ | ⟨g, cap, cur, hv, _⟩
    · omega
    · exact ⟨g, cap, hv⟩
  go_wp2
  go_ret
  refine ⟨rfl, ?_, ?_, hk2.set 1 _⟩
  · exact Lib.BuilderAt.put (T := 111) (e := 5) hB hb2 (bs' := bs ++ [.int .u8 c]) (by simpa using hown') (by decide)
  · exact ((hb1.alloc (by have := hb1.size; omega) _).grown hgrow (by have := hb1.size; simp; omega) (fun k hk => (hown.lt k hk).1)).setCell (p := ⟨b, 1, none⟩) hB _
set_option maxHeartbeats 2000000 in
set_option maxRecDepth 100000 in
theorem jGc (B b : Nat) (bs : List Value) (s : ByteArray) (w : World) (h : Bld B b bs w) (hlen : bs.length + s.size ≤ 140737488355328) (hBw : B ≤ w.heap.size) :
    Calls Tryd.prog 105 #[.pointer (some ⟨b, 0, none⟩), .string s] w (WbPost B b (bs ++ Lib.strCells s) w (.tuple #[.int .i64 s.size, .nilIface])) := by
  obtain ⟨i0, hi, hz0, hz1, hz2⟩ := info_parts infoByte5
  go_enter Tryd.func105, Tryd.ntmps105
  go_wp2_with (go_at_call 120; refine (jEy B b bs _ h).mono ?_)
  rintro e w1 ⟨rfl, h1, hb1, hk1⟩
  obtain ⟨hB, v, hbk, hown, hne⟩ := h1
  have c0 : w1.cell? ⟨b, 0, none⟩ = some (.pointer (some ⟨b, 0, none⟩)) := by rw [Lib.cell_of_heap hbk]; rfl
  have c1 : w1.cell? ⟨b, 1, none⟩ = some v := by rw [Lib.cell_of_heap hbk]; rfl
  go_wp2_with (at_builtin; refine Lib.wpList_append_own_string _ rfl _ _ 107 9 rfl B 5 i0 Tryd.underlying107 Tryd.underlying9 hi hz0 hz1 hz2 _ _ _ rfl hown s rfl ?c3 ?c4 ?c5 ?_)
  case c3 => unfold maxLen; omega
  case c4 => omega
  case c5 => have := hb1.size; omega
  intro v' w2 hown' hgrow _
  have hlt : b < w1.heap.size := by
    rcases Nat.lt_or_ge b w1.heap.size with h' | h'
    · exact h'
    · simp [Array.getElem?_eq_none h'] at hbk
  have hb2 : w2.heap[b]? = some (.cells #[.pointer (some ⟨b, 0, none⟩), v] 111 (0, 0)) := by
    rw [hgrow.block b hlt (fun e => hne e.symm)]
    exact hbk
  have hk2 := hk1.trans (jGz (b := b) hown hgrow)
  have d0 : w2.cell? ⟨b, 0, none⟩ = some (.pointer (some ⟨b, 0, none⟩)) := by rw [Lib.cell_of_heap hb2]; rfl
  have d1 : w2.cell? ⟨b, 1, none⟩ = some v := by rw [Lib.cell_of_heap hb2]; rfl
  have f1 : w2.frozen? ⟨b, 1, none⟩ = false := Lib.frozen_of_heap hb2 1
  obtain ⟨ao, n', cap, rfl⟩ : ∃ ao n' cap, v' = .slice ao n' cap := by
    rcases hown'.2 with ⟨hv, _⟩ | ⟨g, cap, cur, hv, _⟩
    · exact ⟨_, _, _, hv⟩
    · exact ⟨_, _, _, hv⟩
  go_wp2
  go_ret2
  refine ⟨rfl, ?_, ?_, hk2.set 1 _⟩
  · exact Lib.BuilderAt.put (T := 111) (e := 5) hB hb2 (bs' := bs ++ Lib.strCells s) (by simpa [Lib.strCells_length] using hown') (by decide)
  · exact (hb1.grown hgrow (by have := hb1.size; omega) (fun k hk => (hown.lt k hk).1)).setCell (p := ⟨b, 1, none⟩) hB _
set_option maxHeartbeats 1000000 in
set_option maxRecDepth 100000 in
theorem string_calls (B b : Nat) (l : List UInt8) (w : World) (h : Bld B b (Lib.byteCells l) w) (h0 : l ≠ []) :
    Calls Tryd.prog 106 #[.pointer (some ⟨b, 0, none⟩)] w fun e w' => e = .returned (.string ⟨l.toArray⟩) ∧ Below B w w' := by
  obtain ⟨p, hB, v, hbk, hown, hne⟩ : ∃ p, Lib.BuilderAt 111 5 B b p (Lib.byteCells l) w := by
    rcases h with h | h
    · exact ⟨_, h⟩
    · exact ⟨_, h⟩
  have hl0 : l.length ≠ 0 := by simpa using h0
  rw [Lib.byteCells_length] at hown
  obtain ⟨g, cap, cur, rfl, hbg, hg, hnc, hcm, hcs, htake⟩ : ∃ g cap cur, v = .slice (some ⟨g, 0, none⟩) l.length cap ∧ B ≤ g ∧ w.heap[g]? = some (.cells cur 5 (0, 0)) ∧ l.length ≤ cap ∧ cap ≤ maxLen ∧ cur.size = cap * 1 ∧ cur.toList.take (l.length * 1) = Lib.byteCells l := by
    rcases hown.2 with ⟨_, hz⟩ | ⟨g, cap, cur, hv, r⟩
    · exact absurd hz hl0
    · exact ⟨g, cap, cur, hv, r⟩
  have c1 : w.drew.cell? ⟨b, 1, none⟩ = some (.slice (some ⟨g, 0, none⟩) l.length cap) := by
    have : w.drew.heap[b]? = some (.cells #[p, .slice (some ⟨g, 0, none⟩) l.length cap] 111 (0, 0)) := hbk
    rw [Lib.cell_of_heap this]; rfl
  have hSD : (Builtin.unsafeSliceData_ #[107] 156 #[.slice (some ⟨g, 0, none⟩) l.length cap]).run Tryd.prog w.drew = .ok (.pointer (some ⟨g, 0, none⟩)) w.drew :=
    Lib.run_unsafeSliceData_row _ _ _ _ _ _ (by omega)
  have hUS : (Builtin.unsafeString_ #[156, 3] 9 #[.pointer (some ⟨g, 0, none⟩), .int .i64 l.length]).run Tryd.prog w.drew = .ok (.string ⟨l.toArray⟩) (w.drew.freeze ⟨g, 0, none⟩ l.length) := by
    refine Lib.run_unsafeString_row w.drew 156 3 9 5 Tryd.underlying156 (by kernel_rfl) g cur.size (by have hg' : w.drew.heap[g]? = some (.cells cur 5 (0, 0)) := hg; simp [World.shape?, hg']) l h0 (by omega) (by unfold maxLen at hcm; omega) ?_
    intro j x hx
    have := hown.cells (g := g) rfl j (.int .u8 x.toNat) (by simp [Lib.byteCells, hx])
    exact this
  have mixed := Tryd.lays169.mixed
  go_enter Tryd.func106, Tryd.ntmps106
  go_wp2
  go_region_o
  all_goals (go_wp2; go_ret; exact ⟨rfl, Lib.below_freeze (Below.drew (Below.refl B w)) (p := ⟨g, 0, none⟩) hbg _⟩)
end Go.Proofs.YtefdfgmlmjnmlaaDoor.My
end

section
set_option linter.unusedVariables false
set_option linter.unusedSimpArgs false
namespace Go.Proofs.YtefdfgmlmjnmlaaDoor.Rf
open Go.RowKit Go.Proofs.YtefdfgmlmjnmlaaDoorW.PrintWords Go.Proofs.YtefdfgmlmjnmlaaDoorW.PrintLast Go.Proofs.YtefdfgmlmjnmlaaDoorW.PrintMore
attribute [local go_sem] jCg jCo
def jFt.f (a0 : Int) : Option (Int) := some (Go.bits .xor .u64 (IntKind.u64.wrap ((IntKind.u64.wrap (a0)) * 2)) (IntKind.u64.wrap (a0 / 9223372036854775808)))
set_option maxHeartbeats 8000000 in
set_option maxRecDepth 100000 in
theorem jFt.calls (a0 : Int) (r : Int) (w : World) (h : jFt.f a0 = some r) :
  Calls Tryd.prog 101 #[.int .i64 a0] w fun e w' => e = .returned (.int .u64 r) ∧ jDp w w' := by
 have H : (some (Go.bits .xor .u64 (IntKind.u64.wrap ((IntKind.u64.wrap (a0)) * 2)) (IntKind.u64.wrap (a0 / 9223372036854775808)))) = some r := h
 clear h
 obtain rfl := Option.some.inj H
 go_enter Tryd.func101, Tryd.ntmps101
 go_wp2
 go_ret
 exact ⟨by first | rfl | (simp; done) | (simp [*]; done), by repeat (first | exact jDp.refl _ | apply jDp.step)⟩
end Go.Proofs.YtefdfgmlmjnmlaaDoor.Rf
end

section
set_option linter.unusedSimpArgs false
set_option linter.unusedVariables false
namespace Go.Proofs.YtefdfgmlmjnmlaaDoor.My
open Go.RowKit Go.Proofs.YtefdfgmlmjnmlaaDoorW.PrintWords Go.Proofs.YtefdfgmlmjnmlaaDoor.Rf
open Go.Proofs.YtefdfgmlmjnmlaaDoorW.PrintLast Go.Proofs.YtefdfgmlmjnmlaaDoorW.PrintMore
theorem xor_u64_0 (x : Nat) (h : x < 18446744073709551616) : Go.bits .xor .u64 (x : Int) 0 = (x : Int) := by
  have e : (BitVec.ofInt 64 0) = 0#64 := by decide
  have e2 : BitVec.ofInt 64 (x : Int) = BitVec.ofNat 64 x := BitVec.ofInt_natCast 64 x
  show IntKind.u64.wrap (((BitVec.ofInt 64 (x : Int)) ^^^ (BitVec.ofInt 64 0)).toNat : Int) = _
  rw [e, e2, BitVec.xor_zero, BitVec.toNat_ofNat, Nat.mod_eq_of_lt (by omega), u64w]
  omega
theorem xor_u64_m (x : Nat) (h : x < 18446744073709551616) : Go.bits .xor .u64 (x : Int) 18446744073709551615 = 18446744073709551615 - (x : Int) := by
  have e : (BitVec.ofInt 64 18446744073709551615) = BitVec.allOnes 64 := by decide
  have e2 : BitVec.ofInt 64 (x : Int) = BitVec.ofNat 64 x := BitVec.ofInt_natCast 64 x
  show IntKind.u64.wrap (((BitVec.ofInt 64 (x : Int)) ^^^ (BitVec.ofInt 64 18446744073709551615)).toNat : Int) = _
  rw [e, e2, BitVec.xor_allOnes, BitVec.toNat_not, BitVec.toNat_ofNat, Nat.mod_eq_of_lt (by omega), u64w]
  omega
theorem zig_f {n : Int} (h : I64 n) : jFt.f n = some ((jDo n : Nat) : Int) := by
  obtain ⟨h1, h2⟩ := h
  unfold jFt.f jDo
  by_cases h0 : 0 ≤ n
  · have e1 : IntKind.u64.wrap ((IntKind.u64.wrap n) * 2) = (((2 * n).toNat : Nat) : Int) := by simp only [u64w]; omega
    have e2 : IntKind.u64.wrap (n / 9223372036854775808) = 0 := by simp only [u64w]; omega
    rw [e1, e2, if_pos h0, xor_u64_0 _ (by omega)]
  · have e1 : IntKind.u64.wrap ((IntKind.u64.wrap n) * 2) = (((2 * n + 18446744073709551616).toNat : Nat) : Int) := by simp only [u64w]; omega
    have e2 : IntKind.u64.wrap (n / 9223372036854775808) = 18446744073709551615 := by simp only [u64w]; omega
    rw [e1, e2, if_neg h0, xor_u64_m _ (by omega)]
    congr 1
    omega
theorem or128 (u : Nat) : Go.bits .or .u8 ((u : Int) % 256) 128 = ((128 + u % 128 : Nat) : Int) := by
  have e : (u : Int) % 256 = ((u % 256 : Nat) : Int) := by omega
  rw [e, show (128 : Int) = ((128 : Nat) : Int) from rfl, (bits_nat .u8 8 (by decide) (fun n h0 h1 => by rw [IntKind.wrap_u8]; omega) (u % 256) 128 (by omega) (by decide)).2]
  congr 1
  have h : ∀ x : Fin 256, x.val ||| 128 = 128 + x.val % 128 := by decide +kernel
  have := h ⟨u % 256, by omega⟩
  simp only at this
  rw [this]
  omega
theorem byte_app (L M m : List UInt8) (x : Nat) (hx : x < 256) : Lib.byteCells (L ++ (M ++ m)) ++ [.int .u8 (x : Int)] = Lib.byteCells (L ++ (M ++ (m ++ [UInt8.ofNat x]))) := by
  have : (UInt8.ofNat x).toNat = x := by simp; omega
  simp [Lib.byteCells, this]
theorem jFu (l : List UInt8) : (Lib.byteCells l).length = l.length := by simp [Lib.byteCells]
theorem bld_drewN {B b n : Nat} {bs : List Value} {w : World} (h : Bld B b bs w) : Bld B b bs (w.drewN n) := h
theorem keepT_drewN {b n : Nat} {w w1 : World} (h : KeepT b w w1) : KeepT b w (w1.drewN n) := h
structure jEd (B b : Nat) (l : List UInt8) (w : World) (e : Ending) (w' : World) : Prop where
  out : e = .returned (.tuple #[]) ∧ Bld B b (Lib.byteCells l) w' ∧ Below B w w' ∧ KeepT b w w'
theorem ints_at {w : World} {q : Nat} {ns : List Int} (h : w.heap[q]? = some (.cells (ns.map fun n => Value.int .i64 n).toArray 3 (0, 0))) {j : Nat} (hj : j < ns.length) : w.cell? ⟨q, j, none⟩ = some (.int .i64 (ns.getD j 0)) := by
  rw [Lib.cell_of_heap h]
  simp [List.getElem?_eq_getElem hj, List.getD]
set_option maxHeartbeats 4000000 in
set_option maxRecDepth 100000 in
theorem wint_calls (B b q : Nat) (l : List UInt8) (ns : List Int) (w : World) (h : Bld B b (Lib.byteCells l) w) (hq : w.heap[q]? = some (.cells (ns.map fun n => Value.int .i64 n).toArray 3 (0, 0))) (hqb : q ≠ b) (hI : ∀ n, n ∈ ns → I64 n) (hns : ns.length ≤ 100)
    (hlen : l.length + (ns.map encI).flatten.length ≤ 140737488355328) (hBw : B ≤ w.heap.size) :
    Calls Tryd.prog 75 #[.pointer (some ⟨b, 0, none⟩), .slice (some ⟨q, 0, none⟩) ns.length ns.length] w (jEd B b (l ++ (ns.map encI).flatten) w) := by
  have HQ := jAa.mk hq
  have HI := jAa.mk hI
  have H0 := jAa.mk h
  clear hq hI h
  go_enter Tryd.func75, Tryd.ntmps75
  go_wp2
  go_loopw [5, 6, 9] (fun t5 t6 t9 wr => ∃ j : Nat, t9 = .int .i64 j ∧ j ≤ ns.length ∧ jAa (Bld B b (Lib.byteCells (l ++ ((ns.take j).map encI).flatten)) wr) ∧ jAa (Below B w wr) ∧ jAa (KeepT b w wr)) (fun _ _ t9 _ => ns.length - (intOf t9).toNat)
  case atStart => exact ⟨0, rfl, Nat.zero_le _, ⟨by simpa using H0.out⟩, ⟨Below.refl _ _⟩, ⟨KeepT.refl _ _⟩⟩
  case round =>
    obtain ⟨j, rfl, hj, HW, HB, HK⟩ := hrel
    by_cases hlt : j < ns.length
    · have hc := ints_at (HK.out _ _ _ HQ.out (by decide) hqb) hlt
      have hin := HI.out _ (jCn (z := 0) hlt)
      have hlen2 : l.length + (((ns.take j).map encI).flatten.length + (encI (ns.getD j 0)).length) ≤ 140737488355328 := by
        have e : ns = ns.take j ++ (ns.getD j 0 :: ns.drop (j + 1)) := by rw [← jDk 0 hlt, List.take_append_drop]
        have e2 : (ns.map encI).flatten.length = ((ns.take j).map encI).flatten.length + (encI (ns.getD j 0)).length + ((ns.drop (j + 1)).map encI).flatten.length := by
          conv => lhs; rw [e]
          simp [Nat.add_assoc]
        omega
      have hnext : (((ns.take (j + 1)).map encI).flatten) = ((ns.take j).map encI).flatten ++ encI (ns.getD j 0) := by
        rw [List.take_add_one, List.getElem?_eq_getElem hlt, List.map_append, List.flatten_append]
        have : ns.getD j 0 = ns[j] := by simp [List.getD, List.getElem?_eq_getElem hlt]
        rw [this]
        simp
      have HN := jAa.mk hnext
      generalize ns.getD j 0 = n at hc hin hlen2 HN
      generalize hM : ((ns.take j).map encI).flatten = M at HW hlen2 HN
      clear hM hnext
      have hz := jAa.mk (zig_f hin)
      have hpl := jGj hin
      have HE : jAa (encI n = encU (jDo n)) := ⟨rfl⟩
      have hel : (encU (jDo n)).length = (encI n).length := by rw [HE.out]
      generalize jDo n = u0 at hz hpl HE hel
      have hi0 : (0 : Int) ≤ (j : Int) := by omega
      have hi1 : (j : Int) < (ns.length : Int) := by omega
      have hi2 : j < ns.length := hlt
      go_wp2_with (go_at_call 101; refine (jFt.calls n _ _ hz.out).mono ?_; rintro e w2 ⟨rfl, ⟨nq, rfl⟩⟩)
      go_loopw [6] (fun t6 w3 => ∃ (u : Nat) (m : List UInt8), t6 = .int .u64 u ∧ u < 18446744073709551616 ∧ jAa (encU u0 = m ++ encU u) ∧ jAa (Bld B b (Lib.byteCells (l ++ (M ++ m))) w3) ∧ jAa (Below B w w3) ∧ jAa (KeepT b w w3)) (fun t6 _ => (intOf t6).toNat)
      case atStart => exact ⟨u0, [], rfl, hpl, ⟨rfl⟩, ⟨by rw [List.append_nil]; exact bld_drewN HW.out⟩, ⟨jAd HB.out nq⟩, ⟨keepT_drewN HK.out⟩⟩
      case round =>
        obtain ⟨u, m, rfl, hu, HU, HW3, HB3, HK3⟩ := hrel
        have hmu : m.length + (encU u).length = (encU u0).length := by rw [HU.out, List.length_append]
        have hu1 : 1 ≤ (encU u).length := by rw [encU]; split <;> simp
        have hlw : (Lib.byteCells (l ++ (M ++ m))).length + 1 ≤ 140737488355328 := by
          rw [jFu]; simp only [List.length_append]; omega
        have hBw3 : B ≤ wr.heap.size := by have := HB3.out.size; omega
        by_cases h128 : 128 ≤ u
        · have hd := decide_eq_true (show (128 : Int) ≤ (u : Int) by omega)
          have hor := jAa.mk (or128 u)
          go_wp2_with (go_at_call 102; rw [hor.out]; refine (jEz B b _ _ _ HW3.out hlw hBw3).mono ?_; rintro e w4 ⟨rfl, hb4, hbe4, hk4⟩; rw [byte_app _ _ _ _ (by omega)] at hb4; have HW4 : jAa (Bld B b (Lib.byteCells (l ++ (M ++ (m ++ [UInt8.ofNat (128 + u % 128)])))) w4) := ⟨.inr hb4⟩; clear hb4)
          go_roundw
          case rel =>
            refine ⟨u / 128, m ++ [UInt8.ofNat (128 + u % 128)], by go_num, by omega, ⟨?_⟩, HW4, ⟨HB3.out.trans hbe4⟩, ⟨HK3.out.trans hk4⟩⟩
            rw [HU.out, jDv (show ¬ u < 128 by omega), List.append_assoc]
            rfl
          case measure => simp [intOf]; omega
        · have hd := decide_eq_false (show ¬ (128 : Int) ≤ (u : Int) by omega)
          have hu256 : (u : Int) % 256 = (u : Int) := by omega
          have hEN : encI n = m ++ [UInt8.ofNat u] := by rw [HE.out, HU.out, jDb (show u < 128 by omega)]
          go_wp2_with (go_at_call 102; refine (jEz B b _ _ _ HW3.out hlw hBw3).mono ?_; rintro e w4 ⟨rfl, hb4, hbe4, hk4⟩; rw [byte_app _ _ _ _ (by omega), ← hEN, ← HN.out] at hb4; have HW4 : jAa (Bld B b (Lib.byteCells (l ++ ((ns.take (j + 1)).map encI).flatten)) w4) := ⟨.inr hb4⟩; clear hb4)
          go_roundw
          case rel => exact ⟨j + 1, by go_num, by omega, HW4, ⟨HB3.out.trans hbe4⟩, ⟨HK3.out.trans hk4⟩⟩
          case measure => simp [intOf]; omega
    · have hj2 : j = ns.length := by omega
      subst hj2
      have hn : ¬ ((ns.length : Int) < (ns.length : Int)) := by omega
      have HW := jAa.mk (show Bld B b (Lib.byteCells (l ++ (ns.map encI).flatten)) wr from by have := HW.out; rwa [List.take_length] at this)
      go_wp2
      go_end0
      exact ⟨rfl, HW.out, HB.out, HK.out⟩
end Go.Proofs.YtefdfgmlmjnmlaaDoor.My
end

section
set_option linter.unusedSimpArgs false
set_option linter.unusedVariables false
namespace Go.Proofs.YtefdfgmlmjnmlaaDoor.My
open Go.RowKit Go.Proofs.YtefdfgmlmjnmlaaDoorW.PrintWords Go.Proofs.YtefdfgmlmjnmlaaDoor.Rf
open Go.Proofs.YtefdfgmlmjnmlaaDoorW.PrintLast Go.Proofs.YtefdfgmlmjnmlaaDoorW.PrintMore
theorem jFi {B b : Nat} {bs : List Value} {w : World} (h : Bld B b bs w) : b < w.heap.size := by
  rcases h with h | h
  · exact h.lt
  · exact h.lt
theorem jHa {B b : Nat} {p : Value} {bs : List Value} {w : World} (h : Lib.BuilderAt 111 5 B b p bs w) (o : Obj) : Lib.BuilderAt 111 5 B b p bs (w.alloc o) := by
  have hlt := h.lt
  obtain ⟨hB, v, hb, hown, hne⟩ := h
  exact ⟨hB, v, by rw [Below.heap_alloc _ _ _ hlt]; exact hb, hown.alloc _, hne⟩
theorem jDe {B b : Nat} {bs : List Value} {w : World} (h : Bld B b bs w) (o : Obj) : Bld B b bs (w.alloc o) := by
  rcases h with h | h
  · exact .inl (jHa h o)
  · exact .inr (jHa h o)
theorem jDs (B b : Nat) (l : List UInt8) (n : Int) (w : World) (h : Bld B b (Lib.byteCells l) w) (hI : I64 n) (hlen : l.length + (encI n).length ≤ 140737488355328) (hBw : B ≤ w.heap.size) :
    Calls Tryd.prog 75 #[.pointer (some ⟨b, 0, none⟩), .slice (some ⟨w.heap.size, 0, none⟩) 1 1] (w.alloc (.cells #[.int .i64 n] 3)) (jEd B b (l ++ encI n) w) := by
  refine (wint_calls B b w.heap.size l [n] _ (jDe h _) (jCt w _) (by have := jFi h; omega) (fun x hx => by simp at hx; subst hx; exact hI) (by simp) (by simpa using hlen) (by simp; omega)).mono ?_
  rintro e w' ⟨rfl, h1, h2, h3⟩
  exact ⟨rfl, by simpa using h1, (Below.refl B w).alloc hBw _ |>.trans h2, (jCp b w _).trans h3⟩
theorem wint2_calls (B b : Nat) (l : List UInt8) (n m : Int) (w : World) (h : Bld B b (Lib.byteCells l) w) (hI : I64 n) (hJ : I64 m) (hlen : l.length + ((encI n).length + (encI m).length) ≤ 140737488355328) (hBw : B ≤ w.heap.size) :
    Calls Tryd.prog 75 #[.pointer (some ⟨b, 0, none⟩), .slice (some ⟨w.heap.size, 0, none⟩) 2 2] (w.alloc (.cells #[.int .i64 n, .int .i64 m] 3)) (jEd B b (l ++ (encI n ++ encI m)) w) := by
  refine (wint_calls B b w.heap.size l [n, m] _ (jDe h _) (jCt w _) (by have := jFi h; omega) (fun x hx => by simp at hx; rcases hx with rfl | rfl <;> assumption) (by simp) (by simpa using hlen) (by simp; omega)).mono ?_
  rintro e w' ⟨rfl, h1, h2, h3⟩
  exact ⟨rfl, by simpa using h1, (Below.refl B w).alloc hBw _ |>.trans h2, (jCp b w _).trans h3⟩
theorem strs_at {w : World} {q : Nat} {ns : List ByteArray} (h : w.heap[q]? = some (.cells (ns.map fun n => Value.string n).toArray 9 (0, 0))) {j : Nat} (hj : j < ns.length) : w.cell? ⟨q, j, none⟩ = some (.string (ns.getD j ByteArray.empty)) := by
  rw [Lib.cell_of_heap h]
  simp [List.getElem?_eq_getElem hj, List.getD]
theorem str_cells (l m : List UInt8) (s : ByteArray) : Lib.byteCells (l ++ m) ++ Lib.strCells s = Lib.byteCells (l ++ (m ++ s.data.toList)) := by
  simp [Lib.byteCells, Lib.strCells]
set_option maxHeartbeats 4000000 in
set_option maxRecDepth 100000 in
theorem wstr_calls (B b q : Nat) (l : List UInt8) (ns : List ByteArray) (w : World) (h : Bld B b (Lib.byteCells l) w) (hq : w.heap[q]? = some (.cells (ns.map fun n => Value.string n).toArray 9 (0, 0))) (hqb : q ≠ b) (hns : ns.length ≤ 100)
    (hlen : l.length + (ns.map encS).flatten.length ≤ 140737488355328) (hBw : B ≤ w.heap.size) :
    Calls Tryd.prog 77 #[.pointer (some ⟨b, 0, none⟩), .slice (some ⟨q, 0, none⟩) ns.length ns.length] w (jEd B b (l ++ (ns.map encS).flatten) w) := by
  have HQ := jAa.mk hq
  have H0 := jAa.mk h
  clear hq h
  go_enter Tryd.func77, Tryd.ntmps77
  go_wp2
  go_loopw [5, 8] (fun t5 t8 wr => ∃ j : Nat, t8 = .int .i64 j ∧ j ≤ ns.length ∧ jAa (Bld B b (Lib.byteCells (l ++ ((ns.take j).map encS).flatten)) wr) ∧ jAa (Below B w wr) ∧ jAa (KeepT b w wr)) (fun _ t8 _ => ns.length - (intOf t8).toNat)
  case atStart => exact ⟨0, rfl, Nat.zero_le _, ⟨by simpa using H0.out⟩, ⟨Below.refl _ _⟩, ⟨KeepT.refl _ _⟩⟩
  case round =>
    obtain ⟨j, rfl, hj, HW, HB, HK⟩ := hrel
    by_cases hlt : j < ns.length
    · have hc := strs_at (HK.out _ _ _ HQ.out (by decide) hqb) hlt
      have hlen2 : l.length + (((ns.take j).map encS).flatten.length + (encS (ns.getD j ByteArray.empty)).length) ≤ 140737488355328 := by
        have e : ns = ns.take j ++ (ns.getD j ByteArray.empty :: ns.drop (j + 1)) := by rw [← jDk ByteArray.empty hlt, List.take_append_drop]
        have e2 : (ns.map encS).flatten.length = ((ns.take j).map encS).flatten.length + (encS (ns.getD j ByteArray.empty)).length + ((ns.drop (j + 1)).map encS).flatten.length := by
          conv => lhs; rw [e]
          simp [Nat.add_assoc]
        omega
      have hnext : (((ns.take (j + 1)).map encS).flatten) = ((ns.take j).map encS).flatten ++ encS (ns.getD j ByteArray.empty) := by
        rw [List.take_add_one, List.getElem?_eq_getElem hlt, List.map_append, List.flatten_append]
        have : ns.getD j ByteArray.empty = ns[j] := by simp [List.getD, List.getElem?_eq_getElem hlt]
        rw [this]
        simp
      have HN := jAa.mk hnext
      generalize ns.getD j ByteArray.empty = n at hc hlen2 HN
      generalize hM : ((ns.take j).map encS).flatten = M at HW hlen2 HN
      clear hM hnext
      have hnl : (encI (n.size : Int)).length + n.size = (encS n).length := by rw [encS, List.length_append, jDh]
      have hi0 : (0 : Int) ≤ (j : Int) := by omega
      have hi1 : (j : Int) < (ns.length : Int) := by omega
      have hi2 : j < ns.length := hlt
      have hBr : B ≤ wr.heap.size := by have := HB.out.size; omega
      have HI := jAa.mk (jDc (n := n.size) (by omega))
      go_wp2_with (first
        | (go_at_call 75; refine (jDs B b _ (n.size : Int) wr HW.out HI.out (by simp only [List.length_append]; omega) hBr).mono ?_; rintro e w2 ⟨rfl, h2, hb2, hk2⟩; have HW2 := jAa.mk h2; clear h2)
        | (go_at_call 105; refine (jGc B b _ n w2 HW2.out (by rw [jFu]; simp only [List.length_append]; omega) (by have := hb2.size; omega)).mono ?_; rintro e w3 ⟨rfl, h3, hb3, hk3⟩; rw [List.append_assoc, str_cells, List.append_assoc, ← encS, ← HN.out] at h3; have HW3 : jAa (Bld B b (Lib.byteCells (l ++ ((ns.take (j + 1)).map encS).flatten)) w3) := ⟨.inr h3⟩; clear h3))
      go_roundw
      case rel => exact ⟨j + 1, by go_num, by omega, HW3, ⟨(HB.out.trans hb2).trans hb3⟩, ⟨(HK.out.trans hk2).trans hk3⟩⟩
      case measure => simp [intOf]; omega
    · have hj2 : j = ns.length := by omega
      subst hj2
      have hn : ¬ ((ns.length : Int) < (ns.length : Int)) := by omega
      have HW := jAa.mk (show Bld B b (Lib.byteCells (l ++ (ns.map encS).flatten)) wr from by have := HW.out; rwa [List.take_length] at this)
      go_wp2
      go_end0
      exact ⟨rfl, HW.out, HB.out, HK.out⟩
theorem wstr1_calls (B b : Nat) (l : List UInt8) (s : ByteArray) (w : World) (h : Bld B b (Lib.byteCells l) w) (hlen : l.length + (encS s).length ≤ 140737488355328) (hBw : B ≤ w.heap.size) :
    Calls Tryd.prog 77 #[.pointer (some ⟨b, 0, none⟩), .slice (some ⟨w.heap.size, 0, none⟩) 1 1] (w.alloc (.cells #[.string s] 9)) (jEd B b (l ++ encS s) w) := by
  refine (wstr_calls B b w.heap.size l [s] _ (jDe h _) (jCt w _) (by have := jFi h; omega) (by simp) (by simpa using hlen) (by simp; omega)).mono ?_
  rintro e w' ⟨rfl, h1, h2, h3⟩
  exact ⟨rfl, by simpa using h1, (Below.refl B w).alloc hBw _ |>.trans h2, (jCp b w _).trans h3⟩
theorem wstr2_calls (B b : Nat) (l : List UInt8) (s t : ByteArray) (w : World) (h : Bld B b (Lib.byteCells l) w) (hlen : l.length + ((encS s).length + (encS t).length) ≤ 140737488355328) (hBw : B ≤ w.heap.size) :
    Calls Tryd.prog 77 #[.pointer (some ⟨b, 0, none⟩), .slice (some ⟨w.heap.size, 0, none⟩) 2 2] (w.alloc (.cells #[.string s, .string t] 9)) (jEd B b (l ++ (encS s ++ encS t)) w) := by
  refine (wstr_calls B b w.heap.size l [s, t] _ (jDe h _) (jCt w _) (by have := jFi h; omega) (by simp) (by simpa using hlen) (by simp; omega)).mono ?_
  rintro e w' ⟨rfl, h1, h2, h3⟩
  exact ⟨rfl, by simpa using h1, (Below.refl B w).alloc hBw _ |>.trans h2, (jCp b w _).trans h3⟩
set_option maxHeartbeats 4000000 in
set_option maxRecDepth 100000 in
theorem wbool2_calls (B b : Nat) (l : List UInt8) (x y : Bool) (w : World) (h : Bld B b (Lib.byteCells l) w) (hlen : l.length + ((encB x).length + (encB y).length) ≤ 140737488355328) (hBw : B ≤ w.heap.size) :
    Calls Tryd.prog 103 #[.pointer (some ⟨b, 0, none⟩), .slice (some ⟨w.heap.size, 0, none⟩) 2 2] (w.alloc (.cells #[.bool x, .bool y] 4)) (jEd B b (l ++ (encB x ++ encB y)) w) := by
  have HQ := jAa.mk (jCt w (.cells #[.bool x, .bool y] 4))
  have hqb : w.heap.size ≠ b := by have := jFi h; omega
  have H0 := jAa.mk (jDe h (.cells #[.bool x, .bool y] 4))
  have HB0 := jAa.mk ((Below.refl B w).alloc hBw (.cells #[.bool x, .bool y] 4))
  have HK0 := jAa.mk (jCp b w (.cells #[.bool x, .bool y] 4))
  generalize hq : w.heap.size = q at HQ hqb hBw
  generalize hw : w.alloc (.cells #[.bool x, .bool y] 4) = w0 at HQ H0 HB0 HK0
  have hB1 : B ≤ w0.heap.size := by have := HB0.out.size; omega
  have I0 : jAa (I64 0) := ⟨by omega, by omega⟩
  have I1 : jAa (I64 1) := ⟨by omega, by omega⟩
  clear h hq hw
  have c0 := jAb HQ.out 0
  have c1 := jAb HQ.out 1
  go_enter Tryd.func103, Tryd.ntmps103
  go_wp2
  go_loopw [5, 6, 9] (fun t5 t6 t9 wr => ∃ (j : Nat) (m : List UInt8), t9 = .int .i64 j ∧ (j = 0 ∧ m = [] ∨ j = 1 ∧ m = encB x ∨ j = 2 ∧ m = encB x ++ encB y) ∧ jAa (Bld B b (Lib.byteCells (l ++ m)) wr) ∧ jAa (Below B w0 wr) ∧ jAa (KeepT b w0 wr)) (fun _ _ t9 _ => 2 - (intOf t9).toNat)
  case atStart => exact ⟨0, [], rfl, .inl ⟨rfl, rfl⟩, ⟨by simpa using H0.out⟩, ⟨Below.refl _ _⟩, ⟨KeepT.refl _ _⟩⟩
  case round =>
    obtain ⟨j, m, rfl, hj, HW, HB, HK⟩ := hrel
    have HQr := jAa.mk (HK.out _ _ _ HQ.out (by decide) hqb)
    have d0 := jAb HQr.out 0
    have d1 := jAb HQr.out 1
    have hBr : B ≤ wr.heap.size := by have := HB.out.size; omega
    rcases hj with ⟨rfl, rfl⟩ | ⟨rfl, rfl⟩ | ⟨rfl, rfl⟩
    · cases x with
      | true =>
        go_wp2_with (go_at_call 75; refine (jDs B b _ 1 wr HW.out I1.out (by have e1 : (encI 1).length ≤ (encB true).length := Nat.le_refl _; simp only [List.length_append, List.length_nil]; omega) hBr).mono ?_; rintro e w2 ⟨rfl, h2, hb2, hk2⟩; have HW2 := jAa.mk h2; clear h2)
        go_roundw
        case rel => exact ⟨1, encB true, by go_num, .inr (.inl ⟨rfl, rfl⟩), ⟨by simpa [encB] using HW2.out⟩, ⟨HB.out.trans hb2⟩, ⟨HK.out.trans hk2⟩⟩
        case measure => simp [intOf]
      | false =>
        go_wp2_with (go_at_call 75; refine (jDs B b _ 0 wr HW.out I0.out (by have e1 : (encI 0).length ≤ (encB false).length := Nat.le_refl _; simp only [List.length_append, List.length_nil]; omega) hBr).mono ?_; rintro e w2 ⟨rfl, h2, hb2, hk2⟩; have HW2 := jAa.mk h2; clear h2)
        go_roundw
        case rel => exact ⟨1, encB false, by go_num, .inr (.inl ⟨rfl, rfl⟩), ⟨by simpa [encB] using HW2.out⟩, ⟨HB.out.trans hb2⟩, ⟨HK.out.trans hk2⟩⟩
        case measure => simp [intOf]
    · cases y with
      | true =>
        go_wp2_with (go_at_call 75; refine (jDs B b _ 1 wr HW.out I1.out (by have e1 : (encI 1).length ≤ (encB true).length := Nat.le_refl _; simp only [List.length_append]; omega) hBr).mono ?_; rintro e w2 ⟨rfl, h2, hb2, hk2⟩; have HW2 := jAa.mk h2; clear h2)
        go_roundw
        case rel => exact ⟨2, encB x ++ encB true, by go_num, .inr (.inr ⟨rfl, rfl⟩), ⟨by have := HW2.out; rw [List.append_assoc] at this; exact this⟩, ⟨HB.out.trans hb2⟩, ⟨HK.out.trans hk2⟩⟩
        case measure => simp [intOf]
      | false =>
        go_wp2_with (go_at_call 75; refine (jDs B b _ 0 wr HW.out I0.out (by have e1 : (encI 0).length ≤ (encB false).length := Nat.le_refl _; simp only [List.length_append]; omega) hBr).mono ?_; rintro e w2 ⟨rfl, h2, hb2, hk2⟩; have HW2 := jAa.mk h2; clear h2)
        go_roundw
        case rel => exact ⟨2, encB x ++ encB false, by go_num, .inr (.inr ⟨rfl, rfl⟩), ⟨by have := HW2.out; rw [List.append_assoc] at this; exact this⟩, ⟨HB.out.trans hb2⟩, ⟨HK.out.trans hk2⟩⟩
        case measure => simp [intOf]
    · go_wp2
      go_end0
      exact ⟨rfl, HW.out, HB0.out.trans HB.out, HK0.out.trans HK.out⟩
end Go.Proofs.YtefdfgmlmjnmlaaDoor.My
end

section
set_option linter.unusedSimpArgs false
set_option linter.unusedVariables false
namespace Go.Proofs.YtefdfgmlmjnmlaaDoor.My
open Go.RowKit Go.Proofs.YtefdfgmlmjnmlaaDoorW.PrintWords Go.Proofs.YtefdfgmlmjnmlaaDoor.Rf
open Go.Proofs.YtefdfgmlmjnmlaaDoorW.PrintLast Go.Proofs.YtefdfgmlmjnmlaaDoorW.PrintMore
theorem wint1_at (B b : Nat) (l : List UInt8) (n : Int) (w : World) (q : Nat) (hq : q = w.heap.size) (h : Bld B b (Lib.byteCells l) w) (hI : I64 n) (hlen : l.length + (encI n).length ≤ 140737488355328) (hBw : B ≤ w.heap.size) :
    Calls Tryd.prog 75 #[.pointer (some ⟨b, 0, none⟩), .slice (some ⟨q, 0, none⟩) 1 1] (w.alloc (.cells #[.int .i64 n] 3)) (jEd B b (l ++ encI n) w) := by
  subst hq; exact jDs B b l n w h hI hlen hBw
theorem jFe (B b : Nat) (l : List UInt8) (n m : Int) (w : World) (q : Nat) (hq : q = w.heap.size) (h : Bld B b (Lib.byteCells l) w) (hI : I64 n) (hJ : I64 m) (hlen : l.length + ((encI n).length + (encI m).length) ≤ 140737488355328) (hBw : B ≤ w.heap.size) :
    Calls Tryd.prog 75 #[.pointer (some ⟨b, 0, none⟩), .slice (some ⟨q, 0, none⟩) 2 2] (w.alloc (.cells #[.int .i64 n, .int .i64 m] 3)) (jEd B b (l ++ (encI n ++ encI m)) w) := by
  subst hq; exact wint2_calls B b l n m w h hI hJ hlen hBw
theorem wstr1_at (B b : Nat) (l : List UInt8) (s : ByteArray) (w : World) (q : Nat) (hq : q = w.heap.size) (h : Bld B b (Lib.byteCells l) w) (hlen : l.length + (encS s).length ≤ 140737488355328) (hBw : B ≤ w.heap.size) :
    Calls Tryd.prog 77 #[.pointer (some ⟨b, 0, none⟩), .slice (some ⟨q, 0, none⟩) 1 1] (w.alloc (.cells #[.string s] 9)) (jEd B b (l ++ encS s) w) := by
  subst hq; exact wstr1_calls B b l s w h hlen hBw
theorem wstr2_at (B b : Nat) (l : List UInt8) (s t : ByteArray) (w : World) (q : Nat) (hq : q = w.heap.size) (h : Bld B b (Lib.byteCells l) w) (hlen : l.length + ((encS s).length + (encS t).length) ≤ 140737488355328) (hBw : B ≤ w.heap.size) :
    Calls Tryd.prog 77 #[.pointer (some ⟨b, 0, none⟩), .slice (some ⟨q, 0, none⟩) 2 2] (w.alloc (.cells #[.string s, .string t] 9)) (jEd B b (l ++ (encS s ++ encS t)) w) := by
  subst hq; exact wstr2_calls B b l s t w h hlen hBw
theorem wbool2_at (B b : Nat) (l : List UInt8) (x y : Bool) (w : World) (q : Nat) (hq : q = w.heap.size) (h : Bld B b (Lib.byteCells l) w) (hlen : l.length + ((encB x).length + (encB y).length) ≤ 140737488355328) (hBw : B ≤ w.heap.size) :
    Calls Tryd.prog 103 #[.pointer (some ⟨b, 0, none⟩), .slice (some ⟨q, 0, none⟩) 2 2] (w.alloc (.cells #[.bool x, .bool y] 4)) (jEd B b (l ++ (encB x ++ encB y)) w) := by
  subst hq; exact wbool2_calls B b l x y w h hlen hBw
set_option maxHeartbeats 4000000 in
set_option maxRecDepth 100000 in
theorem wval_calls (B b : Nat) (l : List UInt8) (v : S70) (q : Q70 v) (w : World) (h : Bld B b (Lib.byteCells l) w) (hlen : l.length + (encV v).length ≤ 140737488355328) (hBw : B ≤ w.heap.size) :
    Calls Tryd.prog 121 #[.pointer (some ⟨b, 0, none⟩), .agg #[.int .i64 v.f0, .int .i64 v.f1, .string v.f2]] w (jEd B b (l ++ encV v) w) := by
  have hl2 : l.length + ((encI v.f0).length + (encI v.f1).length + (encS v.f2).length) ≤ 140737488355328 := (by simp only [encV, List.length_append] at hlen; omega)
  have I0 := jAa.mk q.a
  have I1 := jAa.mk q.b
  have H0 := jAa.mk (jDe h (.cells #[.int .i64 v.f0, .int .i64 v.f1, .string v.f2] 70))
  have HB0 := jAa.mk ((Below.refl B w).alloc hBw (.cells #[.int .i64 v.f0, .int .i64 v.f1, .string v.f2] 70))
  have HK0 := jAa.mk (jCp b w (.cells #[.int .i64 v.f0, .int .i64 v.f1, .string v.f2] 70))
  have HN := jAa.mk (jCt w (.cells #[.int .i64 v.f0, .int .i64 v.f1, .string v.f2] 70))
  have hqb : w.heap.size ≠ b := by have := jFi h; omega
  clear h q hlen
  go_enter Tryd.func121, Tryd.ntmps121
  go_wp2_with (first
    | (go_at_call 75; refine (jFe B b l v.f0 v.f1 _ _ (by simp) H0.out I0.out I1.out (by omega) (by simp; omega)).mono ?_; rintro e w2 ⟨rfl, h2, hb2, hk2⟩; have HW2 := jAa.mk h2; clear h2; have HN2 := jAa.mk (hk2 _ _ _ HN.out (by decide) hqb); have n0 := jAb HN2.out 0; have n1 := jAb HN2.out 1; have n2 := jAb HN2.out 2; have hB2 : B ≤ w2.heap.size := by have := hb2.size; simp at this; omega)
    | (go_at_call 77; refine (wstr1_at B b _ v.f2 w2 _ (by simp) HW2.out (by simp only [List.length_append]; omega) hB2).mono ?_; rintro e w3 ⟨rfl, h3, hb3, hk3⟩; have HW3 := jAa.mk h3; clear h3))
  go_end0
  exact ⟨rfl, by have := HW3.out; simpa [encV] using this, (HB0.out.trans hb2).trans hb3, (HK0.out.trans hk2).trans hk3⟩
set_option maxHeartbeats 4000000 in
set_option maxRecDepth 100000 in
theorem wexpr_calls (B b : Nat) (wb : World) (hwb : wb.heap.size ≤ B) (e : S72) (hq : Q72 e) : ∀ (A : Option Addr) (c : Nat) (l : List UInt8) (w : World), Kd.C k72 wb A e.f3.length e.f3 → Below wb.heap.size wb w → Bld B b (Lib.byteCells l) w → l.length + (encE e).length ≤ 140737488355328 → B ≤ w.heap.size →
    Calls Tryd.prog 104 #[.pointer (some ⟨b, 0, none⟩), .agg #[.int .i64 e.f0, .int .i64 e.f1, .int .i64 e.f2.f0, .int .i64 e.f2.f1, .string e.f2.f2, .slice A e.f3.length c]] w (jEd B b (l ++ encE e) w) := by
  induction hq with
  | mk e qa qb qc _ ih =>
    intro A c l w hC hbw h hlen hBw
    rw [jEn] at hlen ⊢
    have hmax : e.f3.length ≤ 9223372036854775807 := Kd.C_max hC
    have hl2 : l.length + ((encI e.f0).length + (encI e.f1).length + (encV e.f2).length + (encI (e.f3.length : Int)).length + (e.f3.map encE).flatten.length) ≤ 140737488355328 := (by simp only [List.length_append] at hlen; omega)
    have I0 := jAa.mk qa
    have I1 := jAa.mk qb
    have I2 := jAa.mk (jDc hmax)
    have HC := jAa.mk hC
    have HW0 := jAa.mk hbw
    have IH := jAa.mk ih
    have H0 := jAa.mk (jDe h (.cells #[.int .i64 e.f0, .int .i64 e.f1, .int .i64 e.f2.f0, .int .i64 e.f2.f1, .string e.f2.f2, .slice A e.f3.length c] 72))
    have HB0 := jAa.mk ((Below.refl B w).alloc hBw (.cells #[.int .i64 e.f0, .int .i64 e.f1, .int .i64 e.f2.f0, .int .i64 e.f2.f1, .string e.f2.f2, .slice A e.f3.length c] 72))
    have HK0 := jAa.mk (jCp b w (.cells #[.int .i64 e.f0, .int .i64 e.f1, .int .i64 e.f2.f0, .int .i64 e.f2.f1, .string e.f2.f2, .slice A e.f3.length c] 72))
    have HN := jAa.mk (jCt w (.cells #[.int .i64 e.f0, .int .i64 e.f1, .int .i64 e.f2.f0, .int .i64 e.f2.f1, .string e.f2.f2, .slice A e.f3.length c] 72))
    have hqb : w.heap.size ≠ b := by have := jFi h; omega
    clear h hlen hC hbw ih
    go_enter Tryd.func104, Tryd.ntmps104
    go_wp2_with (first
      | (go_at_call 121; refine (wval_calls B b _ e.f2 qc w2 HW2.out (by simp only [List.length_append]; omega) hB2).mono ?_; rintro x w3 ⟨rfl, h3, hb3, hk3⟩; have HW3 := jAa.mk h3; clear h3 n0 n1 n2 n3 n4 n5; have HN3 := jAa.mk (hk3 _ _ _ HN2.out (by decide) hqb); have n0 := jAb HN3.out 0; have n1 := jAb HN3.out 1; have n2 := jAb HN3.out 2; have n3 := jAb HN3.out 3; have n4 := jAb HN3.out 4; have n5 := jAb HN3.out 5; have hB3 : B ≤ w3.heap.size := by have := hb3.size; omega)
      | (go_at_call 75; refine (wint1_at B b _ (e.f3.length : Int) w3 _ (by simp) HW3.out I2.out (by simp only [List.length_append]; omega) hB3).mono ?_; rintro x w4 ⟨rfl, h4, hb4, hk4⟩; have HW4 := jAa.mk h4; clear h4 n0 n1 n2 n3 n4 n5; have HN4 := jAa.mk (hk4 _ _ _ HN3.out (by decide) hqb); have n0 := jAb HN4.out 0; have n1 := jAb HN4.out 1; have n2 := jAb HN4.out 2; have n3 := jAb HN4.out 3; have n4 := jAb HN4.out 4; have n5 := jAb HN4.out 5; have hB4 : B ≤ w4.heap.size := by have := hb4.size; omega)
      | (go_at_call 75; refine (jFe B b l e.f0 e.f1 _ _ (by simp) H0.out I0.out I1.out (by omega) (by simp; omega)).mono ?_; rintro x w2 ⟨rfl, h2, hb2, hk2⟩; have HW2 := jAa.mk h2; clear h2; have HN2 := jAa.mk (hk2 _ _ _ HN.out (by decide) hqb); have n0 := jAb HN2.out 0; have n1 := jAb HN2.out 1; have n2 := jAb HN2.out 2; have n3 := jAb HN2.out 3; have n4 := jAb HN2.out 4; have n5 := jAb HN2.out 5; have hB2 : B ≤ w2.heap.size := by have := hb2.size; simp at this; omega))
    have hbA : Below B w w4 := ((HB0.out.trans hb2).trans hb3).trans hb4
    have hkA : KeepT b w w4 := ((HK0.out.trans hk2).trans hk3).trans hk4
    have hbW : Below wb.heap.size wb w4 := HW0.out.trans (hbA.mono hwb)
    have HBA := jAa.mk hbA
    have HKA := jAa.mk hkA
    have HBW := jAa.mk hbW
    clear hbA hkA hbW hb2 hb3 hb4 hk2 hk3 hk4 n0 n1 n2 n3 n4 n5
    generalize hL : l ++ (encI e.f0 ++ encI e.f1) ++ encV e.f2 ++ encI (e.f3.length : Int) = L at HW4
    have hLl : L.length + (e.f3.map encE).flatten.length ≤ 140737488355328 := by rw [← hL]; simp only [List.length_append]; omega
    go_loopw [5, 26] (fun t5 t26 wr => ∃ j : Nat, t26 = .int .i64 j ∧ j ≤ e.f3.length ∧ jAa (Bld B b (Lib.byteCells (L ++ ((e.f3.take j).map encE).flatten)) wr) ∧ jAa (Below B w4 wr) ∧ jAa (KeepT b w4 wr)) (fun _ t26 _ => e.f3.length - (intOf t26).toNat)
    case atStart => exact ⟨0, rfl, Nat.zero_le _, ⟨by simpa using HW4.out⟩, ⟨Below.refl _ _⟩, ⟨KeepT.refl _ _⟩⟩
    case round =>
      obtain ⟨j, rfl, hj, HW, HB, HK⟩ := hrel
      by_cases hlt : j < e.f3.length
      · obtain ⟨ad, A5, c5, eA, hc0, hc1, hc2, hc3, hc4, hc5, hl5, hC5⟩ := jDx HC.out (j : Int) (by omega) (by omega)
        subst eA
        simp only [Int.toNat_natCast, jAq] at hc0 hc1 hc2 hc3 hc4 hc5 hl5 hC5
        have hmem := jCn (z := z72) hlt
        have hlen2 : L.length + (((e.f3.take j).map encE).flatten.length + (encE (e.f3.getD j z72)).length) ≤ 140737488355328 := by
          have e1 : e.f3 = e.f3.take j ++ (e.f3.getD j z72 :: e.f3.drop (j + 1)) := by rw [← jDk z72 hlt, List.take_append_drop]
          have e2 : (e.f3.map encE).flatten.length = ((e.f3.take j).map encE).flatten.length + (encE (e.f3.getD j z72)).length + ((e.f3.drop (j + 1)).map encE).flatten.length := by
            conv => lhs; rw [e1]
            simp [Nat.add_assoc]
          omega
        have hnext : (((e.f3.take (j + 1)).map encE).flatten) = ((e.f3.take j).map encE).flatten ++ encE (e.f3.getD j z72) := by
          rw [List.take_add_one, List.getElem?_eq_getElem hlt, List.map_append, List.flatten_append]
          have : e.f3.getD j z72 = e.f3[j] := by simp [List.getD, List.getElem?_eq_getElem hlt]
          rw [this]
          simp
        have HNx := jAa.mk hnext
        have IHx := IH.out _ hmem
        generalize e.f3.getD j z72 = y at hc0 hc1 hc2 hc3 hc4 hc5 hl5 hC5 hlen2 HNx IHx
        generalize hM : ((e.f3.take j).map encE).flatten = M at HW hlen2 HNx
        clear hM hnext hmem
        have hbr : Below wb.heap.size wb wr := HBW.out.trans (HB.out.mono hwb)
        have d0 := jBg hbr hc0
        have d1 := jBg hbr hc1
        have d2 := jBg hbr hc2
        have d3 := jBg hbr hc3
        have d4 := jBg hbr hc4
        have d5 := jBg hbr hc5
        have hBr : B ≤ wr.heap.size := by have := HB.out.size; omega
        have HBo := jAa.mk (hbr.alloc hbr.size (.cells #[.int .i64 y.f0, .int .i64 y.f1, .int .i64 y.f2.f0, .int .i64 y.f2.f1, .string y.f2.f2, .slice A5 y.f3.length c5] 72))
        have HWo := jAa.mk (jDe HW.out (.cells #[.int .i64 y.f0, .int .i64 y.f1, .int .i64 y.f2.f0, .int .i64 y.f2.f1, .string y.f2.f2, .slice A5 y.f3.length c5] 72))
        have HKo := jAa.mk (HK.out.trans (jCp b wr (.cells #[.int .i64 y.f0, .int .i64 y.f1, .int .i64 y.f2.f0, .int .i64 y.f2.f1, .string y.f2.f2, .slice A5 y.f3.length c5] 72)))
        have HBp := jAa.mk (HB.out.alloc hBr (.cells #[.int .i64 y.f0, .int .i64 y.f1, .int .i64 y.f2.f0, .int .i64 y.f2.f1, .string y.f2.f2, .slice A5 y.f3.length c5] 72))
        clear hbr hc0 hc1 hc2 hc3 hc4 hc5
        have hi0 : (0 : Int) ≤ (j : Int) := by omega
        have hi1 : (j : Int) < (e.f3.length : Int) := by omega
        go_wp2_with (go_at_call 104; refine (IHx A5 c5 _ _ hC5 HBo.out HWo.out (by simp only [List.length_append]; omega) (by simp; omega)).mono ?_; rintro x w5 ⟨rfl, h5, hb5, hk5⟩; rw [List.append_assoc, ← HNx.out] at h5; have HW5 := jAa.mk h5; clear h5)
        go_roundw
        case rel => exact ⟨j + 1, by go_num, by omega, HW5, ⟨HBp.out.trans hb5⟩, ⟨HKo.out.trans hk5⟩⟩
        case measure => simp [intOf]; omega
      · have hj2 : j = e.f3.length := by omega
        subst hj2
        have hn : ¬ ((e.f3.length : Int) < (e.f3.length : Int)) := by omega
        have HWf := jAa.mk (show Bld B b (Lib.byteCells (L ++ (e.f3.map encE).flatten)) wr from by have := HW.out; rwa [List.take_length] at this)
        go_wp2
        go_end0
        refine ⟨rfl, ?_, HBA.out.trans HB.out, HKA.out.trans HK.out⟩
        have := HWf.out
        rw [← hL] at this
        simpa using this
end Go.Proofs.YtefdfgmlmjnmlaaDoor.My
end

section
set_option linter.unusedSimpArgs false
set_option linter.unusedVariables false
namespace Go.Proofs.YtefdfgmlmjnmlaaDoor.My
open Go.RowKit Go.Proofs.YtefdfgmlmjnmlaaDoorW.PrintWords Go.Proofs.YtefdfgmlmjnmlaaDoor.Rf
open Go.Proofs.YtefdfgmlmjnmlaaDoorW.PrintLast Go.Proofs.YtefdfgmlmjnmlaaDoorW.PrintMore
set_option maxHeartbeats 4000000 in
set_option maxRecDepth 100000 in
theorem wtable_calls (B b : Nat) (wb : World) (hwb : wb.heap.size ≤ B) (t : S45) (q : Q45 t) (A : Option Addr) (c : Nat) (A' : Option Addr) (c' : Nat) (l : List UInt8) (w : World) (hC : Kd.C k59 wb A t.f2.length t.f2) (hC3 : Kd.C k72 wb A' t.f3.length t.f3) (hbw : Below wb.heap.size wb w) (h : Bld B b (Lib.byteCells l) w) (hlen : l.length + (encT t).length ≤ 140737488355328) (hBw : B ≤ w.heap.size) :
    Calls Tryd.prog 76 #[.pointer (some ⟨b, 0, none⟩), .agg #[.string t.f0, .int .i64 t.f1, .slice A t.f2.length c, .slice A' t.f3.length c']] w (jEd B b (l ++ encT t) w) := by
  have hl2 : l.length + ((encS t.f0).length + (encI t.f1).length + (encI (t.f2.length : Int)).length + (t.f2.map encC).flatten.length + (encI (t.f3.length : Int)).length + (t.f3.map encE).flatten.length) ≤ 140737488355328 := (by simp only [encT, List.length_append] at hlen; omega)
  have I1 := jAa.mk q.b
  have hm2 : t.f2.length ≤ 9223372036854775807 := Kd.C_max hC
  have hm3 : t.f3.length ≤ 9223372036854775807 := Kd.C_max hC3
  have I2 := jAa.mk (jDc (Kd.C_max hC))
  have I3 := jAa.mk (jDc (Kd.C_max hC3))
  have QC := jAa.mk q.c
  have QE := jAa.mk q.d
  have HC := jAa.mk hC
  have HC3 := jAa.mk hC3
  have HW0 := jAa.mk hbw
  have H0 := jAa.mk (jDe h (.cells #[.string t.f0, .int .i64 t.f1, .slice A t.f2.length c, .slice A' t.f3.length c'] 45))
  have HB0 := jAa.mk ((Below.refl B w).alloc hBw (.cells #[.string t.f0, .int .i64 t.f1, .slice A t.f2.length c, .slice A' t.f3.length c'] 45))
  have HK0 := jAa.mk (jCp b w (.cells #[.string t.f0, .int .i64 t.f1, .slice A t.f2.length c, .slice A' t.f3.length c'] 45))
  have HN := jAa.mk (jCt w (.cells #[.string t.f0, .int .i64 t.f1, .slice A t.f2.length c, .slice A' t.f3.length c'] 45))
  have hqb : w.heap.size ≠ b := by have := jFi h; omega
  clear h hlen hC hC3 hbw q
  go_enter Tryd.func76, Tryd.ntmps76
  go_wp2_with (first
    | (go_at_call 77; refine (wstr1_at B b l t.f0 _ _ (by simp) H0.out (by omega) (by simp; omega)).mono ?_; rintro x w2 ⟨rfl, h2, hb2, hk2⟩; have HW2 := jAa.mk h2; clear h2; have HN2 := jAa.mk (hk2 _ _ _ HN.out (by decide) hqb); have n0 := jAb HN2.out 0; have n1 := jAb HN2.out 1; have n2 := jAb HN2.out 2; have n3 := jAb HN2.out 3; have hB2 : B ≤ w2.heap.size := by have := hb2.size; simp at this; omega)
    | (go_at_call 75; refine (jFe B b _ t.f1 (t.f2.length : Int) w2 _ (by simp) HW2.out I1.out I2.out (by simp only [List.length_append]; omega) hB2).mono ?_; rintro x w3 ⟨rfl, h3, hb3, hk3⟩; have HW3 := jAa.mk h3; clear h3; clear n0 n1 n2 n3; have HN3 := jAa.mk (hk3 _ _ _ HN2.out (by decide) hqb); have n0 := jAb HN3.out 0; have n1 := jAb HN3.out 1; have n2 := jAb HN3.out 2; have n3 := jAb HN3.out 3; have hB3 : B ≤ w3.heap.size := by have := hb3.size; omega))
  have HBA := jAa.mk ((HB0.out.trans hb2).trans hb3)
  have HKA := jAa.mk ((HK0.out.trans hk2).trans hk3)
  have HBW := jAa.mk (HW0.out.trans (HBA.out.mono hwb))
  clear hb2 hb3 hk2 hk3 n0 n1 n2 n3
  generalize hL : l ++ encS t.f0 ++ (encI t.f1 ++ encI (t.f2.length : Int)) = L at HW3
  have hLl : L.length + (t.f2.map encC).flatten.length + ((encI (t.f3.length : Int)).length + (t.f3.map encE).flatten.length) ≤ 140737488355328 := by rw [← hL]; simp only [List.length_append]; omega
  go_loopw [5, 24] (fun t5 t24 wr => ∃ j : Nat, t24 = .int .i64 j ∧ j ≤ t.f2.length ∧ jAa (Bld B b (Lib.byteCells (L ++ ((t.f2.take j).map encC).flatten)) wr) ∧ jAa (Below B w3 wr) ∧ jAa (KeepT b w3 wr)) (fun _ t24 _ => t.f2.length - (intOf t24).toNat)
  case atStart => exact ⟨0, rfl, Nat.zero_le _, ⟨by simpa using HW3.out⟩, ⟨Below.refl _ _⟩, ⟨KeepT.refl _ _⟩⟩
  case round =>
    obtain ⟨j, rfl, hj, HW, HB, HK⟩ := hrel
    by_cases hlt : j < t.f2.length
    · obtain ⟨ad, eA, hc0, hc1, hc2, hc3, hc4, hc5⟩ := jFp HC.out (j : Int) (by omega) (by omega)
      subst eA
      simp only [Int.toNat_natCast, jBn] at hc0 hc1 hc2 hc3 hc4 hc5
      have hlen2 : L.length + (((t.f2.take j).map encC).flatten.length + (encC (t.f2.getD j z59)).length) + ((encI (t.f3.length : Int)).length + (t.f3.map encE).flatten.length) ≤ 140737488355328 := by
        have e1 : t.f2 = t.f2.take j ++ (t.f2.getD j z59 :: t.f2.drop (j + 1)) := by rw [← jDk z59 hlt, List.take_append_drop]
        have e2 : (t.f2.map encC).flatten.length = ((t.f2.take j).map encC).flatten.length + (encC (t.f2.getD j z59)).length + ((t.f2.drop (j + 1)).map encC).flatten.length := by
          conv => lhs; rw [e1]
          simp [Nat.add_assoc]
        omega
      have hnext : (((t.f2.take (j + 1)).map encC).flatten) = ((t.f2.take j).map encC).flatten ++ encC (t.f2.getD j z59) := by
        rw [List.take_add_one, List.getElem?_eq_getElem hlt, List.map_append, List.flatten_append]
        have : t.f2.getD j z59 = t.f2[j] := by simp [List.getD, List.getElem?_eq_getElem hlt]
        rw [this]
        simp
      have HNx := jAa.mk hnext
      have hmem := jCn (z := z59) hlt
      have q := QC.out _ hmem
      generalize t.f2.getD j z59 = y at hc0 hc1 hc2 hc3 hc4 hc5 hlen2 HNx q
      generalize hM : ((t.f2.take j).map encC).flatten = M at HW hlen2 HNx
      clear hM hnext hmem
      have hl3 : L.length + M.length + ((encS y.f0).length + (encS y.f4).length + (encI y.f1).length + (encI y.f5).length + (encB y.f2).length + (encB y.f3).length) ≤ 140737488355328 := (by simp only [encC, List.length_append] at hlen2; omega)
      have hk3l : 1 ≤ (encI (t.f3.length : Int)).length := by unfold encI; rw [encU]; split <;> simp
      have J1 := jAa.mk q.b
      have J2 := jAa.mk q.d
      have hbr : Below wb.heap.size wb wr := HBW.out.trans (HB.out.mono hwb)
      have d0 := jBg hbr hc0
      have d1 := jBg hbr hc1
      have d2 := jBg hbr hc2
      have d3 := jBg hbr hc3
      have d4 := jBg hbr hc4
      have d5 := jBg hbr hc5
      have hBr : B ≤ wr.heap.size := by have := HB.out.size; omega
      have HWo := jAa.mk (jDe HW.out (.cells #[.string y.f0, .int .i64 y.f1, .bool y.f2, .bool y.f3, .string y.f4, .int .i64 y.f5] 59))
      have HKo := jAa.mk (HK.out.trans (jCp b wr (.cells #[.string y.f0, .int .i64 y.f1, .bool y.f2, .bool y.f3, .string y.f4, .int .i64 y.f5] 59)))
      have HBp := jAa.mk (HB.out.alloc hBr (.cells #[.string y.f0, .int .i64 y.f1, .bool y.f2, .bool y.f3, .string y.f4, .int .i64 y.f5] 59))
      have HY := jAa.mk (jCt wr (.cells #[.string y.f0, .int .i64 y.f1, .bool y.f2, .bool y.f3, .string y.f4, .int .i64 y.f5] 59))
      have hyb : wr.heap.size ≠ b := by have := jFi HW.out; omega
      clear hbr hc0 hc1 hc2 hc3 hc4 hc5 q
      have hi0 : (0 : Int) ≤ (j : Int) := by omega
      have hi1 : (j : Int) < (t.f2.length : Int) := by omega
      go_wp2_with (first
        | (go_at_call 77; refine (wstr2_at B b _ y.f0 y.f4 _ _ (by simp) HWo.out (by simp only [List.length_append]; omega) (by simp; omega)).mono ?_; rintro x w5 ⟨rfl, h5, hb5, hk5⟩; have HW5 := jAa.mk h5; clear h5; have HY5 := jAa.mk (hk5 _ _ _ HY.out (by decide) hyb); have y0 := jAb HY5.out 0; have y1 := jAb HY5.out 1; have y2 := jAb HY5.out 2; have y3 := jAb HY5.out 3; have y4 := jAb HY5.out 4; have y5 := jAb HY5.out 5; have hB5 : B ≤ w5.heap.size := by have := hb5.size; simp at this; omega)
        | (go_at_call 75; refine (jFe B b _ y.f1 y.f5 w5 _ (by simp) HW5.out J1.out J2.out (by simp only [List.length_append]; omega) hB5).mono ?_; rintro x w6 ⟨rfl, h6, hb6, hk6⟩; have HW6 := jAa.mk h6; clear h6; clear y0 y1 y2 y3 y4 y5; have HY6 := jAa.mk (hk6 _ _ _ HY5.out (by decide) hyb); have y0 := jAb HY6.out 0; have y1 := jAb HY6.out 1; have y2 := jAb HY6.out 2; have y3 := jAb HY6.out 3; have y4 := jAb HY6.out 4; have y5 := jAb HY6.out 5; have hB6 : B ≤ w6.heap.size := by have := hb6.size; omega)
        | (go_at_call 103; refine (wbool2_at B b _ y.f2 y.f3 w6 _ (by simp) HW6.out (by simp only [List.length_append]; omega) hB6).mono ?_; rintro x w7 ⟨rfl, h7, hb7, hk7⟩; have HW7 := jAa.mk h7; clear h7))
      go_roundw
      case rel =>
        refine ⟨j + 1, by go_num, by omega, ⟨?_⟩, ⟨((HBp.out.trans hb5).trans hb6).trans hb7⟩, ⟨((HKo.out.trans hk5).trans hk6).trans hk7⟩⟩
        rw [HNx.out]
        have := HW7.out
        simpa [encC] using this
      case measure => simp [intOf]; omega
    · have hj2 : j = t.f2.length := by omega
      subst hj2
      have hn : ¬ ((t.f2.length : Int) < (t.f2.length : Int)) := by omega
      have HWf := jAa.mk (show Bld B b (Lib.byteCells (L ++ (t.f2.map encC).flatten)) wr from by have := HW.out; rwa [List.take_length] at this)
      have HBB := jAa.mk (HBA.out.trans HB.out)
      have HKB := jAa.mk (HKA.out.trans HK.out)
      have HN4 := jAa.mk (HK.out _ _ _ HN3.out (by decide) hqb)
      have n0 := jAb HN4.out 0
      have n1 := jAb HN4.out 1
      have n2 := jAb HN4.out 2
      have n3 := jAb HN4.out 3
      have hBr : B ≤ wr.heap.size := by have := HB.out.size; omega
      clear HW
      go_wp2_with (go_at_call 75; refine (wint1_at B b _ (t.f3.length : Int) wr _ (by simp) HWf.out I3.out (by simp only [List.length_append]; omega) hBr).mono ?_; rintro x w8 ⟨rfl, h8, hb8, hk8⟩; have HW8 := jAa.mk h8; clear h8; clear n0 n1 n2 n3; have HN8 := jAa.mk (hk8 _ _ _ HN4.out (by decide) hqb); have n0 := jAb HN8.out 0; have n1 := jAb HN8.out 1; have n2 := jAb HN8.out 2; have n3 := jAb HN8.out 3)
      have HBC := jAa.mk (HBB.out.trans hb8)
      have HKC := jAa.mk (HKB.out.trans hk8)
      have HBX := jAa.mk (HW0.out.trans (HBC.out.mono hwb))
      have hB8 : B ≤ w8.heap.size := by have := hb8.size; omega
      clear hb8 hk8 n0 n1 n2 n3
      generalize hL2 : L ++ (t.f2.map encC).flatten ++ encI (t.f3.length : Int) = L2 at HW8
      have hLl2 : L2.length + (t.f3.map encE).flatten.length ≤ 140737488355328 := by rw [← hL2]; simp only [List.length_append]; omega
      go_loopw [7, 59] (fun t7 t59 wr => ∃ j : Nat, t59 = .int .i64 j ∧ j ≤ t.f3.length ∧ jAa (Bld B b (Lib.byteCells (L2 ++ ((t.f3.take j).map encE).flatten)) wr) ∧ jAa (Below B w8 wr) ∧ jAa (KeepT b w8 wr)) (fun _ t59 _ => t.f3.length - (intOf t59).toNat)
      case atStart => exact ⟨0, rfl, Nat.zero_le _, ⟨by simpa using HW8.out⟩, ⟨Below.refl _ _⟩, ⟨KeepT.refl _ _⟩⟩
      case round =>
        obtain ⟨j, rfl, hj, HW, HB, HK⟩ := hrel
        by_cases hlt : j < t.f3.length
        · obtain ⟨ad, A5, c5, eA, hc0, hc1, hc2, hc3, hc4, hc5, hl5, hC5⟩ := jDx HC3.out (j : Int) (by omega) (by omega)
          subst eA
          simp only [Int.toNat_natCast, jAq] at hc0 hc1 hc2 hc3 hc4 hc5 hl5 hC5
          have hlen2 : L2.length + (((t.f3.take j).map encE).flatten.length + (encE (t.f3.getD j z72)).length) ≤ 140737488355328 := by
            have e1 : t.f3 = t.f3.take j ++ (t.f3.getD j z72 :: t.f3.drop (j + 1)) := by rw [← jDk z72 hlt, List.take_append_drop]
            have e2 : (t.f3.map encE).flatten.length = ((t.f3.take j).map encE).flatten.length + (encE (t.f3.getD j z72)).length + ((t.f3.drop (j + 1)).map encE).flatten.length := by
              conv => lhs; rw [e1]
              simp [Nat.add_assoc]
            omega
          have hnext : (((t.f3.take (j + 1)).map encE).flatten) = ((t.f3.take j).map encE).flatten ++ encE (t.f3.getD j z72) := by
            rw [List.take_add_one, List.getElem?_eq_getElem hlt, List.map_append, List.flatten_append]
            have : t.f3.getD j z72 = t.f3[j] := by simp [List.getD, List.getElem?_eq_getElem hlt]
            rw [this]
            simp
          have HNx := jAa.mk hnext
          have hmem := jCn (z := z72) hlt
          have q := QE.out _ hmem
          generalize t.f3.getD j z72 = y at hc0 hc1 hc2 hc3 hc4 hc5 hl5 hC5 hlen2 HNx q
          generalize hM : ((t.f3.take j).map encE).flatten = M at HW hlen2 HNx
          clear hM hnext hmem
          have hbr : Below wb.heap.size wb wr := HBX.out.trans (HB.out.mono hwb)
          have d0 := jBg hbr hc0
          have d1 := jBg hbr hc1
          have d2 := jBg hbr hc2
          have d3 := jBg hbr hc3
          have d4 := jBg hbr hc4
          have d5 := jBg hbr hc5
          have hBr : B ≤ wr.heap.size := by have := HB.out.size; omega
          have HBo := jAa.mk (hbr.alloc hbr.size (.cells #[.int .i64 y.f0, .int .i64 y.f1, .int .i64 y.f2.f0, .int .i64 y.f2.f1, .string y.f2.f2, .slice A5 y.f3.length c5] 72))
          have HWo := jAa.mk (jDe HW.out (.cells #[.int .i64 y.f0, .int .i64 y.f1, .int .i64 y.f2.f0, .int .i64 y.f2.f1, .string y.f2.f2, .slice A5 y.f3.length c5] 72))
          have HKo := jAa.mk (HK.out.trans (jCp b wr (.cells #[.int .i64 y.f0, .int .i64 y.f1, .int .i64 y.f2.f0, .int .i64 y.f2.f1, .string y.f2.f2, .slice A5 y.f3.length c5] 72)))
          have HBp := jAa.mk (HB.out.alloc hBr (.cells #[.int .i64 y.f0, .int .i64 y.f1, .int .i64 y.f2.f0, .int .i64 y.f2.f1, .string y.f2.f2, .slice A5 y.f3.length c5] 72))
          have HQy := jAa.mk q
          clear hbr hc0 hc1 hc2 hc3 hc4 hc5 q
          have hi0 : (0 : Int) ≤ (j : Int) := by omega
          have hi1 : (j : Int) < (t.f3.length : Int) := by omega
          go_wp2_with (go_at_call 104; refine (wexpr_calls B b wb hwb y HQy.out A5 c5 _ _ hC5 HBo.out HWo.out (by simp only [List.length_append]; omega) (by simp; omega)).mono ?_; rintro x w9 ⟨rfl, h9, hb9, hk9⟩; rw [List.append_assoc, ← HNx.out] at h9; have HW9 := jAa.mk h9; clear h9)
          go_roundw
          case rel => exact ⟨j + 1, by go_num, by omega, HW9, ⟨HBp.out.trans hb9⟩, ⟨HKo.out.trans hk9⟩⟩
          case measure => simp [intOf]; omega
        · have hj2 : j = t.f3.length := by omega
          subst hj2
          have hn : ¬ ((t.f3.length : Int) < (t.f3.length : Int)) := by omega
          have HWg := jAa.mk (show Bld B b (Lib.byteCells (L2 ++ (t.f3.map encE).flatten)) wr from by have := HW.out; rwa [List.take_length] at this)
          go_wp2
          go_end0
          refine ⟨rfl, ?_, HBC.out.trans HB.out, HKC.out.trans HK.out⟩
          have := HWg.out
          rw [← hL2, ← hL] at this
          simpa [encT] using this
end Go.Proofs.YtefdfgmlmjnmlaaDoor.My
end

section
set_option linter.unusedSimpArgs false
set_option linter.unusedVariables false
namespace Go.Proofs.YtefdfgmlmjnmlaaDoor.My
open Go.RowKit Go.Proofs.YtefdfgmlmjnmlaaDoorW.PrintWords Go.Proofs.YtefdfgmlmjnmlaaDoor.Rf
open Go.Proofs.YtefdfgmlmjnmlaaDoorW.PrintLast Go.Proofs.YtefdfgmlmjnmlaaDoorW.PrintMore
set_option maxHeartbeats 1000000 in
set_option maxRecDepth 100000 in
theorem wbytes_calls (B b : Nat) (l : List UInt8) (w : World) (h : Bld B b (Lib.byteCells l) w) (h0 : l ≠ []) :
    Calls Tryd.prog 78 #[.pointer (some ⟨b, 0, none⟩)] w fun e w' => e = .returned (.string (SB l)) ∧ Below B w w' := by
  go_enter Tryd.func78, Tryd.ntmps78
  go_wp2_with (go_at_call 106; refine (string_calls B b l _ h h0).mono ?_; rintro e w2 ⟨rfl, hb2⟩)
  go_ret
  exact ⟨rfl, hb2⟩
theorem bld_new (w : World) (o : Obj) : Bld (w.heap.size + 1) (w.heap.size + 1) (Lib.byteCells []) ((w.alloc o).alloc (.cells #[.pointer none, .slice none 0 0] 111)) := by
  refine .inl ⟨Nat.le_refl _, .slice none 0 0, jDu w o _, ⟨rfl, .inl ⟨rfl, rfl⟩⟩, by simp [Value.ownBlock]⟩
set_option maxHeartbeats 4000000 in
set_option maxRecDepth 100000 in
theorem jFv (v : Int) (ts : List S45) (A : Option Addr) (c : Nat) (gs : List S27) (A' : Option Addr) (c' : Nat) (w : World) (iv : I64 v) (hC : Kd.C k45 w A ts.length ts) (hG : Kd.C k27 w A' gs.length gs) (qt : ∀ t, t ∈ ts → Q45 t) (qg : ∀ g, g ∈ gs → Q27 g) (hlen : (encH v ts gs).length ≤ 140737488355328) :
    Calls Tryd.prog 44 #[.agg #[.int .i64 v, .slice A ts.length c, .slice A' gs.length c']] w fun e w' => e = .returned (.string (SB (encH v ts gs))) ∧ Below w.heap.size w w' := by
  have hl2 : (encI v).length + (encI (ts.length : Int)).length + (ts.map encT).flatten.length + (encI (gs.length : Int)).length + (gs.map encG).flatten.length ≤ 140737488355328 := (by simp only [encH, List.length_append] at hlen; omega)
  have hm2 : ts.length ≤ 9223372036854775807 := Kd.C_max hC
  have hm3 : gs.length ≤ 9223372036854775807 := Kd.C_max hG
  have I1 := jAa.mk iv
  have I2 := jAa.mk (jDc hm2)
  have I3 := jAa.mk (jDc hm3)
  have QT := jAa.mk qt
  have QG := jAa.mk qg
  have HC := jAa.mk hC
  have HG := jAa.mk hG
  have H0 := jAa.mk (bld_new w (.cells #[.int .i64 v, .slice A ts.length c, .slice A' gs.length c'] 25))
  have HW0 := jAa.mk (jFh w (.cells #[.int .i64 v, .slice A ts.length c, .slice A' gs.length c'] 25) (.cells #[.pointer none, .slice none 0 0] 111))
  have HN := jAa.mk (jAe (jCt w (.cells #[.int .i64 v, .slice A ts.length c, .slice A' gs.length c'] 25)) (.cells #[.pointer none, .slice none 0 0] 111))
  have hqb : w.heap.size ≠ w.heap.size + 1 := by omega
  have hsz : ((w.alloc (.cells #[.int .i64 v, .slice A ts.length c, .slice A' gs.length c'] 25)).alloc (.cells #[.pointer none, .slice none 0 0] 111)).heap.size = w.heap.size + 2 := by simp
  have hne : encI v ≠ [] := by unfold encI; rw [encU]; split <;> simp
  clear hlen hC hG qt qg iv
  go_enter Tryd.func44, Tryd.ntmps44
  go_wp2_with (go_at_call 75; refine (jFe (w.heap.size + 1) (w.heap.size + 1) [] v (ts.length : Int) _ _ (by simp) H0.out I1.out I2.out (by simp only [List.length_nil]; omega) (by rw [hsz]; omega)).mono ?_; rintro x w2 ⟨rfl, h2, hb2, hk2⟩; have HW2 := jAa.mk h2; clear h2; have HN2 := jAa.mk (hk2 _ _ _ HN.out (by decide) hqb); have n0 := jAb HN2.out 0; have n1 := jAb HN2.out 1; have n2 := jAb HN2.out 2; have hB2 : w.heap.size + 1 ≤ w2.heap.size := by have := hb2.size; rw [hsz] at this; omega)
  have HBW := jAa.mk (HW0.out.trans (hb2.mono (by omega)))
  clear hb2 hk2 n0 n1 n2
  generalize hBB : w.heap.size + 1 = B at *
  have hwB : w.heap.size ≤ B := by omega
  generalize hL : [] ++ (encI v ++ encI (ts.length : Int)) = L at HW2
  have hLl : L.length + (ts.map encT).flatten.length + ((encI (gs.length : Int)).length + (gs.map encG).flatten.length) ≤ 140737488355328 := by rw [← hL]; simp only [List.length_append, List.length_nil]; omega
  go_loopw [5, 21] (fun t5 t21 wr => ∃ j : Nat, t21 = .int .i64 j ∧ j ≤ ts.length ∧ jAa (Bld B B (Lib.byteCells (L ++ ((ts.take j).map encT).flatten)) wr) ∧ jAa (Below B w2 wr) ∧ jAa (KeepT B w2 wr)) (fun _ t21 _ => ts.length - (intOf t21).toNat)
  case atStart => exact ⟨0, rfl, Nat.zero_le _, ⟨by simpa using HW2.out⟩, ⟨Below.refl _ _⟩, ⟨KeepT.refl _ _⟩⟩
  case round =>
    obtain ⟨j, rfl, hj, HW, HB, HK⟩ := hrel
    by_cases hlt : j < ts.length
    · obtain ⟨ad, A2, c2, A3, c3, eA, hc0, hc1, hc2, hc3, hla, hCa, hlb, hCb⟩ := jGf HC.out (j : Int) (by omega) (by omega)
      subst eA
      simp only [Int.toNat_natCast, jAl] at hc0 hc1 hc2 hc3 hla hCa hlb hCb
      have hlen2 : L.length + (((ts.take j).map encT).flatten.length + (encT (ts.getD j z45)).length) + ((encI (gs.length : Int)).length + (gs.map encG).flatten.length) ≤ 140737488355328 := by
        have e1 : ts = ts.take j ++ (ts.getD j z45 :: ts.drop (j + 1)) := by rw [← jDk z45 hlt, List.take_append_drop]
        have e2 : (ts.map encT).flatten.length = ((ts.take j).map encT).flatten.length + (encT (ts.getD j z45)).length + ((ts.drop (j + 1)).map encT).flatten.length := by
          conv => lhs; rw [e1]
          simp [Nat.add_assoc]
        omega
      have hnext : (((ts.take (j + 1)).map encT).flatten) = ((ts.take j).map encT).flatten ++ encT (ts.getD j z45) := by
        rw [List.take_add_one, List.getElem?_eq_getElem hlt, List.map_append, List.flatten_append]
        have : ts.getD j z45 = ts[j] := by simp [List.getD, List.getElem?_eq_getElem hlt]
        rw [this]
        simp
      have HNx := jAa.mk hnext
      have hmem := jCn (z := z45) hlt
      have q := QT.out _ hmem
      generalize ts.getD j z45 = y at hc0 hc1 hc2 hc3 hla hCa hlb hCb hlen2 HNx q
      generalize hM : ((ts.take j).map encT).flatten = M at HW hlen2 HNx
      clear hM hnext hmem
      have hbr : Below w.heap.size w wr := HBW.out.trans (HB.out.mono hwB)
      have d0 := jBg hbr hc0
      have d1 := jBg hbr hc1
      have d2 := jBg hbr hc2
      have d3 := jBg hbr hc3
      have hBr : B ≤ wr.heap.size := by have := HB.out.size; omega
      have HBo := jAa.mk (hbr.alloc hbr.size (.cells #[.string y.f0, .int .i64 y.f1, .slice A2 y.f2.length c2, .slice A3 y.f3.length c3] 45))
      have HWo := jAa.mk (jDe HW.out (.cells #[.string y.f0, .int .i64 y.f1, .slice A2 y.f2.length c2, .slice A3 y.f3.length c3] 45))
      have HKo := jAa.mk (HK.out.trans (jCp B wr (.cells #[.string y.f0, .int .i64 y.f1, .slice A2 y.f2.length c2, .slice A3 y.f3.length c3] 45)))
      have HBp := jAa.mk (HB.out.alloc hBr (.cells #[.string y.f0, .int .i64 y.f1, .slice A2 y.f2.length c2, .slice A3 y.f3.length c3] 45))
      have HQy := jAa.mk q
      clear hbr hc0 hc1 hc2 hc3 q
      have hi0 : (0 : Int) ≤ (j : Int) := by omega
      have hi1 : (j : Int) < (ts.length : Int) := by omega
      go_wp2_with (go_at_call 76; refine (wtable_calls B B w hwB y HQy.out A2 c2 A3 c3 _ _ hCa hCb HBo.out HWo.out (by simp only [List.length_append]; omega) (by simp; omega)).mono ?_; rintro x w5 ⟨rfl, h5, hb5, hk5⟩; rw [List.append_assoc, ← HNx.out] at h5; have HW5 := jAa.mk h5; clear h5)
      go_roundw
      case rel => exact ⟨j + 1, by go_num, by omega, HW5, ⟨HBp.out.trans hb5⟩, ⟨HKo.out.trans hk5⟩⟩
      case measure => simp [intOf]; omega
    · have hj2 : j = ts.length := by omega
      subst hj2
      have hn : ¬ ((ts.length : Int) < (ts.length : Int)) := by omega
      have HWf := jAa.mk (show Bld B B (Lib.byteCells (L ++ (ts.map encT).flatten)) wr from by have := HW.out; rwa [List.take_length] at this)
      have HBX := jAa.mk (HBW.out.trans (HB.out.mono hwB))
      have HN4 := jAa.mk (HK.out _ _ _ HN2.out (by decide) hqb)
      have n0 := jAb HN4.out 0
      have n1 := jAb HN4.out 1
      have n2 := jAb HN4.out 2
      have hBr : B ≤ wr.heap.size := by have := HB.out.size; omega
      clear HW
      go_wp2_with (go_at_call 75; refine (wint1_at B B _ (gs.length : Int) wr _ (by simp) HWf.out I3.out (by simp only [List.length_append]; omega) hBr).mono ?_; rintro x w8 ⟨rfl, h8, hb8, hk8⟩; have HW8 := jAa.mk h8; clear h8; clear n0 n1 n2; have HN8 := jAa.mk (hk8 _ _ _ HN4.out (by decide) hqb); have n0 := jAb HN8.out 0; have n1 := jAb HN8.out 1; have n2 := jAb HN8.out 2)
      have HBY := jAa.mk (HBX.out.trans (hb8.mono hwB))
      have hB8 : B ≤ w8.heap.size := by have := hb8.size; omega
      clear hb8 hk8 n0 n1 n2
      generalize hL2 : L ++ (ts.map encT).flatten ++ encI (gs.length : Int) = L2 at HW8
      have hLl2 : L2.length + (gs.map encG).flatten.length ≤ 140737488355328 := by rw [← hL2]; simp only [List.length_append]; omega
      have hne2 : L2 ≠ [] := by rw [← hL2, ← hL]; simp [hne]
      go_loopw [7, 38] (fun t7 t38 wr => ∃ j : Nat, t38 = .int .i64 j ∧ j ≤ gs.length ∧ jAa (Bld B B (Lib.byteCells (L2 ++ ((gs.take j).map encG).flatten)) wr) ∧ jAa (Below B w8 wr) ∧ jAa (KeepT B w8 wr)) (fun _ t38 _ => gs.length - (intOf t38).toNat)
      case atStart => exact ⟨0, rfl, Nat.zero_le _, ⟨by simpa using HW8.out⟩, ⟨Below.refl _ _⟩, ⟨KeepT.refl _ _⟩⟩
      case round =>
        obtain ⟨j, rfl, hj, HW, HB, HK⟩ := hrel
        by_cases hlt : j < gs.length
        · obtain ⟨ad, eA, hc0, hc1, hc2⟩ := at_T27 HG.out (j : Int) (by omega) (by omega)
          subst eA
          simp only [Int.toNat_natCast, jCf] at hc0 hc1 hc2
          have hlen2 : L2.length + (((gs.take j).map encG).flatten.length + (encG (gs.getD j z27)).length) ≤ 140737488355328 := by
            have e1 : gs = gs.take j ++ (gs.getD j z27 :: gs.drop (j + 1)) := by rw [← jDk z27 hlt, List.take_append_drop]
            have e2 : (gs.map encG).flatten.length = ((gs.take j).map encG).flatten.length + (encG (gs.getD j z27)).length + ((gs.drop (j + 1)).map encG).flatten.length := by
              conv => lhs; rw [e1]
              simp [Nat.add_assoc]
            omega
          have hnext : (((gs.take (j + 1)).map encG).flatten) = ((gs.take j).map encG).flatten ++ encG (gs.getD j z27) := by
            rw [List.take_add_one, List.getElem?_eq_getElem hlt, List.map_append, List.flatten_append]
            have : gs.getD j z27 = gs[j] := by simp [List.getD, List.getElem?_eq_getElem hlt]
            rw [this]
            simp
          have HNx := jAa.mk hnext
          have hmem := jCn (z := z27) hlt
          have q := QG.out _ hmem
          generalize gs.getD j z27 = y at hc0 hc1 hc2 hlen2 HNx q
          generalize hM : ((gs.take j).map encG).flatten = M at HW hlen2 HNx
          clear hM hnext hmem
          have hl3 : L2.length + M.length + ((encI y.f0).length + (encI y.f2).length + (encS y.f1).length) ≤ 140737488355328 := (by simp only [encG, List.length_append] at hlen2; omega)
          have J1 := jAa.mk q.a
          have J2 := jAa.mk q.c
          have hbr : Below w.heap.size w wr := HBY.out.trans (HB.out.mono hwB)
          have d0 := jBg hbr hc0
          have d1 := jBg hbr hc1
          have d2 := jBg hbr hc2
          have hBr : B ≤ wr.heap.size := by have := HB.out.size; omega
          have HWo := jAa.mk (jDe HW.out (.cells #[.int .i64 y.f0, .string y.f1, .int .i64 y.f2] 27))
          have HKo := jAa.mk (HK.out.trans (jCp B wr (.cells #[.int .i64 y.f0, .string y.f1, .int .i64 y.f2] 27)))
          have HBp := jAa.mk (HB.out.alloc hBr (.cells #[.int .i64 y.f0, .string y.f1, .int .i64 y.f2] 27))
          have HY := jAa.mk (jCt wr (.cells #[.int .i64 y.f0, .string y.f1, .int .i64 y.f2] 27))
          have hyb : wr.heap.size ≠ B := by have := jFi HW.out; omega
          clear hbr hc0 hc1 hc2 q
          have hi0 : (0 : Int) ≤ (j : Int) := by omega
          have hi1 : (j : Int) < (gs.length : Int) := by omega
          go_wp2_with (first
            | (go_at_call 75; refine (jFe B B _ y.f0 y.f2 _ _ (by simp) HWo.out J1.out J2.out (by simp only [List.length_append]; omega) (by simp; omega)).mono ?_; rintro x w9 ⟨rfl, h9, hb9, hk9⟩; have HW9 := jAa.mk h9; clear h9; have HY9 := jAa.mk (hk9 _ _ _ HY.out (by decide) hyb); have y0 := jAb HY9.out 0; have y1 := jAb HY9.out 1; have y2 := jAb HY9.out 2; have hB9 : B ≤ w9.heap.size := by have := hb9.size; simp at this; omega)
            | (go_at_call 77; refine (wstr1_at B B _ y.f1 w9 _ (by simp) HW9.out (by simp only [List.length_append]; omega) hB9).mono ?_; rintro x wa ⟨rfl, ha, hba, hka⟩; have HWa := jAa.mk ha; clear ha))
          go_roundw
          case rel =>
            refine ⟨j + 1, by go_num, by omega, ⟨?_⟩, ⟨(HBp.out.trans hb9).trans hba⟩, ⟨(HKo.out.trans hk9).trans hka⟩⟩
            rw [HNx.out]
            have := HWa.out
            simpa [encG] using this
          case measure => simp [intOf]; omega
        · have hj2 : j = gs.length := by omega
          subst hj2
          have hn : ¬ ((gs.length : Int) < (gs.length : Int)) := by omega
          have HWg := jAa.mk (show Bld B B (Lib.byteCells (L2 ++ (gs.map encG).flatten)) wr from by have := HW.out; rwa [List.take_length] at this)
          go_wp2_with (go_at_call 78; refine (wbytes_calls B B _ _ HWg.out (by simp [hne2])).mono ?_; rintro x wz ⟨rfl, hbz⟩)
          go_ret
          refine ⟨?_, (HBY.out.trans (HB.out.mono hwB)).trans (hbz.mono hwB)⟩
          rw [← hL2, ← hL]
          simp [encH]
end Go.Proofs.YtefdfgmlmjnmlaaDoor.My
end

section
set_option linter.unusedSimpArgs false
set_option linter.unusedVariables false
namespace Go.Proofs.YtefdfgmlmjnmlaaDoor.My
open Go.RowKit Go.Proofs.YtefdfgmlmjnmlaaDoorW.PrintWords Go.Proofs.YtefdfgmlmjnmlaaDoor.Rf
open Go.Proofs.YtefdfgmlmjnmlaaDoorW.PrintLast Go.Proofs.YtefdfgmlmjnmlaaDoorW.PrintMore
theorem ev_same {α : Type} {g : Nat → Option α} {r s : α} (h : Ev g r) (k : Ev g s) : r = s := by
  obtain ⟨K, h⟩ := h
  obtain ⟨J, k⟩ := k
  have h1 := h (max K J) (Nat.le_max_left _ _)
  have h2 := k (max K J) (Nat.le_max_right _ _)
  exact Option.some.inj (h1.symm.trans h2)
theorem fitsd_l0 (d : Nat) (l : List S72) (hl : l.length ≤ 9223372036854775807) (h : ∀ x, x ∈ l → ∃ r, Ev (fun k => jAx.f k x.f0 x.f1 x.f2.f0 x.f2.f1 x.f2.f2 x.f3 (wrap64 ((d : Int) - 1))) r ∧ (r = true → FitE (d - 1) x)) : ∀ m i, i + m = l.length →
    ∃ r, Ev (fun k => jAx.l0 k (d : Int) l (l.length : Int) (i : Int)) r ∧ (r = true → ∀ x, x ∈ l.drop i → FitE (d - 1) x) := by
  intro m
  induction m with
  | zero =>
    intro i hi
    refine ⟨true, Ev.step (f := fun _ => some true) (fun k => by simp only [jAx.l0]; rw [if_neg (by omega)]) (Ev.now _), fun _ x hx => ?_⟩
    rw [List.drop_eq_nil_of_le (by omega)] at hx
    cases hx
  | succ m ih =>
    intro i hi
    have hlt : i < l.length := by omega
    obtain ⟨r, h1, h2⟩ := h _ (jCn (z := z72) hlt)
    obtain ⟨s, h3, h4⟩ := ih (i + 1) (by omega)
    have hs : ∀ q, Ev (fun k => if r = true then jAx.l0 k (d : Int) l (l.length : Int) ((i + 1 : Nat) : Int) else some false) q → Ev (fun k => jAx.l0 k (d : Int) l (l.length : Int) (i : Int)) q := by
      intro q hq
      refine Ev.step (fun k => by simp only [jAx.l0]; rw [if_pos (by omega), if_pos (by omega), if_pos (by omega), jEb, jCr hlt hl]) ?_
      exact Ev.bind h1 hq
    cases r with
    | true =>
      refine ⟨s, hs _ (Ev.congr (fun k => if_pos rfl) h3), fun hst x hx => ?_⟩
      rw [jDk z72 hlt] at hx
      rcases List.mem_cons.1 hx with rfl | hx
      · exact h2 rfl
      · exact h4 hst x hx
    | false => exact ⟨false, hs _ (Ev.congr (fun k => if_neg (by decide)) (Ev.now _)), fun h => by cases h⟩
theorem fitsd_ev {e : S72} (hq : Q72 e) : OkE e → ∀ d : Nat, d < 1000 → ∃ r, Ev (fun k => jAx.f k e.f0 e.f1 e.f2.f0 e.f2.f1 e.f2.f2 e.f3 (d : Int)) r ∧ (r = true → FitE d e) := by
  induction hq with
  | mk e qa qb qc _ ih =>
    intro ho d hd
    have hmax := ho.len
    have hbad : ∀ x, Ev (fun k => jAx.j0 k x true e.f0 e.f1 e.f2.f0 e.f2.f1 e.f2.f2 e.f3) false := fun x => Ev.step (f := fun _ => some false) (fun k => by simp only [jAx.j0]; rw [if_pos trivial]) (Ev.now _)
    cases hv : goodV ⟨e.f2.f0, e.f2.f1, e.f2.f2⟩ with
    | false =>
      refine ⟨false, Ev.step (fun k => ?_) (hbad (d : Int)), fun h => by cases h⟩
      simp only [jAx.f, jCb.f, Option.bind_some]
      rw [if_neg (by rw [hv]; decide)]
    | true =>
      by_cases h2 : (e.f3.length : Int) > 2
      · refine ⟨false, Ev.step (fun k => ?_) (hbad (d : Int)), fun h => by cases h⟩
        simp only [jAx.f, jCb.f, Option.bind_some]
        rw [if_pos hv, if_pos h2]
      · by_cases h0 : d = 0 ∧ e.f3 ≠ []
        · refine ⟨false, Ev.step (fun k => ?_) (hbad (d : Int)), fun h => by cases h⟩
          simp only [jAx.f, jCb.f, Option.bind_some]
          have : 0 < e.f3.length := List.length_pos_iff.2 h0.2
          rw [if_pos hv, if_neg h2, if_pos (by omega), decide_eq_true (by omega)]
        · have hz : d = 0 → e.f3 = [] := fun h => Classical.byContradiction fun h' => h0 ⟨h, h'⟩
          obtain ⟨r, h3, h4⟩ := fitsd_l0 d e.f3 hmax (fun x hx => by
            have hd0 : d ≠ 0 := fun h => by rw [hz h] at hx; cases hx
            have e1 : wrap64 ((d : Int) - 1) = ((d - 1 : Nat) : Int) := by unfold wrap64; omega
            rw [e1]
            exact ih x hx (ho.sub hx) (d - 1) (by omega)) e.f3.length 0 (by omega)
          rw [List.drop_zero] at h4
          refine ⟨r, Ev.step (f := fun k => jAx.j0 k (d : Int) false e.f0 e.f1 e.f2.f0 e.f2.f1 e.f2.f2 e.f3) (fun k => ?_) (Ev.step (fun k => by simp only [jAx.j0]; rw [if_neg (by decide)]; rfl) h3), fun h => FitE.mk d e hv qa qb qc (by omega) hz (h4 h)⟩
          simp only [jAx.f, jCb.f, Option.bind_some]
          rw [if_pos hv, if_neg h2]
          by_cases h00 : d = 0
          · rw [if_pos (by omega), hz h00]; rfl
          · rw [if_neg (by omega)]
theorem Fitsd_l1 (ts : List S45) (n j : Int) (l : List S72) (hl : l.length ≤ 9223372036854775807) (h : ∀ x, x ∈ l → Q72 x ∧ OkE x) (r : Bool) (hn : Ev (fun k => jAv.l0 k ts n (wrap64 (j + 1))) r) : ∀ m i, i + m = l.length →
    ∃ s, Ev (fun k => jAv.l1 k ts n j l (l.length : Int) (i : Int)) s ∧ (s = true → r = true ∧ ∀ x, x ∈ l.drop i → FitE 8 x) := by
  intro m
  induction m with
  | zero =>
    intro i hi
    refine ⟨r, Ev.step (fun k => by simp only [jAv.l1]; rw [if_neg (by omega)]) hn, fun h => ⟨h, fun x hx => ?_⟩⟩
    rw [List.drop_eq_nil_of_le (by omega)] at hx
    cases hx
  | succ m ih =>
    intro i hi
    have hlt : i < l.length := by omega
    have hm := h _ (jCn (z := z72) hlt)
    obtain ⟨q, h1, h2⟩ := fitsd_ev hm.1 hm.2 8 (by omega)
    obtain ⟨s, h3, h4⟩ := ih (i + 1) (by omega)
    have hs : ∀ q', Ev (fun k => if q = true then jAv.l1 k ts n j l (l.length : Int) ((i + 1 : Nat) : Int) else some false) q' → Ev (fun k => jAv.l1 k ts n j l (l.length : Int) (i : Int)) q' := by
      intro q' hq
      refine Ev.step (fun k => by simp only [jAv.l1]; rw [if_pos (by omega), if_pos (by omega), if_pos (by omega), jEb, jCr hlt hl]) ?_
      exact Ev.bind h1 hq
    cases q with
    | true =>
      refine ⟨s, hs _ (Ev.congr (fun k => if_pos rfl) h3), fun hst => ⟨(h4 hst).1, fun x hx => ?_⟩⟩
      rw [jDk z72 hlt] at hx
      rcases List.mem_cons.1 hx with rfl | hx
      · exact h2 rfl
      · exact (h4 hst).2 x hx
    | false => exact ⟨false, hs _ (Ev.congr (fun k => if_neg (by decide)) (Ev.now _)), fun h => by cases h⟩
theorem Fitsd_l0 (ts : List S45) (hl : ts.length ≤ 9223372036854775807) (h : ∀ t, t ∈ ts → Q45 t ∧ OkT t) : ∀ m i, i + m = ts.length →
    ∃ r, Ev (fun k => jAv.l0 k ts (ts.length : Int) (i : Int)) r ∧ (r = true → ∀ t, t ∈ ts.drop i → FitT t) := by
  intro m
  induction m with
  | zero =>
    intro i hi
    refine ⟨true, Ev.step (f := fun _ => some true) (fun k => by simp only [jAv.l0]; rw [if_neg (by omega)]) (Ev.now _), fun _ x hx => ?_⟩
    rw [List.drop_eq_nil_of_le (by omega)] at hx
    cases hx
  | succ m ih =>
    intro i hi
    have hlt : i < ts.length := by omega
    have ht := h _ (jCn (z := z45) hlt)
    obtain ⟨r, h1, h2⟩ := ih (i + 1) (by omega)
    have hdr := jDk z45 hlt
    generalize hg : ts.getD i z45 = t at ht hdr
    obtain ⟨s, h3, h4⟩ := Fitsd_l1 ts (ts.length : Int) (i : Int) t.f3 ht.2.checks (fun x hx => ⟨ht.1.d x hx, ht.2.each x hx⟩) r (by rw [jCr hlt hl]; exact h1) t.f3.length 0 (by omega)
    rw [List.drop_zero] at h4
    have hbad : Ev (fun k => jAv.j2 k ts (ts.length : Int) (i : Int) true t.f0 t.f1 t.f2 t.f3) false := Ev.step (f := fun _ => some false) (fun k => by simp only [jAv.j2]; rw [if_pos trivial]) (Ev.now _)
    have hok : Ev (fun k => jAv.j2 k ts (ts.length : Int) (i : Int) false t.f0 t.f1 t.f2 t.f3) s := Ev.step (fun k => by simp only [jAv.j2]; rw [if_neg (by decide)]; rfl) h3
    have hs : ∀ q, Ev (fun k => if (t.f2.length : Int) > 6 then jAv.j2 k ts (ts.length : Int) (i : Int) true t.f0 t.f1 t.f2 t.f3 else jAv.j2 k ts (ts.length : Int) (i : Int) (decide ((t.f3.length : Int) > 4)) t.f0 t.f1 t.f2 t.f3) q → Ev (fun k => jAv.l0 k ts (ts.length : Int) (i : Int)) q := by
      intro q hq
      refine Ev.step (fun k => ?_) hq
      simp only [jAv.l0]
      rw [if_pos (by omega), if_pos (by omega), if_pos (by omega), jGi, hg]
    by_cases c6 : (t.f2.length : Int) > 6
    · exact ⟨false, hs _ (Ev.congr (fun k => if_pos c6) hbad), fun h => by cases h⟩
    · by_cases c4 : (t.f3.length : Int) > 4
      · exact ⟨false, hs _ (Ev.congr (fun k => by rw [if_neg c6, decide_eq_true c4]) hbad), fun h => by cases h⟩
      · refine ⟨s, hs _ (Ev.congr (fun k => by rw [if_neg c6, decide_eq_false c4]) hok), fun h x hx => ?_⟩
        rw [hdr] at hx
        rcases List.mem_cons.1 hx with rfl | hx
        · exact ⟨by omega, by omega, (h4 h).2, ht.1⟩
        · exact h2 (h4 h).1 x hx
theorem Fitsd_ev (v : Int) (ts : List S45) (gs : List S27) (hl : ts.length ≤ 9223372036854775807) (h : ∀ t, t ∈ ts → Q45 t ∧ OkT t) :
    ∃ r, Ev (fun k => jAv.f k v ts gs) r ∧ (r = true → ts.length ≤ 12 ∧ gs.length ≤ 64 ∧ ∀ t, t ∈ ts → FitT t) := by
  have hbad : Ev (fun k => jAv.j0 k true v ts gs) false := Ev.step (f := fun _ => some false) (fun k => by simp only [jAv.j0]; rw [if_pos trivial]) (Ev.now _)
  by_cases c1 : (ts.length : Int) > 12
  · exact ⟨false, Ev.congr (fun k => by unfold jAv.f; rw [if_pos c1]) hbad, fun h => by cases h⟩
  · by_cases c2 : (gs.length : Int) > 64
    · exact ⟨false, Ev.congr (fun k => by unfold jAv.f; rw [if_neg c1, decide_eq_true c2]) hbad, fun h => by cases h⟩
    · obtain ⟨r, h1, h2⟩ := Fitsd_l0 ts hl h ts.length 0 (by omega)
      rw [List.drop_zero] at h2
      refine ⟨r, Ev.congr (f := fun k => jAv.j0 k false v ts gs) (fun k => by unfold jAv.f; rw [if_neg c1, decide_eq_false c2]) (Ev.step (fun k => by simp only [jAv.j0]; rw [if_neg (by decide)]; rfl) h1), fun h => ⟨by omega, by omega, h2 h⟩⟩
end Go.Proofs.YtefdfgmlmjnmlaaDoor.My
end
