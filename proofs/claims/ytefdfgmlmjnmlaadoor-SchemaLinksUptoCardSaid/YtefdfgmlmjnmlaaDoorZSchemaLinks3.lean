/- PROVED: the tied card of the law SchemaLinks: whatever the input, the law returns true and leaves its arguments as they read. Its conditions: the arguments are together of bulk at most 1048576, and those of the given row (the two tables of unicode/utf8 read as the program's text lays them). Joined out of this session's smaller texts (part 3 of 3). -/
import Derived.Test.YtefdfgmlmjnmlaaDoorZSchemaLinks2
import Derived.Test.YtefdfgmlmjnmlaaDoorZSchemaLinks1
import Derived.Deep.DeepHandedRow
import Derived.Lib.LaidTab
section
set_option linter.unusedSimpArgs false
set_option linter.unusedVariables false
/- schema.Good of tables without checks. -/
namespace Go.Proofs.YtefdfgmlmjnmlaaDoor.My
open Go.RowKit Go.Proofs.YtefdfgmlmjnmlaaDoorW.PrintWords Go.Proofs.YtefdfgmlmjnmlaaDoor.Rf

/-- What is wrong with the first column with which something is. -/
def colsE (t : S45) (ts : List S45) : Int := ((List.range t.f2.length).find? (fun i => colE t i ts != 0)).elim 0 (fun i => colE t i ts)
theorem colsE_hit {t : S45} {ts : List S45} {k : Nat} (hk : k < t.f2.length) (ha : ∀ j, j < k → colE t j ts = 0) (h : colE t k ts ≠ 0) : colsE t ts = colE t k ts := by
  have : (List.range t.f2.length).find? (fun i => colE t i ts != 0) = some k := by
    rw [List.find?_range_eq_some]
    exact ⟨by simpa using h, List.mem_range.2 hk, fun j hj => by simp [ha j hj]⟩
  unfold colsE
  rw [this]
  rfl
theorem colsE_none {t : S45} {ts : List S45} (ha : ∀ j, j < t.f2.length → colE t j ts = 0) : colsE t ts = 0 := by
  have : (List.range t.f2.length).find? (fun i => colE t i ts != 0) = none := by
    rw [List.find?_eq_none]
    intro j hj
    simp [ha j (List.mem_range.1 hj)]
  unfold colsE
  rw [this]
  rfl
/-- What is wrong with a table, its checks aside. -/
def goodE0 (t : S45) (ts : List S45) : Int :=
  if !isName t.f0 || (decide (t.f1 < 0) || (decide (8 ≤ t.f1) || decide (t.f2.length = 0))) then 4
  else if decide (6 < t.f2.length) || decide (4 < t.f3.length) then 3
  else colsE t ts

theorem column0_calls (t : S45) (A : Option Addr) (c : Nat) (A' : Option Addr) (c' : Nat) (i : Nat) (v : Int) (ts : List S45) (B : Option Addr) (d : Nat) (B' : Option Addr) (n' d' : Nat) (w : World) (h3 : t.f3.length = 0)
    (hr : Kd.C k59 w A t.f2.length t.f2) (hts : Kd.C k45 w B ts.length ts) (hT : Tabs w) (hi : i < t.f2.length) (hok : ∀ x, x ∈ t.f2 → x.f0.size ≤ 9223372036854775807) :
    Calls Tryd.prog 60 #[.agg #[.string t.f0, .int .i64 t.f1, .slice A t.f2.length c, .slice A' 0 c'], .int .i64 i, .agg #[.int .i64 v, .slice B ts.length d, .slice B' n' d']] w (IntPost (colE t i ts) w) := by
  have h := column_calls t A c A' c' i v ts B d B' n' d' w hr hts hT hi hok
  rw [h3] at h
  exact h

set_option maxHeartbeats 4000000 in
set_option maxRecDepth 100000 in
theorem good0_calls (t : S45) (A : Option Addr) (c : Nat) (A' : Option Addr) (c' : Nat) (v : Int) (ts : List S45) (B : Option Addr) (d : Nat) (B' : Option Addr) (n' d' : Nat) (w : World)
    (hr : Kd.C k59 w A t.f2.length t.f2) (h3 : t.f3 = []) (hts : Kd.C k45 w B ts.length ts) (hT : Tabs w) (hs0 : t.f0.size ≤ 9223372036854775807) (hok : ∀ x, x ∈ t.f2 → x.f0.size ≤ 9223372036854775807) :
    Calls Tryd.prog 36 #[.agg #[.string t.f0, .int .i64 t.f1, .slice A t.f2.length c, .slice A' 0 c'], .agg #[.int .i64 v, .slice B ts.length d, .slice B' n' d']] w (IntPost (goodE0 t ts) w) := by
  have b2 := below2 w (.cells #[.string t.f0, .int .i64 t.f1, .slice A t.f2.length c, .slice A' 0 c'] 45) (.cells #[.int .i64 v, .slice B ts.length d, .slice B' n' d'] 25)
  have HB := Aside0.mk b2
  have HK := Aside0.mk (blk_alloc (blk_new w (.cells #[.string t.f0, .int .i64 t.f1, .slice A t.f2.length c, .slice A' 0 c'] 45)) (.cells #[.int .i64 v, .slice B ts.length d, .slice B' n' d'] 25))
  have HL := Aside0.mk (blk_new1 w (.cells #[.string t.f0, .int .i64 t.f1, .slice A t.f2.length c, .slice A' 0 c'] 45) (.cells #[.int .i64 v, .slice B ts.length d, .slice B' n' d'] 25))
  have HR := Aside0.mk (Kd.C_below hr b2)
  have HS := Aside0.mk (Kd.C_below hts b2)
  have HT := Aside0.mk (hT.below b2)
  have HO := Aside0.mk hok
  have hn := hr.2.1
  have hl3 : t.f3.length = 0 := by rw [h3]; rfl
  have HL3 := Aside0.mk hl3
  clear b2 hr hts hT hok hl3 h3
  cases hnm : isName t.f0 with
  | false =>
    go_enter Tryd.func36, Tryd.ntmps36
    go_wp2_with (first | (go_at_call 32; refine (name_calls t.f0 _ hs0 HT.out).mono ?_; rintro e wa ⟨rfl, hba⟩; rw [hnm]))
    go_ret
    exact ⟨by unfold goodE0; rw [hnm]; rfl, below_step HB.out hba⟩
  | true =>
    by_cases g1 : t.f1 < 0
    · have q1 := decide_eq_true g1
      have hres : goodE0 t ts = 4 := by unfold goodE0; rw [hnm]; simp [g1]
      have HRES := Aside0.mk hres
      clear hres
      go_enter Tryd.func36, Tryd.ntmps36
      go_wp2_with (first | (go_at_call 32; refine (name_calls t.f0 _ hs0 HT.out).mono ?_; rintro e wa ⟨rfl, hba⟩; rw [hnm]; have HKa := Aside0.mk (blk_below HK.out hba); have HLa := Aside0.mk (blk_below HL.out hba); have HBa := Aside0.mk (below_step HB.out hba); have a0 := blk_cell HKa.out 0; have a1 := blk_cell HKa.out 1; have a2 := blk_cell HKa.out 2; have a3 := blk_cell HKa.out 3))
      go_ret
      exact ⟨by rw [HRES.out]; rfl, HBa.out⟩
    · have q1 := decide_eq_false g1
      by_cases g2 : 8 ≤ t.f1
      · have q2 := decide_eq_true g2
        have hres : goodE0 t ts = 4 := by unfold goodE0; rw [hnm]; simp [g2]
        have HRES := Aside0.mk hres
        clear hres
        go_enter Tryd.func36, Tryd.ntmps36
        go_wp2_with (first | (go_at_call 32; refine (name_calls t.f0 _ hs0 HT.out).mono ?_; rintro e wa ⟨rfl, hba⟩; rw [hnm]; have HKa := Aside0.mk (blk_below HK.out hba); have HLa := Aside0.mk (blk_below HL.out hba); have HBa := Aside0.mk (below_step HB.out hba); have a0 := blk_cell HKa.out 0; have a1 := blk_cell HKa.out 1; have a2 := blk_cell HKa.out 2; have a3 := blk_cell HKa.out 3))
        go_ret
        exact ⟨by rw [HRES.out]; rfl, HBa.out⟩
      · have q2 := decide_eq_false g2
        by_cases g3 : t.f2.length = 0
        · have q3 : ((t.f2.length : Int) == 0) = true := by simp [g3]
          have hres : goodE0 t ts = 4 := by unfold goodE0; rw [hnm]; simp [g3]
          clear g3
          have HRES := Aside0.mk hres
          clear hres
          go_enter Tryd.func36, Tryd.ntmps36
          go_wp2_with (first | (go_at_call 32; refine (name_calls t.f0 _ hs0 HT.out).mono ?_; rintro e wa ⟨rfl, hba⟩; rw [hnm]; have HKa := Aside0.mk (blk_below HK.out hba); have HLa := Aside0.mk (blk_below HL.out hba); have HBa := Aside0.mk (below_step HB.out hba); have a0 := blk_cell HKa.out 0; have a1 := blk_cell HKa.out 1; have a2 := blk_cell HKa.out 2; have a3 := blk_cell HKa.out 3))
          go_ret
          exact ⟨by rw [HRES.out]; rfl, HBa.out⟩
        · have q3 : ((t.f2.length : Int) == 0) = false := by simp [g3]
          by_cases g4 : 6 < t.f2.length
          · have q4 : decide (6 < (t.f2.length : Int)) = true := decide_eq_true (by omega)
            have hres : goodE0 t ts = 3 := by unfold goodE0; rw [hnm]; simp [g1, g2, g3, g4]
            have HRES := Aside0.mk hres
            clear hres
            go_enter Tryd.func36, Tryd.ntmps36
            go_wp2_with (first | (go_at_call 32; refine (name_calls t.f0 _ hs0 HT.out).mono ?_; rintro e wa ⟨rfl, hba⟩; rw [hnm]; have HKa := Aside0.mk (blk_below HK.out hba); have HLa := Aside0.mk (blk_below HL.out hba); have HBa := Aside0.mk (below_step HB.out hba); have a0 := blk_cell HKa.out 0; have a1 := blk_cell HKa.out 1; have a2 := blk_cell HKa.out 2; have a3 := blk_cell HKa.out 3))
            go_ret
            exact ⟨by rw [HRES.out]; rfl, HBa.out⟩
          · have q4 : decide (6 < (t.f2.length : Int)) = false := decide_eq_false (by omega)
            have hres : goodE0 t ts = colsE t ts := by unfold goodE0; rw [hnm, HL3.out]; simp [g1, g2, g3, g4]
            have HRES := Aside0.mk hres
            clear hres
            have HBW : Aside0 (∀ wa : World, Below ((w.alloc (.cells #[.string t.f0, .int .i64 t.f1, .slice A t.f2.length c, .slice A' 0 c'] 45)).alloc (.cells #[.int .i64 v, .slice B ts.length d, .slice B' n' d'] 25)).heap.size ((w.alloc (.cells #[.string t.f0, .int .i64 t.f1, .slice A t.f2.length c, .slice A' 0 c'] 45)).alloc (.cells #[.int .i64 v, .slice B ts.length d, .slice B' n' d'] 25)) wa → True) := ⟨fun _ _ => trivial⟩
            go_enter Tryd.func36, Tryd.ntmps36
            go_wp2_with (first | (go_at_call 32; refine (name_calls t.f0 _ hs0 HT.out).mono ?_; rintro e wa ⟨rfl, hba⟩; rw [hnm]; have HKa := Aside0.mk (blk_below HK.out hba); have HLa := Aside0.mk (blk_below HL.out hba); have HBa := Aside0.mk (below_step HB.out hba); have a0 := blk_cell HKa.out 0; have a1 := blk_cell HKa.out 1; have a2 := blk_cell HKa.out 2; have a3 := blk_cell HKa.out 3))
            go_loopw [5, 6, 46] (fun _ _ t46 wr => ∃ k : Nat, t46 = .int .i64 k ∧ k ≤ t.f2.length ∧ Aside0 (∀ j, j < k → colE t j ts = 0) ∧ Aside0 (Below ((w.alloc (.cells #[.string t.f0, .int .i64 t.f1, .slice A t.f2.length c, .slice A' 0 c'] 45)).alloc (.cells #[.int .i64 v, .slice B ts.length d, .slice B' n' d'] 25)).heap.size ((w.alloc (.cells #[.string t.f0, .int .i64 t.f1, .slice A t.f2.length c, .slice A' 0 c'] 45)).alloc (.cells #[.int .i64 v, .slice B ts.length d, .slice B' n' d'] 25)) wr)) (fun _ _ t46 _ => t.f2.length - (intOf t46).toNat)
            case atStart => exact ⟨0, rfl, Nat.zero_le _, ⟨fun j hj => absurd hj (by omega)⟩, ⟨hba⟩⟩
            case round =>
              obtain ⟨k, rfl, hk, HA, HBr⟩ := hrel
              have HKr := Aside0.mk (blk_below HK.out HBr.out)
              have HLr := Aside0.mk (blk_below HL.out HBr.out)
              clear a0 a1 a2 a3
              have a0 := blk_cell HKr.out 0
              have a1 := blk_cell HKr.out 1
              have a2 := blk_cell HKr.out 2
              have a3 := blk_cell HKr.out 3
              have b0 := blk_cell HLr.out 0
              have b1 := blk_cell HLr.out 1
              have b2 := blk_cell HLr.out 2
              have HRr := Aside0.mk (Kd.C_below HR.out HBr.out)
              have HSr := Aside0.mk (Kd.C_below HS.out HBr.out)
              have HTr := Aside0.mk (HT.out.below HBr.out)
              by_cases hlt : k < t.f2.length
              · have hi1 : (k : Int) < (t.f2.length : Int) := by omega
                by_cases hce0 : colE t k ts = 0
                · have hce := hce0
                  have hall : ∀ j, j < k + 1 → colE t j ts = 0 := fun j hj => by
                    rcases Nat.lt_or_ge j k with h | h
                    · exact HA.out j h
                    · obtain rfl : j = k := by omega
                      exact hce0
                  have HALL := Aside0.mk hall
                  clear hall hce0
                  go_wp2_with (first | (go_at_call 60; refine (column0_calls t A c A' c' k v ts B d B' n' d' _ HL3.out HRr.out HSr.out HTr.out (by omega) HO.out).mono ?_; rintro e wc ⟨rfl, hbc⟩; rw [hce]))
                  go_roundw
                  case rel => exact ⟨k + 1, by go_num, by omega, HALL, ⟨below_step HBr.out hbc⟩⟩
                  case measure => simp [intOf]; omega
                · have hfin := colsE_hit hlt HA.out hce0
                  have HFIN := Aside0.mk hfin
                  generalize hce : colE t k ts = ce at hfin hce0
                  have HCE := Aside0.mk hce
                  clear hfin
                  have q5 : (ce != 0) = true := by simpa using hce0
                  go_wp2_with (first | (go_at_call 60; refine (column0_calls t A c A' c' k v ts B d B' n' d' _ HL3.out HRr.out HSr.out HTr.out (by omega) HO.out).mono ?_; rintro e wc ⟨rfl, hbc⟩; rw [hce]))
                  go_ret
                  exact ⟨by rw [HRES.out, HFIN.out, HCE.out]; rfl, below_step HB.out (below_step HBr.out hbc)⟩
              · have hfin := colsE_none (t := t) (ts := ts) (fun j hj => HA.out j (by omega))
                have HFIN := Aside0.mk hfin
                clear hfin
                have hkk : k = t.f2.length := by omega
                subst hkk
                go_wp2
                go_loopw [8, 60] (fun _ t60 w2 => t60 = .int .i64 0 ∧ w2 = wr) (fun _ _ _ => 0)
                case atStart => exact ⟨rfl, rfl⟩
                case round =>
                  obtain ⟨rfl, rfl⟩ := hrel
                  go_wp2
                  go_ret
                  exact ⟨by rw [HRES.out, HFIN.out]; rfl, below_step HB.out HBr.out⟩
end Go.Proofs.YtefdfgmlmjnmlaaDoor.My
end

section
/- GrantMay: its check of itself. -/
namespace Go.Proofs.YtefdfgmlmjnmlaaDoor.My
open Go.RowKit Go.Proofs.YtefdfgmlmjnmlaaDoorW.PrintWords Go.Proofs.YtefdfgmlmjnmlaaDoor.Rf

def tA : S45 := ⟨⟨#[97]⟩, 2, [], []⟩
theorem row1 {α : Type} (d : Kd α) {w : World} {t : TypeId} {x : α} {cs : List Value} (hK : d.K w x cs) (hl : cs.length = d.sz) {g : Nat} (hb : w.heap[g]? = some (.cells cs.toArray t (0, 0))) : Kd.C d w (some ⟨g, 0, none⟩) [x].length [x] := by
  refine ⟨rfl, by simp, fun _ => ⟨⟨g, 0, none⟩, rfl, fun j p hp => ?_⟩⟩
  cases j with
  | succ j => simp at hp
  | zero =>
    simp only [List.getElem?_cons_zero, Option.some.injEq] at hp
    subst hp
    refine ⟨cs, hl, hK, fun i u hu => ?_⟩
    have := blk_cell hb i
    have hu' := this.trans (show cs.toArray[i]? = some u by simpa using hu)
    cases i <;> simpa [Addr.add] using hu'
theorem rowA {g : Nat} (w : World) (hb : w.heap[g]? = some (.cells #[.string ⟨#[97]⟩, .int .i64 2, .slice none 0 0, .slice none 0 0] 45 (0, 0))) : Kd.C k45 w (some ⟨g, 0, none⟩) [tA].length [tA] := by
  refine row1 k45 (k45_mk w tA (A2 := none) (c2 := 0) (A3 := none) (c3 := 0) (by decide) (Kd.C_nil _ _) (by decide) (Kd.C_nil _ _)) rfl hb

theorem mayA {g : Nat} (w : World) (r : Int) (nm : ByteArray) (b : Int) (q : Bool) (hq : mayB [tA] [] r nm b = q) (hb : w.heap[g]? = some (.cells #[.string ⟨#[97]⟩, .int .i64 2, .slice none 0 0, .slice none 0 0] 45 (0, 0))) :
    Calls Tryd.prog 21 #[.agg #[.int .i64 0, .slice (some ⟨g, 0, none⟩) 1 1, .slice none 0 0], .int .i64 r, .string nm, .int .i64 b] w (BoolPost q w) := by
  subst hq
  exact may_calls 0 [tA] (some ⟨g, 0, none⟩) 1 [] none 0 r nm b w (rowA w hb) (Kd.C_nil _ _)

set_option maxRecDepth 100000 in
theorem alive_calls (w : World) : Calls Tryd.prog 12 #[] w (BoolPost true w) := by
  have hk := blk_alloc (blk_new w (.cells #[.string ⟨#[97]⟩, .int .i64 2, .slice none 0 0, .slice none 0 0] 45)) (.cells #[.int .i64 0, .slice (some ⟨w.heap.size, 0, none⟩) 1 1, .slice none 0 0] 25)
  have hk1 := blk_new1 w (.cells #[.string ⟨#[97]⟩, .int .i64 2, .slice none 0 0, .slice none 0 0] 45) (.cells #[.int .i64 0, .slice (some ⟨w.heap.size, 0, none⟩) 1 1, .slice none 0 0] 25)
  have hb := below2 w (.cells #[.string ⟨#[97]⟩, .int .i64 2, .slice none 0 0, .slice none 0 0] 45) (.cells #[.int .i64 0, .slice (some ⟨w.heap.size, 0, none⟩) 1 1, .slice none 0 0] 25)
  have HK := Aside0.mk hk
  have HK1 := Aside0.mk hk1
  have HB := Aside0.mk hb
  clear hk hk1 hb
  go_enter Tryd.func12, Tryd.ntmps12
  go_wp2_with (first
    | (refine (mayA _ 0 ⟨#[98]⟩ 1 false (by kernel_rfl) HK4.out).mono ?_; rintro e w5 ⟨rfl, hb5⟩)
    | (refine (mayA _ 1 ⟨#[97]⟩ 1 false (by kernel_rfl) HK3.out).mono ?_; rintro e w4 ⟨rfl, hb4⟩; have HK4 := Aside0.mk (blk_below HK3.out hb4); have HL4 := Aside0.mk (blk_below HL3.out hb4); have c0 := blk_cell HL4.out 0; have c1 := blk_cell HL4.out 1; have c2 := blk_cell HL4.out 2)
    | (refine (mayA _ 2 ⟨#[97]⟩ 1 true (by kernel_rfl) HK2.out).mono ?_; rintro e w3 ⟨rfl, hb3⟩; have HK3 := Aside0.mk (blk_below HK2.out hb3); have HL3 := Aside0.mk (blk_below HL2.out hb3); have b0 := blk_cell HL3.out 0; have b1 := blk_cell HL3.out 1; have b2 := blk_cell HL3.out 2)
    | (refine (mayA _ 0 ⟨#[97]⟩ 31 true (by kernel_rfl) HK.out).mono ?_; rintro e w2 ⟨rfl, hb2⟩; have HK2 := Aside0.mk (blk_below HK.out hb2); have HL2 := Aside0.mk (blk_below HK1.out hb2); have a0 := blk_cell HL2.out 0; have a1 := blk_cell HL2.out 1; have a2 := blk_cell HL2.out 2))
  go_ret
  exact ⟨rfl, below_step (below_step (below_step (below_step HB.out hb2) hb3) hb4) hb5⟩
end Go.Proofs.YtefdfgmlmjnmlaaDoor.My
end

section
/- The check of themselves of the laws of layer 9. -/
namespace Go.Proofs.YtefdfgmlmjnmlaaDoor.My
open Go.RowKit Go.Proofs.YtefdfgmlmjnmlaaDoorW.PrintWords Go.Proofs.YtefdfgmlmjnmlaaDoor.Rf

def cId : S59 := ⟨⟨#[105, 100]⟩, 1, true, false, ⟨#[]⟩, 0⟩
def tId : S45 := ⟨⟨#[97]⟩, 0, [cId], []⟩
def tNo : S45 := ⟨⟨#[97]⟩, 0, [], []⟩
theorem rowId {g : Nat} (w : World) (hb : w.heap[g]? = some (.cells #[.string ⟨#[105, 100]⟩, .int .i64 1, .bool true, .bool false, .string ⟨#[]⟩, .int .i64 0] 59 (0, 0))) : Kd.C k59 w (some ⟨g, 0, none⟩) [cId].length [cId] :=
  row1 k59 (k59_mk w cId) rfl hb
theorem good_no (w : World) (hT : Tabs w) : Calls Tryd.prog 36 #[.agg #[.string ⟨#[97]⟩, .int .i64 0, .slice none 0 0, .slice none 0 0], .agg #[.int .i64 0, .slice none 0 0, .slice none 0 0]] w (IntPost 4 w) := by
  have h := good0_calls tNo none 0 none 0 0 [] none 0 none 0 0 w (Kd.C_nil _ _) rfl (Kd.C_nil _ _) hT (by decide) (fun x hx => by cases hx)
  rw [show goodE0 tNo [] = 4 by kernel_rfl] at h
  exact h
theorem good_id {g : Nat} (w : World) (hT : Tabs w) (hb : w.heap[g]? = some (.cells #[.string ⟨#[105, 100]⟩, .int .i64 1, .bool true, .bool false, .string ⟨#[]⟩, .int .i64 0] 59 (0, 0))) : Calls Tryd.prog 36 #[.agg #[.string ⟨#[97]⟩, .int .i64 0, .slice (some ⟨g, 0, none⟩) 1 1, .slice none 0 0], .agg #[.int .i64 0, .slice none 0 0, .slice none 0 0]] w (IntPost 0 w) := by
  have h := good0_calls tId (some ⟨g, 0, none⟩) 1 none 0 0 [] none 0 none 0 0 w (rowId w hb) rfl (Kd.C_nil _ _) hT (by decide) (fun x hx => by have hx : x ∈ [cId] := hx; simp at hx; subst hx; decide)
  rw [show goodE0 tId [] = 0 by kernel_rfl] at h
  exact h
theorem name_a1 (w : World) (hT : Tabs w) : Calls Tryd.prog 32 #[.string ⟨#[97, 95, 49]⟩] w (BoolPost true w) := by
  refine (name_calls ⟨#[97, 95, 49]⟩ w (by decide) hT).mono ?_
  rintro e w' ⟨rfl, hb⟩
  exact ⟨by rw [show isName ⟨#[97, 95, 49]⟩ = true by kernel_rfl], hb⟩
theorem place_id {g : Nat} (w : World) (hb : w.heap[g]? = some (.cells #[.string ⟨#[105, 100]⟩, .int .i64 1, .bool true, .bool false, .string ⟨#[]⟩, .int .i64 0] 59 (0, 0))) : Calls Tryd.prog 34 #[.agg #[.string ⟨#[97]⟩, .int .i64 0, .slice (some ⟨g, 0, none⟩) 1 1, .slice none 0 0], .string ⟨#[120]⟩] w (IntPost (-1) w) := by
  have h := place_calls tId (some ⟨g, 0, none⟩) 1 none 0 ⟨#[120]⟩ w (rowId w hb)
  rw [show placeC tId.f2 ⟨#[120]⟩ = -1 by kernel_rfl] at h
  exact h

set_option maxRecDepth 100000 in
theorem alive9_calls (w : World) (hT : Tabs w) : Calls Tryd.prog 27 #[] w (BoolPost true w) := by
  have hb := below2 w (.cells #[.string ⟨#[105, 100]⟩, .int .i64 1, .bool true, .bool false, .string ⟨#[]⟩, .int .i64 0] 59) (.cells #[.string ⟨#[97]⟩, .int .i64 0, .slice (some ⟨w.heap.size, 0, none⟩) 1 1, .slice none 0 0] 45)
  have HK := Aside0.mk (blk_alloc (blk_new w (.cells #[.string ⟨#[105, 100]⟩, .int .i64 1, .bool true, .bool false, .string ⟨#[]⟩, .int .i64 0] 59)) (.cells #[.string ⟨#[97]⟩, .int .i64 0, .slice (some ⟨w.heap.size, 0, none⟩) 1 1, .slice none 0 0] 45))
  have HK1 := Aside0.mk (blk_new1 w (.cells #[.string ⟨#[105, 100]⟩, .int .i64 1, .bool true, .bool false, .string ⟨#[]⟩, .int .i64 0] 59) (.cells #[.string ⟨#[97]⟩, .int .i64 0, .slice (some ⟨w.heap.size, 0, none⟩) 1 1, .slice none 0 0] 45))
  have HT := Aside0.mk (hT.below hb)
  have HB := Aside0.mk hb
  clear hb hT
  go_enter Tryd.func27, Tryd.ntmps27
  go_wp2_with (first
    | (go_at_call 34; refine (place_id _ HK4.out).mono ?_; rintro e w5 ⟨rfl, hb5⟩)
    | (go_at_call 32; refine (name_a1 _ HT3.out).mono ?_; rintro e w4 ⟨rfl, hb4⟩; have HK4 := Aside0.mk (blk_below HK3.out hb4); have HL4 := Aside0.mk (blk_below HL3.out hb4); have c0 := blk_cell HL4.out 0; have c1 := blk_cell HL4.out 1; have c2 := blk_cell HL4.out 2; have c3 := blk_cell HL4.out 3)
    | (go_at_call 36; refine (good_id _ HT2.out HK2.out).mono ?_; rintro e w3 ⟨rfl, hb3⟩; have HK3 := Aside0.mk (blk_below HK2.out hb3); have HL3 := Aside0.mk (blk_below HL2.out hb3); have HT3 := Aside0.mk (HT2.out.below hb3))
    | (go_at_call 36; refine (good_no _ HT.out).mono ?_; rintro e w2 ⟨rfl, hb2⟩; have HK2 := Aside0.mk (blk_below HK.out hb2); have HL2 := Aside0.mk (blk_below HK1.out hb2); have HT2 := Aside0.mk (HT.out.below hb2); have a0 := blk_cell HL2.out 0; have a1 := blk_cell HL2.out 1; have a2 := blk_cell HL2.out 2; have a3 := blk_cell HL2.out 3))
  go_ret
  exact ⟨rfl, below_step (below_step (below_step (below_step HB.out hb2) hb3) hb4) hb5⟩
end Go.Proofs.YtefdfgmlmjnmlaaDoor.My
end

section
set_option linter.unusedSimpArgs false
set_option linter.unusedVariables false
/- The law SchemaLinks: it answers true, of every schema whose columns are not too many. -/
namespace Go.Proofs.YtefdfgmlmjnmlaaDoor.My
open Go.RowKit Go.Proofs.YtefdfgmlmjnmlaaDoorW.PrintWords Go.Proofs.YtefdfgmlmjnmlaaDoor.Rf
open Go.Proofs.YtefdfgmlmjnmlaaDoorW.PrintLast Go.Proofs.YtefdfgmlmjnmlaaDoorW.PrintMore

theorem eqA61 (d : Nat) (w : World) (x0 y0 : ByteArray) (x1 y1 : Int) :
    (Op.equalIn (d + 2) 61 (.agg #[.string x0, .int .i64 x1]) (.agg #[.string y0, .int .i64 y1])).run Tryd.prog w = .ok (x0.toList == y0.toList && (x1 == y1)) w := by
  refine eqA_of Tryd.underlying61 (by kernel_rfl) ?_
  refine eqf_cons (by rfl) (by go_simp; rfl) (by go_simp; rfl) (by go_simp) ?_
  exact eqf_last (by rfl) (by go_simp; rfl) (by go_simp; rfl) (by go_simp)
attribute [local go_sem high] eqA61

set_option maxHeartbeats 4000000 in
set_option maxRecDepth 100000 in
theorem links_law (v : Int) (ts : List S45) (A : Option Addr) (c : Nat) (gs : List S27) (B : Option Addr) (d : Nat) (nm : ByteArray) (w : World) (hr : Kd.C k45 w A ts.length ts) (hc : ts.length ≤ c) (hg : Kd.C k27 w B gs.length gs) (hd : gs.length ≤ d) (hT : Tabs w) (hok : ∀ t, t ∈ ts → OkT t) (hn : nCols ts < 5864062014805) :
    Calls Tryd.prog 6 #[.agg #[.int .i64 v, .slice A ts.length c, .slice B gs.length d], .string nm] w (BoolPost true w) := by
  have hnl : ts.length ≤ 9223372036854775807 := hr.2.1
  have hng : gs.length ≤ 9223372036854775807 := hg.2.1
  obtain ⟨rG, kG, hG⟩ := great_ev v ts gs hnl hng hok
  obtain ⟨kL, hL⟩ := links_ev v ts gs nm hnl hok hn
  have hG := Aside0.mk (hG kG (Nat.le_refl _))
  have hL := Aside0.mk (hL kL (Nat.le_refl _))
  have HC := Aside0.mk hc
  have HD := Aside0.mk hd
  have HOK := Aside0.mk hok
  have b1 := below1 w (.cells #[.int .i64 v, .slice A ts.length c, .slice B gs.length d] 25)
  have HB := Aside0.mk b1
  have HT := Aside0.mk (hT.below b1)
  have HR := Aside0.mk (Kd.C_below hr b1)
  have HG := Aside0.mk (Kd.C_below hg b1)
  have HK := Aside0.mk (blk_new w (.cells #[.int .i64 v, .slice A ts.length c, .slice B gs.length d] 25))
  have hLlen : (linksT nm ts).length ≤ 9223372036854775807 := by have := linksT_len nm ts; omega
  generalize hLL : linksT nm ts = L at hL hLlen
  have HLL := Aside0.mk hLL
  clear hr hc hg hd hT hok b1 hng hn hLL
  cases rG with
  | true =>
    go_enter Tryd.func6, Tryd.ntmps6
    go_wp2_with (first
      | (go_at_call 27; refine (alive9_calls _ HT.out).mono ?_; rintro e wa ⟨rfl, hba⟩; have HKa := Aside0.mk (blk_below HK.out hba); have a0 := blk_cell HKa.out 0; have a1 := blk_cell HKa.out 1; have a2 := blk_cell HKa.out 2)
      | (go_at_call 13; refine (mortmainref09_Great.calls kG v A c ts B d gs true _ (Kd.C_below HR.out hba) HC.out (Kd.C_below HG.out hba) HD.out hG.out).mono ?_; rintro e wb ⟨rfl, hbb⟩))
    go_ret
    exact ⟨rfl, below_step (below_step HB.out hba) hbb⟩
  | false =>
    by_cases hlen : 200 < (nm.size : Int)
    · have hlen1 := decide_eq_true hlen
      go_enter Tryd.func6, Tryd.ntmps6
      go_wp2_with (first
        | (go_at_call 27; refine (alive9_calls _ HT.out).mono ?_; rintro e wa ⟨rfl, hba⟩; have HKa := Aside0.mk (blk_below HK.out hba); have a0 := blk_cell HKa.out 0; have a1 := blk_cell HKa.out 1; have a2 := blk_cell HKa.out 2)
        | (go_at_call 13; refine (mortmainref09_Great.calls kG v A c ts B d gs false _ (Kd.C_below HR.out hba) HC.out (Kd.C_below HG.out hba) HD.out hG.out).mono ?_; rintro e wb ⟨rfl, hbb⟩))
      go_ret
      exact ⟨rfl, below_step (below_step HB.out hba) hbb⟩
    · have hlen1 := decide_eq_false hlen
      go_enter Tryd.func6, Tryd.ntmps6
      go_wp2_with (first
        | (go_at_call 27; refine (alive9_calls _ HT.out).mono ?_; rintro e wa ⟨rfl, hba⟩; have HKa := Aside0.mk (blk_below HK.out hba); have a0 := blk_cell HKa.out 0; have a1 := blk_cell HKa.out 1; have a2 := blk_cell HKa.out 2)
        | (go_at_call 13; refine (mortmainref09_Great.calls kG v A c ts B d gs false _ (Kd.C_below HR.out hba) HC.out (Kd.C_below HG.out hba) HD.out hG.out).mono ?_; rintro e wb ⟨rfl, hbb⟩; have HKb := Aside0.mk (blk_below HKa.out hbb); clear a0 a1 a2; have a0 := blk_cell HKb.out 0; have a1 := blk_cell HKb.out 1; have a2 := blk_cell HKb.out 2)
        | (go_at_call 38; refine (schema_Links.calls kL v A c ts B d gs nm L _ (Kd.C_below (Kd.C_below HR.out hba) hbb) HC.out (Kd.C_below (Kd.C_below HG.out hba) hbb) HD.out hL.out).mono ?_; rintro e wc ⟨v0, rfl, hRR, hbc⟩; obtain ⟨A0, c0, hv0, _, hCL⟩ := Kd.R_reads hRR; subst hv0; have HCL := Aside0.mk hCL; clear hRR hCL; have HKc := Aside0.mk (blk_below HKb.out hbc); clear a0 a1 a2; have a0 := blk_cell HKc.out 0; have a1 := blk_cell HKc.out 1; have a2 := blk_cell HKc.out 2; have HRc := Aside0.mk (Kd.C_below (Kd.C_below (Kd.C_below HR.out hba) hbb) hbc); have HBc := Aside0.mk (below_step (below_step (below_step HB.out hba) hbb) hbc)))
      clear hba hbb hbc a0 a1 a2
      go_loopw [6, 8, 9, 10, 26] (fun t6 _ _ _ t26 wr => ∃ (n j : Nat), t6 = .int .i64 n ∧ t26 = .int .i64 j ∧ j ≤ ts.length ∧ n ≤ L.length ∧ Aside0 (L.drop n = linksT nm (ts.drop j)) ∧ Aside0 (Below wc.heap.size wc wr)) (fun _ _ _ _ t26 _ => ts.length - (intOf t26).toNat)
      case atStart => exact ⟨0, 0, rfl, rfl, Nat.zero_le _, Nat.zero_le _, ⟨by rw [List.drop_zero, List.drop_zero, HLL.out]⟩, ⟨Below.refl _ _⟩⟩
      case round =>
        obtain ⟨n, j, rfl, rfl, hj, hnL, HD1, HBr⟩ := hrel
        by_cases hlt : j < ts.length
        · obtain ⟨ad, A2, c2, A3, c3, e, hc0, hc1, hc2, hc3, hl2, hC2, _, _⟩ := at_T45 HRc.out (j : Int) (by omega) (by omega)
          subst e
          simp only [Int.toNat_natCast, rd_T45] at hc0 hc1 hc2 hc3 hl2 hC2
          have hdr := drop_getD z45 hlt
          have hcm := (HOK.out _ (mem_getD (z := z45) hlt)).cols
          generalize hx : ts.getD j z45 = x at hc0 hc1 hc2 hc3 hl2 hC2 hdr hcm
          have HDR := Aside0.mk hdr
          have d0 := cell_now HBr.out hc0
          have d1 := cell_now HBr.out hc1
          have d2 := cell_now HBr.out hc2
          have d3 := cell_now HBr.out hc3
          have HC2 := Aside0.mk (Kd.C_alloc (Kd.C_below hC2 HBr.out) (.cells #[.string x.f0, .int .i64 x.f1, .slice A2 x.f2.length c2, .slice A3 x.f3.length c3] 45))
          have HN := Aside0.mk (blk_new wr (.cells #[.string x.f0, .int .i64 x.f1, .slice A2 x.f2.length c2, .slice A3 x.f3.length c3] 45))
          have HBj := Aside0.mk (below_alloc HBr.out (.cells #[.string x.f0, .int .i64 x.f1, .slice A2 x.f2.length c2, .slice A3 x.f3.length c3] 45))
          clear hc0 hc1 hc2 hc3 hl2 hC2 hx hdr
          have hi0 : (0 : Int) ≤ (j : Int) := by omega
          have hi1 : (j : Int) < (ts.length : Int) := by omega
          have hD2 : L.drop n = linksC nm x.f0 (x.f2.drop 0) 0 ++ linksT nm (ts.drop (j + 1)) := by rw [HD1.out, HDR.out]; rfl
          have HD2 := Aside0.mk hD2
          clear hD2
          go_wp2
          go_loopw [6, 9, 10, 33] (fun t6 _ _ t33 w2 => ∃ (n i : Nat), t6 = .int .i64 n ∧ t33 = .int .i64 i ∧ i ≤ x.f2.length ∧ n ≤ L.length ∧ Aside0 (L.drop n = linksC nm x.f0 (x.f2.drop i) i ++ linksT nm (ts.drop (j + 1))) ∧ Aside0 (Below (wr.alloc (.cells #[.string x.f0, .int .i64 x.f1, .slice A2 x.f2.length c2, .slice A3 x.f3.length c3] 45)).heap.size (wr.alloc (.cells #[.string x.f0, .int .i64 x.f1, .slice A2 x.f2.length c2, .slice A3 x.f3.length c3] 45)) w2)) (fun _ _ _ t33 _ => x.f2.length - (intOf t33).toNat)
          case atStart => exact ⟨n, 0, rfl, rfl, Nat.zero_le _, hnL, HD2, ⟨Below.refl _ _⟩⟩
          case round =>
            clear d0 d1 d2 d3 hnL
            obtain ⟨n, i, rfl, rfl, hi, hnL, HD3, HBi⟩ := hrel
            by_cases hlt2 : i < x.f2.length
            · obtain ⟨ad3, e, hc0, hc1, hc2, hc3, hc4, hc5⟩ := at_T59 HC2.out (i : Int) (by omega) (by omega)
              subst e
              simp only [Int.toNat_natCast, rd_T59] at hc0 hc1 hc2 hc3 hc4 hc5
              have hdr := drop_getD z59 hlt2
              generalize hy : x.f2.getD i z59 = y at hc0 hc1 hc2 hc3 hc4 hc5 hdr
              have HDY := Aside0.mk hdr
              have d0 := cell_now HBi.out hc0
              have d1 := cell_now HBi.out hc1
              have d2 := cell_now HBi.out hc2
              have d3 := cell_now HBi.out hc3
              have d4 := cell_now HBi.out hc4
              have d5 := cell_now HBi.out hc5
              have HN2 := Aside0.mk (blk_below HN.out HBi.out)
              have gn := blk_lt HN2.out
              have f0 := blk_cell HN2.out 0
              clear hc0 hc1 hc2 hc3 hc4 hc5 hy hdr
              have hi2 : (0 : Int) ≤ (i : Int) := by omega
              have hi3 : (i : Int) < (x.f2.length : Int) := by omega
              have hD4 : L.drop n = (if isL nm y then [⟨x.f0, (i : Int)⟩] else []) ++ linksC nm x.f0 (x.f2.drop (i + 1)) (i + 1) ++ linksT nm (ts.drop (j + 1)) := by rw [HD3.out, HDY.out]; rfl
              cases he : nm.toList.isEmpty with
              | true =>
                rw [if_neg (by simp [isL, he]), List.nil_append] at hD4
                have HD4 := Aside0.mk hD4
                clear hD4
                go_wp2
                go_roundw
                case rel => exact ⟨n, i + 1, rfl, by go_num, by omega, hnL, HD4, ⟨below_alloc HBi.out _⟩⟩
                case measure => simp [intOf]; omega
              | false =>
                cases hq : (y.f4.toList == nm.toList) with
                | false =>
                  rw [if_neg (by simp [isL, he, hq]), List.nil_append] at hD4
                  have HD4 := Aside0.mk hD4
                  clear hD4
                  have hq' : (y.f4.toList != nm.toList) = true := by simp [bne, hq]
                  go_wp2
                  go_roundw
                  case rel => exact ⟨n, i + 1, rfl, by go_num, by omega, hnL, HD4, ⟨below_alloc HBi.out _⟩⟩
                  case measure => simp [intOf]; omega
                | true =>
                  rw [if_pos (by simp [isL, he, hq])] at hD4
                  have hn1 : n < L.length := by
                    have := congrArg List.length hD4
                    rw [List.length_drop] at this
                    simp at this
                    omega
                  have hg := drop_getD z61 hn1
                  rw [hg] at hD4
                  simp only [List.cons_append, List.nil_append, List.cons.injEq] at hD4
                  have HD4 := Aside0.mk hD4.2
                  have hq' : (y.f4.toList != nm.toList) = false := by simp [bne, hq]
                  obtain ⟨ad4, e4, hl0, hl1⟩ := at_T61 HCL.out (n : Int) (by omega) (by omega)
                  subst e4
                  simp only [Int.toNat_natCast, rd_T61] at hl0 hl1
                  rw [hD4.1] at hl0 hl1
                  have hbb2 := HBj.out.trans (HBi.out.mono HBj.out.size)
                  have s0 := cell_now hbb2 hl0
                  have s1 := cell_now hbb2 hl1
                  have gs := World.block_lt_of_cell? _ _ s0
                  have hn2 : (0 : Int) ≤ (n : Int) := by omega
                  have hn3 : (n : Int) < (L.length : Int) := by omega
                  have hn4 : decide ((L.length : Int) ≤ (n : Int)) = false := decide_eq_false (by omega)
                  clear hD4 hg hbb2 hl0 hl1
                  go_wp2
                  go_quiet (fail)
                  go_wp2
                  go_roundw
                  case rel => exact ⟨n + 1, i + 1, by go_num, by go_num, by omega, by omega, HD4, ⟨pw_below_drewN (below_alloc HBi.out _) _⟩⟩
                  case measure => simp [intOf]; omega
            · have hii : i = x.f2.length := by omega
              have hD4 : L.drop n = linksT nm (ts.drop (j + 1)) := by rw [HD3.out, List.drop_eq_nil_of_le (by omega)]; rfl
              have HD4 := Aside0.mk hD4
              clear hD4
              subst hii
              go_wp2
              go_roundw
              case rel => exact ⟨n, j + 1, rfl, by go_num, by omega, hnL, HD4, ⟨HBj.out.trans (HBi.out.mono HBj.out.size)⟩⟩
              case measure => simp [intOf]; omega
        · have hjj : j = ts.length := by omega
          have hnn : n = L.length := by
            have h := HD1.out
            rw [List.drop_eq_nil_of_le (show ts.length ≤ j by omega)] at h
            have := congrArg List.length h
            rw [List.length_drop] at this
            simp [linksT] at this
            omega
          subst hjj hnn
          go_wp2
          go_ret
          exact ⟨by simp, HBc.out.trans (HBr.out.mono HBc.out.size)⟩
end Go.Proofs.YtefdfgmlmjnmlaaDoor.My
end

section
set_option linter.unusedVariables false
/- The second form's row and card of the law SchemaLinks. -/
namespace Go.Proofs.YtefdfgmlmjnmlaaDoor.My
open Go.ChangeShapes Go.WideShapes Go.ChangeAt Go.RowKit
open Go.ChangeMaps (open_string shut_string)
open Go.Proofs.YtefdfgmlmjnmlaaDoorW.PrintWords Go.Proofs.YtefdfgmlmjnmlaaDoor.Rf
open Go.Proofs.YtefdfgmlmjnmlaaDoor

set_option maxRecDepth 100000 in
theorem schemaLinks_contract (H : Type) (enc : TypeId × Value → H) (W : World) (base : Nat) (args : Array Value) (ds gs : List (DataW H)) (before : List MemPlace)
    (hval0 : ∀ (j : Nat) t v, Tryd.f6.params[j]? = some t → args[j]? = some v → Value.okWide Tryd.prog W .any base t v)
    (hW : DataW.Whole enc Tryd.prog Tryd.f6.params.toList Rows.schemaLinksSpec.vars false W args.toList ds gs before) (hk : Rows.uptoSmall H (ds ++ gs) = true) (hL : laidMetH Tryd.prog tabs W) :
    Calls Tryd.prog 6 args W fun e W' => ∃ v, e = .returned v ∧ Rows.schemaLinksSpec.post enc Tryd.prog Tryd.f6 false true false false W args v W' := by
  have hval : ∀ (j : Nat) t v, Tryd.f6.params[j]? = some t → args[j]? = some v → Value.okWide Tryd.prog W .any base t v := hval0
  have hW' := hW
  obtain ⟨p, q, hA0, hV, rfl, _, _⟩ := hW
  have hA : DataW.TrodAll enc Tryd.prog W 0 (fun _ => true) true Tryd.f6.params.toList args.toList ds p := hA0
  rw [Tryd.params6] at hA hval
  obtain ⟨v0, vs0, d0, ds0, p0, q0, hargs, rfl, rfl, h0, r0⟩ := trodAll_cons hA
  obtain ⟨v1, vs1, d1, ds1, p1, q1, rfl, rfl, rfl, h1, r1⟩ := trodAll_cons r0
  obtain ⟨rfl, rfl, rfl⟩ := trodAll_nil r1
  obtain rfl : args = #[v0, v1] := by cases args; simp_all
  obtain ⟨rfl, rfl⟩ := trodVars_none hV
  have k0 := h0
  have lt0 : ∀ x ∈ p0, x.block < W.heap.size := by obtain ⟨m, hm⟩ := k0; exact DataW.trod_lt m _ _ _ hm
  obtain ⟨cs0, rfl, _⟩ := okWide_struct Tryd.underlying25 (hval 0 25 v0 rfl rfl)
  obtain ⟨fu0, hf0⟩ := h0
  obtain ⟨s0, A0, c0, l0, B0, d0, m0, e0, lc0, hC0, nC0, ld0, hD0⟩ := open25U hf0
  have e0 : cs0 = #[.int .i64 s0, .slice A0 l0.length c0, .slice B0 m0.length d0] := Array.toList_inj.1 e0
  subst e0
  obtain ⟨a1, rfl, rfl, rfl, w1⟩ := open_string Tryd.underlying9 (hval 1 9 v1 rfl rfl) h1
  have hT := tabs_of hL
  have hk := of_decide_eq_true hk
  clear hA0 hval0
  have hOk : ∀ t, t ∈ l0 → OkT t := fun t ht => by
    obtain ⟨c, hc⟩ := C_each hC0 ht
    exact okT_of hc
  refine (links_law s0 l0 A0 c0 m0 B0 d0 a1 W hC0 lc0 hD0 ld0 hT hOk (by have h := nC0; dsimp only at h; simp only [Rows.uptoBulkAll, List.cons_append, List.nil_append] at hk; omega)).mono fun e W' ⟨he, bel⟩ => ?_
  subst he
  exact ⟨_, rfl, _, _, _, [], _, [], hW', trodAll_mk1 (shut_bool Tryd.underlying4 _), (trodAll_cons_mk (Below.trod laidOut (by kernel_rfl) (of_decide_eq_true (by kernel_rfl)) k0 bel lt0) (trodAll_cons_mk (shut_string Tryd.underlying9 w1) trodAll_mk0)), rfl, bel.frame _, fun h => by cases h⟩

theorem schemaLinks_reads (os : Os) {H : Type} (enc : TypeId × Value → H) : ∃ places, DataW.whole enc Tryd.prog ((World.laidAll Tryd.prog os tabs).forCall (fun _ _ => 0) ⟨#[], #[.agg #[.int .i64 0, .slice none 0 0, .slice none 0 0], .string ByteArray.empty], []⟩).memory Tryd.f6.params.toList Rows.schemaLinksSpec.vars false (#[.agg #[.int .i64 0, .slice none 0 0, .slice none 0 0], .string ByteArray.empty] : Array Value).toList 8 = some ([.agg [.lit (.int .i64 0), .nil, .nil], .lit (.string [])], [], places) :=
  ⟨[], by kernel_rfl⟩
theorem schemaLinks_met (os : Os) : laidMetH Tryd.prog tabs ((World.laidAll Tryd.prog os tabs).forCall (fun _ _ => 0) ⟨#[], #[.agg #[.int .i64 0, .slice none 0 0, .slice none 0 0], .string ByteArray.empty], []⟩).memory := by
  rw [MakeChecks.laidMetH_plain _ _ _ (by kernel_rfl)]
  exact laidMet_laidAll _ (by kernel_rfl) (by kernel_rfl)

set_option maxRecDepth 100000 in
theorem schemaLinks_lifted (os : Os) (started : os.Started) (H : Type) (enc : TypeId × Value → H) (F : Stop.Interp) :
    ReturnsInHanded {} Tryd.checked os 6 .any ((Rows.OpenSpec.upto Rows.schemaLinksSpec).preRow enc Tryd.prog Tryd.f6 Rows.schemaLinksUptoRow.domain false Rows.schemaLinksUptoRow.laid) (((Rows.OpenSpec.upto Rows.schemaLinksSpec).at F).post enc Tryd.prog Tryd.f6 false true false false) := by
  obtain ⟨places, hx⟩ := schemaLinks_reads os enc
  refine returnsInHanded_of_row (C := Tryd.checked) (s := Rows.OpenSpec.upto Rows.schemaLinksSpec) own started (by kernel_rfl) Tryd.func6
    (witness_row_at (enc := enc) (C := Tryd.checked) false (World.laidAll Tryd.prog os tabs) #[.agg #[.int .i64 0, .slice none 0 0, .slice none 0 0], .string ByteArray.empty] (World.laidAll_os _ _ _) (by kernel_rfl) (by kernel_rfl) (by kernel_rfl)
      (OpenSpec.preRow_of_cond 8 hx (by kernel_rfl) (fun k hk => by cases hk; kernel_rfl) (by kernel_rfl) (schemaLinks_met os))) ?_
  intro W base args ds gs before hval hW _ hcond _ hL _ _
  exact schemaLinks_contract H enc W base args ds gs before hval hW (hcond _ rfl) hL

theorem schemaLinks_holds : Rows.SchemaLinksUptoSaid :=
  OpenClaim.holds_of_cond 6 Tryd.f6 rfl rfl rfl rfl rfl rfl rfl ⟨rfl, rfl, rfl, rfl, rfl⟩ rfl rfl rfl rfl rfl (by kernel_rfl) Tryd.func6 (by kernel_rfl)
    (of_decide_eq_true (by kernel_rfl)) (by unfold Func.isWrapper; first | (rw [if_pos (by decide +kernel)]; kernel_rfl) | (rw [if_neg (by decide +kernel)]; exact ⟨rfl, rfl⟩))
    (fun os started H enc _ F => by rw [OpenClaim.pre_eq_preRow]; exact schemaLinks_lifted os started H enc F)

theorem schemaLinks_card : Rows.SchemaLinksUptoCardSaid :=
  Claim7.holds_tied_plain_at .later [] [.data, .pinned] true (true, "ad361f8c9010d8bc8c83665426ff667c1a83a32d80b366ff0bd14d2eb2135fde") true schemaLinks_holds (fun _ h => by cases h) (by kernel_rfl) (fun _ h => by cases h) schemaLinksUpto_row_tie rfl ⟨rfl, rfl⟩ (by kernel_rfl) rfl
    (fun f fn hf hfn => by
      obtain rfl : f = 6 := Option.some.inj ((show Tryd.prog.funcNamed "mortmain/mortmainlaw09.SchemaLinks" = some 6 by kernel_rfl).symm.trans hf) |>.symm
      obtain rfl : fn = Tryd.f6 := (Option.some.inj (Tryd.func6.symm.trans hfn)).symm
      exact ⟨by kernel_rfl, fun j t ht => by
        rw [Tryd.params6] at ht
        have hm : t ∈ [25, 9] := by simpa using Array.mem_of_getElem? ht
        have hall : ([25, 9].all fun u => !Tryd.prog.wantsStandIn u) = true := by kernel_rfl
        exact (show Tryd.prog.wantsStandIn t = false by simpa using List.all_eq_true.1 hall t hm)⟩)
    (by kernel_rfl)
#print axioms schemaLinks_card
end Go.Proofs.YtefdfgmlmjnmlaaDoor.My
end
