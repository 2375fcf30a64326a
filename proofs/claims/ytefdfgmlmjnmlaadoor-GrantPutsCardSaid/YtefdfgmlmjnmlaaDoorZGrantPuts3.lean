/- PROVED: the tied card of the law GrantPuts: whatever the input, the law returns true and leaves its arguments as they read. Its conditions:  those of the given row (the two tables of unicode/utf8 read as the program's text lays them). Joined out of this session's smaller texts (part 3 of 3). -/
import Derived.Test.YtefdfgmlmjnmlaaDoorZGrantPuts2
import Derived.Test.YtefdfgmlmjnmlaaDoorZGrantPuts1
section
/- The references Bits and great (layer 10) as plain functions. -/
namespace Go.Proofs.YtefdfgmlmjnmlaaDoor.My
open Go.RowKit Go.Proofs.YtefdfgmlmjnmlaaDoorW.PrintWords Go.Proofs.YtefdfgmlmjnmlaaDoor.Rf

theorem bits_l0 (l : List S27) (r : Int) (t : ByteArray) (hl : l.length ≤ 9223372036854775807) : ∀ d i, i + d = l.length →
    Ev (fun k => mortmainref10_Bits.l0 k r t l (l.length : Int) (i : Int)) (bitsR r t (l.drop i)) := by
  intro d
  induction d with
  | zero =>
    intro i hi
    refine Ev.step (f := fun _ => some 0) (fun k => ?_) ?_
    · simp only [mortmainref10_Bits.l0]
      rw [if_neg (by omega)]
    · rw [List.drop_eq_nil_of_le (by omega)]
      exact Ev.now _
  | succ d ih =>
    intro i hi
    have hlt : i < l.length := by omega
    have hd : l.drop i = l.getD i z27 :: l.drop (i + 1) := by
      rw [List.drop_eq_getElem_cons hlt]
      simp [List.getD, List.getElem?_eq_getElem hlt]
    have ihn := ih (i + 1) (by omega)
    rw [hd, bitsR]
    have step : ∀ k, mortmainref10_Bits.l0 (k + 1) r t l (l.length : Int) (i : Int) = if same r t (l.getD i z27) = true then some (l.getD i z27).f2 else mortmainref10_Bits.l0 k r t l (l.length : Int) ((i + 1 : Nat) : Int) := by
      intro k
      simp only [mortmainref10_Bits.l0]
      rw [if_pos (by omega), if_pos (by omega), if_pos (by omega), wrap_next hlt hl, rd27_nat]
      simp only [same, Bool.and_eq_true, beq_iff_eq]
      by_cases h1 : (l.getD i z27).f0 = r
      · by_cases h2 : (l.getD i z27).f1.toList = t.toList
        · simp only [h1, h2, if_true, and_self]
        · simp only [h1, h2, if_true, if_false, and_false]
      · simp only [h1, if_false, false_and]
    cases hs : same r t (l.getD i z27) with
    | true =>
      rw [if_pos rfl]
      refine Ev.step (f := fun _ => some (l.getD i z27).f2) (fun k => ?_) (Ev.now _)
      rw [step k, hs, if_pos rfl]
    | false =>
      rw [if_neg (by decide)]
      refine Ev.step (fun k => ?_) ihn
      rw [step k, hs, if_neg (by decide)]
theorem bits_ev (l : List S27) (r : Int) (t : ByteArray) (hl : l.length ≤ 9223372036854775807) : Ev (fun k => mortmainref10_Bits.f k l r t) (bitsR r t l) := by
  have := bits_l0 l r t hl l.length 0 (by omega)
  rwa [List.drop_zero] at this

theorem great10_l0 (l0 l : List S27) (hl : l.length ≤ 9223372036854775807) : ∀ d i a, i + d = l.length →
    ∃ b, Ev (fun k => mortmainlaw10_great.l0 k l0 a l (l.length : Int) (i : Int)) (decide (80 < l0.length) || b) := by
  intro d
  induction d with
  | zero =>
    intro i a hi
    refine ⟨decide (a > 3000), Ev.step (f := fun _ => some (decide (80 < l0.length) || decide (a > 3000))) (fun k => ?_) (Ev.now _)⟩
    simp only [mortmainlaw10_great.l0]
    rw [if_neg (by omega)]
    by_cases h : 80 < l0.length
    · rw [if_pos (by omega), decide_eq_true h]; rfl
    · rw [if_neg (by omega), decide_eq_false h]; rfl
  | succ d ih =>
    intro i a hi
    have hlt : i < l.length := by omega
    obtain ⟨b, hb⟩ := ih (i + 1) (wrap64 (a + ((rd_T27 l (i : Int)).f1.size : Int))) (by omega)
    refine ⟨b, Ev.step (fun k => ?_) hb⟩
    simp only [mortmainlaw10_great.l0]
    rw [if_pos (by omega), if_pos (by omega), if_pos (by omega), wrap_next hlt hl]
theorem great10_ev (l : List S27) (hl : l.length ≤ 9223372036854775807) : ∃ b, Ev (fun k => mortmainlaw10_great.f k l) (decide (80 < l.length) || b) :=
  great10_l0 l l hl l.length 0 0 (by omega)
end Go.Proofs.YtefdfgmlmjnmlaaDoor.My
end

section
/- GrantMay: its check of itself. -/
namespace Go.Proofs.YtefdfgmlmjnmlaaDoor.My
open Go.RowKit Go.Proofs.YtefdfgmlmjnmlaaDoorW.PrintWords Go.Proofs.YtefdfgmlmjnmlaaDoor.Rf

def tA : S45 := ⟨⟨#[97]⟩, 2, [], []⟩
theorem row1 {α : Type} (d : Kd α) {w : World} {t : TypeId} {x : α} {cs : List Value} (hK : d.K w x cs) (hl : cs.length = d.sz) {g : Nat} (hb : w.heap[g]? = some (.cells cs.toArray t (0, 0))) : Kd.C d w (some ⟨g, 0, none⟩) [x].length [x] := by
  refine ⟨rfl, by simp, fun _ => ⟨⟨g, 0, none⟩, rfl, fun j p hp => ?_⟩⟩
  cases j with
  | succ j => simp at hp
  | zero =>
    simp only [List.getElem?_cons_zero, Option.some.injEq] at hp
    subst hp
    refine ⟨cs, hl, hK, fun i u hu => ?_⟩
    have := blk_cell hb i
    have hu' := this.trans (show cs.toArray[i]? = some u by simpa using hu)
    cases i <;> simpa [Addr.add] using hu'
theorem rowA {g : Nat} (w : World) (hb : w.heap[g]? = some (.cells #[.string ⟨#[97]⟩, .int .i64 2, .slice none 0 0, .slice none 0 0] 45 (0, 0))) : Kd.C k45 w (some ⟨g, 0, none⟩) [tA].length [tA] := by
  refine row1 k45 (k45_mk w tA (A2 := none) (c2 := 0) (A3 := none) (c3 := 0) (by decide) (Kd.C_nil _ _) (by decide) (Kd.C_nil _ _)) rfl hb

theorem mayA {g : Nat} (w : World) (r : Int) (nm : ByteArray) (b : Int) (q : Bool) (hq : mayB [tA] [] r nm b = q) (hb : w.heap[g]? = some (.cells #[.string ⟨#[97]⟩, .int .i64 2, .slice none 0 0, .slice none 0 0] 45 (0, 0))) :
    Calls Tryd.prog 21 #[.agg #[.int .i64 0, .slice (some ⟨g, 0, none⟩) 1 1, .slice none 0 0], .int .i64 r, .string nm, .int .i64 b] w (BoolPost q w) := by
  subst hq
  exact may_calls 0 [tA] (some ⟨g, 0, none⟩) 1 [] none 0 r nm b w (rowA w hb) (Kd.C_nil _ _)

set_option maxRecDepth 100000 in
theorem alive_calls (w : World) : Calls Tryd.prog 12 #[] w (BoolPost true w) := by
  have hk := blk_alloc (blk_new w (.cells #[.string ⟨#[97]⟩, .int .i64 2, .slice none 0 0, .slice none 0 0] 45)) (.cells #[.int .i64 0, .slice (some ⟨w.heap.size, 0, none⟩) 1 1, .slice none 0 0] 25)
  have hk1 := blk_new1 w (.cells #[.string ⟨#[97]⟩, .int .i64 2, .slice none 0 0, .slice none 0 0] 45) (.cells #[.int .i64 0, .slice (some ⟨w.heap.size, 0, none⟩) 1 1, .slice none 0 0] 25)
  have hb := below2 w (.cells #[.string ⟨#[97]⟩, .int .i64 2, .slice none 0 0, .slice none 0 0] 45) (.cells #[.int .i64 0, .slice (some ⟨w.heap.size, 0, none⟩) 1 1, .slice none 0 0] 25)
  have HK := Aside0.mk hk
  have HK1 := Aside0.mk hk1
  have HB := Aside0.mk hb
  clear hk hk1 hb
  go_enter Tryd.func12, Tryd.ntmps12
  go_wp2_with (first
    | (refine (mayA _ 0 ⟨#[98]⟩ 1 false (by kernel_rfl) HK4.out).mono ?_; rintro e w5 ⟨rfl, hb5⟩)
    | (refine (mayA _ 1 ⟨#[97]⟩ 1 false (by kernel_rfl) HK3.out).mono ?_; rintro e w4 ⟨rfl, hb4⟩; have HK4 := Aside0.mk (blk_below HK3.out hb4); have HL4 := Aside0.mk (blk_below HL3.out hb4); have c0 := blk_cell HL4.out 0; have c1 := blk_cell HL4.out 1; have c2 := blk_cell HL4.out 2)
    | (refine (mayA _ 2 ⟨#[97]⟩ 1 true (by kernel_rfl) HK2.out).mono ?_; rintro e w3 ⟨rfl, hb3⟩; have HK3 := Aside0.mk (blk_below HK2.out hb3); have HL3 := Aside0.mk (blk_below HL2.out hb3); have b0 := blk_cell HL3.out 0; have b1 := blk_cell HL3.out 1; have b2 := blk_cell HL3.out 2)
    | (refine (mayA _ 0 ⟨#[97]⟩ 31 true (by kernel_rfl) HK.out).mono ?_; rintro e w2 ⟨rfl, hb2⟩; have HK2 := Aside0.mk (blk_below HK.out hb2); have HL2 := Aside0.mk (blk_below HK1.out hb2); have a0 := blk_cell HL2.out 0; have a1 := blk_cell HL2.out 1; have a2 := blk_cell HL2.out 2))
  go_ret
  exact ⟨rfl, below_step (below_step (below_step (below_step HB.out hb2) hb3) hb4) hb5⟩
end Go.Proofs.YtefdfgmlmjnmlaaDoor.My
end

section
set_option linter.unusedSimpArgs false
set_option linter.unusedVariables false
/- The law GrantPuts: it answers true, of all grants that are read. -/
namespace Go.Proofs.YtefdfgmlmjnmlaaDoor.My
open Go.RowKit Go.Proofs.YtefdfgmlmjnmlaaDoorW.PrintWords Go.Proofs.YtefdfgmlmjnmlaaDoor.Rf
open Go.Proofs.YtefdfgmlmjnmlaaDoorW.PrintLast Go.Proofs.YtefdfgmlmjnmlaaDoorW.PrintMore

set_option maxHeartbeats 4000000 in
set_option maxRecDepth 100000 in
theorem puts_law (l : List S27) (A : Option Addr) (c : Nat) (g : S27) (w : World) (hr : Kd.C k27 w A l.length l) (hc : l.length ≤ c) (hT : Tabs w) (hs : okS l) (hgs : g.f1.size ≤ 9223372036854775807) :
    Calls Tryd.prog 8 #[.slice A l.length c, .agg #[.int .i64 g.f0, .string g.f1, .int .i64 g.f2]] w (BoolPost true w) := by
  have hnl : l.length ≤ 9223372036854775807 := hr.2.1
  obtain ⟨bG, kG, hG⟩ := great10_ev l hnl
  obtain ⟨kS, hS⟩ := sorted_ev l hs hnl
  have hG := Aside0.mk (hG kG (Nat.le_refl _))
  have hS := Aside0.mk (hS kS (Nat.le_refl _))
  have HC := Aside0.mk hc
  have b1 := below1 w (.cells #[.int .i64 g.f0, .string g.f1, .int .i64 g.f2] 27)
  have HB := Aside0.mk b1
  have HT := Aside0.mk (hT.below b1)
  have HR := Aside0.mk (Kd.C_below hr b1)
  have HK := Aside0.mk (blk_new w (.cells #[.int .i64 g.f0, .string g.f1, .int .i64 g.f2] 27))
  clear hr hc hT b1
  by_cases hgr : (decide (80 < l.length) || bG) = true
  · have hG := Aside0.mk (hgr ▸ hG.out)
    go_enter Tryd.func8, Tryd.ntmps8
    go_wp2_with (first
      | (go_at_call 12; refine (alive_calls _).mono ?_; rintro e w2 ⟨rfl, hb2⟩; have HK2 := Aside0.mk (blk_below HK.out hb2); have HR2 := Aside0.mk (Kd.C_below HR.out hb2); have HB2 := Aside0.mk (below_step HB.out hb2))
      | (go_at_call 23; refine (mortmainlaw10_great.calls kG A c l true _ HR2.out HC.out hG.out).mono ?_; rintro e w3 ⟨rfl, hb3⟩))
    go_ret
    exact ⟨rfl, below_step HB2.out hb3⟩
  · have hgr : (decide (80 < l.length) || bG) = false := by simpa using hgr
    have hG := Aside0.mk (hgr ▸ hG.out)
    have h80 : l.length ≤ 80 := by simp at hgr; omega
    by_cases hlen : 200 < (g.f1.size : Int)
    · have hlen1 := decide_eq_true hlen
      go_enter Tryd.func8, Tryd.ntmps8
      go_wp2_with (first
        | (go_at_call 12; refine (alive_calls _).mono ?_; rintro e w2 ⟨rfl, hb2⟩; have HK2 := Aside0.mk (blk_below HK.out hb2); have HR2 := Aside0.mk (Kd.C_below HR.out hb2); have HB2 := Aside0.mk (below_step HB.out hb2))
        | (go_at_call 23; refine (mortmainlaw10_great.calls kG A c l false _ HR2.out HC.out hG.out).mono ?_; rintro e w3 ⟨rfl, hb3⟩; have HK3 := Aside0.mk (blk_below HK2.out hb3); have a1 := blk_cell HK3.out 1))
      go_ret
      exact ⟨rfl, below_step HB2.out hb3⟩
    · have hlen1 := decide_eq_false hlen
      cases hsr : refS l 0 l.length with
      | false =>
        have hS := Aside0.mk (hsr ▸ hS.out)
        go_enter Tryd.func8, Tryd.ntmps8
        go_wp2_with (first
          | (go_at_call 12; refine (alive_calls _).mono ?_; rintro e w2 ⟨rfl, hb2⟩; have HK2 := Aside0.mk (blk_below HK.out hb2); have HR2 := Aside0.mk (Kd.C_below HR.out hb2); have HB2 := Aside0.mk (below_step HB.out hb2))
          | (go_at_call 23; refine (mortmainlaw10_great.calls kG A c l false _ HR2.out HC.out hG.out).mono ?_; rintro e w3 ⟨rfl, hb3⟩; have HK3 := Aside0.mk (blk_below HK2.out hb3); have HR3 := Aside0.mk (Kd.C_below HR2.out hb3); have HB3 := Aside0.mk (below_step HB2.out hb3); have a1 := blk_cell HK3.out 1)
          | (go_at_call 14; refine (mortmainref10_Sorted.calls kS A c l false _ HR3.out HC.out hS.out).mono ?_; rintro e w4 ⟨rfl, hb4⟩))
        go_ret
        exact ⟨rfl, below_step HB3.out hb4⟩
      | true =>
        have hS := Aside0.mk (hsr ▸ hS.out)
        have h64 := (refS_iff l).1 hsr
        have HG64 := Aside0.mk h64
        have hl32 : l.length * 32 ≤ 140737488355328 := by omega
        clear hsr h64 hgr
        have hat := (search_spec l g (rise_iff HG64.out.rise)).1
        obtain ⟨kB, hB⟩ := bits_ev l g.f0 g.f1 hnl
        have hB := Aside0.mk (hB kB (Nat.le_refl _))
        obtain ⟨kO, hO⟩ := good_ev g hgs
        have hO := Aside0.mk (hO kO (Nat.le_refl _))
        obtain ⟨had, hhad⟩ : ∃ b, bitsR g.f0 g.f1 l = b := ⟨_, rfl⟩
        have hz := bits_zero (g := g) HG64.out
        rw [hhad] at hB hz
        have HHAD := Aside0.mk hhad
        have HZ := Aside0.mk hz
        clear hhad hz
        go_enter Tryd.func8, Tryd.ntmps8
        go_wp2_with (first
          | (go_at_call 12; refine (alive_calls _).mono ?_; rintro e w2 ⟨rfl, hb2⟩; have HK2 := Aside0.mk (blk_below HK.out hb2); have HR2 := Aside0.mk (Kd.C_below HR.out hb2); have HB2 := Aside0.mk (below_step HB.out hb2); have HT2 := Aside0.mk (HT.out.below hb2))
          | (go_at_call 23; refine (mortmainlaw10_great.calls kG A c l false _ HR2.out HC.out hG.out).mono ?_; rintro e w3 ⟨rfl, hb3⟩; have HK3 := Aside0.mk (blk_below HK2.out hb3); have HR3 := Aside0.mk (Kd.C_below HR2.out hb3); have HB3 := Aside0.mk (below_step HB2.out hb3); have HT3 := Aside0.mk (HT2.out.below hb3); have a1 := blk_cell HK3.out 1)
          | (go_at_call 14; refine (mortmainref10_Sorted.calls kS A c l true _ HR3.out HC.out hS.out).mono ?_; rintro e w4 ⟨rfl, hb4⟩; have HK4 := Aside0.mk (blk_below HK3.out hb4); have HR4 := Aside0.mk (Kd.C_below HR3.out hb4); have HB4 := Aside0.mk (below_step HB3.out hb4); have HT4 := Aside0.mk (HT3.out.below hb4); clear a1; have a0 := blk_cell HK4.out 0; have a1 := blk_cell HK4.out 1; have a2 := blk_cell HK4.out 2)
          | (go_at_call 39; refine (put_calls l A c g _ HR4.out hl32 hat hgs HT4.out).mono ?_; rintro e w5 ⟨⟨A5, n5, c5, er, rfl, hbad, hfull, hgood⟩, hb5⟩; have HBAD := Aside0.mk hbad; have HFULL := Aside0.mk hfull; have HGOOD := Aside0.mk hgood; clear hbad hfull hgood; have HK5 := Aside0.mk (blk_below HK4.out hb5); have HR5 := Aside0.mk (Kd.C_below HR4.out hb5); have HB5 := Aside0.mk (below_step HB4.out hb5); have HT5 := Aside0.mk (HT4.out.below hb5); clear a0 a1 a2; have a0 := blk_cell HK5.out 0; have a1 := blk_cell HK5.out 1; have a2 := blk_cell HK5.out 2)
          | (go_at_call 26; refine (mortmainref10_Bits.calls kB A c l g.f0 g.f1 _ _ HR5.out HC.out hB.out).mono ?_; rintro e w6 ⟨rfl, hb6⟩; have HB56 := Aside0.mk hb6; have HK6 := Aside0.mk (blk_below HK5.out hb6); have HR6 := Aside0.mk (Kd.C_below HR5.out hb6); have HB6 := Aside0.mk (below_step HB5.out hb6); have HT6 := Aside0.mk (HT5.out.below hb6); clear a0 a1 a2; have a0 := blk_cell HK6.out 0; have a1 := blk_cell HK6.out 1; have a2 := blk_cell HK6.out 2))
        cases hg : goodG g
        · obtain ⟨rfl, rfl⟩ := HBAD.out hg
          rw [hg] at hO
          go_wp2_with (go_at_call 17; refine (mortmainref10_Good.calls kO g.f0 g.f1 g.f2 _ _ hO.out).mono ?_; rintro e w7 ⟨rfl, hb7⟩; have HB57 := Aside0.mk (below_step HB56.out hb7); have HK7 := Aside0.mk (blk_below HK6.out hb7); have HR7 := Aside0.mk (Kd.C_below HR6.out hb7); have HB7 := Aside0.mk (below_step HB6.out hb7); have HT7 := Aside0.mk (HT6.out.below hb7); clear a0 a1 a2; have a0 := blk_cell HK7.out 0; have a1 := blk_cell HK7.out 1; have a2 := blk_cell HK7.out 2)
          go_ret
          exact ⟨rfl, HB7.out⟩
        · by_cases hfl : searchIs l g = false ∧ 64 ≤ l.length
          · obtain ⟨rfl, rfl⟩ := HFULL.out hg hfl.1 hfl.2
            have h0 := HZ.out.1 hfl.1
            have h64 : decide ((64 : Int) ≤ (l.length : Int)) = true := decide_eq_true (by omega)
            have h0' : (had == 0) = true := by rw [h0]; rfl
            rw [hg] at hO
            go_wp2_with (go_at_call 17; refine (mortmainref10_Good.calls kO g.f0 g.f1 g.f2 _ _ hO.out).mono ?_; rintro e w7 ⟨rfl, hb7⟩; have HB57 := Aside0.mk (below_step HB56.out hb7); have HK7 := Aside0.mk (blk_below HK6.out hb7); have HR7 := Aside0.mk (Kd.C_below HR6.out hb7); have HB7 := Aside0.mk (below_step HB6.out hb7); have HT7 := Aside0.mk (HT6.out.below hb7); clear a0 a1 a2; have a0 := blk_cell HK7.out 0; have a1 := blk_cell HK7.out 1; have a2 := blk_cell HK7.out 2)
            go_ret
            exact ⟨rfl, HB7.out⟩
          · rw [hg] at hO
            have hok : searchIs l g = true ∨ l.length < 64 := by
              cases hs1 : searchIs l g with
              | true => exact .inl rfl
              | false => exact .inr (by have : ¬ 64 ≤ l.length := fun h => hfl ⟨hs1, h⟩; omega)
            obtain ⟨rfl, rfl, hn5, hC5⟩ := HGOOD.out hg hok
            have HC5 := Aside0.mk hC5
            have HH5 := Aside0.mk hn5
            clear hC5 hn5
            have hG2 := put_good HG64.out hg hok
            have hS2 := (refS_iff _).2 hG2
            have hOK2 := okS_good hG2
            obtain ⟨kS2, hE2⟩ := sorted_ev (putL l g) hOK2 (Kd.C_max HC5.out)
            rw [hS2] at hE2
            have hE2 := Aside0.mk (hE2 kS2 (Nat.le_refl _))
            have HSAME := Aside0.mk ((sorted_same (putL l g)).trans hS2)
            have HPB := Aside0.mk (put_bits HG64.out hg)
            have hL64 := hG2.len
            have hl64 := HG64.out.len
            have h0 : decide (had = 0 ∧ 64 ≤ l.length) = false := by
              refine decide_eq_false fun hh => hfl ⟨HZ.out.2 hh.1, hh.2⟩
            clear hG2 hS2
            generalize putL l g = L at *
            cases h0a : (had == 0) with
            | true =>
              have h64 : decide ((64 : Int) ≤ (l.length : Int)) = false := decide_eq_false (by intro hh; exact absurd h0 (by simp; refine ⟨by simpa using h0a, by omega⟩))
              clear h0
              go_wp2_with (first
                | (go_at_call 17; refine (mortmainref10_Good.calls kO g.f0 g.f1 g.f2 _ _ hO.out).mono ?_; rintro e w7 ⟨rfl, hb7⟩; have HB57 := Aside0.mk (below_step HB56.out hb7); have HK7 := Aside0.mk (blk_below HK6.out hb7); have HR7 := Aside0.mk (Kd.C_below HR6.out hb7); have HB7 := Aside0.mk (below_step HB6.out hb7); have HT7 := Aside0.mk (HT6.out.below hb7); clear a0 a1 a2; have a0 := blk_cell HK7.out 0; have a1 := blk_cell HK7.out 1; have a2 := blk_cell HK7.out 2)
                | (go_at_call 14; refine (mortmainref10_Sorted.calls kS2 A5 c5 L true _ (Kd.C_below HC5.out HB57.out) HH5.out hE2.out).mono ?_; rintro e w8 ⟨rfl, hb8⟩; have HB58 := Aside0.mk (below_step HB57.out hb8); have HK8 := Aside0.mk (blk_below HK7.out hb8); have HR8 := Aside0.mk (Kd.C_below HR7.out hb8); have HB8 := Aside0.mk (below_step HB7.out hb8); have HT8 := Aside0.mk (HT7.out.below hb8))
                | (go_at_call 15; refine (sorted_calls L A5 c5 _ (Kd.C_below HC5.out HB58.out) hOK2 HT8.out).mono ?_; rintro e w9 ⟨rfl, hb9⟩; rw [HSAME.out]; have HB59 := Aside0.mk (below_step HB58.out hb9); have HK9 := Aside0.mk (blk_below HK8.out hb9); have HR9 := Aside0.mk (Kd.C_below HR8.out hb9); have HB9 := Aside0.mk (below_step HB8.out hb9); have HT9 := Aside0.mk (HT8.out.below hb9); obtain ⟨LL, q10, cap10, w10, q11, cap11, w11, hrun10, hrun11, hCLL, hb11'⟩ := app_both w9 l L A c A5 c5 HR9.out (Kd.C_below HC5.out HB59.out) (by omega); have HRUN10 := Aside0.mk hrun10; have HRUN11 := Aside0.mk hrun11; have HLL := Aside0.mk hCLL; have HK11 := Aside0.mk (blk_below HK9.out hb11'); have HR11 := Aside0.mk (Kd.C_below HR9.out hb11'); have HC11 := Aside0.mk (Kd.C_below (Kd.C_below HC5.out HB59.out) hb11'); have HB11 := Aside0.mk (below_step HB9.out hb11'); clear hrun10 hrun11 hCLL hb11')
                | (refine appendL_ rfl (.tmp 74) (.tmp 75) 23 rfl (.slice (some ⟨w9.heap.size, 0, none⟩) 0 0) (.slice A l.length c) ?_ ?_ HRUN10.out ?_ <;> first | rfl | (simp; done) | skip)
                | (refine appendL_ rfl (.tmp 76) (.tmp 77) 23 rfl (.slice (some ⟨q10, 0, none⟩) l.length cap10) (.slice A5 L.length c5) ?_ ?_ HRUN11.out ?_ <;> first | rfl | (simp; done) | skip))
              clear hb2 hb3 hb4 hb5 hb6 hb7 hb8 hb9
              have hLLm := Kd.C_max HLL.out
              go_loopw [9, 10, 80] (fun _ _ t80 wr => ∃ k : Nat, t80 = .int .i64 k ∧ k ≤ LL.length ∧ Aside0 (Below w11.heap.size w11 wr)) (fun _ _ t80 _ => LL.length - (intOf t80).toNat)
              case atStart => exact ⟨0, rfl, Nat.zero_le _, ⟨Below.refl _ _⟩⟩
              case round =>
                obtain ⟨k, rfl, hk, HBr⟩ := hrel
                by_cases hlt : k < LL.length
                · obtain ⟨ad, e, hc0, hc1, hc2⟩ := at_T27 HLL.out (k : Int) (by omega) (by omega)
                  cases e
                  have hadd : ∀ q, (⟨q11, 0, none⟩ : Addr).add q = ⟨q11, q, none⟩ := fun q => by cases q <;> simp [Addr.add]
                  simp only [Int.toNat_natCast, rd_T27, hadd] at hc0 hc1 hc2
                  clear hadd
                  generalize hx : LL.getD k z27 = x at hc0 hc1 hc2
                  have htb := HPB.out x.f0 x.f1
                  obtain ⟨kX, hX⟩ := bits_ev l x.f0 x.f1 hnl
                  have hX := Aside0.mk (hX kX (Nat.le_refl _))
                  obtain ⟨kY, hY⟩ := bits_ev L x.f0 x.f1 (Kd.C_max HC5.out)
                  have hY := Aside0.mk (hY kY (Nat.le_refl _))
                  have d0 := cell_now HBr.out hc0
                  have d1 := cell_now HBr.out hc1
                  have d2 := cell_now HBr.out hc2
                  have HKr := Aside0.mk (blk_below HK11.out HBr.out)
                  have gk := blk_lt HKr.out
                  have HKa := Aside0.mk (blk_alloc HKr.out (.cells #[.int .i64 x.f0, .string x.f1, .int .i64 x.f2] 27))
                  have HNq := Aside0.mk (blk_new wr (.cells #[.int .i64 x.f0, .string x.f1, .int .i64 x.f2] 27))
                  have HRq := Aside0.mk (Kd.C_alloc (Kd.C_below HR11.out HBr.out) (.cells #[.int .i64 x.f0, .string x.f1, .int .i64 x.f2] 27))
                  have HCq := Aside0.mk (Kd.C_alloc (Kd.C_below HC11.out HBr.out) (.cells #[.int .i64 x.f0, .string x.f1, .int .i64 x.f2] 27))
                  have HBa := Aside0.mk (below_alloc HBr.out (.cells #[.int .i64 x.f0, .string x.f1, .int .i64 x.f2] 27))
                  have hj0 : (0 : Int) ≤ (k : Int) := by omega
                  have hj1 : (k : Int) < (LL.length : Int) := by omega
                  clear hc0 hc1 hc2 hx
                  cases hq0 : (x.f0 == g.f0) with
                  | false =>
                    rw [if_neg (by simp only [same, Bool.and_eq_true, beq_iff_eq]; intro hh; simp [hh.1] at hq0)] at htb
                    have HTQ := Aside0.mk htb
                    clear htb
                    go_wp2_with (first
                      | (go_at_call 26; refine (mortmainref10_Bits.calls kY A5 c5 L x.f0 x.f1 _ _ HLx.out HH5.out hY.out).mono ?_; rintro e wy ⟨rfl, hby⟩; rw [HTQ.out])
                      | (go_at_call 26; refine (mortmainref10_Bits.calls kX A c l x.f0 x.f1 _ _ HRq.out HC.out hX.out).mono ?_; rintro e wx ⟨rfl, hbx⟩; have HBx := Aside0.mk (below_step HBa.out hbx); have HNx := Aside0.mk (blk_below HNq.out hbx); have HKx := Aside0.mk (blk_below HKa.out hbx); have HLx := Aside0.mk (Kd.C_below HCq.out hbx); clear hbx; have y0 := blk_cell HNx.out 0; have y1 := blk_cell HNx.out 1; have y2 := blk_cell HNx.out 2; have z0 := blk_cell HKx.out 0; have z1 := blk_cell HKx.out 1; have z2 := blk_cell HKx.out 2))
                    go_roundw
                    case rel => exact ⟨k + 1, by go_num, by omega, ⟨below_step HBx.out hby⟩⟩
                    case measure => simp [intOf]; omega
                  | true =>
                    cases hq1 : (x.f1.toList == g.f1.toList) with
                    | false =>
                      rw [if_neg (by simp only [same, Bool.and_eq_true, beq_iff_eq]; intro hh; simp [hh.2] at hq1)] at htb
                      have HTQ := Aside0.mk htb
                      clear htb
                      go_wp2_with (first
                        | (go_at_call 26; refine (mortmainref10_Bits.calls kY A5 c5 L x.f0 x.f1 _ _ HLx.out HH5.out hY.out).mono ?_; rintro e wy ⟨rfl, hby⟩; rw [HTQ.out])
                        | (go_at_call 26; refine (mortmainref10_Bits.calls kX A c l x.f0 x.f1 _ _ HRq.out HC.out hX.out).mono ?_; rintro e wx ⟨rfl, hbx⟩; have HBx := Aside0.mk (below_step HBa.out hbx); have HNx := Aside0.mk (blk_below HNq.out hbx); have HKx := Aside0.mk (blk_below HKa.out hbx); have HLx := Aside0.mk (Kd.C_below HCq.out hbx); clear hbx; have y0 := blk_cell HNx.out 0; have y1 := blk_cell HNx.out 1; have y2 := blk_cell HNx.out 2; have z0 := blk_cell HKx.out 0; have z1 := blk_cell HKx.out 1; have z2 := blk_cell HKx.out 2))
                      go_roundw
                      case rel => exact ⟨k + 1, by go_num, by omega, ⟨below_step HBx.out hby⟩⟩
                      case measure => simp [intOf]; omega
                    | true =>
                      have hc : bitsR x.f0 x.f1 l = had := (bits_cong (by simpa using hq0) (by simpa using hq1) l).trans HHAD.out
                      rw [if_pos (by simp only [same, Bool.and_eq_true, beq_iff_eq]; simp at hq0 hq1; exact ⟨hq0.symm, hq1.symm⟩), hc] at htb
                      have HTQ := Aside0.mk htb
                      clear htb
                      go_wp2_with (first
                        | (go_at_call 26; refine (mortmainref10_Bits.calls kY A5 c5 L x.f0 x.f1 _ _ HLx.out HH5.out hY.out).mono ?_; rintro e wy ⟨rfl, hby⟩; rw [HTQ.out])
                        | (go_at_call 26; refine (mortmainref10_Bits.calls kX A c l x.f0 x.f1 _ _ HRq.out HC.out hX.out).mono ?_; rintro e wx ⟨rfl, hbx⟩; have HBx := Aside0.mk (below_step HBa.out hbx); have HNx := Aside0.mk (blk_below HNq.out hbx); have HKx := Aside0.mk (blk_below HKa.out hbx); have HLx := Aside0.mk (Kd.C_below HCq.out hbx); clear hbx; have y0 := blk_cell HNx.out 0; have y1 := blk_cell HNx.out 1; have y2 := blk_cell HNx.out 2; have z0 := blk_cell HKx.out 0; have z1 := blk_cell HKx.out 1; have z2 := blk_cell HKx.out 2))
                      go_roundw
                      case rel => exact ⟨k + 1, by go_num, by omega, ⟨below_step HBx.out hby⟩⟩
                      case measure => simp [intOf]; omega
                · have HKr := Aside0.mk (blk_below HK11.out HBr.out)
                  have HCr := Aside0.mk (Kd.C_below HC11.out HBr.out)
                  have hfin := HPB.out g.f0 g.f1
                  rw [if_pos (same_self g), HHAD.out] at hfin
                  have HFIN := Aside0.mk hfin
                  obtain ⟨kZ, hZ⟩ := bits_ev L g.f0 g.f1 (Kd.C_max HC5.out)
                  have hZ := Aside0.mk (hZ kZ (Nat.le_refl _))
                  have hkk : k = LL.length := by omega
                  subst hkk
                  clear hfin
                  go_wp2
                  refine start_ (n := 12) (S := (fun w' => w'.cell? ⟨w.heap.size, 0, none⟩ = some (.int .i64 g.f0) ∧ w'.cell? ⟨w.heap.size, 1, none⟩ = some (.string g.f1) ∧ w'.cell? ⟨w.heap.size, 2, none⟩ = some (.int .i64 g.f2))) (ds := []) #[false, false, false, false, false, false, false, false, false, false, false, false] (by kernel_rfl) rfl rfl ⟨blk_cell HKr.out 0, blk_cell HKr.out 1, blk_cell HKr.out 2⟩ (fun hHeld => ?_)
                  refine pure_ (i := 0) (N := some 115) (v := ?_) (a' := ?_) #[true, false, false, false, false, false, false, false, false, false, false, false] rfl rfl (by kernel_rfl) (fun _ _ _ h => h) (Or.inl ⟨by rfl, ?_⟩) ?_ ?_
                  rotate_left
                  · intro w'
                    go_simp
                    with_reducible rfl
                  rotate_left
                  · simp only [Act.put, List.setIfInBounds_toArray, List.set_cons_zero, List.set_cons_succ, i64_w, i32_w]
                    rfl
                  refine pure_ (i := 1) (N := some 116) (v := ?_) (a' := ?_) #[true, true, false, false, false, false, false, false, false, false, false, false] rfl rfl (by kernel_rfl) (fun _ _ _ h => h) (Or.inl ⟨by rfl, ?_⟩) ?_ ?_
                  rotate_left
                  · intro w'
                    go_simp
                    with_reducible rfl
                  rotate_left
                  · simp only [Act.put, List.setIfInBounds_toArray, List.set_cons_zero, List.set_cons_succ, i64_w, i32_w]
                    rfl
                  refine pure_ (i := 3) (N := some 118) (v := ?_) (a' := ?_) #[true, true, false, true, false, false, false, false, false, false, false, false] rfl rfl (by kernel_rfl) (fun _ _ _ h => h) (Or.inl ⟨by rfl, ?_⟩) ?_ ?_
                  rotate_left
                  · intro w'
                    go_simp
                    with_reducible rfl
                  rotate_left
                  · simp only [Act.put, List.setIfInBounds_toArray, List.set_cons_zero, List.set_cons_succ, i64_w, i32_w]
                    rfl
                  refine pure_ (i := 6) (N := some 121) (v := ?_) (a' := ?_) #[true, true, false, true, false, false, true, false, false, false, false, false] rfl rfl (by kernel_rfl) (fun _ _ _ h => h) (Or.inl ⟨by rfl, ?_⟩) ?_ ?_
                  rotate_left
                  · intro w'
                    go_simp
                    with_reducible rfl
                  rotate_left
                  · simp only [Act.put, List.setIfInBounds_toArray, List.set_cons_zero, List.set_cons_succ, i64_w, i32_w]
                    rfl
                  refine pure_ (i := 7) (N := some 122) (v := ?_) (a' := ?_) #[true, true, false, true, false, false, true, true, false, false, false, false] rfl rfl (by kernel_rfl) (fun _ _ _ h => h) (Or.inl ⟨by rfl, ?_⟩) ?_ ?_
                  rotate_left
                  · intro w'
                    go_simp
                    with_reducible rfl
                  rotate_left
                  · simp only [Act.put, List.setIfInBounds_toArray, List.set_cons_zero, List.set_cons_succ, i64_w, i32_w]
                    rfl
                  refine take_ (i := 2) (N := some 117) (v := ?_) (a' := ?_) #[true, true, true, true, false, false, true, true, false, false, false, false] rfl rfl (by kernel_rfl) (fun _ _ _ h => h) (Or.inl ⟨by rfl, ?_⟩) hHeld ?_ ?_
                  rotate_left
                  · rintro w' ⟨s0, s1, s2⟩
                    go_simp
                    with_reducible rfl
                  rotate_left
                  · simp only [Act.put, List.setIfInBounds_toArray, List.set_cons_zero, List.set_cons_succ, i64_w, i32_w]
                    rfl
                  refine take_ (i := 4) (N := some 119) (v := ?_) (a' := ?_) #[true, true, true, true, true, false, true, true, false, false, false, false] rfl rfl (by kernel_rfl) (fun _ _ _ h => h) (Or.inl ⟨by rfl, ?_⟩) hHeld ?_ ?_
                  rotate_left
                  · rintro w' ⟨s0, s1, s2⟩
                    go_simp
                    with_reducible rfl
                  rotate_left
                  · simp only [Act.put, List.setIfInBounds_toArray, List.set_cons_zero, List.set_cons_succ, i64_w, i32_w]
                    rfl
                  refine take_ (i := 8) (N := some 123) (v := ?_) (a' := ?_) #[true, true, true, true, true, false, true, true, true, false, false, false] rfl rfl (by kernel_rfl) (fun _ _ _ h => h) (Or.inl ⟨by rfl, ?_⟩) hHeld ?_ ?_
                  rotate_left
                  · rintro w' ⟨s0, s1, s2⟩
                    go_simp
                    with_reducible rfl
                  rotate_left
                  · simp only [Act.put, List.setIfInBounds_toArray, List.set_cons_zero, List.set_cons_succ, i64_w, i32_w]
                    rfl
                  refine pure_ (i := 9) (N := some 124) (v := ?_) (a' := ?_) #[true, true, true, true, true, false, true, true, true, true, false, false] rfl rfl (by kernel_rfl) (fun _ _ _ h => h) (Or.inl ⟨by rfl, ?_⟩) ?_ ?_
                  rotate_left
                  · intro w'
                    go_simp
                    with_reducible rfl
                  rotate_left
                  · simp only [Act.put, List.setIfInBounds_toArray, List.set_cons_zero, List.set_cons_succ, i64_w, i32_w]
                    rfl
                  refine one_ (i := 5) (N := some 120) #[true, true, true, true, true, true, true, true, true, true, false, false] rfl rfl (by kernel_rfl) (by decide) (fun K hK => ?_)
                  refine goes_ Tryd.func26 (by kernel_rfl) rfl #[.slice A5 L.length c5, .int .i64 g.f0, .string g.f1] (by rfl) rfl rfl (by first | rfl | (simp only [List.map_toArray, List.map_cons, List.map_nil]; rfl)) ?_
                  refine (mortmainref10_Bits.calls kZ A5 c5 L g.f0 g.f1 _ _ (Kd.C_drew HCr.out) HH5.out hZ.out).mono ?_
                  rintro e wz ⟨rfl, hbz⟩
                  have hbz := undrew hbz
                  have HKz := Aside0.mk (blk_below HKr.out hbz)
                  rw [HFIN.out]
                  refine ⟨_, rfl, ?_⟩
                  refine hK.out _ _ ⟨blk_cell HKz.out 0, blk_cell HKz.out 1, blk_cell HKz.out 2⟩ (fun hHeld => ?_)
                  clear hK K
                  refine norm_ (a' := ?_) ?_ ?_
                  rotate_left
                  · show Act.put _ (some 120) _ = _
                    simp only [Act.put, List.setIfInBounds_toArray, List.set_cons_zero, List.set_cons_succ, i64_w, i32_w]
                    rfl
                  refine pure_ (i := 10) (N := some 125) (v := ?_) (a' := ?_) #[true, true, true, true, true, true, true, true, true, true, true, false] rfl rfl (by kernel_rfl) (fun _ _ _ h => h) (Or.inl ⟨by rfl, ?_⟩) ?_ ?_
                  rotate_left
                  · intro w'
                    go_simp
                    with_reducible rfl
                  rotate_left
                  · simp only [Act.put, List.setIfInBounds_toArray, List.set_cons_zero, List.set_cons_succ, i64_w, i32_w]
                    rfl
                  refine pure_ (i := 11) (N := some 4) (v := ?_) (a' := ?_) #[true, true, true, true, true, true, true, true, true, true, true, true] rfl rfl (by kernel_rfl) (fun _ _ _ h => h) (Or.inl ⟨by rfl, ?_⟩) ?_ ?_
                  rotate_left
                  · intro w'
                    go_simp
                    with_reducible rfl
                  rotate_left
                  · simp only [Act.put, List.setIfInBounds_toArray, List.set_cons_zero, List.set_cons_succ, i64_w, i32_w]
                    rfl
                  refine done_ (by kernel_rfl) ?_
                  go_wp2
                  go_ret
                  exact ⟨rfl, below_step (below_step HB11.out HBr.out) hbz⟩
            | false =>
              clear h0
              go_wp2_with (first
                | (go_at_call 17; refine (mortmainref10_Good.calls kO g.f0 g.f1 g.f2 _ _ hO.out).mono ?_; rintro e w7 ⟨rfl, hb7⟩; have HB57 := Aside0.mk (below_step HB56.out hb7); have HK7 := Aside0.mk (blk_below HK6.out hb7); have HR7 := Aside0.mk (Kd.C_below HR6.out hb7); have HB7 := Aside0.mk (below_step HB6.out hb7); have HT7 := Aside0.mk (HT6.out.below hb7); clear a0 a1 a2; have a0 := blk_cell HK7.out 0; have a1 := blk_cell HK7.out 1; have a2 := blk_cell HK7.out 2)
                | (go_at_call 14; refine (mortmainref10_Sorted.calls kS2 A5 c5 L true _ (Kd.C_below HC5.out HB57.out) HH5.out hE2.out).mono ?_; rintro e w8 ⟨rfl, hb8⟩; have HB58 := Aside0.mk (below_step HB57.out hb8); have HK8 := Aside0.mk (blk_below HK7.out hb8); have HR8 := Aside0.mk (Kd.C_below HR7.out hb8); have HB8 := Aside0.mk (below_step HB7.out hb8); have HT8 := Aside0.mk (HT7.out.below hb8))
                | (go_at_call 15; refine (sorted_calls L A5 c5 _ (Kd.C_below HC5.out HB58.out) hOK2 HT8.out).mono ?_; rintro e w9 ⟨rfl, hb9⟩; rw [HSAME.out]; have HB59 := Aside0.mk (below_step HB58.out hb9); have HK9 := Aside0.mk (blk_below HK8.out hb9); have HR9 := Aside0.mk (Kd.C_below HR8.out hb9); have HB9 := Aside0.mk (below_step HB8.out hb9); have HT9 := Aside0.mk (HT8.out.below hb9); obtain ⟨LL, q10, cap10, w10, q11, cap11, w11, hrun10, hrun11, hCLL, hb11'⟩ := app_both w9 l L A c A5 c5 HR9.out (Kd.C_below HC5.out HB59.out) (by omega); have HRUN10 := Aside0.mk hrun10; have HRUN11 := Aside0.mk hrun11; have HLL := Aside0.mk hCLL; have HK11 := Aside0.mk (blk_below HK9.out hb11'); have HR11 := Aside0.mk (Kd.C_below HR9.out hb11'); have HC11 := Aside0.mk (Kd.C_below (Kd.C_below HC5.out HB59.out) hb11'); have HB11 := Aside0.mk (below_step HB9.out hb11'); clear hrun10 hrun11 hCLL hb11')
                | (refine appendL_ rfl (.tmp 74) (.tmp 75) 23 rfl (.slice (some ⟨w9.heap.size, 0, none⟩) 0 0) (.slice A l.length c) ?_ ?_ HRUN10.out ?_ <;> first | rfl | (simp; done) | skip)
                | (refine appendL_ rfl (.tmp 76) (.tmp 77) 23 rfl (.slice (some ⟨q10, 0, none⟩) l.length cap10) (.slice A5 L.length c5) ?_ ?_ HRUN11.out ?_ <;> first | rfl | (simp; done) | skip))
              clear hb2 hb3 hb4 hb5 hb6 hb7 hb8 hb9
              have hLLm := Kd.C_max HLL.out
              go_loopw [9, 10, 80] (fun _ _ t80 wr => ∃ k : Nat, t80 = .int .i64 k ∧ k ≤ LL.length ∧ Aside0 (Below w11.heap.size w11 wr)) (fun _ _ t80 _ => LL.length - (intOf t80).toNat)
              case atStart => exact ⟨0, rfl, Nat.zero_le _, ⟨Below.refl _ _⟩⟩
              case round =>
                obtain ⟨k, rfl, hk, HBr⟩ := hrel
                by_cases hlt : k < LL.length
                · obtain ⟨ad, e, hc0, hc1, hc2⟩ := at_T27 HLL.out (k : Int) (by omega) (by omega)
                  cases e
                  have hadd : ∀ q, (⟨q11, 0, none⟩ : Addr).add q = ⟨q11, q, none⟩ := fun q => by cases q <;> simp [Addr.add]
                  simp only [Int.toNat_natCast, rd_T27, hadd] at hc0 hc1 hc2
                  clear hadd
                  generalize hx : LL.getD k z27 = x at hc0 hc1 hc2
                  have htb := HPB.out x.f0 x.f1
                  obtain ⟨kX, hX⟩ := bits_ev l x.f0 x.f1 hnl
                  have hX := Aside0.mk (hX kX (Nat.le_refl _))
                  obtain ⟨kY, hY⟩ := bits_ev L x.f0 x.f1 (Kd.C_max HC5.out)
                  have hY := Aside0.mk (hY kY (Nat.le_refl _))
                  have d0 := cell_now HBr.out hc0
                  have d1 := cell_now HBr.out hc1
                  have d2 := cell_now HBr.out hc2
                  have HKr := Aside0.mk (blk_below HK11.out HBr.out)
                  have gk := blk_lt HKr.out
                  have HKa := Aside0.mk (blk_alloc HKr.out (.cells #[.int .i64 x.f0, .string x.f1, .int .i64 x.f2] 27))
                  have HNq := Aside0.mk (blk_new wr (.cells #[.int .i64 x.f0, .string x.f1, .int .i64 x.f2] 27))
                  have HRq := Aside0.mk (Kd.C_alloc (Kd.C_below HR11.out HBr.out) (.cells #[.int .i64 x.f0, .string x.f1, .int .i64 x.f2] 27))
                  have HCq := Aside0.mk (Kd.C_alloc (Kd.C_below HC11.out HBr.out) (.cells #[.int .i64 x.f0, .string x.f1, .int .i64 x.f2] 27))
                  have HBa := Aside0.mk (below_alloc HBr.out (.cells #[.int .i64 x.f0, .string x.f1, .int .i64 x.f2] 27))
                  have hj0 : (0 : Int) ≤ (k : Int) := by omega
                  have hj1 : (k : Int) < (LL.length : Int) := by omega
                  clear hc0 hc1 hc2 hx
                  cases hq0 : (x.f0 == g.f0) with
                  | false =>
                    rw [if_neg (by simp only [same, Bool.and_eq_true, beq_iff_eq]; intro hh; simp [hh.1] at hq0)] at htb
                    have HTQ := Aside0.mk htb
                    clear htb
                    go_wp2_with (first
                      | (go_at_call 26; refine (mortmainref10_Bits.calls kY A5 c5 L x.f0 x.f1 _ _ HLx.out HH5.out hY.out).mono ?_; rintro e wy ⟨rfl, hby⟩; rw [HTQ.out])
                      | (go_at_call 26; refine (mortmainref10_Bits.calls kX A c l x.f0 x.f1 _ _ HRq.out HC.out hX.out).mono ?_; rintro e wx ⟨rfl, hbx⟩; have HBx := Aside0.mk (below_step HBa.out hbx); have HNx := Aside0.mk (blk_below HNq.out hbx); have HKx := Aside0.mk (blk_below HKa.out hbx); have HLx := Aside0.mk (Kd.C_below HCq.out hbx); clear hbx; have y0 := blk_cell HNx.out 0; have y1 := blk_cell HNx.out 1; have y2 := blk_cell HNx.out 2; have z0 := blk_cell HKx.out 0; have z1 := blk_cell HKx.out 1; have z2 := blk_cell HKx.out 2))
                    go_roundw
                    case rel => exact ⟨k + 1, by go_num, by omega, ⟨below_step HBx.out hby⟩⟩
                    case measure => simp [intOf]; omega
                  | true =>
                    cases hq1 : (x.f1.toList == g.f1.toList) with
                    | false =>
                      rw [if_neg (by simp only [same, Bool.and_eq_true, beq_iff_eq]; intro hh; simp [hh.2] at hq1)] at htb
                      have HTQ := Aside0.mk htb
                      clear htb
                      go_wp2_with (first
                        | (go_at_call 26; refine (mortmainref10_Bits.calls kY A5 c5 L x.f0 x.f1 _ _ HLx.out HH5.out hY.out).mono ?_; rintro e wy ⟨rfl, hby⟩; rw [HTQ.out])
                        | (go_at_call 26; refine (mortmainref10_Bits.calls kX A c l x.f0 x.f1 _ _ HRq.out HC.out hX.out).mono ?_; rintro e wx ⟨rfl, hbx⟩; have HBx := Aside0.mk (below_step HBa.out hbx); have HNx := Aside0.mk (blk_below HNq.out hbx); have HKx := Aside0.mk (blk_below HKa.out hbx); have HLx := Aside0.mk (Kd.C_below HCq.out hbx); clear hbx; have y0 := blk_cell HNx.out 0; have y1 := blk_cell HNx.out 1; have y2 := blk_cell HNx.out 2; have z0 := blk_cell HKx.out 0; have z1 := blk_cell HKx.out 1; have z2 := blk_cell HKx.out 2))
                      go_roundw
                      case rel => exact ⟨k + 1, by go_num, by omega, ⟨below_step HBx.out hby⟩⟩
                      case measure => simp [intOf]; omega
                    | true =>
                      have hc : bitsR x.f0 x.f1 l = had := (bits_cong (by simpa using hq0) (by simpa using hq1) l).trans HHAD.out
                      rw [if_pos (by simp only [same, Bool.and_eq_true, beq_iff_eq]; simp at hq0 hq1; exact ⟨hq0.symm, hq1.symm⟩), hc] at htb
                      have HTQ := Aside0.mk htb
                      clear htb
                      go_wp2_with (first
                        | (go_at_call 26; refine (mortmainref10_Bits.calls kY A5 c5 L x.f0 x.f1 _ _ HLx.out HH5.out hY.out).mono ?_; rintro e wy ⟨rfl, hby⟩; rw [HTQ.out])
                        | (go_at_call 26; refine (mortmainref10_Bits.calls kX A c l x.f0 x.f1 _ _ HRq.out HC.out hX.out).mono ?_; rintro e wx ⟨rfl, hbx⟩; have HBx := Aside0.mk (below_step HBa.out hbx); have HNx := Aside0.mk (blk_below HNq.out hbx); have HKx := Aside0.mk (blk_below HKa.out hbx); have HLx := Aside0.mk (Kd.C_below HCq.out hbx); clear hbx; have y0 := blk_cell HNx.out 0; have y1 := blk_cell HNx.out 1; have y2 := blk_cell HNx.out 2; have z0 := blk_cell HKx.out 0; have z1 := blk_cell HKx.out 1; have z2 := blk_cell HKx.out 2))
                      go_roundw
                      case rel => exact ⟨k + 1, by go_num, by omega, ⟨below_step HBx.out hby⟩⟩
                      case measure => simp [intOf]; omega
                · have HKr := Aside0.mk (blk_below HK11.out HBr.out)
                  have HCr := Aside0.mk (Kd.C_below HC11.out HBr.out)
                  have hfin := HPB.out g.f0 g.f1
                  rw [if_pos (same_self g), HHAD.out] at hfin
                  have HFIN := Aside0.mk hfin
                  obtain ⟨kZ, hZ⟩ := bits_ev L g.f0 g.f1 (Kd.C_max HC5.out)
                  have hZ := Aside0.mk (hZ kZ (Nat.le_refl _))
                  have hkk : k = LL.length := by omega
                  subst hkk
                  clear hfin
                  go_wp2
                  refine start_ (n := 12) (S := (fun w' => w'.cell? ⟨w.heap.size, 0, none⟩ = some (.int .i64 g.f0) ∧ w'.cell? ⟨w.heap.size, 1, none⟩ = some (.string g.f1) ∧ w'.cell? ⟨w.heap.size, 2, none⟩ = some (.int .i64 g.f2))) (ds := []) #[false, false, false, false, false, false, false, false, false, false, false, false] (by kernel_rfl) rfl rfl ⟨blk_cell HKr.out 0, blk_cell HKr.out 1, blk_cell HKr.out 2⟩ (fun hHeld => ?_)
                  refine pure_ (i := 0) (N := some 115) (v := ?_) (a' := ?_) #[true, false, false, false, false, false, false, false, false, false, false, false] rfl rfl (by kernel_rfl) (fun _ _ _ h => h) (Or.inl ⟨by rfl, ?_⟩) ?_ ?_
                  rotate_left
                  · intro w'
                    go_simp
                    with_reducible rfl
                  rotate_left
                  · simp only [Act.put, List.setIfInBounds_toArray, List.set_cons_zero, List.set_cons_succ, i64_w, i32_w]
                    rfl
                  refine pure_ (i := 1) (N := some 116) (v := ?_) (a' := ?_) #[true, true, false, false, false, false, false, false, false, false, false, false] rfl rfl (by kernel_rfl) (fun _ _ _ h => h) (Or.inl ⟨by rfl, ?_⟩) ?_ ?_
                  rotate_left
                  · intro w'
                    go_simp
                    with_reducible rfl
                  rotate_left
                  · simp only [Act.put, List.setIfInBounds_toArray, List.set_cons_zero, List.set_cons_succ, i64_w, i32_w]
                    rfl
                  refine pure_ (i := 3) (N := some 118) (v := ?_) (a' := ?_) #[true, true, false, true, false, false, false, false, false, false, false, false] rfl rfl (by kernel_rfl) (fun _ _ _ h => h) (Or.inl ⟨by rfl, ?_⟩) ?_ ?_
                  rotate_left
                  · intro w'
                    go_simp
                    with_reducible rfl
                  rotate_left
                  · simp only [Act.put, List.setIfInBounds_toArray, List.set_cons_zero, List.set_cons_succ, i64_w, i32_w]
                    rfl
                  refine pure_ (i := 6) (N := some 121) (v := ?_) (a' := ?_) #[true, true, false, true, false, false, true, false, false, false, false, false] rfl rfl (by kernel_rfl) (fun _ _ _ h => h) (Or.inl ⟨by rfl, ?_⟩) ?_ ?_
                  rotate_left
                  · intro w'
                    go_simp
                    with_reducible rfl
                  rotate_left
                  · simp only [Act.put, List.setIfInBounds_toArray, List.set_cons_zero, List.set_cons_succ, i64_w, i32_w]
                    rfl
                  refine pure_ (i := 7) (N := some 122) (v := ?_) (a' := ?_) #[true, true, false, true, false, false, true, true, false, false, false, false] rfl rfl (by kernel_rfl) (fun _ _ _ h => h) (Or.inl ⟨by rfl, ?_⟩) ?_ ?_
                  rotate_left
                  · intro w'
                    go_simp
                    with_reducible rfl
                  rotate_left
                  · simp only [Act.put, List.setIfInBounds_toArray, List.set_cons_zero, List.set_cons_succ, i64_w, i32_w]
                    rfl
                  refine take_ (i := 2) (N := some 117) (v := ?_) (a' := ?_) #[true, true, true, true, false, false, true, true, false, false, false, false] rfl rfl (by kernel_rfl) (fun _ _ _ h => h) (Or.inl ⟨by rfl, ?_⟩) hHeld ?_ ?_
                  rotate_left
                  · rintro w' ⟨s0, s1, s2⟩
                    go_simp
                    with_reducible rfl
                  rotate_left
                  · simp only [Act.put, List.setIfInBounds_toArray, List.set_cons_zero, List.set_cons_succ, i64_w, i32_w]
                    rfl
                  refine take_ (i := 4) (N := some 119) (v := ?_) (a' := ?_) #[true, true, true, true, true, false, true, true, false, false, false, false] rfl rfl (by kernel_rfl) (fun _ _ _ h => h) (Or.inl ⟨by rfl, ?_⟩) hHeld ?_ ?_
                  rotate_left
                  · rintro w' ⟨s0, s1, s2⟩
                    go_simp
                    with_reducible rfl
                  rotate_left
                  · simp only [Act.put, List.setIfInBounds_toArray, List.set_cons_zero, List.set_cons_succ, i64_w, i32_w]
                    rfl
                  refine take_ (i := 8) (N := some 123) (v := ?_) (a' := ?_) #[true, true, true, true, true, false, true, true, true, false, false, false] rfl rfl (by kernel_rfl) (fun _ _ _ h => h) (Or.inl ⟨by rfl, ?_⟩) hHeld ?_ ?_
                  rotate_left
                  · rintro w' ⟨s0, s1, s2⟩
                    go_simp
                    with_reducible rfl
                  rotate_left
                  · simp only [Act.put, List.setIfInBounds_toArray, List.set_cons_zero, List.set_cons_succ, i64_w, i32_w]
                    rfl
                  refine pure_ (i := 9) (N := some 124) (v := ?_) (a' := ?_) #[true, true, true, true, true, false, true, true, true, true, false, false] rfl rfl (by kernel_rfl) (fun _ _ _ h => h) (Or.inl ⟨by rfl, ?_⟩) ?_ ?_
                  rotate_left
                  · intro w'
                    go_simp
                    with_reducible rfl
                  rotate_left
                  · simp only [Act.put, List.setIfInBounds_toArray, List.set_cons_zero, List.set_cons_succ, i64_w, i32_w]
                    rfl
                  refine one_ (i := 5) (N := some 120) #[true, true, true, true, true, true, true, true, true, true, false, false] rfl rfl (by kernel_rfl) (by decide) (fun K hK => ?_)
                  refine goes_ Tryd.func26 (by kernel_rfl) rfl #[.slice A5 L.length c5, .int .i64 g.f0, .string g.f1] (by rfl) rfl rfl (by first | rfl | (simp only [List.map_toArray, List.map_cons, List.map_nil]; rfl)) ?_
                  refine (mortmainref10_Bits.calls kZ A5 c5 L g.f0 g.f1 _ _ (Kd.C_drew HCr.out) HH5.out hZ.out).mono ?_
                  rintro e wz ⟨rfl, hbz⟩
                  have hbz := undrew hbz
                  have HKz := Aside0.mk (blk_below HKr.out hbz)
                  rw [HFIN.out]
                  refine ⟨_, rfl, ?_⟩
                  refine hK.out _ _ ⟨blk_cell HKz.out 0, blk_cell HKz.out 1, blk_cell HKz.out 2⟩ (fun hHeld => ?_)
                  clear hK K
                  refine norm_ (a' := ?_) ?_ ?_
                  rotate_left
                  · show Act.put _ (some 120) _ = _
                    simp only [Act.put, List.setIfInBounds_toArray, List.set_cons_zero, List.set_cons_succ, i64_w, i32_w]
                    rfl
                  refine pure_ (i := 10) (N := some 125) (v := ?_) (a' := ?_) #[true, true, true, true, true, true, true, true, true, true, true, false] rfl rfl (by kernel_rfl) (fun _ _ _ h => h) (Or.inl ⟨by rfl, ?_⟩) ?_ ?_
                  rotate_left
                  · intro w'
                    go_simp
                    with_reducible rfl
                  rotate_left
                  · simp only [Act.put, List.setIfInBounds_toArray, List.set_cons_zero, List.set_cons_succ, i64_w, i32_w]
                    rfl
                  refine pure_ (i := 11) (N := some 4) (v := ?_) (a' := ?_) #[true, true, true, true, true, true, true, true, true, true, true, true] rfl rfl (by kernel_rfl) (fun _ _ _ h => h) (Or.inl ⟨by rfl, ?_⟩) ?_ ?_
                  rotate_left
                  · intro w'
                    go_simp
                    with_reducible rfl
                  rotate_left
                  · simp only [Act.put, List.setIfInBounds_toArray, List.set_cons_zero, List.set_cons_succ, i64_w, i32_w]
                    rfl
                  refine done_ (by kernel_rfl) ?_
                  go_wp2
                  go_ret
                  exact ⟨rfl, below_step (below_step HB11.out HBr.out) hbz⟩
end Go.Proofs.YtefdfgmlmjnmlaaDoor.My
end

section
set_option linter.unusedVariables false
/- The row and the card of the law GrantPuts. -/
namespace Go.Proofs.YtefdfgmlmjnmlaaDoor.My
open Go.ChangeShapes Go.WideShapes Go.ChangeAt Go.RowKit
open Go.ChangeMaps (open_string shut_string)
open Go.Proofs.YtefdfgmlmjnmlaaDoorW.PrintWords Go.Proofs.YtefdfgmlmjnmlaaDoor.Rf
open Go.Proofs.YtefdfgmlmjnmlaaDoor

set_option maxRecDepth 100000 in
theorem grantPuts_lifted (os : Os) (started : os.Started) (H : Type) (enc : TypeId × Value → H) :
    ReturnsInHanded {} Tryd.checked os 8 .any (fun w args => (Rows.grantPutsSpec.pre enc Tryd.prog Tryd.f8 Rows.grantPutsRow.domain false w args ∧ laidMetH Tryd.prog tabs w) ∧ sizedMet enc Tryd.prog Tryd.f8 (OpenSpec.ofChange Rows.grantPutsSpec) false w args)
      (Rows.grantPutsSpec.post enc Tryd.prog Tryd.f8 false true false false) := by
  refine returnsInHanded_of_change_and (C := Tryd.checked) (X := (fun w _ => laidMetH Tryd.prog tabs w)) (fun _ _ _ hh h => h.of_heap hh) own started (by kernel_rfl) Tryd.func8
    (ChangeSpec.witness_shaped (enc := enc) (C := Tryd.checked) (os := os) (X := (fun w _ => laidMetH Tryd.prog tabs w)) false (World.laidAll Tryd.prog os tabs) #[.slice none 0 0, .agg #[.int .i64 0, .string ByteArray.empty, .int .i64 0]] 8 (World.laidAll_os _ _ _)
      (World.shaped_of_ZipB (by kernel_rfl) (by kernel_rfl)) (by kernel_rfl) (by kernel_rfl) (by kernel_rfl)
      (by rw [MakeChecks.laidMetH_plain _ _ _ (by kernel_rfl)]; exact laidMet_laidAll _ (by kernel_rfl) (by kernel_rfl))) ?_
  intro W base args ds gs before hval0 hW hc _ hL _
  have hval : ∀ (j : Nat) t v, Tryd.f8.params[j]? = some t → args[j]? = some v → Value.okWide Tryd.prog W .any base t v := hval0
  have hW' := hW
  obtain ⟨p, q, hA0, hV, rfl, _, _⟩ := hW
  have hA : DataW.TrodAll enc Tryd.prog W 0 (fun _ => true) true Tryd.f8.params.toList args.toList ds p := hA0
  rw [Tryd.params8] at hA hval
  obtain ⟨v0, vs0, d0, ds0, p0, q0, hargs, rfl, rfl, h0, r0⟩ := trodAll_cons hA
  obtain ⟨v1, vs1, d1, ds1, p1, q1, rfl, rfl, rfl, h1, r1⟩ := trodAll_cons r0
  obtain ⟨rfl, rfl, rfl⟩ := trodAll_nil r1
  obtain rfl : args = #[v0, v1] := by cases args; simp_all
  obtain ⟨rfl, rfl⟩ := trodVars_none hV
  have k0 := h0
  have lt0 : ∀ x ∈ p0, x.block < W.heap.size := by obtain ⟨m, hm⟩ := k0; exact DataW.trod_lt m _ _ _ hm
  obtain ⟨x0, y0, z0, rfl⟩ := okWide_slice Tryd.underlying23 (hval 0 23 v0 rfl rfl)
  obtain ⟨fu0, hf0⟩ := h0
  obtain ⟨A0, c0, l0, e0, lc0, hC0, q0⟩ := open23 hf0
  simp only [Value.cells, List.cons.injEq, Value.slice.injEq, and_true] at e0
  obtain ⟨rfl, rfl, rfl⟩ := e0
  have k1 := h1
  have lt1 : ∀ x ∈ p1, x.block < W.heap.size := by obtain ⟨m, hm⟩ := k1; exact DataW.trod_lt m _ _ _ hm
  obtain ⟨cs1, rfl, _⟩ := okWide_struct Tryd.underlying27 (hval 1 27 v1 rfl rfl)
  obtain ⟨fu1, hf1⟩ := h1
  obtain ⟨g1, e1, q1⟩ := open27 hf1
  have e1 := k27_open e1
  have e1 : cs1 = #[.int .i64 g1.f0, .string g1.f1, .int .i64 g1.f2] := Array.toList_inj.1 e1
  subst e1
  have hT := tabs_of hL
  clear hA0 hval0
  refine (puts_law l0 x0 z0 g1 W hC0 lc0 hT (fun g hg => (q0 g hg).b) q1.b).mono fun e W' ⟨he, bel⟩ => ?_
  subst he
  exact ⟨_, rfl, _, _, _, [], _, [], hW', trodAll_mk1 (shut_bool Tryd.underlying4 _), (trodAll_cons_mk (Below.trod laidOut (by kernel_rfl) (of_decide_eq_true (by kernel_rfl)) k0 bel lt0) (trodAll_cons_mk (Below.trod laidOut (by kernel_rfl) (of_decide_eq_true (by kernel_rfl)) k1 bel lt1) trodAll_mk0)), rfl, bel.frame _, fun h => by cases h⟩

theorem grantPuts_holds : Rows.GrantPutsSaid :=
  OpenClaim.holds_of_wide 8 Tryd.f8 rfl rfl rfl rfl rfl rfl rfl ⟨rfl, rfl, rfl, rfl, rfl⟩ rfl rfl rfl rfl rfl (by kernel_rfl) Tryd.func8 (by kernel_rfl)
    (of_decide_eq_true (by kernel_rfl)) (by unfold Func.isWrapper; first | (rw [if_pos (by decide +kernel)]; kernel_rfl) | (rw [if_neg (by decide +kernel)]; exact ⟨rfl, rfl⟩))
    (fun os started H enc _ => grantPuts_lifted os started H enc)

theorem grantPuts_card : Rows.GrantPutsCardSaid :=
  Claim7.holds_tied_plain_at .later [] [.data, .pinned] true (true, "ad361f8c9010d8bc8c83665426ff667c1a83a32d80b366ff0bd14d2eb2135fde") true grantPuts_holds (fun _ h => by cases h) (by kernel_rfl) (fun _ h => by cases h) grantPuts_row_tie rfl ⟨rfl, rfl⟩ (by kernel_rfl) rfl
    (fun f fn hf hfn => by
      obtain rfl : f = 8 := Option.some.inj ((show Tryd.prog.funcNamed "mortmain/mortmainlaw10.GrantPuts" = some 8 by kernel_rfl).symm.trans hf) |>.symm
      obtain rfl : fn = Tryd.f8 := (Option.some.inj (Tryd.func8.symm.trans hfn)).symm
      exact ⟨by kernel_rfl, fun j t ht => by
        rw [Tryd.params8] at ht
        have hm : t ∈ [23, 27] := by simpa using Array.mem_of_getElem? ht
        have hall : ([23, 27].all fun u => !Tryd.prog.wantsStandIn u) = true := by kernel_rfl
        exact (show Tryd.prog.wantsStandIn t = false by simpa using List.all_eq_true.1 hall t hm)⟩)
    (by kernel_rfl)
#print axioms grantPuts_card
end Go.Proofs.YtefdfgmlmjnmlaaDoor.My
end
