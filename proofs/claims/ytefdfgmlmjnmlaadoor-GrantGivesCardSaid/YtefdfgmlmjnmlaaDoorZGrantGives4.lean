/- PROVED: the tied card of the law GrantGives: whatever the input, the law returns true and leaves its arguments as they read. Its conditions:  those of the given row (the two tables of unicode/utf8 read as the program's text lays them). Joined out of this session's smaller texts (part 4 of 4). -/
import Derived.Test.YtefdfgmlmjnmlaaDoorZGrantGives2
import Derived.Test.YtefdfgmlmjnmlaaDoorZGrantGives3
import Derived.Test.YtefdfgmlmjnmlaaDoorZGrantGives1
section
set_option linter.unusedSimpArgs false
set_option linter.unusedVariables false
/- The law GrantGives: it answers true, of all schemas that are read. -/
namespace Go.Proofs.YtefdfgmlmjnmlaaDoor.My
open Go.RowKit Go.Proofs.YtefdfgmlmjnmlaaDoorW.PrintWords Go.Proofs.YtefdfgmlmjnmlaaDoor.Rf
open Go.Proofs.YtefdfgmlmjnmlaaDoorW.PrintLast Go.Proofs.YtefdfgmlmjnmlaaDoorW.PrintMore

structure PutP (gs : List S27) (g : S27) (L L2 : List S27) : Prop where
  G0 : InG gs g
  gg : goodG g = true
  E1 : putL gs g = L
  E2 : takeL L g = L2
  G1 : Good64 L
theorem put_p {gs : List S27} {g : S27} (h : Good64 gs) (gg : goodG g = true) (hok : searchIs gs g = true ∨ gs.length < 64) : ∃ L L2, PutP gs g L L2 :=
  ⟨putL gs g, takeL (putL gs g) g, ⟨h, hok⟩, gg, rfl, rfl, put_good h gg hok⟩

structure GivesQ (ts : List S45) (gs L L2 : List S27) (g : S27) (role : Int) (nm : ByteArray) (bits : Int) : Prop where
  one : mayB ts L g.f0 g.f1 g.f2 = true
  two : mayB ts L2 g.f0 g.f1 g.f2 = ownsB ts g.f0 g.f1
  three : same role nm g = false → mayB ts L role nm bits = mayB ts gs role nm bits ∧ mayB ts L2 role nm bits = mayB ts gs role nm bits

set_option maxHeartbeats 4000000 in
set_option maxRecDepth 100000 in
theorem gives_great (v : Int) (ts : List S45) (A : Option Addr) (c : Nat) (gs : List S27) (B : Option Addr) (d : Nat) (g : S27) (role : Int) (nm : ByteArray) (bits : Int) (w : World) (hr : Kd.C k45 w A ts.length ts) (hc : ts.length ≤ c) (hg : Kd.C k27 w B gs.length gs) (hd : gs.length ≤ d) (hT : Tabs w) (hgs : g.f1.size ≤ 9223372036854775807) (kG : Nat) (hG : Aside0 (mortmainref09_Great.f kG v ts gs = some true)) :
    Calls Tryd.prog 9 #[.agg #[.int .i64 v, .slice A ts.length c, .slice B gs.length d], .agg #[.int .i64 g.f0, .string g.f1, .int .i64 g.f2], .int .i64 role, .string nm, .int .i64 bits] w (BoolPost true w) := by
  have HC := Aside0.mk hc
  have HD := Aside0.mk hd
  have b1 := below2 w (.cells #[.int .i64 v, .slice A ts.length c, .slice B gs.length d] 25) (.cells #[.int .i64 g.f0, .string g.f1, .int .i64 g.f2] 27)
  have HB := Aside0.mk b1
  have HT := Aside0.mk (hT.below b1)
  have HR := Aside0.mk (Kd.C_below hr b1)
  have HG := Aside0.mk (Kd.C_below hg b1)
  have HK := Aside0.mk (blk_alloc (blk_new w (.cells #[.int .i64 v, .slice A ts.length c, .slice B gs.length d] 25)) (.cells #[.int .i64 g.f0, .string g.f1, .int .i64 g.f2] 27))
  have HL := Aside0.mk (blk_new1 w (.cells #[.int .i64 v, .slice A ts.length c, .slice B gs.length d] 25) (.cells #[.int .i64 g.f0, .string g.f1, .int .i64 g.f2] 27))
  clear hr hc hg hd hT b1
  go_enter Tryd.func9, Tryd.ntmps9
  go_wp2_with (first
    | (go_at_call 12; refine (alive_calls _).mono ?_; rintro e w2 ⟨rfl, hb2⟩; have HK2 := Aside0.mk (blk_below HK.out hb2); have HL2 := Aside0.mk (blk_below HL.out hb2); have HR2 := Aside0.mk (Kd.C_below HR.out hb2); have HG2 := Aside0.mk (Kd.C_below HG.out hb2); have HB2 := Aside0.mk (below_step HB.out hb2); have HT2 := Aside0.mk (HT.out.below hb2); have a0 := blk_cell HK2.out 0; have a1 := blk_cell HK2.out 1; have a2 := blk_cell HK2.out 2; have b0 := blk_cell HL2.out 0; have b1 := blk_cell HL2.out 1; have b2 := blk_cell HL2.out 2)
    | (go_at_call 13; refine (mortmainref09_Great.calls kG v A c ts B d gs true _ HR2.out HC.out HG2.out HD.out hG.out).mono ?_; rintro e w3 ⟨rfl, hb3⟩; have HK3 := Aside0.mk (blk_below HK2.out hb3); have HL3 := Aside0.mk (blk_below HL2.out hb3); have HR3 := Aside0.mk (Kd.C_below HR2.out hb3); have HG3 := Aside0.mk (Kd.C_below HG2.out hb3); have HB3 := Aside0.mk (below_step HB2.out hb3); have HT3 := Aside0.mk (HT2.out.below hb3); clear a0 a1 a2 b0 b1 b2; have a0 := blk_cell HK3.out 0; have a1 := blk_cell HK3.out 1; have a2 := blk_cell HK3.out 2; have b0 := blk_cell HL3.out 0; have b1 := blk_cell HL3.out 1; have b2 := blk_cell HL3.out 2))
  go_ret
  exact ⟨rfl, HB3.out⟩

set_option maxHeartbeats 4000000 in
set_option maxRecDepth 100000 in
theorem gives_unsorted (v : Int) (ts : List S45) (A : Option Addr) (c : Nat) (gs : List S27) (B : Option Addr) (d : Nat) (g : S27) (role : Int) (nm : ByteArray) (bits : Int) (w : World) (hr : Kd.C k45 w A ts.length ts) (hc : ts.length ≤ c) (hg : Kd.C k27 w B gs.length gs) (hd : gs.length ≤ d) (hT : Tabs w) (hgs : g.f1.size ≤ 9223372036854775807) (kG : Nat) (hG : Aside0 (mortmainref09_Great.f kG v ts gs = some false)) (kS : Nat) (hS : Aside0 (mortmainref10_Sorted.f kS gs = some false)) :
    Calls Tryd.prog 9 #[.agg #[.int .i64 v, .slice A ts.length c, .slice B gs.length d], .agg #[.int .i64 g.f0, .string g.f1, .int .i64 g.f2], .int .i64 role, .string nm, .int .i64 bits] w (BoolPost true w) := by
  have HC := Aside0.mk hc
  have HD := Aside0.mk hd
  have b1 := below2 w (.cells #[.int .i64 v, .slice A ts.length c, .slice B gs.length d] 25) (.cells #[.int .i64 g.f0, .string g.f1, .int .i64 g.f2] 27)
  have HB := Aside0.mk b1
  have HT := Aside0.mk (hT.below b1)
  have HR := Aside0.mk (Kd.C_below hr b1)
  have HG := Aside0.mk (Kd.C_below hg b1)
  have HK := Aside0.mk (blk_alloc (blk_new w (.cells #[.int .i64 v, .slice A ts.length c, .slice B gs.length d] 25)) (.cells #[.int .i64 g.f0, .string g.f1, .int .i64 g.f2] 27))
  have HL := Aside0.mk (blk_new1 w (.cells #[.int .i64 v, .slice A ts.length c, .slice B gs.length d] 25) (.cells #[.int .i64 g.f0, .string g.f1, .int .i64 g.f2] 27))
  clear hr hc hg hd hT b1
  go_enter Tryd.func9, Tryd.ntmps9
  go_wp2_with (first
    | (go_at_call 12; refine (alive_calls _).mono ?_; rintro e w2 ⟨rfl, hb2⟩; have HK2 := Aside0.mk (blk_below HK.out hb2); have HL2 := Aside0.mk (blk_below HL.out hb2); have HR2 := Aside0.mk (Kd.C_below HR.out hb2); have HG2 := Aside0.mk (Kd.C_below HG.out hb2); have HB2 := Aside0.mk (below_step HB.out hb2); have HT2 := Aside0.mk (HT.out.below hb2); have a0 := blk_cell HK2.out 0; have a1 := blk_cell HK2.out 1; have a2 := blk_cell HK2.out 2; have b0 := blk_cell HL2.out 0; have b1 := blk_cell HL2.out 1; have b2 := blk_cell HL2.out 2)
    | (go_at_call 13; refine (mortmainref09_Great.calls kG v A c ts B d gs false _ HR2.out HC.out HG2.out HD.out hG.out).mono ?_; rintro e w3 ⟨rfl, hb3⟩; have HK3 := Aside0.mk (blk_below HK2.out hb3); have HL3 := Aside0.mk (blk_below HL2.out hb3); have HR3 := Aside0.mk (Kd.C_below HR2.out hb3); have HG3 := Aside0.mk (Kd.C_below HG2.out hb3); have HB3 := Aside0.mk (below_step HB2.out hb3); have HT3 := Aside0.mk (HT2.out.below hb3); clear a0 a1 a2 b0 b1 b2; have a0 := blk_cell HK3.out 0; have a1 := blk_cell HK3.out 1; have a2 := blk_cell HK3.out 2; have b0 := blk_cell HL3.out 0; have b1 := blk_cell HL3.out 1; have b2 := blk_cell HL3.out 2)
    | (go_at_call 14; refine (mortmainref10_Sorted.calls kS B d gs false _ HG3.out HD.out hS.out).mono ?_; rintro e w4 ⟨rfl, hb4⟩; have HK4 := Aside0.mk (blk_below HK3.out hb4); have HL4 := Aside0.mk (blk_below HL3.out hb4); have HR4 := Aside0.mk (Kd.C_below HR3.out hb4); have HG4 := Aside0.mk (Kd.C_below HG3.out hb4); have HB4 := Aside0.mk (below_step HB3.out hb4); have HT4 := Aside0.mk (HT3.out.below hb4); clear a0 a1 a2 b0 b1 b2; have a0 := blk_cell HK4.out 0; have a1 := blk_cell HK4.out 1; have a2 := blk_cell HK4.out 2; have b0 := blk_cell HL4.out 0; have b1 := blk_cell HL4.out 1; have b2 := blk_cell HL4.out 2))
  go_ret
  exact ⟨rfl, HB4.out⟩

set_option maxHeartbeats 4000000 in
set_option maxRecDepth 100000 in
theorem gives_long (v : Int) (ts : List S45) (A : Option Addr) (c : Nat) (gs : List S27) (B : Option Addr) (d : Nat) (g : S27) (role : Int) (nm : ByteArray) (bits : Int) (w : World) (hr : Kd.C k45 w A ts.length ts) (hc : ts.length ≤ c) (hg : Kd.C k27 w B gs.length gs) (hd : gs.length ≤ d) (hT : Tabs w) (hgs : g.f1.size ≤ 9223372036854775807) (kG : Nat) (hG : Aside0 (mortmainref09_Great.f kG v ts gs = some false)) (kS : Nat) (hS : Aside0 (mortmainref10_Sorted.f kS gs = some true)) (hlen : decide (300 < wrap64 ((nm.size : Int) + (g.f1.size : Int))) = true) :
    Calls Tryd.prog 9 #[.agg #[.int .i64 v, .slice A ts.length c, .slice B gs.length d], .agg #[.int .i64 g.f0, .string g.f1, .int .i64 g.f2], .int .i64 role, .string nm, .int .i64 bits] w (BoolPost true w) := by
  have HC := Aside0.mk hc
  have HD := Aside0.mk hd
  have b1 := below2 w (.cells #[.int .i64 v, .slice A ts.length c, .slice B gs.length d] 25) (.cells #[.int .i64 g.f0, .string g.f1, .int .i64 g.f2] 27)
  have HB := Aside0.mk b1
  have HT := Aside0.mk (hT.below b1)
  have HR := Aside0.mk (Kd.C_below hr b1)
  have HG := Aside0.mk (Kd.C_below hg b1)
  have HK := Aside0.mk (blk_alloc (blk_new w (.cells #[.int .i64 v, .slice A ts.length c, .slice B gs.length d] 25)) (.cells #[.int .i64 g.f0, .string g.f1, .int .i64 g.f2] 27))
  have HL := Aside0.mk (blk_new1 w (.cells #[.int .i64 v, .slice A ts.length c, .slice B gs.length d] 25) (.cells #[.int .i64 g.f0, .string g.f1, .int .i64 g.f2] 27))
  clear hr hc hg hd hT b1
  go_enter Tryd.func9, Tryd.ntmps9
  go_wp2_with (first
    | (go_at_call 12; refine (alive_calls _).mono ?_; rintro e w2 ⟨rfl, hb2⟩; have HK2 := Aside0.mk (blk_below HK.out hb2); have HL2 := Aside0.mk (blk_below HL.out hb2); have HR2 := Aside0.mk (Kd.C_below HR.out hb2); have HG2 := Aside0.mk (Kd.C_below HG.out hb2); have HB2 := Aside0.mk (below_step HB.out hb2); have HT2 := Aside0.mk (HT.out.below hb2); have a0 := blk_cell HK2.out 0; have a1 := blk_cell HK2.out 1; have a2 := blk_cell HK2.out 2; have b0 := blk_cell HL2.out 0; have b1 := blk_cell HL2.out 1; have b2 := blk_cell HL2.out 2)
    | (go_at_call 13; refine (mortmainref09_Great.calls kG v A c ts B d gs false _ HR2.out HC.out HG2.out HD.out hG.out).mono ?_; rintro e w3 ⟨rfl, hb3⟩; have HK3 := Aside0.mk (blk_below HK2.out hb3); have HL3 := Aside0.mk (blk_below HL2.out hb3); have HR3 := Aside0.mk (Kd.C_below HR2.out hb3); have HG3 := Aside0.mk (Kd.C_below HG2.out hb3); have HB3 := Aside0.mk (below_step HB2.out hb3); have HT3 := Aside0.mk (HT2.out.below hb3); clear a0 a1 a2 b0 b1 b2; have a0 := blk_cell HK3.out 0; have a1 := blk_cell HK3.out 1; have a2 := blk_cell HK3.out 2; have b0 := blk_cell HL3.out 0; have b1 := blk_cell HL3.out 1; have b2 := blk_cell HL3.out 2)
    | (go_at_call 14; refine (mortmainref10_Sorted.calls kS B d gs true _ HG3.out HD.out hS.out).mono ?_; rintro e w4 ⟨rfl, hb4⟩; have HK4 := Aside0.mk (blk_below HK3.out hb4); have HL4 := Aside0.mk (blk_below HL3.out hb4); have HR4 := Aside0.mk (Kd.C_below HR3.out hb4); have HG4 := Aside0.mk (Kd.C_below HG3.out hb4); have HB4 := Aside0.mk (below_step HB3.out hb4); have HT4 := Aside0.mk (HT3.out.below hb4); clear a0 a1 a2 b0 b1 b2; have a0 := blk_cell HK4.out 0; have a1 := blk_cell HK4.out 1; have a2 := blk_cell HK4.out 2; have b0 := blk_cell HL4.out 0; have b1 := blk_cell HL4.out 1; have b2 := blk_cell HL4.out 2))
  go_ret
  exact ⟨rfl, HB4.out⟩

set_option maxHeartbeats 4000000 in
set_option maxRecDepth 100000 in
theorem gives_no (v : Int) (ts : List S45) (A : Option Addr) (c : Nat) (gs : List S27) (B : Option Addr) (d : Nat) (g : S27) (role : Int) (nm : ByteArray) (bits : Int) (w : World) (hr : Kd.C k45 w A ts.length ts) (hc : ts.length ≤ c) (hg : Kd.C k27 w B gs.length gs) (hd : gs.length ≤ d) (hT : Tabs w) (hgs : g.f1.size ≤ 9223372036854775807) (kG : Nat) (hG : Aside0 (mortmainref09_Great.f kG v ts gs = some false)) (kS : Nat) (hS : Aside0 (mortmainref10_Sorted.f kS gs = some true)) (hlen : decide (300 < wrap64 ((nm.size : Int) + (g.f1.size : Int))) = false) (G64 : Good64 gs) (hno : ¬ (goodG g = true ∧ (searchIs gs g = true ∨ gs.length < 64))) :
    Calls Tryd.prog 9 #[.agg #[.int .i64 v, .slice A ts.length c, .slice B gs.length d], .agg #[.int .i64 g.f0, .string g.f1, .int .i64 g.f2], .int .i64 role, .string nm, .int .i64 bits] w (BoolPost true w) := by
  have HC := Aside0.mk hc
  have HD := Aside0.mk hd
  have b1 := below2 w (.cells #[.int .i64 v, .slice A ts.length c, .slice B gs.length d] 25) (.cells #[.int .i64 g.f0, .string g.f1, .int .i64 g.f2] 27)
  have HB := Aside0.mk b1
  have HT := Aside0.mk (hT.below b1)
  have HR := Aside0.mk (Kd.C_below hr b1)
  have HG := Aside0.mk (Kd.C_below hg b1)
  have HK := Aside0.mk (blk_alloc (blk_new w (.cells #[.int .i64 v, .slice A ts.length c, .slice B gs.length d] 25)) (.cells #[.int .i64 g.f0, .string g.f1, .int .i64 g.f2] 27))
  have HL := Aside0.mk (blk_new1 w (.cells #[.int .i64 v, .slice A ts.length c, .slice B gs.length d] 25) (.cells #[.int .i64 g.f0, .string g.f1, .int .i64 g.f2] 27))
  clear hr hc hg hd hT b1
  go_enter Tryd.func9, Tryd.ntmps9
  go_wp2_with (first
    | (go_at_call 12; refine (alive_calls _).mono ?_; rintro e w2 ⟨rfl, hb2⟩; have HK2 := Aside0.mk (blk_below HK.out hb2); have HL2 := Aside0.mk (blk_below HL.out hb2); have HR2 := Aside0.mk (Kd.C_below HR.out hb2); have HG2 := Aside0.mk (Kd.C_below HG.out hb2); have HB2 := Aside0.mk (below_step HB.out hb2); have HT2 := Aside0.mk (HT.out.below hb2); have a0 := blk_cell HK2.out 0; have a1 := blk_cell HK2.out 1; have a2 := blk_cell HK2.out 2; have b0 := blk_cell HL2.out 0; have b1 := blk_cell HL2.out 1; have b2 := blk_cell HL2.out 2)
    | (go_at_call 13; refine (mortmainref09_Great.calls kG v A c ts B d gs false _ HR2.out HC.out HG2.out HD.out hG.out).mono ?_; rintro e w3 ⟨rfl, hb3⟩; have HK3 := Aside0.mk (blk_below HK2.out hb3); have HL3 := Aside0.mk (blk_below HL2.out hb3); have HR3 := Aside0.mk (Kd.C_below HR2.out hb3); have HG3 := Aside0.mk (Kd.C_below HG2.out hb3); have HB3 := Aside0.mk (below_step HB2.out hb3); have HT3 := Aside0.mk (HT2.out.below hb3); clear a0 a1 a2 b0 b1 b2; have a0 := blk_cell HK3.out 0; have a1 := blk_cell HK3.out 1; have a2 := blk_cell HK3.out 2; have b0 := blk_cell HL3.out 0; have b1 := blk_cell HL3.out 1; have b2 := blk_cell HL3.out 2)
    | (go_at_call 14; refine (mortmainref10_Sorted.calls kS B d gs true _ HG3.out HD.out hS.out).mono ?_; rintro e w4 ⟨rfl, hb4⟩; have HK4 := Aside0.mk (blk_below HK3.out hb4); have HL4 := Aside0.mk (blk_below HL3.out hb4); have HR4 := Aside0.mk (Kd.C_below HR3.out hb4); have HG4 := Aside0.mk (Kd.C_below HG3.out hb4); have HB4 := Aside0.mk (below_step HB3.out hb4); have HT4 := Aside0.mk (HT3.out.below hb4); clear a0 a1 a2 b0 b1 b2; have a0 := blk_cell HK4.out 0; have a1 := blk_cell HK4.out 1; have a2 := blk_cell HK4.out 2; have b0 := blk_cell HL4.out 0; have b1 := blk_cell HL4.out 1; have b2 := blk_cell HL4.out 2)
    | (go_at_call 39; refine (put_no gs B d g _ HG4.out G64 hno hgs HT4.out).mono ?_; rintro e w5 ⟨⟨A5, n5, c5, er, rfl, her⟩, hb5⟩; have HK5 := Aside0.mk (blk_below HK4.out hb5); have HL5 := Aside0.mk (blk_below HL4.out hb5); have HR5 := Aside0.mk (Kd.C_below HR4.out hb5); have HG5 := Aside0.mk (Kd.C_below HG4.out hb5); have HB5 := Aside0.mk (below_step HB4.out hb5); have HT5 := Aside0.mk (HT4.out.below hb5); clear a0 a1 a2 b0 b1 b2; have a0 := blk_cell HK5.out 0; have a1 := blk_cell HK5.out 1; have a2 := blk_cell HK5.out 2; have b0 := blk_cell HL5.out 0; have b1 := blk_cell HL5.out 1; have b2 := blk_cell HL5.out 2))
  go_ret
  exact ⟨rfl, HB5.out⟩

set_option maxHeartbeats 4000000 in
set_option maxRecDepth 100000 in
theorem gives_nofind (v : Int) (ts : List S45) (A : Option Addr) (c : Nat) (gs : List S27) (B : Option Addr) (d : Nat) (g : S27) (role : Int) (nm : ByteArray) (bits : Int) (w : World) (hr : Kd.C k45 w A ts.length ts) (hc : ts.length ≤ c) (hg : Kd.C k27 w B gs.length gs) (hd : gs.length ≤ d) (hT : Tabs w) (hgs : g.f1.size ≤ 9223372036854775807) (kG : Nat) (hG : Aside0 (mortmainref09_Great.f kG v ts gs = some false)) (kS : Nat) (hS : Aside0 (mortmainref10_Sorted.f kS gs = some true)) (hlen : decide (300 < wrap64 ((nm.size : Int) + (g.f1.size : Int))) = false) (L L2 : List S27) (HP : Aside0 (PutP gs g L L2)) (kF : Nat) (hF : Aside0 (mortmainref09_Find.f kF v ts gs g.f1 = some (findT ts g.f1))) (hneg : decide (findT ts g.f1 < 0) = true) :
    Calls Tryd.prog 9 #[.agg #[.int .i64 v, .slice A ts.length c, .slice B gs.length d], .agg #[.int .i64 g.f0, .string g.f1, .int .i64 g.f2], .int .i64 role, .string nm, .int .i64 bits] w (BoolPost true w) := by
  have HC := Aside0.mk hc
  have HD := Aside0.mk hd
  have b1 := below2 w (.cells #[.int .i64 v, .slice A ts.length c, .slice B gs.length d] 25) (.cells #[.int .i64 g.f0, .string g.f1, .int .i64 g.f2] 27)
  have HB := Aside0.mk b1
  have HT := Aside0.mk (hT.below b1)
  have HR := Aside0.mk (Kd.C_below hr b1)
  have HG := Aside0.mk (Kd.C_below hg b1)
  have HK := Aside0.mk (blk_alloc (blk_new w (.cells #[.int .i64 v, .slice A ts.length c, .slice B gs.length d] 25)) (.cells #[.int .i64 g.f0, .string g.f1, .int .i64 g.f2] 27))
  have HL := Aside0.mk (blk_new1 w (.cells #[.int .i64 v, .slice A ts.length c, .slice B gs.length d] 25) (.cells #[.int .i64 g.f0, .string g.f1, .int .i64 g.f2] 27))
  clear hr hc hg hd hT b1
  go_enter Tryd.func9, Tryd.ntmps9
  go_wp2_with (first
    | (go_at_call 12; refine (alive_calls _).mono ?_; rintro e w2 ⟨rfl, hb2⟩; have HK2 := Aside0.mk (blk_below HK.out hb2); have HL2 := Aside0.mk (blk_below HL.out hb2); have HR2 := Aside0.mk (Kd.C_below HR.out hb2); have HG2 := Aside0.mk (Kd.C_below HG.out hb2); have HB2 := Aside0.mk (below_step HB.out hb2); have HT2 := Aside0.mk (HT.out.below hb2); have a0 := blk_cell HK2.out 0; have a1 := blk_cell HK2.out 1; have a2 := blk_cell HK2.out 2; have b0 := blk_cell HL2.out 0; have b1 := blk_cell HL2.out 1; have b2 := blk_cell HL2.out 2)
    | (go_at_call 13; refine (mortmainref09_Great.calls kG v A c ts B d gs false _ HR2.out HC.out HG2.out HD.out hG.out).mono ?_; rintro e w3 ⟨rfl, hb3⟩; have HK3 := Aside0.mk (blk_below HK2.out hb3); have HL3 := Aside0.mk (blk_below HL2.out hb3); have HR3 := Aside0.mk (Kd.C_below HR2.out hb3); have HG3 := Aside0.mk (Kd.C_below HG2.out hb3); have HB3 := Aside0.mk (below_step HB2.out hb3); have HT3 := Aside0.mk (HT2.out.below hb3); clear a0 a1 a2 b0 b1 b2; have a0 := blk_cell HK3.out 0; have a1 := blk_cell HK3.out 1; have a2 := blk_cell HK3.out 2; have b0 := blk_cell HL3.out 0; have b1 := blk_cell HL3.out 1; have b2 := blk_cell HL3.out 2)
    | (go_at_call 14; refine (mortmainref10_Sorted.calls kS B d gs true _ HG3.out HD.out hS.out).mono ?_; rintro e w4 ⟨rfl, hb4⟩; have HK4 := Aside0.mk (blk_below HK3.out hb4); have HL4 := Aside0.mk (blk_below HL3.out hb4); have HR4 := Aside0.mk (Kd.C_below HR3.out hb4); have HG4 := Aside0.mk (Kd.C_below HG3.out hb4); have HB4 := Aside0.mk (below_step HB3.out hb4); have HT4 := Aside0.mk (HT3.out.below hb4); clear a0 a1 a2 b0 b1 b2; have a0 := blk_cell HK4.out 0; have a1 := blk_cell HK4.out 1; have a2 := blk_cell HK4.out 2; have b0 := blk_cell HL4.out 0; have b1 := blk_cell HL4.out 1; have b2 := blk_cell HL4.out 2)
    | (go_at_call 39; refine (put_ok gs B d g L _ HG4.out HP.out.G0 HP.out.gg HP.out.E1 hgs HT4.out).mono ?_; rintro e w5 ⟨⟨A5, c5, rfl, hc5, hC5⟩, hb5⟩; have HC5 := Aside0.mk hC5; clear hC5 hc5; have HK5 := Aside0.mk (blk_below HK4.out hb5); have HL5 := Aside0.mk (blk_below HL4.out hb5); have HR5 := Aside0.mk (Kd.C_below HR4.out hb5); have HG5 := Aside0.mk (Kd.C_below HG4.out hb5); have HB5 := Aside0.mk (below_step HB4.out hb5); have HT5 := Aside0.mk (HT4.out.below hb5); clear a0 a1 a2 b0 b1 b2; have a0 := blk_cell HK5.out 0; have a1 := blk_cell HK5.out 1; have a2 := blk_cell HK5.out 2; have b0 := blk_cell HL5.out 0; have b1 := blk_cell HL5.out 1; have b2 := blk_cell HL5.out 2)
    | (go_at_call 30; refine (mortmainref09_Find.calls kF v A c ts B d gs g.f1 _ _ HR5.out HC.out HG5.out HD.out hF.out).mono ?_; rintro e w6 ⟨rfl, hb6⟩; have HC6 := Aside0.mk (Kd.C_below HC5.out hb6); have HK6 := Aside0.mk (blk_below HK5.out hb6); have HL6 := Aside0.mk (blk_below HL5.out hb6); have HR6 := Aside0.mk (Kd.C_below HR5.out hb6); have HG6 := Aside0.mk (Kd.C_below HG5.out hb6); have HB6 := Aside0.mk (below_step HB5.out hb6); have HT6 := Aside0.mk (HT5.out.below hb6); clear a0 a1 a2 b0 b1 b2; have a0 := blk_cell HK6.out 0; have a1 := blk_cell HK6.out 1; have a2 := blk_cell HK6.out 2; have b0 := blk_cell HL6.out 0; have b1 := blk_cell HL6.out 1; have b2 := blk_cell HL6.out 2))
  go_ret
  exact ⟨rfl, HB6.out⟩

set_option maxHeartbeats 4000000 in
set_option maxRecDepth 100000 in
theorem gives_main (v : Int) (ts : List S45) (A : Option Addr) (c : Nat) (gs : List S27) (B : Option Addr) (d : Nat) (g : S27) (role : Int) (nm : ByteArray) (bits : Int) (w : World) (hr : Kd.C k45 w A ts.length ts) (hc : ts.length ≤ c) (hg : Kd.C k27 w B gs.length gs) (hd : gs.length ≤ d) (hT : Tabs w) (hgs : g.f1.size ≤ 9223372036854775807) (kG : Nat) (hG : Aside0 (mortmainref09_Great.f kG v ts gs = some false)) (kS : Nat) (hS : Aside0 (mortmainref10_Sorted.f kS gs = some true)) (hlen : decide (300 < wrap64 ((nm.size : Int) + (g.f1.size : Int))) = false) (L L2 : List S27) (HP : Aside0 (PutP gs g L L2)) (kF : Nat) (hF : Aside0 (mortmainref09_Find.f kF v ts gs g.f1 = some (findT ts g.f1))) (hneg : decide (findT ts g.f1 < 0) = false) (kW : Nat) (hW : Aside0 (mortmainref10_Owns.f kW v ts gs g.f0 g.f1 = some (ownsB ts g.f0 g.f1))) (HQ : Aside0 (GivesQ ts gs L L2 g role nm bits)) :
    Calls Tryd.prog 9 #[.agg #[.int .i64 v, .slice A ts.length c, .slice B gs.length d], .agg #[.int .i64 g.f0, .string g.f1, .int .i64 g.f2], .int .i64 role, .string nm, .int .i64 bits] w (BoolPost true w) := by
  have HC := Aside0.mk hc
  have HD := Aside0.mk hd
  have b1 := below2 w (.cells #[.int .i64 v, .slice A ts.length c, .slice B gs.length d] 25) (.cells #[.int .i64 g.f0, .string g.f1, .int .i64 g.f2] 27)
  have HB := Aside0.mk b1
  have HT := Aside0.mk (hT.below b1)
  have HR := Aside0.mk (Kd.C_below hr b1)
  have HG := Aside0.mk (Kd.C_below hg b1)
  have HK := Aside0.mk (blk_alloc (blk_new w (.cells #[.int .i64 v, .slice A ts.length c, .slice B gs.length d] 25)) (.cells #[.int .i64 g.f0, .string g.f1, .int .i64 g.f2] 27))
  have HL := Aside0.mk (blk_new1 w (.cells #[.int .i64 v, .slice A ts.length c, .slice B gs.length d] 25) (.cells #[.int .i64 g.f0, .string g.f1, .int .i64 g.f2] 27))
  clear hr hc hg hd hT b1
  go_enter Tryd.func9, Tryd.ntmps9
  go_wp2_with (first
    | (go_at_call 12; refine (alive_calls _).mono ?_; rintro e w2 ⟨rfl, hb2⟩; have HK2 := Aside0.mk (blk_below HK.out hb2); have HL2 := Aside0.mk (blk_below HL.out hb2); have HR2 := Aside0.mk (Kd.C_below HR.out hb2); have HG2 := Aside0.mk (Kd.C_below HG.out hb2); have HB2 := Aside0.mk (below_step HB.out hb2); have HT2 := Aside0.mk (HT.out.below hb2); have a0 := blk_cell HK2.out 0; have a1 := blk_cell HK2.out 1; have a2 := blk_cell HK2.out 2; have b0 := blk_cell HL2.out 0; have b1 := blk_cell HL2.out 1; have b2 := blk_cell HL2.out 2)
    | (go_at_call 13; refine (mortmainref09_Great.calls kG v A c ts B d gs false _ HR2.out HC.out HG2.out HD.out hG.out).mono ?_; rintro e w3 ⟨rfl, hb3⟩; have HK3 := Aside0.mk (blk_below HK2.out hb3); have HL3 := Aside0.mk (blk_below HL2.out hb3); have HR3 := Aside0.mk (Kd.C_below HR2.out hb3); have HG3 := Aside0.mk (Kd.C_below HG2.out hb3); have HB3 := Aside0.mk (below_step HB2.out hb3); have HT3 := Aside0.mk (HT2.out.below hb3); clear a0 a1 a2 b0 b1 b2; have a0 := blk_cell HK3.out 0; have a1 := blk_cell HK3.out 1; have a2 := blk_cell HK3.out 2; have b0 := blk_cell HL3.out 0; have b1 := blk_cell HL3.out 1; have b2 := blk_cell HL3.out 2)
    | (go_at_call 14; refine (mortmainref10_Sorted.calls kS B d gs true _ HG3.out HD.out hS.out).mono ?_; rintro e w4 ⟨rfl, hb4⟩; have HK4 := Aside0.mk (blk_below HK3.out hb4); have HL4 := Aside0.mk (blk_below HL3.out hb4); have HR4 := Aside0.mk (Kd.C_below HR3.out hb4); have HG4 := Aside0.mk (Kd.C_below HG3.out hb4); have HB4 := Aside0.mk (below_step HB3.out hb4); have HT4 := Aside0.mk (HT3.out.below hb4); clear a0 a1 a2 b0 b1 b2; have a0 := blk_cell HK4.out 0; have a1 := blk_cell HK4.out 1; have a2 := blk_cell HK4.out 2; have b0 := blk_cell HL4.out 0; have b1 := blk_cell HL4.out 1; have b2 := blk_cell HL4.out 2)
    | (go_at_call 39; refine (put_ok gs B d g L _ HG4.out HP.out.G0 HP.out.gg HP.out.E1 hgs HT4.out).mono ?_; rintro e w5 ⟨⟨A5, c5, rfl, hc5, hC5⟩, hb5⟩; have HC5 := Aside0.mk hC5; clear hC5 hc5; have HK5 := Aside0.mk (blk_below HK4.out hb5); have HL5 := Aside0.mk (blk_below HL4.out hb5); have HR5 := Aside0.mk (Kd.C_below HR4.out hb5); have HG5 := Aside0.mk (Kd.C_below HG4.out hb5); have HB5 := Aside0.mk (below_step HB4.out hb5); have HT5 := Aside0.mk (HT4.out.below hb5); clear a0 a1 a2 b0 b1 b2; have a0 := blk_cell HK5.out 0; have a1 := blk_cell HK5.out 1; have a2 := blk_cell HK5.out 2; have b0 := blk_cell HL5.out 0; have b1 := blk_cell HL5.out 1; have b2 := blk_cell HL5.out 2)
    | (go_at_call 30; refine (mortmainref09_Find.calls kF v A c ts B d gs g.f1 _ _ HR5.out HC.out HG5.out HD.out hF.out).mono ?_; rintro e w6 ⟨rfl, hb6⟩; have HC6 := Aside0.mk (Kd.C_below HC5.out hb6); have HK6 := Aside0.mk (blk_below HK5.out hb6); have HL6 := Aside0.mk (blk_below HL5.out hb6); have HR6 := Aside0.mk (Kd.C_below HR5.out hb6); have HG6 := Aside0.mk (Kd.C_below HG5.out hb6); have HB6 := Aside0.mk (below_step HB5.out hb6); have HT6 := Aside0.mk (HT5.out.below hb6); clear a0 a1 a2 b0 b1 b2; have a0 := blk_cell HK6.out 0; have a1 := blk_cell HK6.out 1; have a2 := blk_cell HK6.out 2; have b0 := blk_cell HL6.out 0; have b1 := blk_cell HL6.out 1; have b2 := blk_cell HL6.out 2; have gk := blk_lt HK6.out; have gl := blk_lt HL6.out; have hb6a := below1 w6 (.cells #[.int .i64 v, .slice A ts.length c, .slice A5 L.length c5] 25); have HK6a := Aside0.mk (blk_below HK6.out hb6a); have HL6a := Aside0.mk (blk_below HL6.out hb6a); have HR6a := Aside0.mk (Kd.C_below HR6.out hb6a); have HG6a := Aside0.mk (Kd.C_below HG6.out hb6a); have HB6a := Aside0.mk (below_step HB6.out hb6a); have HT6a := Aside0.mk (HT6.out.below hb6a); have HN6a := Aside0.mk (blk_new w6 (.cells #[.int .i64 v, .slice A ts.length c, .slice A5 L.length c5] 25)); have HC6a := Aside0.mk (Kd.C_below HC6.out hb6a))
    | (go_at_call 24; refine (take_ok L A5 c5 g L2 _ HC6a.out HP.out.G1 HP.out.gg HP.out.E2 hgs HT6a.out).mono ?_; rintro e w7 ⟨⟨A7, c7, rfl, hc7, hC7⟩, hb7⟩; have HD7 := Aside0.mk hC7; have HK7 := Aside0.mk (blk_below HK6a.out hb7); have HL7 := Aside0.mk (blk_below HL6a.out hb7); have HR7 := Aside0.mk (Kd.C_below HR6a.out hb7); have HG7 := Aside0.mk (Kd.C_below HG6a.out hb7); have HB7 := Aside0.mk (below_step HB6a.out hb7); have HT7 := Aside0.mk (HT6a.out.below hb7); have HN7 := Aside0.mk (blk_below HN6a.out hb7); have HC7 := Aside0.mk (Kd.C_below HC6a.out hb7); clear a0 a1 a2 b0 b1 b2; have a0 := blk_cell HK7.out 0; have a1 := blk_cell HK7.out 1; have a2 := blk_cell HK7.out 2; have b0 := blk_cell HL7.out 0; have b1 := blk_cell HL7.out 1; have b2 := blk_cell HL7.out 2; clear gk gl; have gk := blk_lt HK7.out; have gl := blk_lt HL7.out; have gn := blk_lt HN7.out; have hb7a := below1 w7 (.cells #[.int .i64 v, .slice A ts.length c, .slice A7 L2.length c7] 25); have HK7a := Aside0.mk (blk_below HK7.out hb7a); have HL7a := Aside0.mk (blk_below HL7.out hb7a); have HR7a := Aside0.mk (Kd.C_below HR7.out hb7a); have HG7a := Aside0.mk (Kd.C_below HG7.out hb7a); have HB7a := Aside0.mk (below_step HB7.out hb7a); have HT7a := Aside0.mk (HT7.out.below hb7a); have HN7a := Aside0.mk (blk_below HN7.out hb7a); have HC7a := Aside0.mk (Kd.C_below HC7.out hb7a); have HD7a := Aside0.mk (Kd.C_below HD7.out hb7a); have HM7a := Aside0.mk (blk_new w7 (.cells #[.int .i64 v, .slice A ts.length c, .slice A7 L2.length c7] 25))))
  clear a0 a1 a2 b0 b1 b2 gk gl gn
  refine start_ (n := 30) (S := (fun w' => w'.cell? ⟨w.heap.size, 0, none⟩ = some (.int .i64 v) ∧ w'.cell? ⟨w.heap.size, 1, none⟩ = some (.slice A ts.length c) ∧ w'.cell? ⟨w.heap.size, 2, none⟩ = some (.slice B gs.length d) ∧ w'.cell? ⟨w.heap.size + 1, 0, none⟩ = some (.int .i64 g.f0) ∧ w'.cell? ⟨w.heap.size + 1, 1, none⟩ = some (.string g.f1) ∧ w'.cell? ⟨w.heap.size + 1, 2, none⟩ = some (.int .i64 g.f2) ∧ w'.cell? ⟨w6.heap.size, 0, none⟩ = some (.int .i64 v) ∧ w'.cell? ⟨w6.heap.size, 1, none⟩ = some (.slice A ts.length c) ∧ w'.cell? ⟨w6.heap.size, 2, none⟩ = some (.slice A5 L.length c5) ∧ w'.cell? ⟨w7.heap.size, 0, none⟩ = some (.int .i64 v) ∧ w'.cell? ⟨w7.heap.size, 1, none⟩ = some (.slice A ts.length c) ∧ w'.cell? ⟨w7.heap.size, 2, none⟩ = some (.slice A7 L2.length c7))) (ds := []) #[false, false, false, false, false, false, false, false, false, false, false, false, false, false, false, false, false, false, false, false, false, false, false, false, false, false, false, false, false, false] (by kernel_rfl) rfl rfl ⟨blk_cell HK7a.out 0, blk_cell HK7a.out 1, blk_cell HK7a.out 2, blk_cell HL7a.out 0, blk_cell HL7a.out 1, blk_cell HL7a.out 2, blk_cell HN7a.out 0, blk_cell HN7a.out 1, blk_cell HN7a.out 2, blk_cell HM7a.out 0, blk_cell HM7a.out 1, blk_cell HM7a.out 2⟩ (fun hHeld => ?_)
  refine pure_ (i := 0) (N := some 65) (v := ?_) (a' := ?_) #[true, false, false, false, false, false, false, false, false, false, false, false, false, false, false, false, false, false, false, false, false, false, false, false, false, false, false, false, false, false] rfl rfl (by kernel_rfl) (fun _ _ _ h => h) (Or.inl ⟨by rfl, ?_⟩) ?_ ?_
  rotate_left
  · intro w'
    go_simp
    with_reducible rfl
  rotate_left
  · simp only [Act.put, List.setIfInBounds_toArray, List.set_cons_zero, List.set_cons_succ, i64_w, i32_w]
    rfl
  refine pure_ (i := 1) (N := some 66) (v := ?_) (a' := ?_) #[true, true, false, false, false, false, false, false, false, false, false, false, false, false, false, false, false, false, false, false, false, false, false, false, false, false, false, false, false, false] rfl rfl (by kernel_rfl) (fun _ _ _ h => h) (Or.inl ⟨by rfl, ?_⟩) ?_ ?_
  rotate_left
  · intro w'
    go_simp
    with_reducible rfl
  rotate_left
  · simp only [Act.put, List.setIfInBounds_toArray, List.set_cons_zero, List.set_cons_succ, i64_w, i32_w]
    rfl
  refine pure_ (i := 2) (N := some 67) (v := ?_) (a' := ?_) #[true, true, true, false, false, false, false, false, false, false, false, false, false, false, false, false, false, false, false, false, false, false, false, false, false, false, false, false, false, false] rfl rfl (by kernel_rfl) (fun _ _ _ h => h) (Or.inl ⟨by rfl, ?_⟩) ?_ ?_
  rotate_left
  · intro w'
    go_simp
    with_reducible rfl
  rotate_left
  · simp only [Act.put, List.setIfInBounds_toArray, List.set_cons_zero, List.set_cons_succ, i64_w, i32_w]
    rfl
  refine pure_ (i := 4) (N := some 69) (v := ?_) (a' := ?_) #[true, true, true, false, true, false, false, false, false, false, false, false, false, false, false, false, false, false, false, false, false, false, false, false, false, false, false, false, false, false] rfl rfl (by kernel_rfl) (fun _ _ _ h => h) (Or.inl ⟨by rfl, ?_⟩) ?_ ?_
  rotate_left
  · intro w'
    go_simp
    with_reducible rfl
  rotate_left
  · simp only [Act.put, List.setIfInBounds_toArray, List.set_cons_zero, List.set_cons_succ, i64_w, i32_w]
    rfl
  refine pure_ (i := 6) (N := some 71) (v := ?_) (a' := ?_) #[true, true, true, false, true, false, true, false, false, false, false, false, false, false, false, false, false, false, false, false, false, false, false, false, false, false, false, false, false, false] rfl rfl (by kernel_rfl) (fun _ _ _ h => h) (Or.inl ⟨by rfl, ?_⟩) ?_ ?_
  rotate_left
  · intro w'
    go_simp
    with_reducible rfl
  rotate_left
  · simp only [Act.put, List.setIfInBounds_toArray, List.set_cons_zero, List.set_cons_succ, i64_w, i32_w]
    rfl
  refine pure_ (i := 8) (N := some 73) (v := ?_) (a' := ?_) #[true, true, true, false, true, false, true, false, true, false, false, false, false, false, false, false, false, false, false, false, false, false, false, false, false, false, false, false, false, false] rfl rfl (by kernel_rfl) (fun _ _ _ h => h) (Or.inl ⟨by rfl, ?_⟩) ?_ ?_
  rotate_left
  · intro w'
    go_simp
    with_reducible rfl
  rotate_left
  · simp only [Act.put, List.setIfInBounds_toArray, List.set_cons_zero, List.set_cons_succ, i64_w, i32_w]
    rfl
  refine take_ (i := 3) (N := some 68) (v := ?_) (a' := ?_) #[true, true, true, true, true, false, true, false, true, false, false, false, false, false, false, false, false, false, false, false, false, false, false, false, false, false, false, false, false, false] rfl rfl (by kernel_rfl) (fun _ _ _ h => h) (Or.inl ⟨by rfl, ?_⟩) hHeld ?_ ?_
  rotate_left
  · rintro w' ⟨s0, s1, s2, s3, s4, s5, s6, s7, s8, s9, s10, s11⟩
    go_simp
    with_reducible rfl
  rotate_left
  · simp only [Act.put, List.setIfInBounds_toArray, List.set_cons_zero, List.set_cons_succ, i64_w, i32_w]
    rfl
  refine take_ (i := 5) (N := some 70) (v := ?_) (a' := ?_) #[true, true, true, true, true, true, true, false, true, false, false, false, false, false, false, false, false, false, false, false, false, false, false, false, false, false, false, false, false, false] rfl rfl (by kernel_rfl) (fun _ _ _ h => h) (Or.inl ⟨by rfl, ?_⟩) hHeld ?_ ?_
  rotate_left
  · rintro w' ⟨s0, s1, s2, s3, s4, s5, s6, s7, s8, s9, s10, s11⟩
    go_simp
    with_reducible rfl
  rotate_left
  · simp only [Act.put, List.setIfInBounds_toArray, List.set_cons_zero, List.set_cons_succ, i64_w, i32_w]
    rfl
  refine take_ (i := 7) (N := some 72) (v := ?_) (a' := ?_) #[true, true, true, true, true, true, true, true, true, false, false, false, false, false, false, false, false, false, false, false, false, false, false, false, false, false, false, false, false, false] rfl rfl (by kernel_rfl) (fun _ _ _ h => h) (Or.inl ⟨by rfl, ?_⟩) hHeld ?_ ?_
  rotate_left
  · rintro w' ⟨s0, s1, s2, s3, s4, s5, s6, s7, s8, s9, s10, s11⟩
    go_simp
    with_reducible rfl
  rotate_left
  · simp only [Act.put, List.setIfInBounds_toArray, List.set_cons_zero, List.set_cons_succ, i64_w, i32_w]
    rfl
  refine take_ (i := 9) (N := some 74) (v := ?_) (a' := ?_) #[true, true, true, true, true, true, true, true, true, true, false, false, false, false, false, false, false, false, false, false, false, false, false, false, false, false, false, false, false, false] rfl rfl (by kernel_rfl) (fun _ _ _ h => h) (Or.inl ⟨by rfl, ?_⟩) hHeld ?_ ?_
  rotate_left
  · rintro w' ⟨s0, s1, s2, s3, s4, s5, s6, s7, s8, s9, s10, s11⟩
    go_simp
    with_reducible rfl
  rotate_left
  · simp only [Act.put, List.setIfInBounds_toArray, List.set_cons_zero, List.set_cons_succ, i64_w, i32_w]
    rfl
  refine one_ (i := 10) (N := some 75) #[true, true, true, true, true, true, true, true, true, true, true, false, false, false, false, false, false, false, false, false, false, false, false, false, false, false, false, false, false, false] rfl rfl (by kernel_rfl) (by decide) (fun K hK => ?_)
  refine goes_ Tryd.func21 (by kernel_rfl) rfl #[.agg #[.int .i64 v, .slice A ts.length c, .slice A5 L.length c5], .int .i64 g.f0, .string g.f1, .int .i64 g.f2] (by rfl) rfl rfl (by first | rfl | (simp only [List.map_toArray, List.map_cons, List.map_nil]; rfl)) ?_
  refine (may_calls v ts A c L A5 c5 g.f0 g.f1 g.f2 _ (Kd.C_drew HR7a.out) (Kd.C_drew HC7a.out)).mono ?_
  rintro e w8 ⟨rfl, hb8⟩
  rw [HQ.out.one]
  have hb8 := undrew hb8
  have HK8 := Aside0.mk (blk_below HK7a.out hb8)
  have HL8 := Aside0.mk (blk_below HL7a.out hb8)
  have HR8 := Aside0.mk (Kd.C_below HR7a.out hb8)
  have HG8 := Aside0.mk (Kd.C_below HG7a.out hb8)
  have HB8 := Aside0.mk (below_step HB7a.out hb8)
  have HT8 := Aside0.mk (HT7a.out.below hb8)
  have HN8 := Aside0.mk (blk_below HN7a.out hb8)
  have HM8 := Aside0.mk (blk_below HM7a.out hb8)
  have HC8 := Aside0.mk (Kd.C_below HC7a.out hb8)
  have HD8 := Aside0.mk (Kd.C_below HD7a.out hb8)
  refine ⟨_, rfl, ?_⟩
  refine hK.out _ _ ⟨blk_cell HK8.out 0, blk_cell HK8.out 1, blk_cell HK8.out 2, blk_cell HL8.out 0, blk_cell HL8.out 1, blk_cell HL8.out 2, blk_cell HN8.out 0, blk_cell HN8.out 1, blk_cell HN8.out 2, blk_cell HM8.out 0, blk_cell HM8.out 1, blk_cell HM8.out 2⟩ (fun hHeld => ?_)
  clear hK K
  refine norm_ (a' := ?_) ?_ ?_
  rotate_left
  · show Act.put _ (some 75) _ = _
    simp only [Act.put, List.setIfInBounds_toArray, List.set_cons_zero, List.set_cons_succ, i64_w, i32_w]
    rfl
  refine pure_ (i := 11) (N := some 76) (v := ?_) (a' := ?_) #[true, true, true, true, true, true, true, true, true, true, true, true, false, false, false, false, false, false, false, false, false, false, false, false, false, false, false, false, false, false] rfl rfl (by kernel_rfl) (fun _ _ _ h => h) (Or.inl ⟨by rfl, ?_⟩) ?_ ?_
  rotate_left
  · intro w'
    go_simp
    with_reducible rfl
  rotate_left
  · simp only [Act.put, List.setIfInBounds_toArray, List.set_cons_zero, List.set_cons_succ, i64_w, i32_w]
    rfl
  refine pure_ (i := 12) (N := some 77) (v := ?_) (a' := ?_) #[true, true, true, true, true, true, true, true, true, true, true, true, true, false, false, false, false, false, false, false, false, false, false, false, false, false, false, false, false, false] rfl rfl (by kernel_rfl) (fun _ _ _ h => h) (Or.inl ⟨by rfl, ?_⟩) ?_ ?_
  rotate_left
  · intro w'
    go_simp
    with_reducible rfl
  rotate_left
  · simp only [Act.put, List.setIfInBounds_toArray, List.set_cons_zero, List.set_cons_succ, i64_w, i32_w]
    rfl
  refine pure_ (i := 13) (N := some 78) (v := ?_) (a' := ?_) #[true, true, true, true, true, true, true, true, true, true, true, true, true, true, false, false, false, false, false, false, false, false, false, false, false, false, false, false, false, false] rfl rfl (by kernel_rfl) (fun _ _ _ h => h) (Or.inl ⟨by rfl, ?_⟩) ?_ ?_
  rotate_left
  · intro w'
    go_simp
    with_reducible rfl
  rotate_left
  · simp only [Act.put, List.setIfInBounds_toArray, List.set_cons_zero, List.set_cons_succ, i64_w, i32_w]
    rfl
  refine pure_ (i := 15) (N := some 80) (v := ?_) (a' := ?_) #[true, true, true, true, true, true, true, true, true, true, true, true, true, true, false, true, false, false, false, false, false, false, false, false, false, false, false, false, false, false] rfl rfl (by kernel_rfl) (fun _ _ _ h => h) (Or.inl ⟨by rfl, ?_⟩) ?_ ?_
  rotate_left
  · intro w'
    go_simp
    with_reducible rfl
  rotate_left
  · simp only [Act.put, List.setIfInBounds_toArray, List.set_cons_zero, List.set_cons_succ, i64_w, i32_w]
    rfl
  refine pure_ (i := 17) (N := some 82) (v := ?_) (a' := ?_) #[true, true, true, true, true, true, true, true, true, true, true, true, true, true, false, true, false, true, false, false, false, false, false, false, false, false, false, false, false, false] rfl rfl (by kernel_rfl) (fun _ _ _ h => h) (Or.inl ⟨by rfl, ?_⟩) ?_ ?_
  rotate_left
  · intro w'
    go_simp
    with_reducible rfl
  rotate_left
  · simp only [Act.put, List.setIfInBounds_toArray, List.set_cons_zero, List.set_cons_succ, i64_w, i32_w]
    rfl
  refine pure_ (i := 19) (N := some 84) (v := ?_) (a' := ?_) #[true, true, true, true, true, true, true, true, true, true, true, true, true, true, false, true, false, true, false, true, false, false, false, false, false, false, false, false, false, false] rfl rfl (by kernel_rfl) (fun _ _ _ h => h) (Or.inl ⟨by rfl, ?_⟩) ?_ ?_
  rotate_left
  · intro w'
    go_simp
    with_reducible rfl
  rotate_left
  · simp only [Act.put, List.setIfInBounds_toArray, List.set_cons_zero, List.set_cons_succ, i64_w, i32_w]
    rfl
  refine pure_ (i := 23) (N := some 88) (v := ?_) (a' := ?_) #[true, true, true, true, true, true, true, true, true, true, true, true, true, true, false, true, false, true, false, true, false, false, false, true, false, false, false, false, false, false] rfl rfl (by kernel_rfl) (fun _ _ _ h => h) (Or.inl ⟨by rfl, ?_⟩) ?_ ?_
  rotate_left
  · intro w'
    go_simp
    with_reducible rfl
  rotate_left
  · simp only [Act.put, List.setIfInBounds_toArray, List.set_cons_zero, List.set_cons_succ, i64_w, i32_w]
    rfl
  refine pure_ (i := 25) (N := some 90) (v := ?_) (a' := ?_) #[true, true, true, true, true, true, true, true, true, true, true, true, true, true, false, true, false, true, false, true, false, false, false, true, false, true, false, false, false, false] rfl rfl (by kernel_rfl) (fun _ _ _ h => h) (Or.inl ⟨by rfl, ?_⟩) ?_ ?_
  rotate_left
  · intro w'
    go_simp
    with_reducible rfl
  rotate_left
  · simp only [Act.put, List.setIfInBounds_toArray, List.set_cons_zero, List.set_cons_succ, i64_w, i32_w]
    rfl
  refine take_ (i := 14) (N := some 79) (v := ?_) (a' := ?_) #[true, true, true, true, true, true, true, true, true, true, true, true, true, true, true, true, false, true, false, true, false, false, false, true, false, true, false, false, false, false] rfl rfl (by kernel_rfl) (fun _ _ _ h => h) (Or.inl ⟨by rfl, ?_⟩) hHeld ?_ ?_
  rotate_left
  · rintro w' ⟨s0, s1, s2, s3, s4, s5, s6, s7, s8, s9, s10, s11⟩
    go_simp
    with_reducible rfl
  rotate_left
  · simp only [Act.put, List.setIfInBounds_toArray, List.set_cons_zero, List.set_cons_succ, i64_w, i32_w]
    rfl
  refine take_ (i := 16) (N := some 81) (v := ?_) (a' := ?_) #[true, true, true, true, true, true, true, true, true, true, true, true, true, true, true, true, true, true, false, true, false, false, false, true, false, true, false, false, false, false] rfl rfl (by kernel_rfl) (fun _ _ _ h => h) (Or.inl ⟨by rfl, ?_⟩) hHeld ?_ ?_
  rotate_left
  · rintro w' ⟨s0, s1, s2, s3, s4, s5, s6, s7, s8, s9, s10, s11⟩
    go_simp
    with_reducible rfl
  rotate_left
  · simp only [Act.put, List.setIfInBounds_toArray, List.set_cons_zero, List.set_cons_succ, i64_w, i32_w]
    rfl
  refine take_ (i := 18) (N := some 83) (v := ?_) (a' := ?_) #[true, true, true, true, true, true, true, true, true, true, true, true, true, true, true, true, true, true, true, true, false, false, false, true, false, true, false, false, false, false] rfl rfl (by kernel_rfl) (fun _ _ _ h => h) (Or.inl ⟨by rfl, ?_⟩) hHeld ?_ ?_
  rotate_left
  · rintro w' ⟨s0, s1, s2, s3, s4, s5, s6, s7, s8, s9, s10, s11⟩
    go_simp
    with_reducible rfl
  rotate_left
  · simp only [Act.put, List.setIfInBounds_toArray, List.set_cons_zero, List.set_cons_succ, i64_w, i32_w]
    rfl
  refine take_ (i := 20) (N := some 85) (v := ?_) (a' := ?_) #[true, true, true, true, true, true, true, true, true, true, true, true, true, true, true, true, true, true, true, true, true, false, false, true, false, true, false, false, false, false] rfl rfl (by kernel_rfl) (fun _ _ _ h => h) (Or.inl ⟨by rfl, ?_⟩) hHeld ?_ ?_
  rotate_left
  · rintro w' ⟨s0, s1, s2, s3, s4, s5, s6, s7, s8, s9, s10, s11⟩
    go_simp
    with_reducible rfl
  rotate_left
  · simp only [Act.put, List.setIfInBounds_toArray, List.set_cons_zero, List.set_cons_succ, i64_w, i32_w]
    rfl
  refine take_ (i := 22) (N := some 87) (v := ?_) (a' := ?_) #[true, true, true, true, true, true, true, true, true, true, true, true, true, true, true, true, true, true, true, true, true, false, true, true, false, true, false, false, false, false] rfl rfl (by kernel_rfl) (fun _ _ _ h => h) (Or.inl ⟨by rfl, ?_⟩) hHeld ?_ ?_
  rotate_left
  · rintro w' ⟨s0, s1, s2, s3, s4, s5, s6, s7, s8, s9, s10, s11⟩
    go_simp
    with_reducible rfl
  rotate_left
  · simp only [Act.put, List.setIfInBounds_toArray, List.set_cons_zero, List.set_cons_succ, i64_w, i32_w]
    rfl
  refine take_ (i := 24) (N := some 89) (v := ?_) (a' := ?_) #[true, true, true, true, true, true, true, true, true, true, true, true, true, true, true, true, true, true, true, true, true, false, true, true, true, true, false, false, false, false] rfl rfl (by kernel_rfl) (fun _ _ _ h => h) (Or.inl ⟨by rfl, ?_⟩) hHeld ?_ ?_
  rotate_left
  · rintro w' ⟨s0, s1, s2, s3, s4, s5, s6, s7, s8, s9, s10, s11⟩
    go_simp
    with_reducible rfl
  rotate_left
  · simp only [Act.put, List.setIfInBounds_toArray, List.set_cons_zero, List.set_cons_succ, i64_w, i32_w]
    rfl
  refine take_ (i := 26) (N := some 91) (v := ?_) (a' := ?_) #[true, true, true, true, true, true, true, true, true, true, true, true, true, true, true, true, true, true, true, true, true, false, true, true, true, true, true, false, false, false] rfl rfl (by kernel_rfl) (fun _ _ _ h => h) (Or.inl ⟨by rfl, ?_⟩) hHeld ?_ ?_
  rotate_left
  · rintro w' ⟨s0, s1, s2, s3, s4, s5, s6, s7, s8, s9, s10, s11⟩
    go_simp
    with_reducible rfl
  rotate_left
  · simp only [Act.put, List.setIfInBounds_toArray, List.set_cons_zero, List.set_cons_succ, i64_w, i32_w]
    rfl
  refine one_ (i := 21) (N := some 86) #[true, true, true, true, true, true, true, true, true, true, true, true, true, true, true, true, true, true, true, true, true, true, true, true, true, true, true, false, false, false] rfl rfl (by kernel_rfl) (by decide) (fun K hK => ?_)
  refine goes_ Tryd.func21 (by kernel_rfl) rfl #[.agg #[.int .i64 v, .slice A ts.length c, .slice A7 L2.length c7], .int .i64 g.f0, .string g.f1, .int .i64 g.f2] (by rfl) rfl rfl (by first | rfl | (simp only [List.map_toArray, List.map_cons, List.map_nil]; rfl)) ?_
  refine (may_calls v ts A c L2 A7 c7 g.f0 g.f1 g.f2 _ HR8.out HD8.out).mono ?_
  rintro e w9 ⟨rfl, hb9⟩
  rw [HQ.out.two]
  have HK9 := Aside0.mk (blk_below HK8.out hb9)
  have HL9 := Aside0.mk (blk_below HL8.out hb9)
  have HR9 := Aside0.mk (Kd.C_below HR8.out hb9)
  have HG9 := Aside0.mk (Kd.C_below HG8.out hb9)
  have HB9 := Aside0.mk (below_step HB8.out hb9)
  have HT9 := Aside0.mk (HT8.out.below hb9)
  have HN9 := Aside0.mk (blk_below HN8.out hb9)
  have HM9 := Aside0.mk (blk_below HM8.out hb9)
  have HC9 := Aside0.mk (Kd.C_below HC8.out hb9)
  have HD9 := Aside0.mk (Kd.C_below HD8.out hb9)
  refine ⟨_, rfl, ?_⟩
  refine hK.out _ _ ⟨blk_cell HK9.out 0, blk_cell HK9.out 1, blk_cell HK9.out 2, blk_cell HL9.out 0, blk_cell HL9.out 1, blk_cell HL9.out 2, blk_cell HN9.out 0, blk_cell HN9.out 1, blk_cell HN9.out 2, blk_cell HM9.out 0, blk_cell HM9.out 1, blk_cell HM9.out 2⟩ (fun hHeld => ?_)
  clear hK K
  refine norm_ (a' := ?_) ?_ ?_
  rotate_left
  · show Act.put _ (some 86) _ = _
    simp only [Act.put, List.setIfInBounds_toArray, List.set_cons_zero, List.set_cons_succ, i64_w, i32_w]
    rfl
  refine one_ (i := 27) (N := some 92) #[true, true, true, true, true, true, true, true, true, true, true, true, true, true, true, true, true, true, true, true, true, true, true, true, true, true, true, true, false, false] rfl rfl (by kernel_rfl) (by decide) (fun K hK => ?_)
  refine goes_ Tryd.func20 (by kernel_rfl) rfl #[.agg #[.int .i64 v, .slice A ts.length c, .slice B gs.length d], .int .i64 g.f0, .string g.f1] (by rfl) rfl rfl (by first | rfl | (simp only [List.map_toArray, List.map_cons, List.map_nil]; rfl)) ?_
  refine (mortmainref10_Owns.calls kW v A c ts B d gs g.f0 g.f1 _ _ HR9.out HC.out HG9.out HD.out hW.out).mono ?_
  rintro e w10 ⟨rfl, hb10⟩
  have HK10 := Aside0.mk (blk_below HK9.out hb10)
  have HL10 := Aside0.mk (blk_below HL9.out hb10)
  have HR10 := Aside0.mk (Kd.C_below HR9.out hb10)
  have HG10 := Aside0.mk (Kd.C_below HG9.out hb10)
  have HB10 := Aside0.mk (below_step HB9.out hb10)
  have HT10 := Aside0.mk (HT9.out.below hb10)
  have HN10 := Aside0.mk (blk_below HN9.out hb10)
  have HM10 := Aside0.mk (blk_below HM9.out hb10)
  have HC10 := Aside0.mk (Kd.C_below HC9.out hb10)
  have HD10 := Aside0.mk (Kd.C_below HD9.out hb10)
  refine ⟨_, rfl, ?_⟩
  refine hK.out _ _ ⟨blk_cell HK10.out 0, blk_cell HK10.out 1, blk_cell HK10.out 2, blk_cell HL10.out 0, blk_cell HL10.out 1, blk_cell HL10.out 2, blk_cell HN10.out 0, blk_cell HN10.out 1, blk_cell HN10.out 2, blk_cell HM10.out 0, blk_cell HM10.out 1, blk_cell HM10.out 2⟩ (fun hHeld => ?_)
  clear hK K
  refine norm_ (a' := ?_) ?_ ?_
  rotate_left
  · show Act.put _ (some 92) _ = _
    simp only [Act.put, List.setIfInBounds_toArray, List.set_cons_zero, List.set_cons_succ, i64_w, i32_w]
    rfl
  refine pure_ (i := 28) (N := some 93) (v := ?_) (a' := ?_) #[true, true, true, true, true, true, true, true, true, true, true, true, true, true, true, true, true, true, true, true, true, true, true, true, true, true, true, true, true, false] rfl rfl (by kernel_rfl) (fun _ _ _ h => h) (Or.inl ⟨by rfl, ?_⟩) ?_ ?_
  rotate_left
  · intro w'
    go_simp
    with_reducible rfl
  rotate_left
  · simp only [Act.put, List.setIfInBounds_toArray, List.set_cons_zero, List.set_cons_succ, i64_w, i32_w]
    rfl
  refine pure_ (i := 29) (N := some 94) (v := ?_) (a' := ?_) #[true, true, true, true, true, true, true, true, true, true, true, true, true, true, true, true, true, true, true, true, true, true, true, true, true, true, true, true, true, true] rfl rfl (by kernel_rfl) (fun _ _ _ h => h) (Or.inl ⟨by rfl, ?_⟩) ?_ ?_
  rotate_left
  · intro w'
    go_simp
    with_reducible rfl
  rotate_left
  · simp only [Act.put, List.setIfInBounds_toArray, List.set_cons_zero, List.set_cons_succ, i64_w, i32_w]
    rfl
  refine done_ (by kernel_rfl) ?_
  have z0 := blk_cell HK10.out 0
  have z1 := blk_cell HK10.out 1
  have z2 := blk_cell HK10.out 2
  have y0 := blk_cell HL10.out 0
  have y1 := blk_cell HL10.out 1
  have y2 := blk_cell HL10.out 2
  cases h1 : (role != g.f0) with
  | true =>
    have HS3 := Aside0.mk (HQ.out.three (by simp only [same, Bool.and_eq_false_iff]; left; simpa [bne] using (show ¬ g.f0 = role from fun e => by simp [e] at h1)))
    go_wp2
    clear z0 z1 z2 y0 y1 y2
    refine start_ (n := 29) (S := (fun w' => w'.cell? ⟨w.heap.size, 0, none⟩ = some (.int .i64 v) ∧ w'.cell? ⟨w.heap.size, 1, none⟩ = some (.slice A ts.length c) ∧ w'.cell? ⟨w.heap.size, 2, none⟩ = some (.slice B gs.length d) ∧ w'.cell? ⟨w.heap.size + 1, 0, none⟩ = some (.int .i64 g.f0) ∧ w'.cell? ⟨w.heap.size + 1, 1, none⟩ = some (.string g.f1) ∧ w'.cell? ⟨w.heap.size + 1, 2, none⟩ = some (.int .i64 g.f2) ∧ w'.cell? ⟨w6.heap.size, 0, none⟩ = some (.int .i64 v) ∧ w'.cell? ⟨w6.heap.size, 1, none⟩ = some (.slice A ts.length c) ∧ w'.cell? ⟨w6.heap.size, 2, none⟩ = some (.slice A5 L.length c5) ∧ w'.cell? ⟨w7.heap.size, 0, none⟩ = some (.int .i64 v) ∧ w'.cell? ⟨w7.heap.size, 1, none⟩ = some (.slice A ts.length c) ∧ w'.cell? ⟨w7.heap.size, 2, none⟩ = some (.slice A7 L2.length c7))) (ds := []) #[false, false, false, false, false, false, false, false, false, false, false, false, false, false, false, false, false, false, false, false, false, false, false, false, false, false, false, false, false] (by kernel_rfl) rfl rfl ⟨blk_cell HK10.out 0, blk_cell HK10.out 1, blk_cell HK10.out 2, blk_cell HL10.out 0, blk_cell HL10.out 1, blk_cell HL10.out 2, blk_cell HN10.out 0, blk_cell HN10.out 1, blk_cell HN10.out 2, blk_cell HM10.out 0, blk_cell HM10.out 1, blk_cell HM10.out 2⟩ (fun hHeld => ?_)
    refine pure_ (i := 0) (N := some 105) (v := ?_) (a' := ?_) #[true, false, false, false, false, false, false, false, false, false, false, false, false, false, false, false, false, false, false, false, false, false, false, false, false, false, false, false, false] rfl rfl (by kernel_rfl) (fun _ _ _ h => h) (Or.inl ⟨by rfl, ?_⟩) ?_ ?_
    rotate_left
    · intro w'
      go_simp
      with_reducible rfl
    rotate_left
    · simp only [Act.put, List.setIfInBounds_toArray, List.set_cons_zero, List.set_cons_succ, i64_w, i32_w]
      rfl
    refine pure_ (i := 1) (N := some 106) (v := ?_) (a' := ?_) #[true, true, false, false, false, false, false, false, false, false, false, false, false, false, false, false, false, false, false, false, false, false, false, false, false, false, false, false, false] rfl rfl (by kernel_rfl) (fun _ _ _ h => h) (Or.inl ⟨by rfl, ?_⟩) ?_ ?_
    rotate_left
    · intro w'
      go_simp
      with_reducible rfl
    rotate_left
    · simp only [Act.put, List.setIfInBounds_toArray, List.set_cons_zero, List.set_cons_succ, i64_w, i32_w]
      rfl
    refine pure_ (i := 2) (N := some 107) (v := ?_) (a' := ?_) #[true, true, true, false, false, false, false, false, false, false, false, false, false, false, false, false, false, false, false, false, false, false, false, false, false, false, false, false, false] rfl rfl (by kernel_rfl) (fun _ _ _ h => h) (Or.inl ⟨by rfl, ?_⟩) ?_ ?_
    rotate_left
    · intro w'
      go_simp
      with_reducible rfl
    rotate_left
    · simp only [Act.put, List.setIfInBounds_toArray, List.set_cons_zero, List.set_cons_succ, i64_w, i32_w]
      rfl
    refine pure_ (i := 4) (N := some 109) (v := ?_) (a' := ?_) #[true, true, true, false, true, false, false, false, false, false, false, false, false, false, false, false, false, false, false, false, false, false, false, false, false, false, false, false, false] rfl rfl (by kernel_rfl) (fun _ _ _ h => h) (Or.inl ⟨by rfl, ?_⟩) ?_ ?_
    rotate_left
    · intro w'
      go_simp
      with_reducible rfl
    rotate_left
    · simp only [Act.put, List.setIfInBounds_toArray, List.set_cons_zero, List.set_cons_succ, i64_w, i32_w]
      rfl
    refine pure_ (i := 5) (N := some 110) (v := ?_) (a' := ?_) #[true, true, true, false, true, true, false, false, false, false, false, false, false, false, false, false, false, false, false, false, false, false, false, false, false, false, false, false, false] rfl rfl (by kernel_rfl) (fun _ _ _ h => h) (Or.inl ⟨by rfl, ?_⟩) ?_ ?_
    rotate_left
    · intro w'
      go_simp
      with_reducible rfl
    rotate_left
    · simp only [Act.put, List.setIfInBounds_toArray, List.set_cons_zero, List.set_cons_succ, i64_w, i32_w]
      rfl
    refine pure_ (i := 6) (N := some 111) (v := ?_) (a' := ?_) #[true, true, true, false, true, true, true, false, false, false, false, false, false, false, false, false, false, false, false, false, false, false, false, false, false, false, false, false, false] rfl rfl (by kernel_rfl) (fun _ _ _ h => h) (Or.inl ⟨by rfl, ?_⟩) ?_ ?_
    rotate_left
    · intro w'
      go_simp
      with_reducible rfl
    rotate_left
    · simp only [Act.put, List.setIfInBounds_toArray, List.set_cons_zero, List.set_cons_succ, i64_w, i32_w]
      rfl
    refine pure_ (i := 9) (N := some 114) (v := ?_) (a' := ?_) #[true, true, true, false, true, true, true, false, false, true, false, false, false, false, false, false, false, false, false, false, false, false, false, false, false, false, false, false, false] rfl rfl (by kernel_rfl) (fun _ _ _ h => h) (Or.inl ⟨by rfl, ?_⟩) ?_ ?_
    rotate_left
    · intro w'
      go_simp
      with_reducible rfl
    rotate_left
    · simp only [Act.put, List.setIfInBounds_toArray, List.set_cons_zero, List.set_cons_succ, i64_w, i32_w]
      rfl
    refine pure_ (i := 10) (N := some 115) (v := ?_) (a' := ?_) #[true, true, true, false, true, true, true, false, false, true, true, false, false, false, false, false, false, false, false, false, false, false, false, false, false, false, false, false, false] rfl rfl (by kernel_rfl) (fun _ _ _ h => h) (Or.inl ⟨by rfl, ?_⟩) ?_ ?_
    rotate_left
    · intro w'
      go_simp
      with_reducible rfl
    rotate_left
    · simp only [Act.put, List.setIfInBounds_toArray, List.set_cons_zero, List.set_cons_succ, i64_w, i32_w]
      rfl
    refine pure_ (i := 11) (N := some 116) (v := ?_) (a' := ?_) #[true, true, true, false, true, true, true, false, false, true, true, true, false, false, false, false, false, false, false, false, false, false, false, false, false, false, false, false, false] rfl rfl (by kernel_rfl) (fun _ _ _ h => h) (Or.inl ⟨by rfl, ?_⟩) ?_ ?_
    rotate_left
    · intro w'
      go_simp
      with_reducible rfl
    rotate_left
    · simp only [Act.put, List.setIfInBounds_toArray, List.set_cons_zero, List.set_cons_succ, i64_w, i32_w]
      rfl
    refine take_ (i := 3) (N := some 108) (v := ?_) (a' := ?_) #[true, true, true, true, true, true, true, false, false, true, true, true, false, false, false, false, false, false, false, false, false, false, false, false, false, false, false, false, false] rfl rfl (by kernel_rfl) (fun _ _ _ h => h) (Or.inl ⟨by rfl, ?_⟩) hHeld ?_ ?_
    rotate_left
    · rintro w' ⟨s0, s1, s2, s3, s4, s5, s6, s7, s8, s9, s10, s11⟩
      go_simp
      with_reducible rfl
    rotate_left
    · simp only [Act.put, List.setIfInBounds_toArray, List.set_cons_zero, List.set_cons_succ, i64_w, i32_w]
      rfl
    refine take_ (i := 8) (N := some 113) (v := ?_) (a' := ?_) #[true, true, true, true, true, true, true, false, true, true, true, true, false, false, false, false, false, false, false, false, false, false, false, false, false, false, false, false, false] rfl rfl (by kernel_rfl) (fun _ _ _ h => h) (Or.inl ⟨by rfl, ?_⟩) hHeld ?_ ?_
    rotate_left
    · rintro w' ⟨s0, s1, s2, s3, s4, s5, s6, s7, s8, s9, s10, s11⟩
      go_simp
      with_reducible rfl
    rotate_left
    · simp only [Act.put, List.setIfInBounds_toArray, List.set_cons_zero, List.set_cons_succ, i64_w, i32_w]
      rfl
    refine one_ (i := 7) (N := some 112) #[true, true, true, true, true, true, true, true, true, true, true, true, false, false, false, false, false, false, false, false, false, false, false, false, false, false, false, false, false] rfl rfl (by kernel_rfl) (by decide) (fun K hK => ?_)
    refine goes_ Tryd.func21 (by kernel_rfl) rfl #[.agg #[.int .i64 v, .slice A ts.length c, .slice A5 L.length c5], .int .i64 role, .string nm, .int .i64 bits] (by rfl) rfl rfl (by first | rfl | (simp only [List.map_toArray, List.map_cons, List.map_nil]; rfl)) ?_
    refine (may_calls v ts A c L A5 c5 role nm bits _ (Kd.C_drew HR10.out) (Kd.C_drew HC10.out)).mono ?_
    rintro e w11 ⟨rfl, hb11⟩
    rw [HS3.out.1]
    have hb11 := undrew hb11
    have HK11 := Aside0.mk (blk_below HK10.out hb11)
    have HL11 := Aside0.mk (blk_below HL10.out hb11)
    have HR11 := Aside0.mk (Kd.C_below HR10.out hb11)
    have HG11 := Aside0.mk (Kd.C_below HG10.out hb11)
    have HB11 := Aside0.mk (below_step HB10.out hb11)
    have HT11 := Aside0.mk (HT10.out.below hb11)
    have HN11 := Aside0.mk (blk_below HN10.out hb11)
    have HM11 := Aside0.mk (blk_below HM10.out hb11)
    have HC11 := Aside0.mk (Kd.C_below HC10.out hb11)
    have HD11 := Aside0.mk (Kd.C_below HD10.out hb11)
    refine ⟨_, rfl, ?_⟩
    refine hK.out _ _ ⟨blk_cell HK11.out 0, blk_cell HK11.out 1, blk_cell HK11.out 2, blk_cell HL11.out 0, blk_cell HL11.out 1, blk_cell HL11.out 2, blk_cell HN11.out 0, blk_cell HN11.out 1, blk_cell HN11.out 2, blk_cell HM11.out 0, blk_cell HM11.out 1, blk_cell HM11.out 2⟩ (fun hHeld => ?_)
    clear hK K
    refine norm_ (a' := ?_) ?_ ?_
    rotate_left
    · show Act.put _ (some 112) _ = _
      simp only [Act.put, List.setIfInBounds_toArray, List.set_cons_zero, List.set_cons_succ, i64_w, i32_w]
      rfl
    refine one_ (i := 12) (N := some 117) #[true, true, true, true, true, true, true, true, true, true, true, true, true, false, false, false, false, false, false, false, false, false, false, false, false, false, false, false, false] rfl rfl (by kernel_rfl) (by decide) (fun K hK => ?_)
    refine goes_ Tryd.func21 (by kernel_rfl) rfl #[.agg #[.int .i64 v, .slice A ts.length c, .slice B gs.length d], .int .i64 role, .string nm, .int .i64 bits] (by rfl) rfl rfl (by first | rfl | (simp only [List.map_toArray, List.map_cons, List.map_nil]; rfl)) ?_
    refine (may_calls v ts A c gs B d role nm bits _ HR11.out HG11.out).mono ?_
    rintro e w12 ⟨rfl, hb12⟩
    have HK12 := Aside0.mk (blk_below HK11.out hb12)
    have HL12 := Aside0.mk (blk_below HL11.out hb12)
    have HR12 := Aside0.mk (Kd.C_below HR11.out hb12)
    have HG12 := Aside0.mk (Kd.C_below HG11.out hb12)
    have HB12 := Aside0.mk (below_step HB11.out hb12)
    have HT12 := Aside0.mk (HT11.out.below hb12)
    have HN12 := Aside0.mk (blk_below HN11.out hb12)
    have HM12 := Aside0.mk (blk_below HM11.out hb12)
    have HC12 := Aside0.mk (Kd.C_below HC11.out hb12)
    have HD12 := Aside0.mk (Kd.C_below HD11.out hb12)
    refine ⟨_, rfl, ?_⟩
    refine hK.out _ _ ⟨blk_cell HK12.out 0, blk_cell HK12.out 1, blk_cell HK12.out 2, blk_cell HL12.out 0, blk_cell HL12.out 1, blk_cell HL12.out 2, blk_cell HN12.out 0, blk_cell HN12.out 1, blk_cell HN12.out 2, blk_cell HM12.out 0, blk_cell HM12.out 1, blk_cell HM12.out 2⟩ (fun hHeld => ?_)
    clear hK K
    refine norm_ (a' := ?_) ?_ ?_
    rotate_left
    · show Act.put _ (some 117) _ = _
      simp only [Act.put, List.setIfInBounds_toArray, List.set_cons_zero, List.set_cons_succ, i64_w, i32_w]
      rfl
    refine pure_ (i := 13) (N := some 118) (v := ?_) (a' := ?_) #[true, true, true, true, true, true, true, true, true, true, true, true, true, true, false, false, false, false, false, false, false, false, false, false, false, false, false, false, false] rfl rfl (by kernel_rfl) (fun _ _ _ h => h) (Or.inl ⟨by rfl, ?_⟩) ?_ ?_
    rotate_left
    · intro w'
      go_simp
      (try simp only [beq_self_eq_true]) <;> with_reducible rfl
    rotate_left
    · simp only [Act.put, List.setIfInBounds_toArray, List.set_cons_zero, List.set_cons_succ, i64_w, i32_w]
      rfl
    refine pure_ (i := 14) (N := some 119) (v := ?_) (a' := ?_) #[true, true, true, true, true, true, true, true, true, true, true, true, true, true, true, false, false, false, false, false, false, false, false, false, false, false, false, false, false] rfl rfl (by kernel_rfl) (fun _ _ _ h => h) (Or.inl ⟨by rfl, ?_⟩) ?_ ?_
    rotate_left
    · intro w'
      go_simp
      with_reducible rfl
    rotate_left
    · simp only [Act.put, List.setIfInBounds_toArray, List.set_cons_zero, List.set_cons_succ, i64_w, i32_w]
      rfl
    refine pure_ (i := 16) (N := some 121) (v := ?_) (a' := ?_) #[true, true, true, true, true, true, true, true, true, true, true, true, true, true, true, false, true, false, false, false, false, false, false, false, false, false, false, false, false] rfl rfl (by kernel_rfl) (fun _ _ _ h => h) (Or.inl ⟨by rfl, ?_⟩) ?_ ?_
    rotate_left
    · intro w'
      go_simp
      with_reducible rfl
    rotate_left
    · simp only [Act.put, List.setIfInBounds_toArray, List.set_cons_zero, List.set_cons_succ, i64_w, i32_w]
      rfl
    refine pure_ (i := 17) (N := some 122) (v := ?_) (a' := ?_) #[true, true, true, true, true, true, true, true, true, true, true, true, true, true, true, false, true, true, false, false, false, false, false, false, false, false, false, false, false] rfl rfl (by kernel_rfl) (fun _ _ _ h => h) (Or.inl ⟨by rfl, ?_⟩) ?_ ?_
    rotate_left
    · intro w'
      go_simp
      with_reducible rfl
    rotate_left
    · simp only [Act.put, List.setIfInBounds_toArray, List.set_cons_zero, List.set_cons_succ, i64_w, i32_w]
      rfl
    refine pure_ (i := 18) (N := some 123) (v := ?_) (a' := ?_) #[true, true, true, true, true, true, true, true, true, true, true, true, true, true, true, false, true, true, true, false, false, false, false, false, false, false, false, false, false] rfl rfl (by kernel_rfl) (fun _ _ _ h => h) (Or.inl ⟨by rfl, ?_⟩) ?_ ?_
    rotate_left
    · intro w'
      go_simp
      with_reducible rfl
    rotate_left
    · simp only [Act.put, List.setIfInBounds_toArray, List.set_cons_zero, List.set_cons_succ, i64_w, i32_w]
      rfl
    refine pure_ (i := 21) (N := some 126) (v := ?_) (a' := ?_) #[true, true, true, true, true, true, true, true, true, true, true, true, true, true, true, false, true, true, true, false, false, true, false, false, false, false, false, false, false] rfl rfl (by kernel_rfl) (fun _ _ _ h => h) (Or.inl ⟨by rfl, ?_⟩) ?_ ?_
    rotate_left
    · intro w'
      go_simp
      with_reducible rfl
    rotate_left
    · simp only [Act.put, List.setIfInBounds_toArray, List.set_cons_zero, List.set_cons_succ, i64_w, i32_w]
      rfl
    refine pure_ (i := 22) (N := some 127) (v := ?_) (a' := ?_) #[true, true, true, true, true, true, true, true, true, true, true, true, true, true, true, false, true, true, true, false, false, true, true, false, false, false, false, false, false] rfl rfl (by kernel_rfl) (fun _ _ _ h => h) (Or.inl ⟨by rfl, ?_⟩) ?_ ?_
    rotate_left
    · intro w'
      go_simp
      with_reducible rfl
    rotate_left
    · simp only [Act.put, List.setIfInBounds_toArray, List.set_cons_zero, List.set_cons_succ, i64_w, i32_w]
      rfl
    refine pure_ (i := 23) (N := some 128) (v := ?_) (a' := ?_) #[true, true, true, true, true, true, true, true, true, true, true, true, true, true, true, false, true, true, true, false, false, true, true, true, false, false, false, false, false] rfl rfl (by kernel_rfl) (fun _ _ _ h => h) (Or.inl ⟨by rfl, ?_⟩) ?_ ?_
    rotate_left
    · intro w'
      go_simp
      with_reducible rfl
    rotate_left
    · simp only [Act.put, List.setIfInBounds_toArray, List.set_cons_zero, List.set_cons_succ, i64_w, i32_w]
      rfl
    refine take_ (i := 15) (N := some 120) (v := ?_) (a' := ?_) #[true, true, true, true, true, true, true, true, true, true, true, true, true, true, true, true, true, true, true, false, false, true, true, true, false, false, false, false, false] rfl rfl (by kernel_rfl) (fun _ _ _ h => h) (Or.inl ⟨by rfl, ?_⟩) hHeld ?_ ?_
    rotate_left
    · rintro w' ⟨s0, s1, s2, s3, s4, s5, s6, s7, s8, s9, s10, s11⟩
      go_simp
      with_reducible rfl
    rotate_left
    · simp only [Act.put, List.setIfInBounds_toArray, List.set_cons_zero, List.set_cons_succ, i64_w, i32_w]
      rfl
    refine take_ (i := 20) (N := some 125) (v := ?_) (a' := ?_) #[true, true, true, true, true, true, true, true, true, true, true, true, true, true, true, true, true, true, true, false, true, true, true, true, false, false, false, false, false] rfl rfl (by kernel_rfl) (fun _ _ _ h => h) (Or.inl ⟨by rfl, ?_⟩) hHeld ?_ ?_
    rotate_left
    · rintro w' ⟨s0, s1, s2, s3, s4, s5, s6, s7, s8, s9, s10, s11⟩
      go_simp
      with_reducible rfl
    rotate_left
    · simp only [Act.put, List.setIfInBounds_toArray, List.set_cons_zero, List.set_cons_succ, i64_w, i32_w]
      rfl
    refine one_ (i := 19) (N := some 124) #[true, true, true, true, true, true, true, true, true, true, true, true, true, true, true, true, true, true, true, true, true, true, true, true, false, false, false, false, false] rfl rfl (by kernel_rfl) (by decide) (fun K hK => ?_)
    refine goes_ Tryd.func21 (by kernel_rfl) rfl #[.agg #[.int .i64 v, .slice A ts.length c, .slice A7 L2.length c7], .int .i64 role, .string nm, .int .i64 bits] (by rfl) rfl rfl (by first | rfl | (simp only [List.map_toArray, List.map_cons, List.map_nil]; rfl)) ?_
    refine (may_calls v ts A c L2 A7 c7 role nm bits _ HR12.out HD12.out).mono ?_
    rintro e w13 ⟨rfl, hb13⟩
    rw [HS3.out.2]
    have HK13 := Aside0.mk (blk_below HK12.out hb13)
    have HL13 := Aside0.mk (blk_below HL12.out hb13)
    have HR13 := Aside0.mk (Kd.C_below HR12.out hb13)
    have HG13 := Aside0.mk (Kd.C_below HG12.out hb13)
    have HB13 := Aside0.mk (below_step HB12.out hb13)
    have HT13 := Aside0.mk (HT12.out.below hb13)
    have HN13 := Aside0.mk (blk_below HN12.out hb13)
    have HM13 := Aside0.mk (blk_below HM12.out hb13)
    have HC13 := Aside0.mk (Kd.C_below HC12.out hb13)
    have HD13 := Aside0.mk (Kd.C_below HD12.out hb13)
    refine ⟨_, rfl, ?_⟩
    refine hK.out _ _ ⟨blk_cell HK13.out 0, blk_cell HK13.out 1, blk_cell HK13.out 2, blk_cell HL13.out 0, blk_cell HL13.out 1, blk_cell HL13.out 2, blk_cell HN13.out 0, blk_cell HN13.out 1, blk_cell HN13.out 2, blk_cell HM13.out 0, blk_cell HM13.out 1, blk_cell HM13.out 2⟩ (fun hHeld => ?_)
    clear hK K
    refine norm_ (a' := ?_) ?_ ?_
    rotate_left
    · show Act.put _ (some 124) _ = _
      simp only [Act.put, List.setIfInBounds_toArray, List.set_cons_zero, List.set_cons_succ, i64_w, i32_w]
      rfl
    refine one_ (i := 24) (N := some 129) #[true, true, true, true, true, true, true, true, true, true, true, true, true, true, true, true, true, true, true, true, true, true, true, true, true, false, false, false, false] rfl rfl (by kernel_rfl) (by decide) (fun K hK => ?_)
    refine goes_ Tryd.func21 (by kernel_rfl) rfl #[.agg #[.int .i64 v, .slice A ts.length c, .slice B gs.length d], .int .i64 role, .string nm, .int .i64 bits] (by rfl) rfl rfl (by first | rfl | (simp only [List.map_toArray, List.map_cons, List.map_nil]; rfl)) ?_
    refine (may_calls v ts A c gs B d role nm bits _ HR13.out HG13.out).mono ?_
    rintro e w14 ⟨rfl, hb14⟩
    have HK14 := Aside0.mk (blk_below HK13.out hb14)
    have HL14 := Aside0.mk (blk_below HL13.out hb14)
    have HR14 := Aside0.mk (Kd.C_below HR13.out hb14)
    have HG14 := Aside0.mk (Kd.C_below HG13.out hb14)
    have HB14 := Aside0.mk (below_step HB13.out hb14)
    have HT14 := Aside0.mk (HT13.out.below hb14)
    have HN14 := Aside0.mk (blk_below HN13.out hb14)
    have HM14 := Aside0.mk (blk_below HM13.out hb14)
    have HC14 := Aside0.mk (Kd.C_below HC13.out hb14)
    have HD14 := Aside0.mk (Kd.C_below HD13.out hb14)
    refine ⟨_, rfl, ?_⟩
    refine hK.out _ _ ⟨blk_cell HK14.out 0, blk_cell HK14.out 1, blk_cell HK14.out 2, blk_cell HL14.out 0, blk_cell HL14.out 1, blk_cell HL14.out 2, blk_cell HN14.out 0, blk_cell HN14.out 1, blk_cell HN14.out 2, blk_cell HM14.out 0, blk_cell HM14.out 1, blk_cell HM14.out 2⟩ (fun hHeld => ?_)
    clear hK K
    refine norm_ (a' := ?_) ?_ ?_
    rotate_left
    · show Act.put _ (some 129) _ = _
      simp only [Act.put, List.setIfInBounds_toArray, List.set_cons_zero, List.set_cons_succ, i64_w, i32_w]
      rfl
    refine pure_ (i := 25) (N := some 130) (v := ?_) (a' := ?_) #[true, true, true, true, true, true, true, true, true, true, true, true, true, true, true, true, true, true, true, true, true, true, true, true, true, true, false, false, false] rfl rfl (by kernel_rfl) (fun _ _ _ h => h) (Or.inl ⟨by rfl, ?_⟩) ?_ ?_
    rotate_left
    · intro w'
      go_simp
      (try simp only [beq_self_eq_true]) <;> with_reducible rfl
    rotate_left
    · simp only [Act.put, List.setIfInBounds_toArray, List.set_cons_zero, List.set_cons_succ, i64_w, i32_w]
      rfl
    refine pure_ (i := 26) (N := some 131) (v := ?_) (a' := ?_) #[true, true, true, true, true, true, true, true, true, true, true, true, true, true, true, true, true, true, true, true, true, true, true, true, true, true, true, false, false] rfl rfl (by kernel_rfl) (fun _ _ _ h => h) (Or.inl ⟨by rfl, ?_⟩) ?_ ?_
    rotate_left
    · intro w'
      go_simp
      with_reducible rfl
    rotate_left
    · simp only [Act.put, List.setIfInBounds_toArray, List.set_cons_zero, List.set_cons_succ, i64_w, i32_w]
      rfl
    refine pure_ (i := 27) (N := some 132) (v := ?_) (a' := ?_) #[true, true, true, true, true, true, true, true, true, true, true, true, true, true, true, true, true, true, true, true, true, true, true, true, true, true, true, true, false] rfl rfl (by kernel_rfl) (fun _ _ _ h => h) (Or.inl ⟨by rfl, ?_⟩) ?_ ?_
    rotate_left
    · intro w'
      go_simp
      with_reducible rfl
    rotate_left
    · simp only [Act.put, List.setIfInBounds_toArray, List.set_cons_zero, List.set_cons_succ, i64_w, i32_w]
      rfl
    refine pure_ (i := 28) (N := some 10) (v := ?_) (a' := ?_) #[true, true, true, true, true, true, true, true, true, true, true, true, true, true, true, true, true, true, true, true, true, true, true, true, true, true, true, true, true] rfl rfl (by kernel_rfl) (fun _ _ _ h => h) (Or.inl ⟨by rfl, ?_⟩) ?_ ?_
    rotate_left
    · intro w'
      go_simp
      with_reducible rfl
    rotate_left
    · simp only [Act.put, List.setIfInBounds_toArray, List.set_cons_zero, List.set_cons_succ, i64_w, i32_w]
      rfl
    refine done_ (by kernel_rfl) ?_
    go_wp2
    go_ret
    exact ⟨by simp, HB14.out⟩
  | false =>
    cases h2 : (nm.toList == g.f1.toList) with
    | false =>
      have h3 : (nm.toList != g.f1.toList) = true := by simp [bne, h2]
      have HS3 := Aside0.mk (HQ.out.three (by simp only [same, Bool.and_eq_false_iff]; right; simpa using (show ¬ g.f1.toList = nm.toList from fun e => by simp [e] at h2)))
      go_wp2
      clear z0 z1 z2 y0 y1 y2
      refine start_ (n := 29) (S := (fun w' => w'.cell? ⟨w.heap.size, 0, none⟩ = some (.int .i64 v) ∧ w'.cell? ⟨w.heap.size, 1, none⟩ = some (.slice A ts.length c) ∧ w'.cell? ⟨w.heap.size, 2, none⟩ = some (.slice B gs.length d) ∧ w'.cell? ⟨w.heap.size + 1, 0, none⟩ = some (.int .i64 g.f0) ∧ w'.cell? ⟨w.heap.size + 1, 1, none⟩ = some (.string g.f1) ∧ w'.cell? ⟨w.heap.size + 1, 2, none⟩ = some (.int .i64 g.f2) ∧ w'.cell? ⟨w6.heap.size, 0, none⟩ = some (.int .i64 v) ∧ w'.cell? ⟨w6.heap.size, 1, none⟩ = some (.slice A ts.length c) ∧ w'.cell? ⟨w6.heap.size, 2, none⟩ = some (.slice A5 L.length c5) ∧ w'.cell? ⟨w7.heap.size, 0, none⟩ = some (.int .i64 v) ∧ w'.cell? ⟨w7.heap.size, 1, none⟩ = some (.slice A ts.length c) ∧ w'.cell? ⟨w7.heap.size, 2, none⟩ = some (.slice A7 L2.length c7))) (ds := []) #[false, false, false, false, false, false, false, false, false, false, false, false, false, false, false, false, false, false, false, false, false, false, false, false, false, false, false, false, false] (by kernel_rfl) rfl rfl ⟨blk_cell HK10.out 0, blk_cell HK10.out 1, blk_cell HK10.out 2, blk_cell HL10.out 0, blk_cell HL10.out 1, blk_cell HL10.out 2, blk_cell HN10.out 0, blk_cell HN10.out 1, blk_cell HN10.out 2, blk_cell HM10.out 0, blk_cell HM10.out 1, blk_cell HM10.out 2⟩ (fun hHeld => ?_)
      refine pure_ (i := 0) (N := some 105) (v := ?_) (a' := ?_) #[true, false, false, false, false, false, false, false, false, false, false, false, false, false, false, false, false, false, false, false, false, false, false, false, false, false, false, false, false] rfl rfl (by kernel_rfl) (fun _ _ _ h => h) (Or.inl ⟨by rfl, ?_⟩) ?_ ?_
      rotate_left
      · intro w'
        go_simp
        with_reducible rfl
      rotate_left
      · simp only [Act.put, List.setIfInBounds_toArray, List.set_cons_zero, List.set_cons_succ, i64_w, i32_w]
        rfl
      refine pure_ (i := 1) (N := some 106) (v := ?_) (a' := ?_) #[true, true, false, false, false, false, false, false, false, false, false, false, false, false, false, false, false, false, false, false, false, false, false, false, false, false, false, false, false] rfl rfl (by kernel_rfl) (fun _ _ _ h => h) (Or.inl ⟨by rfl, ?_⟩) ?_ ?_
      rotate_left
      · intro w'
        go_simp
        with_reducible rfl
      rotate_left
      · simp only [Act.put, List.setIfInBounds_toArray, List.set_cons_zero, List.set_cons_succ, i64_w, i32_w]
        rfl
      refine pure_ (i := 2) (N := some 107) (v := ?_) (a' := ?_) #[true, true, true, false, false, false, false, false, false, false, false, false, false, false, false, false, false, false, false, false, false, false, false, false, false, false, false, false, false] rfl rfl (by kernel_rfl) (fun _ _ _ h => h) (Or.inl ⟨by rfl, ?_⟩) ?_ ?_
      rotate_left
      · intro w'
        go_simp
        with_reducible rfl
      rotate_left
      · simp only [Act.put, List.setIfInBounds_toArray, List.set_cons_zero, List.set_cons_succ, i64_w, i32_w]
        rfl
      refine pure_ (i := 4) (N := some 109) (v := ?_) (a' := ?_) #[true, true, true, false, true, false, false, false, false, false, false, false, false, false, false, false, false, false, false, false, false, false, false, false, false, false, false, false, false] rfl rfl (by kernel_rfl) (fun _ _ _ h => h) (Or.inl ⟨by rfl, ?_⟩) ?_ ?_
      rotate_left
      · intro w'
        go_simp
        with_reducible rfl
      rotate_left
      · simp only [Act.put, List.setIfInBounds_toArray, List.set_cons_zero, List.set_cons_succ, i64_w, i32_w]
        rfl
      refine pure_ (i := 5) (N := some 110) (v := ?_) (a' := ?_) #[true, true, true, false, true, true, false, false, false, false, false, false, false, false, false, false, false, false, false, false, false, false, false, false, false, false, false, false, false] rfl rfl (by kernel_rfl) (fun _ _ _ h => h) (Or.inl ⟨by rfl, ?_⟩) ?_ ?_
      rotate_left
      · intro w'
        go_simp
        with_reducible rfl
      rotate_left
      · simp only [Act.put, List.setIfInBounds_toArray, List.set_cons_zero, List.set_cons_succ, i64_w, i32_w]
        rfl
      refine pure_ (i := 6) (N := some 111) (v := ?_) (a' := ?_) #[true, true, true, false, true, true, true, false, false, false, false, false, false, false, false, false, false, false, false, false, false, false, false, false, false, false, false, false, false] rfl rfl (by kernel_rfl) (fun _ _ _ h => h) (Or.inl ⟨by rfl, ?_⟩) ?_ ?_
      rotate_left
      · intro w'
        go_simp
        with_reducible rfl
      rotate_left
      · simp only [Act.put, List.setIfInBounds_toArray, List.set_cons_zero, List.set_cons_succ, i64_w, i32_w]
        rfl
      refine pure_ (i := 9) (N := some 114) (v := ?_) (a' := ?_) #[true, true, true, false, true, true, true, false, false, true, false, false, false, false, false, false, false, false, false, false, false, false, false, false, false, false, false, false, false] rfl rfl (by kernel_rfl) (fun _ _ _ h => h) (Or.inl ⟨by rfl, ?_⟩) ?_ ?_
      rotate_left
      · intro w'
        go_simp
        with_reducible rfl
      rotate_left
      · simp only [Act.put, List.setIfInBounds_toArray, List.set_cons_zero, List.set_cons_succ, i64_w, i32_w]
        rfl
      refine pure_ (i := 10) (N := some 115) (v := ?_) (a' := ?_) #[true, true, true, false, true, true, true, false, false, true, true, false, false, false, false, false, false, false, false, false, false, false, false, false, false, false, false, false, false] rfl rfl (by kernel_rfl) (fun _ _ _ h => h) (Or.inl ⟨by rfl, ?_⟩) ?_ ?_
      rotate_left
      · intro w'
        go_simp
        with_reducible rfl
      rotate_left
      · simp only [Act.put, List.setIfInBounds_toArray, List.set_cons_zero, List.set_cons_succ, i64_w, i32_w]
        rfl
      refine pure_ (i := 11) (N := some 116) (v := ?_) (a' := ?_) #[true, true, true, false, true, true, true, false, false, true, true, true, false, false, false, false, false, false, false, false, false, false, false, false, false, false, false, false, false] rfl rfl (by kernel_rfl) (fun _ _ _ h => h) (Or.inl ⟨by rfl, ?_⟩) ?_ ?_
      rotate_left
      · intro w'
        go_simp
        with_reducible rfl
      rotate_left
      · simp only [Act.put, List.setIfInBounds_toArray, List.set_cons_zero, List.set_cons_succ, i64_w, i32_w]
        rfl
      refine take_ (i := 3) (N := some 108) (v := ?_) (a' := ?_) #[true, true, true, true, true, true, true, false, false, true, true, true, false, false, false, false, false, false, false, false, false, false, false, false, false, false, false, false, false] rfl rfl (by kernel_rfl) (fun _ _ _ h => h) (Or.inl ⟨by rfl, ?_⟩) hHeld ?_ ?_
      rotate_left
      · rintro w' ⟨s0, s1, s2, s3, s4, s5, s6, s7, s8, s9, s10, s11⟩
        go_simp
        with_reducible rfl
      rotate_left
      · simp only [Act.put, List.setIfInBounds_toArray, List.set_cons_zero, List.set_cons_succ, i64_w, i32_w]
        rfl
      refine take_ (i := 8) (N := some 113) (v := ?_) (a' := ?_) #[true, true, true, true, true, true, true, false, true, true, true, true, false, false, false, false, false, false, false, false, false, false, false, false, false, false, false, false, false] rfl rfl (by kernel_rfl) (fun _ _ _ h => h) (Or.inl ⟨by rfl, ?_⟩) hHeld ?_ ?_
      rotate_left
      · rintro w' ⟨s0, s1, s2, s3, s4, s5, s6, s7, s8, s9, s10, s11⟩
        go_simp
        with_reducible rfl
      rotate_left
      · simp only [Act.put, List.setIfInBounds_toArray, List.set_cons_zero, List.set_cons_succ, i64_w, i32_w]
        rfl
      refine one_ (i := 7) (N := some 112) #[true, true, true, true, true, true, true, true, true, true, true, true, false, false, false, false, false, false, false, false, false, false, false, false, false, false, false, false, false] rfl rfl (by kernel_rfl) (by decide) (fun K hK => ?_)
      refine goes_ Tryd.func21 (by kernel_rfl) rfl #[.agg #[.int .i64 v, .slice A ts.length c, .slice A5 L.length c5], .int .i64 role, .string nm, .int .i64 bits] (by rfl) rfl rfl (by first | rfl | (simp only [List.map_toArray, List.map_cons, List.map_nil]; rfl)) ?_
      refine (may_calls v ts A c L A5 c5 role nm bits _ (Kd.C_drew HR10.out) (Kd.C_drew HC10.out)).mono ?_
      rintro e w11 ⟨rfl, hb11⟩
      rw [HS3.out.1]
      have hb11 := undrew hb11
      have HK11 := Aside0.mk (blk_below HK10.out hb11)
      have HL11 := Aside0.mk (blk_below HL10.out hb11)
      have HR11 := Aside0.mk (Kd.C_below HR10.out hb11)
      have HG11 := Aside0.mk (Kd.C_below HG10.out hb11)
      have HB11 := Aside0.mk (below_step HB10.out hb11)
      have HT11 := Aside0.mk (HT10.out.below hb11)
      have HN11 := Aside0.mk (blk_below HN10.out hb11)
      have HM11 := Aside0.mk (blk_below HM10.out hb11)
      have HC11 := Aside0.mk (Kd.C_below HC10.out hb11)
      have HD11 := Aside0.mk (Kd.C_below HD10.out hb11)
      refine ⟨_, rfl, ?_⟩
      refine hK.out _ _ ⟨blk_cell HK11.out 0, blk_cell HK11.out 1, blk_cell HK11.out 2, blk_cell HL11.out 0, blk_cell HL11.out 1, blk_cell HL11.out 2, blk_cell HN11.out 0, blk_cell HN11.out 1, blk_cell HN11.out 2, blk_cell HM11.out 0, blk_cell HM11.out 1, blk_cell HM11.out 2⟩ (fun hHeld => ?_)
      clear hK K
      refine norm_ (a' := ?_) ?_ ?_
      rotate_left
      · show Act.put _ (some 112) _ = _
        simp only [Act.put, List.setIfInBounds_toArray, List.set_cons_zero, List.set_cons_succ, i64_w, i32_w]
        rfl
      refine one_ (i := 12) (N := some 117) #[true, true, true, true, true, true, true, true, true, true, true, true, true, false, false, false, false, false, false, false, false, false, false, false, false, false, false, false, false] rfl rfl (by kernel_rfl) (by decide) (fun K hK => ?_)
      refine goes_ Tryd.func21 (by kernel_rfl) rfl #[.agg #[.int .i64 v, .slice A ts.length c, .slice B gs.length d], .int .i64 role, .string nm, .int .i64 bits] (by rfl) rfl rfl (by first | rfl | (simp only [List.map_toArray, List.map_cons, List.map_nil]; rfl)) ?_
      refine (may_calls v ts A c gs B d role nm bits _ HR11.out HG11.out).mono ?_
      rintro e w12 ⟨rfl, hb12⟩
      have HK12 := Aside0.mk (blk_below HK11.out hb12)
      have HL12 := Aside0.mk (blk_below HL11.out hb12)
      have HR12 := Aside0.mk (Kd.C_below HR11.out hb12)
      have HG12 := Aside0.mk (Kd.C_below HG11.out hb12)
      have HB12 := Aside0.mk (below_step HB11.out hb12)
      have HT12 := Aside0.mk (HT11.out.below hb12)
      have HN12 := Aside0.mk (blk_below HN11.out hb12)
      have HM12 := Aside0.mk (blk_below HM11.out hb12)
      have HC12 := Aside0.mk (Kd.C_below HC11.out hb12)
      have HD12 := Aside0.mk (Kd.C_below HD11.out hb12)
      refine ⟨_, rfl, ?_⟩
      refine hK.out _ _ ⟨blk_cell HK12.out 0, blk_cell HK12.out 1, blk_cell HK12.out 2, blk_cell HL12.out 0, blk_cell HL12.out 1, blk_cell HL12.out 2, blk_cell HN12.out 0, blk_cell HN12.out 1, blk_cell HN12.out 2, blk_cell HM12.out 0, blk_cell HM12.out 1, blk_cell HM12.out 2⟩ (fun hHeld => ?_)
      clear hK K
      refine norm_ (a' := ?_) ?_ ?_
      rotate_left
      · show Act.put _ (some 117) _ = _
        simp only [Act.put, List.setIfInBounds_toArray, List.set_cons_zero, List.set_cons_succ, i64_w, i32_w]
        rfl
      refine pure_ (i := 13) (N := some 118) (v := ?_) (a' := ?_) #[true, true, true, true, true, true, true, true, true, true, true, true, true, true, false, false, false, false, false, false, false, false, false, false, false, false, false, false, false] rfl rfl (by kernel_rfl) (fun _ _ _ h => h) (Or.inl ⟨by rfl, ?_⟩) ?_ ?_
      rotate_left
      · intro w'
        go_simp
        (try simp only [beq_self_eq_true]) <;> with_reducible rfl
      rotate_left
      · simp only [Act.put, List.setIfInBounds_toArray, List.set_cons_zero, List.set_cons_succ, i64_w, i32_w]
        rfl
      refine pure_ (i := 14) (N := some 119) (v := ?_) (a' := ?_) #[true, true, true, true, true, true, true, true, true, true, true, true, true, true, true, false, false, false, false, false, false, false, false, false, false, false, false, false, false] rfl rfl (by kernel_rfl) (fun _ _ _ h => h) (Or.inl ⟨by rfl, ?_⟩) ?_ ?_
      rotate_left
      · intro w'
        go_simp
        with_reducible rfl
      rotate_left
      · simp only [Act.put, List.setIfInBounds_toArray, List.set_cons_zero, List.set_cons_succ, i64_w, i32_w]
        rfl
      refine pure_ (i := 16) (N := some 121) (v := ?_) (a' := ?_) #[true, true, true, true, true, true, true, true, true, true, true, true, true, true, true, false, true, false, false, false, false, false, false, false, false, false, false, false, false] rfl rfl (by kernel_rfl) (fun _ _ _ h => h) (Or.inl ⟨by rfl, ?_⟩) ?_ ?_
      rotate_left
      · intro w'
        go_simp
        with_reducible rfl
      rotate_left
      · simp only [Act.put, List.setIfInBounds_toArray, List.set_cons_zero, List.set_cons_succ, i64_w, i32_w]
        rfl
      refine pure_ (i := 17) (N := some 122) (v := ?_) (a' := ?_) #[true, true, true, true, true, true, true, true, true, true, true, true, true, true, true, false, true, true, false, false, false, false, false, false, false, false, false, false, false] rfl rfl (by kernel_rfl) (fun _ _ _ h => h) (Or.inl ⟨by rfl, ?_⟩) ?_ ?_
      rotate_left
      · intro w'
        go_simp
        with_reducible rfl
      rotate_left
      · simp only [Act.put, List.setIfInBounds_toArray, List.set_cons_zero, List.set_cons_succ, i64_w, i32_w]
        rfl
      refine pure_ (i := 18) (N := some 123) (v := ?_) (a' := ?_) #[true, true, true, true, true, true, true, true, true, true, true, true, true, true, true, false, true, true, true, false, false, false, false, false, false, false, false, false, false] rfl rfl (by kernel_rfl) (fun _ _ _ h => h) (Or.inl ⟨by rfl, ?_⟩) ?_ ?_
      rotate_left
      · intro w'
        go_simp
        with_reducible rfl
      rotate_left
      · simp only [Act.put, List.setIfInBounds_toArray, List.set_cons_zero, List.set_cons_succ, i64_w, i32_w]
        rfl
      refine pure_ (i := 21) (N := some 126) (v := ?_) (a' := ?_) #[true, true, true, true, true, true, true, true, true, true, true, true, true, true, true, false, true, true, true, false, false, true, false, false, false, false, false, false, false] rfl rfl (by kernel_rfl) (fun _ _ _ h => h) (Or.inl ⟨by rfl, ?_⟩) ?_ ?_
      rotate_left
      · intro w'
        go_simp
        with_reducible rfl
      rotate_left
      · simp only [Act.put, List.setIfInBounds_toArray, List.set_cons_zero, List.set_cons_succ, i64_w, i32_w]
        rfl
      refine pure_ (i := 22) (N := some 127) (v := ?_) (a' := ?_) #[true, true, true, true, true, true, true, true, true, true, true, true, true, true, true, false, true, true, true, false, false, true, true, false, false, false, false, false, false] rfl rfl (by kernel_rfl) (fun _ _ _ h => h) (Or.inl ⟨by rfl, ?_⟩) ?_ ?_
      rotate_left
      · intro w'
        go_simp
        with_reducible rfl
      rotate_left
      · simp only [Act.put, List.setIfInBounds_toArray, List.set_cons_zero, List.set_cons_succ, i64_w, i32_w]
        rfl
      refine pure_ (i := 23) (N := some 128) (v := ?_) (a' := ?_) #[true, true, true, true, true, true, true, true, true, true, true, true, true, true, true, false, true, true, true, false, false, true, true, true, false, false, false, false, false] rfl rfl (by kernel_rfl) (fun _ _ _ h => h) (Or.inl ⟨by rfl, ?_⟩) ?_ ?_
      rotate_left
      · intro w'
        go_simp
        with_reducible rfl
      rotate_left
      · simp only [Act.put, List.setIfInBounds_toArray, List.set_cons_zero, List.set_cons_succ, i64_w, i32_w]
        rfl
      refine take_ (i := 15) (N := some 120) (v := ?_) (a' := ?_) #[true, true, true, true, true, true, true, true, true, true, true, true, true, true, true, true, true, true, true, false, false, true, true, true, false, false, false, false, false] rfl rfl (by kernel_rfl) (fun _ _ _ h => h) (Or.inl ⟨by rfl, ?_⟩) hHeld ?_ ?_
      rotate_left
      · rintro w' ⟨s0, s1, s2, s3, s4, s5, s6, s7, s8, s9, s10, s11⟩
        go_simp
        with_reducible rfl
      rotate_left
      · simp only [Act.put, List.setIfInBounds_toArray, List.set_cons_zero, List.set_cons_succ, i64_w, i32_w]
        rfl
      refine take_ (i := 20) (N := some 125) (v := ?_) (a' := ?_) #[true, true, true, true, true, true, true, true, true, true, true, true, true, true, true, true, true, true, true, false, true, true, true, true, false, false, false, false, false] rfl rfl (by kernel_rfl) (fun _ _ _ h => h) (Or.inl ⟨by rfl, ?_⟩) hHeld ?_ ?_
      rotate_left
      · rintro w' ⟨s0, s1, s2, s3, s4, s5, s6, s7, s8, s9, s10, s11⟩
        go_simp
        with_reducible rfl
      rotate_left
      · simp only [Act.put, List.setIfInBounds_toArray, List.set_cons_zero, List.set_cons_succ, i64_w, i32_w]
        rfl
      refine one_ (i := 19) (N := some 124) #[true, true, true, true, true, true, true, true, true, true, true, true, true, true, true, true, true, true, true, true, true, true, true, true, false, false, false, false, false] rfl rfl (by kernel_rfl) (by decide) (fun K hK => ?_)
      refine goes_ Tryd.func21 (by kernel_rfl) rfl #[.agg #[.int .i64 v, .slice A ts.length c, .slice A7 L2.length c7], .int .i64 role, .string nm, .int .i64 bits] (by rfl) rfl rfl (by first | rfl | (simp only [List.map_toArray, List.map_cons, List.map_nil]; rfl)) ?_
      refine (may_calls v ts A c L2 A7 c7 role nm bits _ HR12.out HD12.out).mono ?_
      rintro e w13 ⟨rfl, hb13⟩
      rw [HS3.out.2]
      have HK13 := Aside0.mk (blk_below HK12.out hb13)
      have HL13 := Aside0.mk (blk_below HL12.out hb13)
      have HR13 := Aside0.mk (Kd.C_below HR12.out hb13)
      have HG13 := Aside0.mk (Kd.C_below HG12.out hb13)
      have HB13 := Aside0.mk (below_step HB12.out hb13)
      have HT13 := Aside0.mk (HT12.out.below hb13)
      have HN13 := Aside0.mk (blk_below HN12.out hb13)
      have HM13 := Aside0.mk (blk_below HM12.out hb13)
      have HC13 := Aside0.mk (Kd.C_below HC12.out hb13)
      have HD13 := Aside0.mk (Kd.C_below HD12.out hb13)
      refine ⟨_, rfl, ?_⟩
      refine hK.out _ _ ⟨blk_cell HK13.out 0, blk_cell HK13.out 1, blk_cell HK13.out 2, blk_cell HL13.out 0, blk_cell HL13.out 1, blk_cell HL13.out 2, blk_cell HN13.out 0, blk_cell HN13.out 1, blk_cell HN13.out 2, blk_cell HM13.out 0, blk_cell HM13.out 1, blk_cell HM13.out 2⟩ (fun hHeld => ?_)
      clear hK K
      refine norm_ (a' := ?_) ?_ ?_
      rotate_left
      · show Act.put _ (some 124) _ = _
        simp only [Act.put, List.setIfInBounds_toArray, List.set_cons_zero, List.set_cons_succ, i64_w, i32_w]
        rfl
      refine one_ (i := 24) (N := some 129) #[true, true, true, true, true, true, true, true, true, true, true, true, true, true, true, true, true, true, true, true, true, true, true, true, true, false, false, false, false] rfl rfl (by kernel_rfl) (by decide) (fun K hK => ?_)
      refine goes_ Tryd.func21 (by kernel_rfl) rfl #[.agg #[.int .i64 v, .slice A ts.length c, .slice B gs.length d], .int .i64 role, .string nm, .int .i64 bits] (by rfl) rfl rfl (by first | rfl | (simp only [List.map_toArray, List.map_cons, List.map_nil]; rfl)) ?_
      refine (may_calls v ts A c gs B d role nm bits _ HR13.out HG13.out).mono ?_
      rintro e w14 ⟨rfl, hb14⟩
      have HK14 := Aside0.mk (blk_below HK13.out hb14)
      have HL14 := Aside0.mk (blk_below HL13.out hb14)
      have HR14 := Aside0.mk (Kd.C_below HR13.out hb14)
      have HG14 := Aside0.mk (Kd.C_below HG13.out hb14)
      have HB14 := Aside0.mk (below_step HB13.out hb14)
      have HT14 := Aside0.mk (HT13.out.below hb14)
      have HN14 := Aside0.mk (blk_below HN13.out hb14)
      have HM14 := Aside0.mk (blk_below HM13.out hb14)
      have HC14 := Aside0.mk (Kd.C_below HC13.out hb14)
      have HD14 := Aside0.mk (Kd.C_below HD13.out hb14)
      refine ⟨_, rfl, ?_⟩
      refine hK.out _ _ ⟨blk_cell HK14.out 0, blk_cell HK14.out 1, blk_cell HK14.out 2, blk_cell HL14.out 0, blk_cell HL14.out 1, blk_cell HL14.out 2, blk_cell HN14.out 0, blk_cell HN14.out 1, blk_cell HN14.out 2, blk_cell HM14.out 0, blk_cell HM14.out 1, blk_cell HM14.out 2⟩ (fun hHeld => ?_)
      clear hK K
      refine norm_ (a' := ?_) ?_ ?_
      rotate_left
      · show Act.put _ (some 129) _ = _
        simp only [Act.put, List.setIfInBounds_toArray, List.set_cons_zero, List.set_cons_succ, i64_w, i32_w]
        rfl
      refine pure_ (i := 25) (N := some 130) (v := ?_) (a' := ?_) #[true, true, true, true, true, true, true, true, true, true, true, true, true, true, true, true, true, true, true, true, true, true, true, true, true, true, false, false, false] rfl rfl (by kernel_rfl) (fun _ _ _ h => h) (Or.inl ⟨by rfl, ?_⟩) ?_ ?_
      rotate_left
      · intro w'
        go_simp
        (try simp only [beq_self_eq_true]) <;> with_reducible rfl
      rotate_left
      · simp only [Act.put, List.setIfInBounds_toArray, List.set_cons_zero, List.set_cons_succ, i64_w, i32_w]
        rfl
      refine pure_ (i := 26) (N := some 131) (v := ?_) (a' := ?_) #[true, true, true, true, true, true, true, true, true, true, true, true, true, true, true, true, true, true, true, true, true, true, true, true, true, true, true, false, false] rfl rfl (by kernel_rfl) (fun _ _ _ h => h) (Or.inl ⟨by rfl, ?_⟩) ?_ ?_
      rotate_left
      · intro w'
        go_simp
        with_reducible rfl
      rotate_left
      · simp only [Act.put, List.setIfInBounds_toArray, List.set_cons_zero, List.set_cons_succ, i64_w, i32_w]
        rfl
      refine pure_ (i := 27) (N := some 132) (v := ?_) (a' := ?_) #[true, true, true, true, true, true, true, true, true, true, true, true, true, true, true, true, true, true, true, true, true, true, true, true, true, true, true, true, false] rfl rfl (by kernel_rfl) (fun _ _ _ h => h) (Or.inl ⟨by rfl, ?_⟩) ?_ ?_
      rotate_left
      · intro w'
        go_simp
        with_reducible rfl
      rotate_left
      · simp only [Act.put, List.setIfInBounds_toArray, List.set_cons_zero, List.set_cons_succ, i64_w, i32_w]
        rfl
      refine pure_ (i := 28) (N := some 10) (v := ?_) (a' := ?_) #[true, true, true, true, true, true, true, true, true, true, true, true, true, true, true, true, true, true, true, true, true, true, true, true, true, true, true, true, true] rfl rfl (by kernel_rfl) (fun _ _ _ h => h) (Or.inl ⟨by rfl, ?_⟩) ?_ ?_
      rotate_left
      · intro w'
        go_simp
        with_reducible rfl
      rotate_left
      · simp only [Act.put, List.setIfInBounds_toArray, List.set_cons_zero, List.set_cons_succ, i64_w, i32_w]
        rfl
      refine done_ (by kernel_rfl) ?_
      go_wp2
      go_ret
      exact ⟨by simp, HB14.out⟩
    | true =>
      have h3 : (nm.toList != g.f1.toList) = false := by simp [bne, h2]
      go_wp2
      clear z0 z1 z2 y0 y1 y2
      refine start_ (n := 29) (S := (fun w' => w'.cell? ⟨w.heap.size, 0, none⟩ = some (.int .i64 v) ∧ w'.cell? ⟨w.heap.size, 1, none⟩ = some (.slice A ts.length c) ∧ w'.cell? ⟨w.heap.size, 2, none⟩ = some (.slice B gs.length d) ∧ w'.cell? ⟨w.heap.size + 1, 0, none⟩ = some (.int .i64 g.f0) ∧ w'.cell? ⟨w.heap.size + 1, 1, none⟩ = some (.string g.f1) ∧ w'.cell? ⟨w.heap.size + 1, 2, none⟩ = some (.int .i64 g.f2) ∧ w'.cell? ⟨w6.heap.size, 0, none⟩ = some (.int .i64 v) ∧ w'.cell? ⟨w6.heap.size, 1, none⟩ = some (.slice A ts.length c) ∧ w'.cell? ⟨w6.heap.size, 2, none⟩ = some (.slice A5 L.length c5) ∧ w'.cell? ⟨w7.heap.size, 0, none⟩ = some (.int .i64 v) ∧ w'.cell? ⟨w7.heap.size, 1, none⟩ = some (.slice A ts.length c) ∧ w'.cell? ⟨w7.heap.size, 2, none⟩ = some (.slice A7 L2.length c7))) (ds := []) #[false, false, false, false, false, false, false, false, false, false, false, false, false, false, false, false, false, false, false, false, false, false, false, false, false, false, false, false, false] (by kernel_rfl) rfl rfl ⟨blk_cell HK10.out 0, blk_cell HK10.out 1, blk_cell HK10.out 2, blk_cell HL10.out 0, blk_cell HL10.out 1, blk_cell HL10.out 2, blk_cell HN10.out 0, blk_cell HN10.out 1, blk_cell HN10.out 2, blk_cell HM10.out 0, blk_cell HM10.out 1, blk_cell HM10.out 2⟩ (fun hHeld => ?_)
      refine pure_ (i := 0) (N := some 105) (v := ?_) (a' := ?_) #[true, false, false, false, false, false, false, false, false, false, false, false, false, false, false, false, false, false, false, false, false, false, false, false, false, false, false, false, false] rfl rfl (by kernel_rfl) (fun _ _ _ h => h) (Or.inl ⟨by rfl, ?_⟩) ?_ ?_
      rotate_left
      · intro w'
        go_simp
        with_reducible rfl
      rotate_left
      · simp only [Act.put, List.setIfInBounds_toArray, List.set_cons_zero, List.set_cons_succ, i64_w, i32_w]
        rfl
      refine pure_ (i := 1) (N := some 106) (v := ?_) (a' := ?_) #[true, true, false, false, false, false, false, false, false, false, false, false, false, false, false, false, false, false, false, false, false, false, false, false, false, false, false, false, false] rfl rfl (by kernel_rfl) (fun _ _ _ h => h) (Or.inl ⟨by rfl, ?_⟩) ?_ ?_
      rotate_left
      · intro w'
        go_simp
        with_reducible rfl
      rotate_left
      · simp only [Act.put, List.setIfInBounds_toArray, List.set_cons_zero, List.set_cons_succ, i64_w, i32_w]
        rfl
      refine pure_ (i := 2) (N := some 107) (v := ?_) (a' := ?_) #[true, true, true, false, false, false, false, false, false, false, false, false, false, false, false, false, false, false, false, false, false, false, false, false, false, false, false, false, false] rfl rfl (by kernel_rfl) (fun _ _ _ h => h) (Or.inl ⟨by rfl, ?_⟩) ?_ ?_
      rotate_left
      · intro w'
        go_simp
        with_reducible rfl
      rotate_left
      · simp only [Act.put, List.setIfInBounds_toArray, List.set_cons_zero, List.set_cons_succ, i64_w, i32_w]
        rfl
      refine pure_ (i := 3) (N := some 108) (v := undef) (a' := ?_) #[true, true, true, true, false, false, false, false, false, false, false, false, false, false, false, false, false, false, false, false, false, false, false, false, false, false, false, false, false] rfl rfl (by kernel_rfl) (fun _ _ _ h => h) (Or.inr ⟨by rfl, rfl⟩) ?_ ?_
      rotate_left
      · simp only [Act.put, List.setIfInBounds_toArray, List.set_cons_zero, List.set_cons_succ, i64_w, i32_w]
        rfl
      refine pure_ (i := 4) (N := some 109) (v := undef) (a' := ?_) #[true, true, true, true, true, false, false, false, false, false, false, false, false, false, false, false, false, false, false, false, false, false, false, false, false, false, false, false, false] rfl rfl (by kernel_rfl) (fun _ _ _ h => h) (Or.inr ⟨by rfl, rfl⟩) ?_ ?_
      rotate_left
      · simp only [Act.put, List.setIfInBounds_toArray, List.set_cons_zero, List.set_cons_succ, i64_w, i32_w]
        rfl
      refine pure_ (i := 5) (N := some 110) (v := undef) (a' := ?_) #[true, true, true, true, true, true, false, false, false, false, false, false, false, false, false, false, false, false, false, false, false, false, false, false, false, false, false, false, false] rfl rfl (by kernel_rfl) (fun _ _ _ h => h) (Or.inr ⟨by rfl, rfl⟩) ?_ ?_
      rotate_left
      · simp only [Act.put, List.setIfInBounds_toArray, List.set_cons_zero, List.set_cons_succ, i64_w, i32_w]
        rfl
      refine pure_ (i := 6) (N := some 111) (v := undef) (a' := ?_) #[true, true, true, true, true, true, true, false, false, false, false, false, false, false, false, false, false, false, false, false, false, false, false, false, false, false, false, false, false] rfl rfl (by kernel_rfl) (fun _ _ _ h => h) (Or.inr ⟨by rfl, rfl⟩) ?_ ?_
      rotate_left
      · simp only [Act.put, List.setIfInBounds_toArray, List.set_cons_zero, List.set_cons_succ, i64_w, i32_w]
        rfl
      refine pure_ (i := 7) (N := some 112) (v := undef) (a' := ?_) #[true, true, true, true, true, true, true, true, false, false, false, false, false, false, false, false, false, false, false, false, false, false, false, false, false, false, false, false, false] rfl rfl (by kernel_rfl) (fun _ _ _ h => h) (Or.inr ⟨by rfl, rfl⟩) ?_ ?_
      rotate_left
      · simp only [Act.put, List.setIfInBounds_toArray, List.set_cons_zero, List.set_cons_succ, i64_w, i32_w]
        rfl
      refine pure_ (i := 8) (N := some 113) (v := undef) (a' := ?_) #[true, true, true, true, true, true, true, true, true, false, false, false, false, false, false, false, false, false, false, false, false, false, false, false, false, false, false, false, false] rfl rfl (by kernel_rfl) (fun _ _ _ h => h) (Or.inr ⟨by rfl, rfl⟩) ?_ ?_
      rotate_left
      · simp only [Act.put, List.setIfInBounds_toArray, List.set_cons_zero, List.set_cons_succ, i64_w, i32_w]
        rfl
      refine pure_ (i := 9) (N := some 114) (v := undef) (a' := ?_) #[true, true, true, true, true, true, true, true, true, true, false, false, false, false, false, false, false, false, false, false, false, false, false, false, false, false, false, false, false] rfl rfl (by kernel_rfl) (fun _ _ _ h => h) (Or.inr ⟨by rfl, rfl⟩) ?_ ?_
      rotate_left
      · simp only [Act.put, List.setIfInBounds_toArray, List.set_cons_zero, List.set_cons_succ, i64_w, i32_w]
        rfl
      refine pure_ (i := 10) (N := some 115) (v := undef) (a' := ?_) #[true, true, true, true, true, true, true, true, true, true, true, false, false, false, false, false, false, false, false, false, false, false, false, false, false, false, false, false, false] rfl rfl (by kernel_rfl) (fun _ _ _ h => h) (Or.inr ⟨by rfl, rfl⟩) ?_ ?_
      rotate_left
      · simp only [Act.put, List.setIfInBounds_toArray, List.set_cons_zero, List.set_cons_succ, i64_w, i32_w]
        rfl
      refine pure_ (i := 11) (N := some 116) (v := undef) (a' := ?_) #[true, true, true, true, true, true, true, true, true, true, true, true, false, false, false, false, false, false, false, false, false, false, false, false, false, false, false, false, false] rfl rfl (by kernel_rfl) (fun _ _ _ h => h) (Or.inr ⟨by rfl, rfl⟩) ?_ ?_
      rotate_left
      · simp only [Act.put, List.setIfInBounds_toArray, List.set_cons_zero, List.set_cons_succ, i64_w, i32_w]
        rfl
      refine pure_ (i := 12) (N := some 117) (v := undef) (a' := ?_) #[true, true, true, true, true, true, true, true, true, true, true, true, true, false, false, false, false, false, false, false, false, false, false, false, false, false, false, false, false] rfl rfl (by kernel_rfl) (fun _ _ _ h => h) (Or.inr ⟨by rfl, rfl⟩) ?_ ?_
      rotate_left
      · simp only [Act.put, List.setIfInBounds_toArray, List.set_cons_zero, List.set_cons_succ, i64_w, i32_w]
        rfl
      refine pure_ (i := 13) (N := some 118) (v := undef) (a' := ?_) #[true, true, true, true, true, true, true, true, true, true, true, true, true, true, false, false, false, false, false, false, false, false, false, false, false, false, false, false, false] rfl rfl (by kernel_rfl) (fun _ _ _ h => h) (Or.inr ⟨by rfl, rfl⟩) ?_ ?_
      rotate_left
      · simp only [Act.put, List.setIfInBounds_toArray, List.set_cons_zero, List.set_cons_succ, i64_w, i32_w]
        rfl
      refine pure_ (i := 14) (N := some 119) (v := undef) (a' := ?_) #[true, true, true, true, true, true, true, true, true, true, true, true, true, true, true, false, false, false, false, false, false, false, false, false, false, false, false, false, false] rfl rfl (by kernel_rfl) (fun _ _ _ h => h) (Or.inr ⟨by rfl, rfl⟩) ?_ ?_
      rotate_left
      · simp only [Act.put, List.setIfInBounds_toArray, List.set_cons_zero, List.set_cons_succ, i64_w, i32_w]
        rfl
      refine pure_ (i := 15) (N := some 120) (v := undef) (a' := ?_) #[true, true, true, true, true, true, true, true, true, true, true, true, true, true, true, true, false, false, false, false, false, false, false, false, false, false, false, false, false] rfl rfl (by kernel_rfl) (fun _ _ _ h => h) (Or.inr ⟨by rfl, rfl⟩) ?_ ?_
      rotate_left
      · simp only [Act.put, List.setIfInBounds_toArray, List.set_cons_zero, List.set_cons_succ, i64_w, i32_w]
        rfl
      refine pure_ (i := 16) (N := some 121) (v := undef) (a' := ?_) #[true, true, true, true, true, true, true, true, true, true, true, true, true, true, true, true, true, false, false, false, false, false, false, false, false, false, false, false, false] rfl rfl (by kernel_rfl) (fun _ _ _ h => h) (Or.inr ⟨by rfl, rfl⟩) ?_ ?_
      rotate_left
      · simp only [Act.put, List.setIfInBounds_toArray, List.set_cons_zero, List.set_cons_succ, i64_w, i32_w]
        rfl
      refine pure_ (i := 17) (N := some 122) (v := undef) (a' := ?_) #[true, true, true, true, true, true, true, true, true, true, true, true, true, true, true, true, true, true, false, false, false, false, false, false, false, false, false, false, false] rfl rfl (by kernel_rfl) (fun _ _ _ h => h) (Or.inr ⟨by rfl, rfl⟩) ?_ ?_
      rotate_left
      · simp only [Act.put, List.setIfInBounds_toArray, List.set_cons_zero, List.set_cons_succ, i64_w, i32_w]
        rfl
      refine pure_ (i := 18) (N := some 123) (v := undef) (a' := ?_) #[true, true, true, true, true, true, true, true, true, true, true, true, true, true, true, true, true, true, true, false, false, false, false, false, false, false, false, false, false] rfl rfl (by kernel_rfl) (fun _ _ _ h => h) (Or.inr ⟨by rfl, rfl⟩) ?_ ?_
      rotate_left
      · simp only [Act.put, List.setIfInBounds_toArray, List.set_cons_zero, List.set_cons_succ, i64_w, i32_w]
        rfl
      refine pure_ (i := 19) (N := some 124) (v := undef) (a' := ?_) #[true, true, true, true, true, true, true, true, true, true, true, true, true, true, true, true, true, true, true, true, false, false, false, false, false, false, false, false, false] rfl rfl (by kernel_rfl) (fun _ _ _ h => h) (Or.inr ⟨by rfl, rfl⟩) ?_ ?_
      rotate_left
      · simp only [Act.put, List.setIfInBounds_toArray, List.set_cons_zero, List.set_cons_succ, i64_w, i32_w]
        rfl
      refine pure_ (i := 20) (N := some 125) (v := undef) (a' := ?_) #[true, true, true, true, true, true, true, true, true, true, true, true, true, true, true, true, true, true, true, true, true, false, false, false, false, false, false, false, false] rfl rfl (by kernel_rfl) (fun _ _ _ h => h) (Or.inr ⟨by rfl, rfl⟩) ?_ ?_
      rotate_left
      · simp only [Act.put, List.setIfInBounds_toArray, List.set_cons_zero, List.set_cons_succ, i64_w, i32_w]
        rfl
      refine pure_ (i := 21) (N := some 126) (v := undef) (a' := ?_) #[true, true, true, true, true, true, true, true, true, true, true, true, true, true, true, true, true, true, true, true, true, true, false, false, false, false, false, false, false] rfl rfl (by kernel_rfl) (fun _ _ _ h => h) (Or.inr ⟨by rfl, rfl⟩) ?_ ?_
      rotate_left
      · simp only [Act.put, List.setIfInBounds_toArray, List.set_cons_zero, List.set_cons_succ, i64_w, i32_w]
        rfl
      refine pure_ (i := 22) (N := some 127) (v := undef) (a' := ?_) #[true, true, true, true, true, true, true, true, true, true, true, true, true, true, true, true, true, true, true, true, true, true, true, false, false, false, false, false, false] rfl rfl (by kernel_rfl) (fun _ _ _ h => h) (Or.inr ⟨by rfl, rfl⟩) ?_ ?_
      rotate_left
      · simp only [Act.put, List.setIfInBounds_toArray, List.set_cons_zero, List.set_cons_succ, i64_w, i32_w]
        rfl
      refine pure_ (i := 23) (N := some 128) (v := undef) (a' := ?_) #[true, true, true, true, true, true, true, true, true, true, true, true, true, true, true, true, true, true, true, true, true, true, true, true, false, false, false, false, false] rfl rfl (by kernel_rfl) (fun _ _ _ h => h) (Or.inr ⟨by rfl, rfl⟩) ?_ ?_
      rotate_left
      · simp only [Act.put, List.setIfInBounds_toArray, List.set_cons_zero, List.set_cons_succ, i64_w, i32_w]
        rfl
      refine pure_ (i := 24) (N := some 129) (v := undef) (a' := ?_) #[true, true, true, true, true, true, true, true, true, true, true, true, true, true, true, true, true, true, true, true, true, true, true, true, true, false, false, false, false] rfl rfl (by kernel_rfl) (fun _ _ _ h => h) (Or.inr ⟨by rfl, rfl⟩) ?_ ?_
      rotate_left
      · simp only [Act.put, List.setIfInBounds_toArray, List.set_cons_zero, List.set_cons_succ, i64_w, i32_w]
        rfl
      refine pure_ (i := 25) (N := some 130) (v := undef) (a' := ?_) #[true, true, true, true, true, true, true, true, true, true, true, true, true, true, true, true, true, true, true, true, true, true, true, true, true, true, false, false, false] rfl rfl (by kernel_rfl) (fun _ _ _ h => h) (Or.inr ⟨by rfl, rfl⟩) ?_ ?_
      rotate_left
      · simp only [Act.put, List.setIfInBounds_toArray, List.set_cons_zero, List.set_cons_succ, i64_w, i32_w]
        rfl
      refine pure_ (i := 26) (N := some 131) (v := undef) (a' := ?_) #[true, true, true, true, true, true, true, true, true, true, true, true, true, true, true, true, true, true, true, true, true, true, true, true, true, true, true, false, false] rfl rfl (by kernel_rfl) (fun _ _ _ h => h) (Or.inr ⟨by rfl, rfl⟩) ?_ ?_
      rotate_left
      · simp only [Act.put, List.setIfInBounds_toArray, List.set_cons_zero, List.set_cons_succ, i64_w, i32_w]
        rfl
      refine pure_ (i := 27) (N := some 132) (v := ?_) (a' := ?_) #[true, true, true, true, true, true, true, true, true, true, true, true, true, true, true, true, true, true, true, true, true, true, true, true, true, true, true, true, false] rfl rfl (by kernel_rfl) (fun _ _ _ h => h) (Or.inl ⟨by rfl, ?_⟩) ?_ ?_
      rotate_left
      · intro w'
        go_simp
        with_reducible rfl
      rotate_left
      · simp only [Act.put, List.setIfInBounds_toArray, List.set_cons_zero, List.set_cons_succ, i64_w, i32_w]
        rfl
      refine pure_ (i := 28) (N := some 10) (v := ?_) (a' := ?_) #[true, true, true, true, true, true, true, true, true, true, true, true, true, true, true, true, true, true, true, true, true, true, true, true, true, true, true, true, true] rfl rfl (by kernel_rfl) (fun _ _ _ h => h) (Or.inl ⟨by rfl, ?_⟩) ?_ ?_
      rotate_left
      · intro w'
        go_simp
        with_reducible rfl
      rotate_left
      · simp only [Act.put, List.setIfInBounds_toArray, List.set_cons_zero, List.set_cons_succ, i64_w, i32_w]
        rfl
      refine done_ (by kernel_rfl) ?_
      go_wp2
      go_ret
      exact ⟨rfl, below_drew HB10.out⟩

theorem gives_law (v : Int) (ts : List S45) (A : Option Addr) (c : Nat) (gs : List S27) (B : Option Addr) (d : Nat) (g : S27) (role : Int) (nm : ByteArray) (bits : Int) (w : World) (hr : Kd.C k45 w A ts.length ts) (hc : ts.length ≤ c) (hg : Kd.C k27 w B gs.length gs) (hd : gs.length ≤ d) (hT : Tabs w) (hgs : g.f1.size ≤ 9223372036854775807) (hs : okS gs) (ht : ∀ t, t ∈ ts → OkT t) :
    Calls Tryd.prog 9 #[.agg #[.int .i64 v, .slice A ts.length c, .slice B gs.length d], .agg #[.int .i64 g.f0, .string g.f1, .int .i64 g.f2], .int .i64 role, .string nm, .int .i64 bits] w (BoolPost true w) := by
  have hnl : ts.length ≤ 9223372036854775807 := hr.2.1
  have hng : gs.length ≤ 9223372036854775807 := hg.2.1
  obtain ⟨rG, kG, hG⟩ := great_ev v ts gs hnl hng ht
  obtain ⟨kS, hS⟩ := sorted_ev gs hs hng
  obtain ⟨kF, hF⟩ := find_ev v ts gs g.f1 hnl
  obtain ⟨kW, hW⟩ := owns_ev v ts gs g.f0 g.f1 hnl
  have hG := hG kG (Nat.le_refl _)
  have hS := hS kS (Nat.le_refl _)
  have hF : Aside0 _ := ⟨hF kF (Nat.le_refl _)⟩
  have hW : Aside0 _ := ⟨hW kW (Nat.le_refl _)⟩
  cases rG with
  | true => exact gives_great v ts A c gs B d g role nm bits w hr hc hg hd hT hgs kG ⟨hG⟩
  | false =>
    have hG : Aside0 (mortmainref09_Great.f kG v ts gs = some false) := ⟨hG⟩
    cases hsr : refS gs 0 gs.length with
    | false => exact gives_unsorted v ts A c gs B d g role nm bits w hr hc hg hd hT hgs kG hG kS ⟨hsr ▸ hS⟩
    | true =>
      have hS : Aside0 (mortmainref10_Sorted.f kS gs = some true) := ⟨hsr ▸ hS⟩
      have h64 := (refS_iff gs).1 hsr
      cases hlen : decide (300 < wrap64 ((nm.size : Int) + (g.f1.size : Int))) with
      | true => exact gives_long v ts A c gs B d g role nm bits w hr hc hg hd hT hgs kG hG kS hS hlen
      | false =>
        by_cases hok : goodG g = true ∧ (searchIs gs g = true ∨ gs.length < 64)
        · obtain ⟨L, L2, hP⟩ := put_p h64 hok.1 hok.2
          by_cases hf : findT ts g.f1 < 0
          · exact gives_nofind v ts A c gs B d g role nm bits w hr hc hg hd hT hgs kG hG kS hS hlen L L2 ⟨hP⟩ kF hF (decide_eq_true hf)
          · obtain ⟨q1, q2, q3⟩ := gives_p ts role nm bits h64 hok.1 hok.2 (show 0 ≤ findT ts g.f1 by omega)
            rw [hP.E1] at q1 q2 q3
            rw [hP.E2] at q2 q3
            exact gives_main v ts A c gs B d g role nm bits w hr hc hg hd hT hgs kG hG kS hS hlen L L2 ⟨hP⟩ kF hF (decide_eq_false hf) kW hW ⟨⟨q1, q2, q3⟩⟩
        · exact gives_no v ts A c gs B d g role nm bits w hr hc hg hd hT hgs kG hG kS hS hlen h64 hok
end Go.Proofs.YtefdfgmlmjnmlaaDoor.My
end

section
set_option linter.unusedVariables false
/- The row and the card of the law GrantGives. -/
namespace Go.Proofs.YtefdfgmlmjnmlaaDoor.My
open Go.ChangeShapes Go.WideShapes Go.ChangeAt Go.RowKit
open Go.ChangeMaps (open_string shut_string)
open Go.Proofs.YtefdfgmlmjnmlaaDoorW.PrintWords Go.Proofs.YtefdfgmlmjnmlaaDoor.Rf
open Go.Proofs.YtefdfgmlmjnmlaaDoor

set_option maxRecDepth 100000 in
theorem grantGives_lifted (os : Os) (started : os.Started) (H : Type) (enc : TypeId × Value → H) :
    ReturnsInHanded {} Tryd.checked os 9 .any (fun w args => (Rows.grantGivesSpec.pre enc Tryd.prog Tryd.f9 Rows.grantGivesRow.domain false w args ∧ laidMetH Tryd.prog tabs w) ∧ sizedMet enc Tryd.prog Tryd.f9 (OpenSpec.ofChange Rows.grantGivesSpec) false w args)
      (Rows.grantGivesSpec.post enc Tryd.prog Tryd.f9 false true false false) := by
  refine returnsInHanded_of_change_and (C := Tryd.checked) (X := (fun w _ => laidMetH Tryd.prog tabs w)) (fun _ _ _ hh h => h.of_heap hh) own started (by kernel_rfl) Tryd.func9
    (ChangeSpec.witness_shaped (enc := enc) (C := Tryd.checked) (os := os) (X := (fun w _ => laidMetH Tryd.prog tabs w)) false (World.laidAll Tryd.prog os tabs) #[.agg #[.int .i64 0, .slice none 0 0, .slice none 0 0], .agg #[.int .i64 0, .string ByteArray.empty, .int .i64 0], .int .i64 0, .string ByteArray.empty, .int .i64 0] 8 (World.laidAll_os _ _ _)
      (World.shaped_of_ZipB (by kernel_rfl) (by kernel_rfl)) (by kernel_rfl) (by kernel_rfl) (by kernel_rfl)
      (by rw [MakeChecks.laidMetH_plain _ _ _ (by kernel_rfl)]; exact laidMet_laidAll _ (by kernel_rfl) (by kernel_rfl))) ?_
  intro W base args ds gs before hval0 hW hc _ hL _
  have hval : ∀ (j : Nat) t v, Tryd.f9.params[j]? = some t → args[j]? = some v → Value.okWide Tryd.prog W .any base t v := hval0
  have hW' := hW
  obtain ⟨p, q, hA0, hV, rfl, _, _⟩ := hW
  have hA : DataW.TrodAll enc Tryd.prog W 0 (fun _ => true) true Tryd.f9.params.toList args.toList ds p := hA0
  rw [Tryd.params9] at hA hval
  obtain ⟨v0, vs0, d0, ds0, p0, q0, hargs, rfl, rfl, h0, r0⟩ := trodAll_cons hA
  obtain ⟨v1, vs1, d1, ds1, p1, q1, rfl, rfl, rfl, h1, r1⟩ := trodAll_cons r0
  obtain ⟨v2, vs2, d2, ds2, p2, q2, rfl, rfl, rfl, h2, r2⟩ := trodAll_cons r1
  obtain ⟨v3, vs3, d3, ds3, p3, q3, rfl, rfl, rfl, h3, r3⟩ := trodAll_cons r2
  obtain ⟨v4, vs4, d4, ds4, p4, q4, rfl, rfl, rfl, h4, r4⟩ := trodAll_cons r3
  obtain ⟨rfl, rfl, rfl⟩ := trodAll_nil r4
  obtain rfl : args = #[v0, v1, v2, v3, v4] := by cases args; simp_all
  obtain ⟨rfl, rfl⟩ := trodVars_none hV
  have k0 := h0
  have lt0 : ∀ x ∈ p0, x.block < W.heap.size := by obtain ⟨m, hm⟩ := k0; exact DataW.trod_lt m _ _ _ hm
  obtain ⟨cs0, rfl, _⟩ := okWide_struct Tryd.underlying25 (hval 0 25 v0 rfl rfl)
  obtain ⟨fu0, hf0⟩ := h0
  obtain ⟨s0, A0, c0, l0, B0, d0, m0, e0, sw0, lc0, hC0, qT0, ld0, hD0, qG0⟩ := open25 hf0
  have e0 : cs0 = #[.int .i64 s0, .slice A0 l0.length c0, .slice B0 m0.length d0] := Array.toList_inj.1 e0
  subst e0
  have k1 := h1
  have lt1 : ∀ x ∈ p1, x.block < W.heap.size := by obtain ⟨m, hm⟩ := k1; exact DataW.trod_lt m _ _ _ hm
  obtain ⟨cs1, rfl, _⟩ := okWide_struct Tryd.underlying27 (hval 1 27 v1 rfl rfl)
  obtain ⟨fu1, hf1⟩ := h1
  obtain ⟨g1, e1, q1⟩ := open27 hf1
  have e1 := k27_open e1
  have e1 : cs1 = #[.int .i64 g1.f0, .string g1.f1, .int .i64 g1.f2] := Array.toList_inj.1 e1
  subst e1
  obtain ⟨a2, rfl, rfl, rfl, w2⟩ := open_int Tryd.underlying3 (hval 2 3 v2 rfl rfl) h2
  obtain ⟨a3, rfl, rfl, rfl, w3⟩ := open_string Tryd.underlying9 (hval 3 9 v3 rfl rfl) h3
  obtain ⟨a4, rfl, rfl, rfl, w4⟩ := open_int Tryd.underlying3 (hval 4 3 v4 rfl rfl) h4
  have hT := tabs_of hL
  clear hA0 hval0
  have hOk : ∀ t, t ∈ l0 → OkT t := fun t ht => by
    obtain ⟨c, hc⟩ := C_each hC0 ht
    exact okT_of hc
  refine (gives_law s0 l0 A0 c0 m0 B0 d0 g1 a2 a3 a4 W hC0 lc0 hD0 ld0 hT q1.b (fun g hg => (qG0 g hg).b) hOk).mono fun e W' ⟨he, bel⟩ => ?_
  subst he
  exact ⟨_, rfl, _, _, _, [], _, [], hW', trodAll_mk1 (shut_bool Tryd.underlying4 _), (trodAll_cons_mk (Below.trod laidOut (by kernel_rfl) (of_decide_eq_true (by kernel_rfl)) k0 bel lt0) (trodAll_cons_mk (Below.trod laidOut (by kernel_rfl) (of_decide_eq_true (by kernel_rfl)) k1 bel lt1) (trodAll_cons_mk (shut_int Tryd.underlying3 w2) (trodAll_cons_mk (shut_string Tryd.underlying9 w3) (trodAll_cons_mk (shut_int Tryd.underlying3 w4) trodAll_mk0))))), rfl, bel.frame _, fun h => by cases h⟩

theorem grantGives_holds : Rows.GrantGivesSaid :=
  OpenClaim.holds_of_wide 9 Tryd.f9 rfl rfl rfl rfl rfl rfl rfl ⟨rfl, rfl, rfl, rfl, rfl⟩ rfl rfl rfl rfl rfl (by kernel_rfl) Tryd.func9 (by kernel_rfl)
    (of_decide_eq_true (by kernel_rfl)) (by unfold Func.isWrapper; first | (rw [if_pos (by decide +kernel)]; kernel_rfl) | (rw [if_neg (by decide +kernel)]; exact ⟨rfl, rfl⟩))
    (fun os started H enc _ => grantGives_lifted os started H enc)

theorem grantGives_card : Rows.GrantGivesCardSaid :=
  Claim7.holds_tied_plain_at .later [] [.data, .pinned] true (true, "ad361f8c9010d8bc8c83665426ff667c1a83a32d80b366ff0bd14d2eb2135fde") true grantGives_holds (fun _ h => by cases h) (by kernel_rfl) (fun _ h => by cases h) grantGives_row_tie rfl ⟨rfl, rfl⟩ (by kernel_rfl) rfl
    (fun f fn hf hfn => by
      obtain rfl : f = 9 := Option.some.inj ((show Tryd.prog.funcNamed "mortmain/mortmainlaw10.GrantGives" = some 9 by kernel_rfl).symm.trans hf) |>.symm
      obtain rfl : fn = Tryd.f9 := (Option.some.inj (Tryd.func9.symm.trans hfn)).symm
      exact ⟨by kernel_rfl, fun j t ht => by
        rw [Tryd.params9] at ht
        have hm : t ∈ [25, 27, 3, 9, 3] := by simpa using Array.mem_of_getElem? ht
        have hall : ([25, 27, 3, 9, 3].all fun u => !Tryd.prog.wantsStandIn u) = true := by kernel_rfl
        exact (show Tryd.prog.wantsStandIn t = false by simpa using List.all_eq_true.1 hall t hm)⟩)
    (by kernel_rfl)
#print axioms grantGives_card
end Go.Proofs.YtefdfgmlmjnmlaaDoor.My
end
