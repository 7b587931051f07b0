/-
  The walk of LanguagePrefixes.
-/
import Derived.Test.YtaiogolidlamiaaGreatDoorM41
set_option linter.unusedVariables false
set_option linter.unusedSimpArgs false
namespace Go.Proofs.YtaiogolidlamiaaGreatDoor

set_option maxRecDepth 100000
open Go.RowKit Go.Shelf
set_option maxHeartbeats 4000000 in
theorem Z6 (S1 A1 n1 c1 : Nat) (a1 : Option Addr) (lu : List UInt8) (vu : Value) (w : World) (hT : Tab w) (hsz : 0 < w.heap.size) (h1 : RawAt w S1 a1 n1 c1 A1) (hu : ByW w vu lu) :
  Calls Tryz.prog 9 #[.agg (Bx S1 a1 n1 c1 A1), vu] w fun e w' => e = .returned (.bool true) ∧ Ext w w' := by
 have HTa := Lib.hid (fun W (hW : Ext w W) => hT.below hW.below hsz);have HSZ := Lib.hid (fun W (hW : Ext w W) => Nat.lt_of_lt_of_le hsz hW.size);have HRA := Lib.hid (fun W (hW : Ext w W) => h1.ext hW);have HFU := Lib.hid (fun W (hW : Ext w W) => Aex 8 8 rfl (by decide) lu vu W (hu.ext hW));have hS := fun W hT hs => Lib.hid (Ma W hT hs)
 have hE := (Ext.refl w).alloc (.cells (Bx S1 a1 n1 c1 A1) 24);have H3 := Ab w (.cells (Bx S1 a1 n1 c1 A1) 24);obtain ⟨au, bu, ou, cu, rfl, -, -, -⟩ := hu.split;clear hT hsz h1 hu;have info24r1 := Kq S1 a1 n1 c1 A1;obtain ⟨R1, hR1⟩ : ∃ X, Bx S1 a1 n1 c1 A1 = X := ⟨_, rfl⟩;have HMA : Hid (∀ W, Ext w W → Ja R1 W) := Lib.hid (fun W hW => by rw [← hR1]; exact Kf (HRA.out W hW));rw [hR1] at hE H3;rw [hR1] at info24r1;rw [hR1];clear hR1 HRA;go_enter Tryz.func9, Tryz.ntmps9;go_upto_region 1 with (fail)
 obtain ⟨w2, hw2⟩ : ∃ W, w.alloc (.cells R1 24) = W := ⟨_, rfl⟩;rw [hw2] at hE H3;simp only [hw2];clear hw2;have HR2 := Lib.hid H3;clear H3;have f12 := hS w2 (HTa.out w2 hE) (HSZ.out w2 hE);go_upto_region 2 with (first
  | (go_at_call 12; (with_reducible refine f12.out.mono ?_); rintro e w7 ⟨rfl, hEn⟩))
 have hstep := hEn;clear f12 hS;replace HR2 := Lib.hid (hstep.heap HR2.out);replace hE := hE.trans hstep;clear hEn hstep;have f26 := Lib.hid (HMA.out w7 hE);go_upto_region 3 with (first
  | (refine wpList_load_row rfl 24 (.tmp 2) rfl _ rfl _ _ _ _ HR2.out Tryz.underlying24 rfl info24r1 ?_)
  | (go_at_call 26; (with_reducible refine f26.out.mono ?_); rintro e w8 ⟨d, v, rfl, hD, hft, hEn⟩; obtain ⟨ac, lc, cc, an, cn, aa, la, ca, rfl⟩ := hD.agg)
  | (refine wpList_store_row rfl 30 (.tmp 6) (.tmp 20) rfl _ _ rfl rfl _ _ (Ab w8 _) Ad rfl (Ak _ _ _ rfl rfl rfl) ?_))
 obtain ⟨hEb, hXb, hDb⟩ := B3 hD;obtain ⟨V6, hV⟩ : ∃ X, dA (.slice ac lc cc) (.slice an d.nxt.length cn) (.slice aa la ca) = X := ⟨_, rfl⟩;have hi6 : (Tryz.prog.info? 30).map (·.size) = some V6.size := by rw [← hV]; exact Ad
 rw [hV] at hEb hXb hDb;rw [hV];obtain ⟨w6x, hw⟩ : ∃ W, (w8.alloc (.cells #[.slice none 0 0, .slice none 0 0, .slice none 0 0] 30)).setRow w8.heap.size V6 = W := ⟨_, rfl⟩;rw [hw] at hEb hXb hDb;simp only [hw];obtain ⟨g6, hg⟩ : ∃ y, w8.heap.size = y := ⟨_, rfl⟩;rw [hg] at hXb;rw [hg];have hstep := hEn.trans hEb;have HX6 := Lib.hid hXb;have HD6 := Lib.hid hDb;have HF6 := Lib.hid (And.intro hft.1 (Nat.le_trans hft.2 (show 5 ≤ 64 by decide)));clear hft f26;replace HR2 := Lib.hid (hstep.heap HR2.out);replace hE := hE.trans hstep;clear hD hEb hXb hDb hV hw hg hEn hstep;have f27 := Lib.hid (HFU.out w6x hE);go_upto_region 4 with (first
  | (go_at_call 27; (with_reducible refine f27.out.mono ?_); rintro e w9 ⟨x, g7, c7, rfl, hx8, hbx, hcp, hEn⟩))
 have hstep := hEn;have HBX := Lib.hid hbx;have HCP := Lib.hid hcp;clear hbx f27 hcp;replace HX6 := Lib.hid (hstep.heap HX6.out);replace HD6 := Lib.hid (HD6.out.ext hstep);replace HR2 := Lib.hid (hstep.heap HR2.out);replace hE := hE.trans hstep;clear hEn hstep;have f16 := Lib.hid (Re d HF6.out _ w9 (HTa.out w9 hE) (HSZ.out w9 hE) HD6.out);go_upto_region 5 with (first
  | (refine wpList_load_row rfl 30 (.tmp 6) rfl _ rfl _ _ _ _ HX6.out Tryz.underlying30 rfl hi6 ?_)
  | (go_at_call 16; (with_reducible refine f16.out.mono ?_); rintro e w10 ⟨p, v, rfl, hD, hft, hEn⟩; obtain ⟨ac, lc, cc, an, cn, aa, la, ca, rfl⟩ := hD.agg)
  | (refine wpList_store_row rfl 30 (.tmp 8) (.tmp 26) rfl _ _ rfl rfl _ _ (Ab w10 _) Ad rfl (Ak _ _ _ rfl rfl rfl) ?_))
 obtain ⟨hEb, hXb, hDb⟩ := B3 hD;obtain ⟨V8, hV⟩ : ∃ X, dA (.slice ac lc cc) (.slice an p.nxt.length cn) (.slice aa la ca) = X := ⟨_, rfl⟩;have hi8 : (Tryz.prog.info? 30).map (·.size) = some V8.size := by rw [← hV]; exact Ad
 rw [hV] at hEb hXb hDb;rw [hV];obtain ⟨w8x, hw⟩ : ∃ W, (w10.alloc (.cells #[.slice none 0 0, .slice none 0 0, .slice none 0 0] 30)).setRow w10.heap.size V8 = W := ⟨_, rfl⟩;rw [hw] at hEb hXb hDb;simp only [hw];obtain ⟨g8, hg⟩ : ∃ y, w10.heap.size = y := ⟨_, rfl⟩;rw [hg] at hXb;rw [hg];have hstep := hEn.trans hEb;have HX8 := Lib.hid hXb;have HD8 := Lib.hid hDb;have HF8 := Lib.hid hft;clear hft f16;replace HX6 := Lib.hid (hstep.heap HX6.out);replace HD6 := Lib.hid (HD6.out.ext hstep);replace HR2 := Lib.hid (hstep.heap HR2.out);replace HBX := Lib.hid (HBX.out.ext hstep);replace hE := hE.trans hstep;clear hD hEb hXb hDb hV hw hg hEn hstep;have f16 := Lib.hid (Re p ⟨HF8.out.1.val, HF8.out.2.1⟩ _ w8x (HTa.out w8x hE) (HSZ.out w8x hE) HD8.out);go_upto_region 6 with (first
  | (refine wpList_load_row rfl 30 (.tmp 8) rfl _ rfl _ _ _ _ HX8.out Tryz.underlying30 rfl hi8 ?_)
  | (go_at_call 16; (with_reducible refine f16.out.mono ?_); rintro e w11 ⟨pp, v, rfl, hD, hft, hEn⟩; obtain ⟨ac, lc, cc, an, cn, aa, la, ca, rfl⟩ := hD.agg)
  | (refine wpList_store_row rfl 30 (.tmp 10) (.tmp 31) rfl _ _ rfl rfl _ _ (Ab w11 _) Ad rfl (Ak _ _ _ rfl rfl rfl) ?_))
 obtain ⟨hEb, hXb, hDb⟩ := B3 hD;obtain ⟨V10, hV⟩ : ∃ X, dA (.slice ac lc cc) (.slice an pp.nxt.length cn) (.slice aa la ca) = X := ⟨_, rfl⟩;have hi10 : (Tryz.prog.info? 30).map (·.size) = some V10.size := by rw [← hV]; exact Ad
 rw [hV] at hEb hXb hDb;rw [hV];obtain ⟨w10x, hw⟩ : ∃ W, (w11.alloc (.cells #[.slice none 0 0, .slice none 0 0, .slice none 0 0] 30)).setRow w11.heap.size V10 = W := ⟨_, rfl⟩;rw [hw] at hEb hXb hDb;simp only [hw];obtain ⟨g10, hg⟩ : ∃ y, w11.heap.size = y := ⟨_, rfl⟩;rw [hg] at hXb;rw [hg];have hstep := hEn.trans hEb;have HX10 := Lib.hid hXb;have HD10 := Lib.hid hDb;have HF10 := Lib.hid hft;clear hft f16;replace HX6 := Lib.hid (hstep.heap HX6.out);replace HD6 := Lib.hid (HD6.out.ext hstep);replace HX8 := Lib.hid (hstep.heap HX8.out);replace HD8 := Lib.hid (HD8.out.ext hstep);replace HR2 := Lib.hid (hstep.heap HR2.out);replace HBX := Lib.hid (HBX.out.ext hstep);replace hE := hE.trans hstep;clear hD hEb hXb hDb hV hw hg hEn hstep;have e1 : decide (p = pp) = true := decide_eq_true (Ep HF8.out.1 HF10.out.1 fun u => by
  rw [Bool.eq_iff_iff, HF10.out.2.2, HF8.out.2.2];constructor
  ·rintro ⟨y, hy⟩;exact ⟨[], (HF8.out.2.2 _).2 ⟨y, by rw [List.append_nil]; exact hy⟩⟩
  ·rintro ⟨y, hy⟩;obtain ⟨z, hz⟩ := (HF8.out.2.2 _).1 hy;exact ⟨y ++ z, by rw [← List.append_assoc]; exact hz⟩)
 have f24 := Lib.hid (Hs p pp _ _ w10x HD8.out HD10.out);rw [e1] at f24;clear e1;go_upto_region 8 with (first
  | (refine E8 rfl 30 (.tmp 8) rfl _ rfl _ _ _ _ HX8.out Tryz.underlying30 rfl hi8 ?_)
  | (refine E8 rfl 30 (.tmp 10) rfl _ rfl _ _ _ _ HX10.out Tryz.underlying30 rfl hi10 ?_)
  | (go_at_call 24; (with_reducible refine f24.out.mono ?_); rintro e w12 ⟨rfl, hEn⟩))
 have hstep := hEn;clear f24;replace HX6 := Lib.hid (hstep.heap HX6.out);replace HD6 := Lib.hid (HD6.out.ext hstep);replace HX8 := Lib.hid (hstep.heap HX8.out);replace HD8 := Lib.hid (HD8.out.ext hstep);replace HX10 := Lib.hid (hstep.heap HX10.out);replace HD10 := Lib.hid (HD10.out.ext hstep);replace HR2 := Lib.hid (hstep.heap HR2.out);replace HBX := Lib.hid (HBX.out.ext hstep);replace hE := hE.trans hstep;clear hEn hstep;obtain ⟨lv, hlv⟩ : ∃ b, p.has x = b := ⟨_, rfl⟩;have f29 := Lib.hid (E7 p HF8.out.1.val HF8.out.2.1 _ x _ w12 (HTa.out w12 hE) (HSZ.out w12 hE) HD8.out HBX.out);rw [hlv] at f29;have HLV := Lib.hid hlv;clear hlv;go_upto_region 9 with (first
  | (refine wpList_load_row rfl 30 (.tmp 8) rfl _ rfl _ _ _ _ HX8.out Tryz.underlying30 rfl hi8 ?_)
  | (go_at_call 29; (with_reducible refine f29.out.mono ?_); rintro e w13 ⟨rfl, hEn⟩))
 have hstep := hEn;clear f29;replace HX6 := Lib.hid (hstep.heap HX6.out);replace HD6 := Lib.hid (HD6.out.ext hstep);replace HX8 := Lib.hid (hstep.heap HX8.out);replace HD8 := Lib.hid (HD8.out.ext hstep);replace HX10 := Lib.hid (hstep.heap HX10.out);replace HD10 := Lib.hid (HD10.out.ext hstep);replace HR2 := Lib.hid (hstep.heap HR2.out);replace HBX := Lib.hid (HBX.out.ext hstep);replace hE := hE.trans hstep;clear hEn hstep;have f14 := Lib.hid (Hu d HF6.out _ x _ w13 (HTa.out w13 hE) (HSZ.out w13 hE) HD6.out HBX.out);go_upto_region 10 with (first
  | (refine wpList_load_row rfl 30 (.tmp 6) rfl _ rfl _ _ _ _ HX6.out Tryz.underlying30 rfl hi6 ?_)
  | (go_at_call 14; (with_reducible refine f14.out.mono ?_); rintro e w14 ⟨q, v, rfl, hD, hft, hEn⟩; obtain ⟨ac, lc, cc, an, cn, aa, la, ca, rfl⟩ := hD.agg)
  | (refine wpList_store_row rfl 30 (.tmp 13) (.tmp 52) rfl _ _ rfl rfl _ _ (Ab w14 _) Ad rfl (Ak _ _ _ rfl rfl rfl) ?_))
 obtain ⟨hEb, hXb, hDb⟩ := B3 hD;obtain ⟨V13, hV⟩ : ∃ X, dA (.slice ac lc cc) (.slice an q.nxt.length cn) (.slice aa la ca) = X := ⟨_, rfl⟩;have hi13 : (Tryz.prog.info? 30).map (·.size) = some V13.size := by rw [← hV]; exact Ad
 rw [hV] at hEb hXb hDb;rw [hV];obtain ⟨w13x, hw⟩ : ∃ W, (w14.alloc (.cells #[.slice none 0 0, .slice none 0 0, .slice none 0 0] 30)).setRow w14.heap.size V13 = W := ⟨_, rfl⟩;rw [hw] at hEb hXb hDb;simp only [hw];obtain ⟨g13, hg⟩ : ∃ y, w14.heap.size = y := ⟨_, rfl⟩;rw [hg] at hXb;rw [hg];have hstep := hEn.trans hEb;have HX13 := Lib.hid hXb;have HD13 := Lib.hid hDb;have HF13 := Lib.hid hft;clear hft f14;replace HX6 := Lib.hid (hstep.heap HX6.out);replace HD6 := Lib.hid (HD6.out.ext hstep);replace HX8 := Lib.hid (hstep.heap HX8.out);replace HD8 := Lib.hid (HD8.out.ext hstep);replace HX10 := Lib.hid (hstep.heap HX10.out);replace HD10 := Lib.hid (HD10.out.ext hstep);replace HR2 := Lib.hid (hstep.heap HR2.out);replace HBX := Lib.hid (HBX.out.ext hstep);replace hE := hE.trans hstep;clear hD hEb hXb hDb hV hw hg hEn hstep;have hlq : lv = true ↔ ∃ u, q.has u = true := by
  rw [← HLV.out, HF8.out.2.2];simp only [HF13.out.2.2]
 have f40 := Lib.hid (Ac4 q ⟨HF13.out.1.val, HF13.out.2.1⟩ lv hlq _ w13x (HTa.out w13x hE) (HSZ.out w13x hE) HD13.out);clear hlq;go_upto_region 11 with (first
  | (refine wpList_load_row rfl 30 (.tmp 13) rfl _ rfl _ _ _ _ HX13.out Tryz.underlying30 rfl hi13 ?_)
  | (go_at_call 40; (with_reducible refine f40.out.mono ?_); rintro e w15 ⟨aq, nq, cq, rfl, hEn⟩))
 have hstep := hEn;clear f40;replace HX6 := Lib.hid (hstep.heap HX6.out);replace HD6 := Lib.hid (HD6.out.ext hstep);replace HX8 := Lib.hid (hstep.heap HX8.out);replace HD8 := Lib.hid (HD8.out.ext hstep);replace HX10 := Lib.hid (hstep.heap HX10.out);replace HD10 := Lib.hid (HD10.out.ext hstep);replace HX13 := Lib.hid (hstep.heap HX13.out);replace HD13 := Lib.hid (HD13.out.ext hstep);replace HR2 := Lib.hid (hstep.heap HR2.out);replace HBX := Lib.hid (HBX.out.ext hstep);replace hE := hE.trans hstep;clear hEn hstep;have hcap : x.length ≤ c7 := HCP.out;go_wp2_with (fail);go_loopw [17] (fun vi W => ∃ i : Nat, i ≤ x.length ∧ vi = .int .i64 i ∧ Ext w15 W)
  (fun vi _ => x.length - (intOf vi).toNat)
 case atStart => exact ⟨0, by omega, rfl, Ext.refl _⟩
 case round =>
  obtain ⟨i, hi, rfl, hEr⟩ := hrel;obtain ⟨wo, hwo⟩ : ∃ W, W = wr := ⟨_, rfl⟩;subst hwo;by_cases hlt : i < x.length
  ·have hix : (i : Int) < (x.length : Int) := by omega
   go_upto_region 14 with (fail)
   have hEw := hE.trans hEr;have HX8r := Lib.hid (hEr.heap HX8.out);cases lv with
   | false =>
    refine O8 89 true [.bool false, .bool false, undef, undef, undef, undef, undef, undef, .bool false] [.keep, .keep, .skip, .skip, .skip, .skip, .skip, .skip, .pure] (fun _ => by kernel_rfl) (by kernel_rfl) rfl rfl (fun W => by kernel_rfl) (by kernel_rfl) ?_;intro W hW;simp only [Cl, Act.put, List.setIfInBounds_toArray, List.set_cons_zero, List.set_cons_succ];have hEW := hEr.trans hW;clear hW hEr hEw HX8r;go_wp2;go_roundw
    case rel => exact ⟨i + 1, by omega, by go_num, hEW⟩
    case measure => simp [intOf]; omega
   | true =>
    have hpt : p.has (x.take i) = true := by
     refine (HF8.out.2.2 _).2 ?_;obtain ⟨u, hu⟩ := (HF8.out.2.2 x).1 HLV.out;exact ⟨x.drop i ++ u, by rw [← List.append_assoc, List.take_append_drop]; exact hu⟩
    have f29 := fun W (hW : Ext wo W) => Lib.hid (E7 p HF8.out.1.val HF8.out.2.1 _ (x.take i) _ W (HTa.out W (hEw.trans hW)) (HSZ.out W (hEw.trans hW)) (HD8.out.ext (hEr.trans hW)) (Agd (HBX.out.ext (hEr.trans hW)) i (by omega)))
    rw [hpt] at f29;clear hpt;refine O8 89 true [.bool true, .bool true, .agg V8, .slice (some ⟨g7, 0, none⟩) x.length c7, .int .i64 i, .slice (some ⟨g7, 0, none⟩) i c7, .bool true, .bool false, .bool false] [.keep, .keep, ldA HX8r.out hi8, .keep, .keep, .gen (.slice 22 (.tmp 68) none (some (.tmp 69)) none) [.c (.slice (some ⟨g7, 0, none⟩) x.length c7), .c (.int .i64 i)] (.c (.slice (some ⟨g7, 0, none⟩) i c7)) (AV.mono_c _) fun ρ o W ho _ hh => Ye ρ o W 68 69 g7 x.length c7 i hcap (by omega) ho hh, Fo 29 G9 [.agg V8, .slice (some ⟨g7, 0, none⟩) i c7] _ fun W hW => (f29 W hW).out, .pure, .pure] (fun _ => by kernel_rfl) (by kernel_rfl) rfl rfl (fun W => by kernel_rfl) (by kernel_rfl) ?_;intro W hW;simp only [Cl, Act.put, List.setIfInBounds_toArray, List.set_cons_zero, List.set_cons_succ];have hEW := hEr.trans hW;clear hW hEr hEw HX8r f29;go_wp2;go_roundw
    case rel => exact ⟨i + 1, by omega, by go_num, hEW⟩
    case measure => simp [intOf]; omega
  ·obtain rfl : i = x.length := by omega
   have hEw := hE.trans hEr;have HX6r := Lib.hid (hEr.heap HX6.out);have hdx : lv = false → d.has x = false := fun h => by
    cases hd : d.has x with
    | false => rfl
    | true =>
     have := (HF8.out.2.2 x).2 ⟨[], by rw [List.append_nil]; exact hd⟩;rw [HLV.out, h] at this; cases this
   have f29 := fun W (hW : Ext wo W) => Lib.hid (E7 d HF6.out.1 HF6.out.2 _ x _ W (HTa.out W (hEw.trans hW)) (HSZ.out W (hEw.trans hW)) (HD6.out.ext (hEr.trans hW)) (HBX.out.ext (hEr.trans hW)))
   have HEw := Lib.hid hEw;go_upto_region 16 with (fail)
   cases lv with
   | false =>
    rw [hdx rfl] at f29;clear hdx hEw;refine Hk 89 false 4 (.bool true) [.keep, .keep, .keep, .keep, .pure, .pure, .keep, .keep, .keep, ldA HX6r.out hi6, .keep, Fo 29 G9 [.agg V6, .slice (some ⟨g7, 0, none⟩) x.length c7] _ fun W hW => (f29 W hW).out, .pure, .pure, .pure, .keep] (fun h => by cases h) (by kernel_rfl) rfl rfl (fun W => by kernel_rfl) (by kernel_rfl) ?_;intro a' W hW hdf ht;go_wp2;refine bodyPost_ret (results_tmp rfl _ _ _) hdf ?_;rw [ht];exact ⟨rfl, HEw.out.trans hW⟩
   | true =>
    clear hdx hEw f29;refine Hk 89 false 4 (.bool true) [.keep, .keep, .keep, .keep, .pure, .pure, .keep, .keep, .keep, .skip, .skip, .skip, .skip, .pure, .pure, .keep] (fun h => by cases h) (by kernel_rfl) rfl rfl (fun W => by kernel_rfl) (by kernel_rfl) ?_;intro a' W hW hdf ht;go_wp2;refine bodyPost_ret (results_tmp rfl _ _ _) hdf ?_;rw [ht];exact ⟨rfl, HEw.out.trans hW⟩
end Go.Proofs.YtaiogolidlamiaaGreatDoor
