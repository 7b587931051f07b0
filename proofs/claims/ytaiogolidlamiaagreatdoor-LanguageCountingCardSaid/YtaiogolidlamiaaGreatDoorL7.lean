import Derived.Test.YtaiogolidlamiaaGreatDoorM41
set_option linter.unusedVariables false
set_option linter.unusedSimpArgs false
namespace Go.Proofs.YtaiogolidlamiaaGreatDoor
set_option maxRecDepth 100000
open Go.RowKit Go.Shelf
set_option maxHeartbeats 4000000 in
theorem counting_any (S1 A1 n1 c1 : Nat) (a1 : Option Addr) (S2 A2 n2 c2 : Nat) (a2 : Option Addr) (K : Nat) (hK : K < 256) (w : World) (hT : Tab w) (hsz : 0 < w.heap.size) (h1 : RawAt w S1 a1 n1 c1 A1) (h2 : RawAt w S2 a2 n2 c2 A2) :
  Calls Tryz.prog 7 #[.agg (rawA S1 a1 n1 c1 A1), .agg (rawA S2 a2 n2 c2 A2), .int .u8 K] w fun e w' => e = .returned (.bool true) ∧ Ext w w' := by
 have HTa := Lib.hid (fun W (hW : Ext w W) => hT.below hW.below hsz)
 have HSZ := Lib.hid (fun W (hW : Ext w W) => Nat.lt_of_lt_of_le hsz hW.size)
 have HRA := Lib.hid (fun W (hW : Ext w W) => h1.ext hW)
 have HRB := Lib.hid (fun W (hW : Ext w W) => h2.ext hW)
 have hS := fun W hT hs => Lib.hid (sanity_any W hT hs)
 have hE := ((Ext.refl w).alloc (.cells (rawA S1 a1 n1 c1 A1) 24)).alloc (.cells (rawA S2 a2 n2 c2 A2) 24)
 have H3 := heap_alloc_keep (heap_alloc_at w (.cells (rawA S1 a1 n1 c1 A1) 24)) (.cells (rawA S2 a2 n2 c2 A2) 24)
 have H4 := heap_alloc2_new w (.cells (rawA S1 a1 n1 c1 A1) 24) (.cells (rawA S2 a2 n2 c2 A2) 24)
 obtain ⟨n, hn⟩ : ∃ n, K % 5 = n := ⟨_, rfl⟩
 have hNe : Hid ((K : Int) % 5 = (n : Int)) := Lib.hid (by omega)
 have hn4 : n ≤ 4 := by omega
 clear hn hT hsz h1 h2
 have info24r1 := info24r S1 a1 n1 c1 A1
 have info24r2 := info24r S2 a2 n2 c2 A2
 obtain ⟨R1, hR1⟩ : ∃ X, rawA S1 a1 n1 c1 A1 = X := ⟨_, rfl⟩
 obtain ⟨R2, hR2⟩ : ∃ X, rawA S2 a2 n2 c2 A2 = X := ⟨_, rfl⟩
 have HMA : Hid (∀ W, Ext w W → MadeOf R1 W) := Lib.hid (fun W hW => by rw [← hR1]; exact made_raw (HRA.out W hW))
 have HMB : Hid (∀ W, Ext w W → MadeOf R2 W) := Lib.hid (fun W hW => by rw [← hR2]; exact made_raw (HRB.out W hW))
 rw [hR1, hR2] at hE H3 H4
 rw [hR1] at info24r1
 rw [hR2] at info24r2
 rw [hR1, hR2]
 clear hR1 hR2 HRA HRB
 go_enter Tryz.func7, Tryz.ntmps7
 go_upto_region 1 with (fail)
 obtain ⟨w2, hw2⟩ : ∃ W, (w.alloc (.cells R1 24)).alloc (.cells R2 24) = W := ⟨_, rfl⟩
 rw [hw2] at hE H3 H4
 simp only [hw2]
 clear hw2
 have HR3 := Lib.hid H3
 have HR4 := Lib.hid H4
 clear H3 H4
 have f12 := hS w2 (HTa.out w2 hE) (HSZ.out w2 hE)
 go_upto_region 2 with (first
  | (go_at_call 12; (with_reducible refine f12.out.mono ?_); rintro e w7 ⟨rfl, hEn⟩))
 have hstep := hEn
 clear f12 hS
 replace HR3 := Lib.hid (hstep.heap HR3.out)
 replace HR4 := Lib.hid (hstep.heap HR4.out)
 replace hE := hE.trans hstep
 clear hEn hstep
 have f26 := Lib.hid (HMA.out w7 hE)
 go_upto_region 3 with (first
  | (refine wpList_load_row rfl 24 (.tmp 3) rfl _ rfl _ _ _ _ HR3.out Tryz.underlying24 rfl info24r1 ?_)
  | (go_at_call 26; (with_reducible refine f26.out.mono ?_); rintro e w8 ⟨d, v, rfl, hD, hft, hEn⟩; obtain ⟨ac, lc, cc, an, cn, aa, la, ca, rfl⟩ := hD.agg)
  | (refine wpList_store_row rfl 30 (.tmp 8) (.tmp 31) rfl _ _ rfl rfl _ _ (heap_alloc_at w8 _) info30d rfl (dA_one _ _ _ rfl rfl rfl) ?_))
 obtain ⟨hEb, hXb, hDb⟩ := dbox_new hD
 obtain ⟨V8, hV⟩ : ∃ X, dA (.slice ac lc cc) (.slice an d.nxt.length cn) (.slice aa la ca) = X := ⟨_, rfl⟩
 have hi8 : (Tryz.prog.info? 30).map (·.size) = some V8.size := by rw [← hV]; exact info30d
 rw [hV] at hEb hXb hDb
 rw [hV]
 obtain ⟨w8x, hw⟩ : ∃ W, (w8.alloc (.cells #[.slice none 0 0, .slice none 0 0, .slice none 0 0] 30)).setRow w8.heap.size V8 = W := ⟨_, rfl⟩
 rw [hw] at hEb hXb hDb
 simp only [hw]
 obtain ⟨g8, hg⟩ : ∃ y, w8.heap.size = y := ⟨_, rfl⟩
 rw [hg] at hXb
 rw [hg]
 have hstep := hEn.trans hEb
 have HX8 := Lib.hid hXb
 have HD8 := Lib.hid hDb
 have HF8 := Lib.hid hft
 clear hft f26
 replace HR3 := Lib.hid (hstep.heap HR3.out)
 replace HR4 := Lib.hid (hstep.heap HR4.out)
 replace hE := hE.trans hstep
 clear hD hEb hXb hDb hV hw hg hEn hstep
 have f26 := Lib.hid (HMB.out w8x hE)
 go_upto_region 4 with (first
  | (refine wpList_load_row rfl 24 (.tmp 4) rfl _ rfl _ _ _ _ HR4.out Tryz.underlying24 rfl info24r2 ?_)
  | (go_at_call 26; (with_reducible refine f26.out.mono ?_); rintro e w9 ⟨f, v, rfl, hD, hft, hEn⟩; obtain ⟨ac, lc, cc, an, cn, aa, la, ca, rfl⟩ := hD.agg)
  | (refine wpList_store_row rfl 30 (.tmp 9) (.tmp 33) rfl _ _ rfl rfl _ _ (heap_alloc_at w9 _) info30d rfl (dA_one _ _ _ rfl rfl rfl) ?_))
 obtain ⟨hEb, hXb, hDb⟩ := dbox_new hD
 obtain ⟨V9, hV⟩ : ∃ X, dA (.slice ac lc cc) (.slice an f.nxt.length cn) (.slice aa la ca) = X := ⟨_, rfl⟩
 have hi9 : (Tryz.prog.info? 30).map (·.size) = some V9.size := by rw [← hV]; exact info30d
 rw [hV] at hEb hXb hDb
 rw [hV]
 obtain ⟨w9x, hw⟩ : ∃ W, (w9.alloc (.cells #[.slice none 0 0, .slice none 0 0, .slice none 0 0] 30)).setRow w9.heap.size V9 = W := ⟨_, rfl⟩
 rw [hw] at hEb hXb hDb
 simp only [hw]
 obtain ⟨g9, hg⟩ : ∃ y, w9.heap.size = y := ⟨_, rfl⟩
 rw [hg] at hXb
 rw [hg]
 have hstep := hEn.trans hEb
 have HX9 := Lib.hid hXb
 have HD9 := Lib.hid hDb
 have HF9 := Lib.hid hft
 clear hft f26
 replace HX8 := Lib.hid (hstep.heap HX8.out)
 replace HD8 := Lib.hid (HD8.out.ext hstep)
 replace HR3 := Lib.hid (hstep.heap HR3.out)
 replace HR4 := Lib.hid (hstep.heap HR4.out)
 replace hE := hE.trans hstep
 clear hD hEb hXb hDb hV hw hg hEn hstep
 go_upto_region 5 with (fail)
 simp only [hNe.out]
 clear hNe
 have f32 := Lib.hid (not_small d HF8.out _ w9x (HTa.out w9x hE) (HSZ.out w9x hE) HD8.out)
 go_upto_region 6 with (first
  | (refine wpList_load_row rfl 30 (.tmp 8) rfl _ rfl _ _ _ _ HX8.out Tryz.underlying30 rfl hi8 ?_)
  | (go_at_call 32; (with_reducible refine f32.out.mono ?_); rintro e w11 ⟨dn, v, rfl, hD, hft, hEn⟩; obtain ⟨ac, lc, cc, an, cn, aa, la, ca, rfl⟩ := hD.agg)
  | (refine wpList_store_row rfl 30 (.tmp 11) (.tmp 40) rfl _ _ rfl rfl _ _ (heap_alloc_at w11 _) info30d rfl (dA_one _ _ _ rfl rfl rfl) ?_))
 obtain ⟨hEb, hXb, hDb⟩ := dbox_new hD
 obtain ⟨V11, hV⟩ : ∃ X, dA (.slice ac lc cc) (.slice an dn.nxt.length cn) (.slice aa la ca) = X := ⟨_, rfl⟩
 have hi11 : (Tryz.prog.info? 30).map (·.size) = some V11.size := by rw [← hV]; exact info30d
 rw [hV] at hEb hXb hDb
 rw [hV]
 obtain ⟨w11x, hw⟩ : ∃ W, (w11.alloc (.cells #[.slice none 0 0, .slice none 0 0, .slice none 0 0] 30)).setRow w11.heap.size V11 = W := ⟨_, rfl⟩
 rw [hw] at hEb hXb hDb
 simp only [hw]
 obtain ⟨g11, hg⟩ : ∃ y, w11.heap.size = y := ⟨_, rfl⟩
 rw [hg] at hXb
 rw [hg]
 have hstep := hEn.trans hEb
 have HX11 := Lib.hid hXb
 have HD11 := Lib.hid hDb
 have HF11 := Lib.hid hft
 clear hft f32
 replace HX8 := Lib.hid (hstep.heap HX8.out)
 replace HD8 := Lib.hid (HD8.out.ext hstep)
 replace HX9 := Lib.hid (hstep.heap HX9.out)
 replace HD9 := Lib.hid (HD9.out.ext hstep)
 replace HR3 := Lib.hid (hstep.heap HR3.out)
 replace HR4 := Lib.hid (hstep.heap HR4.out)
 replace hE := hE.trans hstep
 clear hD hEb hXb hDb hV hw hg hEn hstep
 have f33 := Lib.hid (or_small d f HF8.out HF9.out _ _ w11x (HTa.out w11x hE) (HSZ.out w11x hE) HD8.out HD9.out)
 go_upto_region 7 with (first
  | (refine wpList_load_row rfl 30 (.tmp 8) rfl _ rfl _ _ _ _ HX8.out Tryz.underlying30 rfl hi8 ?_)
  | (refine wpList_load_row rfl 30 (.tmp 9) rfl _ rfl _ _ _ _ HX9.out Tryz.underlying30 rfl hi9 ?_)
  | (go_at_call 33; (with_reducible refine f33.out.mono ?_); rintro e w13 ⟨dz, v, rfl, hD, hft, hEn⟩; obtain ⟨ac, lc, cc, an, cn, aa, la, ca, rfl⟩ := hD.agg)
  | (refine wpList_store_row rfl 30 (.tmp 13) (.tmp 46) rfl _ _ rfl rfl _ _ (heap_alloc_at w13 _) info30d rfl (dA_one _ _ _ rfl rfl rfl) ?_))
 obtain ⟨hEb, hXb, hDb⟩ := dbox_new hD
 obtain ⟨V13, hV⟩ : ∃ X, dA (.slice ac lc cc) (.slice an dz.nxt.length cn) (.slice aa la ca) = X := ⟨_, rfl⟩
 have hi13 : (Tryz.prog.info? 30).map (·.size) = some V13.size := by rw [← hV]; exact info30d
 rw [hV] at hEb hXb hDb
 rw [hV]
 obtain ⟨w13x, hw⟩ : ∃ W, (w13.alloc (.cells #[.slice none 0 0, .slice none 0 0, .slice none 0 0] 30)).setRow w13.heap.size V13 = W := ⟨_, rfl⟩
 rw [hw] at hEb hXb hDb
 simp only [hw]
 obtain ⟨g13, hg⟩ : ∃ y, w13.heap.size = y := ⟨_, rfl⟩
 rw [hg] at hXb
 rw [hg]
 have hstep := hEn.trans hEb
 have HX13 := Lib.hid hXb
 have HD13 := Lib.hid hDb
 have HF13 := Lib.hid hft
 clear hft f33
 replace HX8 := Lib.hid (hstep.heap HX8.out)
 replace HD8 := Lib.hid (HD8.out.ext hstep)
 replace HX9 := Lib.hid (hstep.heap HX9.out)
 replace HD9 := Lib.hid (HD9.out.ext hstep)
 replace HX11 := Lib.hid (hstep.heap HX11.out)
 replace HD11 := Lib.hid (HD11.out.ext hstep)
 replace HR3 := Lib.hid (hstep.heap HR3.out)
 replace HR4 := Lib.hid (hstep.heap HR4.out)
 replace hE := hE.trans hstep
 clear hD hEb hXb hDb hV hw hg hEn hstep
 have f34 := Lib.hid (and_small d f HF8.out HF9.out _ _ w13x (HTa.out w13x hE) (HSZ.out w13x hE) HD8.out HD9.out)
 go_upto_region 8 with (first
  | (refine wpList_load_row rfl 30 (.tmp 8) rfl _ rfl _ _ _ _ HX8.out Tryz.underlying30 rfl hi8 ?_)
  | (refine wpList_load_row rfl 30 (.tmp 9) rfl _ rfl _ _ _ _ HX9.out Tryz.underlying30 rfl hi9 ?_)
  | (go_at_call 34; (with_reducible refine f34.out.mono ?_); rintro e w15 ⟨da, v, rfl, hD, hft, hEn⟩; obtain ⟨ac, lc, cc, an, cn, aa, la, ca, rfl⟩ := hD.agg)
  | (refine wpList_store_row rfl 30 (.tmp 15) (.tmp 52) rfl _ _ rfl rfl _ _ (heap_alloc_at w15 _) info30d rfl (dA_one _ _ _ rfl rfl rfl) ?_))
 obtain ⟨hEb, hXb, hDb⟩ := dbox_new hD
 obtain ⟨V15, hV⟩ : ∃ X, dA (.slice ac lc cc) (.slice an da.nxt.length cn) (.slice aa la ca) = X := ⟨_, rfl⟩
 have hi15 : (Tryz.prog.info? 30).map (·.size) = some V15.size := by rw [← hV]; exact info30d
 rw [hV] at hEb hXb hDb
 rw [hV]
 obtain ⟨w15x, hw⟩ : ∃ W, (w15.alloc (.cells #[.slice none 0 0, .slice none 0 0, .slice none 0 0] 30)).setRow w15.heap.size V15 = W := ⟨_, rfl⟩
 rw [hw] at hEb hXb hDb
 simp only [hw]
 obtain ⟨g15, hg⟩ : ∃ y, w15.heap.size = y := ⟨_, rfl⟩
 rw [hg] at hXb
 rw [hg]
 have hstep := hEn.trans hEb
 have HX15 := Lib.hid hXb
 have HD15 := Lib.hid hDb
 have HF15 := Lib.hid hft
 clear hft f34
 replace HX8 := Lib.hid (hstep.heap HX8.out)
 replace HD8 := Lib.hid (HD8.out.ext hstep)
 replace HX9 := Lib.hid (hstep.heap HX9.out)
 replace HD9 := Lib.hid (HD9.out.ext hstep)
 replace HX11 := Lib.hid (hstep.heap HX11.out)
 replace HD11 := Lib.hid (HD11.out.ext hstep)
 replace HX13 := Lib.hid (hstep.heap HX13.out)
 replace HD13 := Lib.hid (HD13.out.ext hstep)
 replace HR3 := Lib.hid (hstep.heap HR3.out)
 replace HR4 := Lib.hid (hstep.heap HR4.out)
 replace hE := hE.trans hstep
 clear hD hEb hXb hDb hV hw hg hEn hstep
 go_wp2_with (fail)
 go_loopw [17, 18] (fun va vi W => ∃ i p : Nat, i ≤ n ∧ va = .int .i64 p ∧ vi = .int .i64 i ∧ p ≤ 4294967296 ∧ Hid (p = 256 ^ i) ∧ W = w15x)
  (fun _ vi _ => n - (intOf vi).toNat)
 case atStart => exact ⟨0, 1, by omega, rfl, rfl, by omega, Lib.hid rfl, rfl⟩
 case round =>
  obtain ⟨i, p, hi, rfl, rfl, hp, HP, rfl⟩ := hrel
  by_cases hlt : i < n
  ·have hp2 : p * 256 ≤ 4294967296 := by
    rw [HP.out, ← Nat.pow_succ]
    exact Nat.le_trans (Nat.pow_le_pow_right (by decide) (show i + 1 ≤ 4 by omega)) (by decide)
   go_wp2
   go_roundw
   case rel => exact ⟨i + 1, p * 256, by omega, by push_cast; rfl, by go_num, hp2, Lib.hid (by rw [HP.out, ← Nat.pow_succ]), by first | trivial | rfl⟩
   case measure => simp [intOf]; omega
  ·obtain rfl : i = n := by omega
   have f20 := Lib.hid (count_small d (And.intro HF8.out.1 (Nat.le_trans HF8.out.2 (by decide))) i hn4 _ wr HD8.out)
   obtain ⟨ka, hk⟩ : ∃ k, cntL d.has i = k := ⟨_, rfl⟩
   rw [hk] at f20
   have Hka := Lib.hid hk
   clear hk
   go_upto_region 14 with (first
    | (refine wpList_load_row rfl 30 (.tmp 8) rfl _ rfl _ _ _ _ HX8.out Tryz.underlying30 rfl hi8 ?_)
    | (go_at_call 20; (with_reducible refine f20.out.mono ?_); rintro e w61 ⟨rfl, hEn⟩))
   have hstep := hEn
   clear f20
   replace HX8 := Lib.hid (hstep.heap HX8.out)
   replace HD8 := Lib.hid (HD8.out.ext hstep)
   replace HX9 := Lib.hid (hstep.heap HX9.out)
   replace HD9 := Lib.hid (HD9.out.ext hstep)
   replace HX11 := Lib.hid (hstep.heap HX11.out)
   replace HD11 := Lib.hid (HD11.out.ext hstep)
   replace HX13 := Lib.hid (hstep.heap HX13.out)
   replace HD13 := Lib.hid (HD13.out.ext hstep)
   replace HX15 := Lib.hid (hstep.heap HX15.out)
   replace HD15 := Lib.hid (HD15.out.ext hstep)
   replace HR3 := Lib.hid (hstep.heap HR3.out)
   replace HR4 := Lib.hid (hstep.heap HR4.out)
   replace hE := hE.trans hstep
   clear hEn hstep
   have f20 := Lib.hid (count_small f (And.intro HF9.out.1 (Nat.le_trans HF9.out.2 (by decide))) i hn4 _ w61 HD9.out)
   obtain ⟨kb, hk⟩ : ∃ k, cntL f.has i = k := ⟨_, rfl⟩
   rw [hk] at f20
   have Hkb := Lib.hid hk
   clear hk
   go_upto_region 15 with (first
    | (refine wpList_load_row rfl 30 (.tmp 9) rfl _ rfl _ _ _ _ HX9.out Tryz.underlying30 rfl hi9 ?_)
    | (go_at_call 20; (with_reducible refine f20.out.mono ?_); rintro e w67 ⟨rfl, hEn⟩))
   have hstep := hEn
   clear f20
   replace HX8 := Lib.hid (hstep.heap HX8.out)
   replace HD8 := Lib.hid (HD8.out.ext hstep)
   replace HX9 := Lib.hid (hstep.heap HX9.out)
   replace HD9 := Lib.hid (HD9.out.ext hstep)
   replace HX11 := Lib.hid (hstep.heap HX11.out)
   replace HD11 := Lib.hid (HD11.out.ext hstep)
   replace HX13 := Lib.hid (hstep.heap HX13.out)
   replace HD13 := Lib.hid (HD13.out.ext hstep)
   replace HX15 := Lib.hid (hstep.heap HX15.out)
   replace HD15 := Lib.hid (HD15.out.ext hstep)
   replace HR3 := Lib.hid (hstep.heap HR3.out)
   replace HR4 := Lib.hid (hstep.heap HR4.out)
   replace hE := hE.trans hstep
   clear hEn hstep
   have f20 := Lib.hid (count_small dn HF11.out.1 i hn4 _ w67 HD11.out)
   obtain ⟨kc, hk⟩ : ∃ k, cntL dn.has i = k := ⟨_, rfl⟩
   rw [hk] at f20
   have Hkc := Lib.hid hk
   clear hk
   go_upto_region 16 with (first
    | (refine wpList_load_row rfl 30 (.tmp 11) rfl _ rfl _ _ _ _ HX11.out Tryz.underlying30 rfl hi11 ?_)
    | (go_at_call 20; (with_reducible refine f20.out.mono ?_); rintro e w73 ⟨rfl, hEn⟩))
   have hstep := hEn
   clear f20
   replace HX8 := Lib.hid (hstep.heap HX8.out)
   replace HD8 := Lib.hid (HD8.out.ext hstep)
   replace HX9 := Lib.hid (hstep.heap HX9.out)
   replace HD9 := Lib.hid (HD9.out.ext hstep)
   replace HX11 := Lib.hid (hstep.heap HX11.out)
   replace HD11 := Lib.hid (HD11.out.ext hstep)
   replace HX13 := Lib.hid (hstep.heap HX13.out)
   replace HD13 := Lib.hid (HD13.out.ext hstep)
   replace HX15 := Lib.hid (hstep.heap HX15.out)
   replace HD15 := Lib.hid (HD15.out.ext hstep)
   replace HR3 := Lib.hid (hstep.heap HR3.out)
   replace HR4 := Lib.hid (hstep.heap HR4.out)
   replace hE := hE.trans hstep
   clear hEn hstep
   have f20 := Lib.hid (count_small dz HF13.out.1 i hn4 _ w73 HD13.out)
   obtain ⟨kx, hk⟩ : ∃ k, cntL dz.has i = k := ⟨_, rfl⟩
   rw [hk] at f20
   have Hkx := Lib.hid hk
   clear hk
   go_upto_region 17 with (first
    | (refine wpList_load_row rfl 30 (.tmp 13) rfl _ rfl _ _ _ _ HX13.out Tryz.underlying30 rfl hi13 ?_)
    | (go_at_call 20; (with_reducible refine f20.out.mono ?_); rintro e w79 ⟨rfl, hEn⟩))
   have hstep := hEn
   clear f20
   replace HX8 := Lib.hid (hstep.heap HX8.out)
   replace HD8 := Lib.hid (HD8.out.ext hstep)
   replace HX9 := Lib.hid (hstep.heap HX9.out)
   replace HD9 := Lib.hid (HD9.out.ext hstep)
   replace HX11 := Lib.hid (hstep.heap HX11.out)
   replace HD11 := Lib.hid (HD11.out.ext hstep)
   replace HX13 := Lib.hid (hstep.heap HX13.out)
   replace HD13 := Lib.hid (HD13.out.ext hstep)
   replace HX15 := Lib.hid (hstep.heap HX15.out)
   replace HD15 := Lib.hid (HD15.out.ext hstep)
   replace HR3 := Lib.hid (hstep.heap HR3.out)
   replace HR4 := Lib.hid (hstep.heap HR4.out)
   replace hE := hE.trans hstep
   clear hEn hstep
   have f20 := Lib.hid (count_small da HF15.out.1 i hn4 _ w79 HD15.out)
   obtain ⟨ky, hk⟩ : ∃ k, cntL da.has i = k := ⟨_, rfl⟩
   rw [hk] at f20
   have Hky := Lib.hid hk
   clear hk
   go_upto_region 18 with (first
    | (refine wpList_load_row rfl 30 (.tmp 15) rfl _ rfl _ _ _ _ HX15.out Tryz.underlying30 rfl hi15 ?_)
    | (go_at_call 20; (with_reducible refine f20.out.mono ?_); rintro e w85 ⟨rfl, hEn⟩))
   have hstep := hEn
   clear f20
   replace HX8 := Lib.hid (hstep.heap HX8.out)
   replace HD8 := Lib.hid (HD8.out.ext hstep)
   replace HX9 := Lib.hid (hstep.heap HX9.out)
   replace HD9 := Lib.hid (HD9.out.ext hstep)
   replace HX11 := Lib.hid (hstep.heap HX11.out)
   replace HD11 := Lib.hid (HD11.out.ext hstep)
   replace HX13 := Lib.hid (hstep.heap HX13.out)
   replace HD13 := Lib.hid (HD13.out.ext hstep)
   replace HX15 := Lib.hid (hstep.heap HX15.out)
   replace HD15 := Lib.hid (HD15.out.ext hstep)
   replace HR3 := Lib.hid (hstep.heap HR3.out)
   replace HR4 := Lib.hid (hstep.heap HR4.out)
   replace hE := hE.trans hstep
   clear hEn hstep
   have e1 : ka + kc = p := by
    have hh : dn.has = fun u => !d.has u := funext fun u => HF11.out.2 u
    rw [HP.out, ← Hka.out, ← Hkc.out, hh]
    exact cntL_not _ _
   have e2 : kx + ky = ka + kb := by
    have hx : dz.has = fun u => d.has u || f.has u := funext fun u => HF13.out.2 u
    have hy : da.has = fun u => d.has u && f.has u := funext fun u => HF15.out.2 u
    rw [← Hkx.out, ← Hky.out, ← Hka.out, ← Hkb.out, hx, hy]
    exact cntL_or_and _ _ _
   have b1 : kb ≤ 4294967296 := by
    rw [← Hkb.out]
    exact Nat.le_trans (cntL_le _ _) (Nat.le_trans (Nat.pow_le_pow_right (by decide) hn4) (by decide))
   have w1 : IntKind.i64.wrap ((ka : Int) + kc) = (ka : Int) + kc := IntWalk.i64_in _ ⟨by omega, by omega⟩
   have w2 : IntKind.i64.wrap ((kx : Int) + ky) = (kx : Int) + ky := IntWalk.i64_in _ ⟨by omega, by omega⟩
   have w3 : IntKind.i64.wrap ((ka : Int) + kb) = (ka : Int) + kb := IntWalk.i64_in _ ⟨by omega, by omega⟩
   have q1 : ((ka : Int) + kc == (p : Int)) = true := by simp; omega
   have q2 : ((kx : Int) + ky == (ka : Int) + kb) = true := by simp; omega
   have HEE := Lib.hid hE
   clear hE e1 e2
   go_wp2
   go_ret
   exact ⟨rfl, HEE.out⟩
end Go.Proofs.YtaiogolidlamiaaGreatDoor
