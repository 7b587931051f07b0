import Derived.Test.YtaiogolidlamiaaGreatDoorM24
import Derived.Test.YtaiogolidlamiaaGreatDoorM20
import Derived.Test.YtaiogolidlamiaaGreatDoorM18
set_option linter.unusedVariables false
set_option linter.unusedSimpArgs false
namespace Go.Proofs.YtaiogolidlamiaaGreatDoor
set_option maxRecDepth 100000
open Go.RowKit Go.Shelf
theorem ResOf.some_inv {W : World} {A : Array Value} {k : Int} {q : Dfa} (h : ResOf W (.returned (.tuple #[.agg A, .int .i64 k])) (some q)) : k = 0 ∧ IsD W (.agg A) q := by
 obtain ⟨v', hv', hD'⟩ := h
 injection hv' with hv'
 injection hv' with hv'
 injection hv' with hv'
 injection hv' with h1 hv'
 injection hv' with h2 _
 injection h2 with _ h2
 rw [← h1] at hD'
 exact ⟨h2, hD'⟩
theorem ResOf.none_inv {W : World} {A : Array Value} {k : Int} (h : ResOf W (.returned (.tuple #[.agg A, .int .i64 k])) none) : k = 2 ∧ Value.agg A = zD := by
 unfold ResOf at h
 injection h with h
 injection h with h
 injection h with h
 injection h with h1 h
 injection h with h2 _
 injection h2 with _ h2
 exact ⟨h2, h1⟩
theorem starR_ok {a : Dfa} {r : Option Dfa} (h : StarR a r) (d : Dfa) (hd : r = some d) : Val d ∧ d.nxt.length ≤ 64 := by
 subst hd
 obtain ⟨h1, h2⟩ := starR_fit h (fun _ => Iff.rfl)
 exact ⟨h1.1.val, h2⟩
theorem powR_ok {d : Dfa} : ∀ (n : Nat) (p q : Dfa), Val p → p.nxt.length ≤ 64 → PowR p d n (some q) → Val q ∧ q.nxt.length ≤ 64
 | 0, p, q, hp, hpl, h => by
  injection (show some q = some p from h) with h
  subst h; exact ⟨hp, hpl⟩
 | n + 1, p, q, _, _, ⟨o, h1, h2⟩ => by
  cases o with
  | none => cases (show some q = none from h2)
  | some p' =>
   obtain ⟨h3, h4⟩ := catR_none h1 p' rfl
   exact powR_ok n p' q h3 h4 h2
theorem by_nil (w : World) : By w (.slice none 0 0) [] := Sl.nil w _ _
theorem new_box (W : World) (A : Array Value) : Ext W ((W.alloc (.cells #[.slice none 0 0, .slice none 0 0, .slice none 0 0] 30)).setRow W.heap.size A) ∧ ((W.alloc (.cells #[.slice none 0 0, .slice none 0 0, .slice none 0 0] 30)).setRow W.heap.size A).heap[W.heap.size]? = some (.cells A 30 (0, 0)) :=
 ⟨((Ext.refl W).alloc _).setRow (Nat.le_refl _) A, setRow_heap _ _ _ A _ _ (heap_alloc_at W _)⟩
set_option maxHeartbeats 4000000 in
theorem repeat_any (d : Dfa) (hd : Val d) (hdn : d.nxt.length ≤ 64) (lo : Nat) (hlo : lo ≤ 16) (hi : Int) (hhi : hi = -1 ∨ (lo : Int) ≤ hi) (hhi16 : hi ≤ 16) (vd : Value) (w : World) (hT : Tab w) (hsz : 0 < w.heap.size) (hvd : IsD w vd d) :
  Calls Tryz.prog 119 #[vd, iv lo, .int .i64 hi] w fun e w' => ∃ r, ResOf w' e r ∧ RepR d lo hi r ∧ Ext w w' := by
 have HTa := Lib.hid (fun W (hW : Ext w W) => hT.below hW.below hsz)
 have HDd := Lib.hid hvd
 have HVd := Lib.hid hd
 obtain ⟨ac', lc', cc', an', cn', aa', la', ca', rfl⟩ := hvd.agg
 obtain ⟨Vd, hVd⟩ : ∃ X, dA (.slice ac' lc' cc') (.slice an' d.nxt.length cn') (.slice aa' la' ca') = X := ⟨_, rfl⟩
 have hiVd : (Tryz.prog.info? 30).map (·.size) = some Vd.size := by rw [← hVd]; exact info30d
 rw [hVd] at HDd
 rw [hVd]
 have hE0 := ((Ext.refl w).alloc (.cells Vd 30)).alloc (.cells #[.slice none 0 0, .slice none 0 0, .slice none 0 0] 30)
 have H3 := heap_alloc_keep (heap_alloc_at w (.cells Vd 30)) (.cells #[.slice none 0 0, .slice none 0 0, .slice none 0 0] 30)
 have H6 := heap_alloc2_new w (.cells Vd 30) (.cells #[.slice none 0 0, .slice none 0 0, .slice none 0 0] 30)
 have f45 := fun W (hW : Ext w W) => Lib.hid (word_any [] (by simp) _ W (by_nil W))
 clear hvd hd hT hVd
 go_enter Tryz.func119, Tryz.ntmps119
 go_upto_region 1 with (fail)
 obtain ⟨w1, hw1⟩ : ∃ W, (w.alloc (.cells Vd 30)).alloc (.cells #[.slice none 0 0, .slice none 0 0, .slice none 0 0] 30) = W := ⟨_, rfl⟩
 rw [hw1] at hE0 H3 H6
 simp only [hw1]
 clear hw1
 have H3 := Lib.hid H3
 have H6 := Lib.hid H6
 have HE0 := Lib.hid hE0
 clear hE0
 go_upto_region 2 with (first
  | (go_at_call 45; (with_reducible refine (f45 _ HE0.out).out.mono ?_); rintro e w2 ⟨re, hres, hcan, hhas, hE2⟩; obtain ⟨ac1, lc1, cc1, an1, ln1, cn1, aa1, la1, ca1, k1, rfl⟩ := hres.form; obtain ⟨rfl, hDe⟩ := hres.some_inv; have HDe := Lib.hid hDe; have HFe := Lib.hid (show Fit re (fun u => u = []) from ⟨hcan, hhas⟩); have HE2 := Lib.hid (HE0.out.trans hE2); have H3 := Lib.hid (hE2.heap H3.out); have H6 := Lib.hid (hE2.heap H6.out); clear hres hcan hhas hE2 hDe)
  | (refine wpList_store_row rfl 30 (.tmp 8) (.tmp 16) rfl _ _ rfl rfl _ _ (heap_alloc_at w2 (.cells #[.slice none 0 0, .slice none 0 0, .slice none 0 0] 30)) info30d rfl (dA_one _ _ _ rfl rfl rfl) ?_))
 obtain ⟨VE, hVE⟩ : ∃ X, dA (.slice ac1 lc1 cc1) (.slice an1 ln1 cn1) (.slice aa1 la1 ca1) = X := ⟨_, rfl⟩
 have hiVE : (Tryz.prog.info? 30).map (·.size) = some VE.size := by rw [← hVE]; exact info30d
 rw [hVE] at HDe
 simp only [hVE]
 clear hVE
 obtain ⟨hN1, hN2⟩ := new_box w2 VE
 obtain ⟨w3, hw3⟩ : ∃ W, (w2.alloc (.cells #[.slice none 0 0, .slice none 0 0, .slice none 0 0] 30)).setRow w2.heap.size VE = W := ⟨_, rfl⟩
 rw [hw3] at hN1 hN2
 simp only [hw3]
 clear hw3
 have HE3 := Lib.hid (HE2.out.trans hN1)
 have H3 := Lib.hid (hN1.heap H3.out)
 have H6 := Lib.hid (hN1.heap H6.out)
 have H8 := Lib.hid hN2
 have HDe := Lib.hid (HDe.out.ext hN1)
 generalize w2.heap.size = g8 at *
 clear hN1 hN2 f45 HE0 HE2
 have hel := nil_le HFe.out
 have f146 := fun W (hW : Ext w3 W) => Lib.hid (power_any re d HFe.out.1.val HVd.out (by omega) hdn lo (by omega) _ _ W (HTa.out W (HE3.out.trans hW)) (Nat.lt_of_lt_of_le hsz (HE3.out.trans hW).size) (HDe.out.ext hW) (HDd.out.ext (HE3.out.trans hW)))
 have hrep : Hid (∀ q r, PowR re d lo q → bind2 q (fun p r => if hi = lo then r = some p else
  if hi < 0 then ∃ s, StarR d s ∧ bind2 s (fun s r => CatR p s r) r else ∃ o, Lim (fun w => d.has w = true ∨ re.has w = true) o ∧ bind2 o (fun o r => PowR p o (hi - lo).toNat r) r) r → RepR d lo hi r) :=
  Lib.hid fun q r h1 h2 => ⟨re, ⟨HFe.out.1, HFe.out.2⟩, q, h1, h2⟩
 go_upto_region 5 with (first
  | (refine wpList_load_row rfl 30 (.tmp 8) rfl _ rfl _ _ _ _ H8.out Tryz.underlying30 rfl hiVE ?_)
  | (refine wpList_load_row rfl 30 (.tmp 3) rfl _ rfl _ _ _ _ H3.out Tryz.underlying30 rfl hiVd ?_)
  | (go_at_call 146; (with_reducible refine (f146 _ (Ext.refl w3)).out.mono ?_); rintro e w4 ⟨q, hres, hpow, hE4⟩; obtain ⟨ac2, lc2, cc2, an2, ln2, cn2, aa2, la2, ca2, k2, rfl⟩ := hres.form; have HRes := Lib.hid hres; have HPow := Lib.hid hpow; have HE4 := Lib.hid hE4; clear hres hpow hE4)
  | (refine wpList_store_row rfl 30 (.tmp 10) (.tmp 27) rfl _ _ rfl rfl _ _ (heap_alloc_at w4 (.cells #[.slice none 0 0, .slice none 0 0, .slice none 0 0] 30)) info30d rfl (dA_one _ _ _ rfl rfl rfl) ?_))
 obtain ⟨VP, hVP⟩ : ∃ X, dA (.slice ac2 lc2 cc2) (.slice an2 ln2 cn2) (.slice aa2 la2 ca2) = X := ⟨_, rfl⟩
 have hiVP : (Tryz.prog.info? 30).map (·.size) = some VP.size := by rw [← hVP]; exact info30d
 have hVP1 : VP.all (·.oneCell') = true := by rw [← hVP]; exact dA_one _ _ _ rfl rfl rfl
 have hVP3 : Hid ((3 : Nat) = VP.size) := Lib.hid (by rw [← hVP]; rfl)
 rw [hVP] at HRes
 simp only [hVP]
 clear hVP
 obtain ⟨hN1, hN2⟩ := new_box w4 VP
 obtain ⟨w5, hw5⟩ : ∃ W, (w4.alloc (.cells #[.slice none 0 0, .slice none 0 0, .slice none 0 0] 30)).setRow w4.heap.size VP = W := ⟨_, rfl⟩
 rw [hw5] at hN1 hN2
 simp only [hw5]
 clear hw5
 have hE35 := HE4.out.trans hN1
 have HE5 := Lib.hid (HE3.out.trans hE35)
 have H3 := Lib.hid (hE35.heap H3.out)
 have H6 := Lib.hid (hE35.heap H6.out)
 have H8 := Lib.hid (hE35.heap H8.out)
 have H10 := Lib.hid hN2
 have HRes := Lib.hid (HRes.out.ext hN1)
 have HDe := Lib.hid (HDe.out.ext hE35)
 have HDd5 := Lib.hid (HDd.out.ext HE5.out)
 generalize w4.heap.size = g10 at *
 clear hN1 hN2 f146 hE35 HE3 HE4
 cases q with
 | none =>
  obtain ⟨rfl, hz⟩ := HRes.out.none_inv
  have HR := Lib.hid (hrep.out none none HPow.out rfl)
  have HZ := Lib.hid hz
  clear hz
  go_wp2_with (first
   | (refine wpList_load_row rfl 30 (.tmp 10) rfl _ rfl _ _ _ _ H10.out Tryz.underlying30 rfl hiVP ?_)
   | (refine wpList_store_row rfl 30 (.tmp 6) (.tmp 36) rfl _ _ rfl rfl _ _ H6.out hiVP hVP3.out hVP1 ?_))
  refine bodyPost_ret (v := .tuple #[.agg VP, .int .i64 2]) (results_cell_row2 rfl _ _ _ _ _ _ _ rfl _ rfl (setRow_heap w5 _ _ VP 30 (0, 0) H6.out) Tryz.underlying30 rfl hiVP) rfl ?_
  exact ⟨none, by rw [HZ.out]; rfl, HR.out, HE5.out.setRow (by omega) _⟩
 | some p =>
  obtain ⟨rfl, hDp⟩ := HRes.out.some_inv
  obtain ⟨hpv, hpl⟩ := powR_ok lo re p HFe.out.1.val (by omega) HPow.out
  have HDp := Lib.hid hDp
  have HVp := Lib.hid hpv
  have hrep2 := Lib.hid (fun r h => hrep.out (some p) r HPow.out h)
  clear hDp hpv
  obtain ⟨b1, hb1⟩ : ∃ b, (hi == (lo : Int)) = b := ⟨_, rfl⟩
  have hb1' : b1 = true ↔ hi = lo := by rw [← hb1]; simp
  have HB1 := Lib.hid hb1'
  clear hb1'
  cases b1
  ·have hne : ¬ hi = lo := fun h => by have := HB1.out.2 h; cases this
   have HNE := Lib.hid hne
   clear hne
   obtain ⟨b2, hb2⟩ : ∃ b, decide (hi < 0) = b := ⟨_, rfl⟩
   have hb2' : b2 = true ↔ hi < 0 := by rw [← hb2]; simp
   have HB2 := Lib.hid hb2'
   clear hb2'
   cases b2
   ·have hn0 : ¬ hi < 0 := fun h => by have := HB2.out.2 h; cases this
    have hlohi : (lo : Int) ≤ hi := by omega
    obtain ⟨m, hm⟩ : ∃ m : Nat, hi - lo = (m : Int) := ⟨(hi - lo).toNat, by omega⟩
    have HM := Lib.hid hm
    have hwm : IntKind.i64.wrap (hi - (lo : Int)) = (m : Int) := by rw [hm]; exact IntWalk.i64_in _ ⟨by omega, by omega⟩
    have hm16 : m ≤ 1000 := by omega
    have f33 := fun W (hW : Ext w5 W) => Lib.hid (orD_any d re HVd.out HFe.out.1.val hdn (by omega) _ _ W (HTa.out W (HE5.out.trans hW)) (Nat.lt_of_lt_of_le hsz (HE5.out.trans hW).size) (HDd5.out.ext hW) (HDe.out.ext hW))
    clear hm
    go_upto_region 13 with (first
     | (refine wpList_load_row rfl 30 (.tmp 3) rfl _ rfl _ _ _ _ H3.out Tryz.underlying30 rfl hiVd ?_)
     | (refine wpList_load_row rfl 30 (.tmp 8) rfl _ rfl _ _ _ _ H8.out Tryz.underlying30 rfl hiVE ?_)
     | (go_at_call 33; (with_reducible refine (f33 _ (Ext.refl w5)).out.mono ?_); rintro e w6 ⟨o, hres, hlim, hE6⟩; obtain ⟨ac3, lc3, cc3, an3, ln3, cn3, aa3, la3, ca3, k3, rfl⟩ := hres.form; have HRes := Lib.hid hres; have HLim := Lib.hid hlim; have HE6 := Lib.hid hE6; clear hres hlim hE6)
     | (refine wpList_store_row rfl 30 (.tmp 13) (.tmp 58) rfl _ _ rfl rfl _ _ (heap_alloc_at w6 (.cells #[.slice none 0 0, .slice none 0 0, .slice none 0 0] 30)) info30d rfl (dA_one _ _ _ rfl rfl rfl) ?_))
    obtain ⟨VO, hVO⟩ : ∃ X, dA (.slice ac3 lc3 cc3) (.slice an3 ln3 cn3) (.slice aa3 la3 ca3) = X := ⟨_, rfl⟩
    have hiVO : (Tryz.prog.info? 30).map (·.size) = some VO.size := by rw [← hVO]; exact info30d
    rw [hVO] at HRes
    simp only [hVO]
    clear hVO
    obtain ⟨hN1, hN2⟩ := new_box w6 VO
    obtain ⟨w7, hw7⟩ : ∃ W, (w6.alloc (.cells #[.slice none 0 0, .slice none 0 0, .slice none 0 0] 30)).setRow w6.heap.size VO = W := ⟨_, rfl⟩
    rw [hw7] at hN1 hN2
    simp only [hw7]
    clear hw7
    have hE57 := HE6.out.trans hN1
    have HE7 := Lib.hid (HE5.out.trans hE57)
    have H6 := Lib.hid (hE57.heap H6.out)
    have H10 := Lib.hid (hE57.heap H10.out)
    have H13 := Lib.hid hN2
    have HRes := Lib.hid (HRes.out.ext hN1)
    have HDp := Lib.hid (HDp.out.ext hE57)
    generalize w6.heap.size = g13 at *
    clear hN1 hN2 f33 hE57
    cases o with
    | none =>
     obtain ⟨rfl, hz⟩ := HRes.out.none_inv
     have hBz := Lib.hid built30z
     have HR := Lib.hid (hrep2.out none (by show if hi = lo then _ else if hi < 0 then _ else _; rw [if_neg HNE.out, if_neg (show ¬ hi < 0 by omega)]; exact ⟨none, HLim.out, rfl⟩))
     clear hz
     go_wp2_with (first
      | (refine wpList_build_eq rfl 30 _ rfl #[.slice none 0 0, .slice none 0 0, .slice none 0 0] ?_ ?_; (simp; with_reducible exact hBz.out))
      | (refine wpList_store_row rfl 30 (.tmp 6) (.tmp 62) rfl _ _ rfl rfl _ _ H6.out info30d rfl nil_one ?_))
     refine bodyPost_ret (v := .tuple #[zD, .int .i64 2]) (results_cell_row2 rfl _ _ _ _ _ _ _ rfl _ rfl (setRow_heap w7 _ _ #[.slice none 0 0, .slice none 0 0, .slice none 0 0] 30 (0, 0) H6.out) Tryz.underlying30 rfl info30d) rfl ?_
     exact ⟨none, rfl, HR.out, HE7.out.setRow (by omega) _⟩
    | some o =>
     obtain ⟨rfl, hDo⟩ := HRes.out.some_inv
     have hov := HLim.out.1.val
     have hol := HLim.out.2.2
     have f146 := Lib.hid (power_any p o HVp.out hov hpl hol m hm16 _ _ w7 (HTa.out w7 HE7.out) (Nat.lt_of_lt_of_le hsz HE7.out.size) HDp.out hDo)
     clear hDo hov
     go_wp2_with (first
      | (refine wpList_load_row rfl 30 (.tmp 10) rfl _ rfl _ _ _ _ H10.out Tryz.underlying30 rfl hiVP ?_)
      | (refine wpList_load_row rfl 30 (.tmp 13) rfl _ rfl _ _ _ _ H13.out Tryz.underlying30 rfl hiVO ?_)
      | (go_at_call 146; (with_reducible refine f146.out.mono ?_); rintro e w8 ⟨r, hres, hpow, hE8⟩; obtain ⟨ac4, lc4, cc4, an4, ln4, cn4, aa4, la4, ca4, k4, rfl⟩ := hres.form; have HRes4 := Lib.hid hres; have HPow4 := Lib.hid hpow; have H6 := Lib.hid (hE8.heap H6.out); have HE8 := Lib.hid hE8; clear hres hpow hE8)
      | (refine wpList_store_row rfl 30 (.tmp 6) (.tmp 70) rfl _ _ rfl rfl _ _ H6.out info30d rfl (dA_one _ _ _ rfl rfl rfl) ?_))
     refine bodyPost_ret (v := .tuple #[.agg (dA (.slice ac4 lc4 cc4) (.slice an4 ln4 cn4) (.slice aa4 la4 ca4)), .int .i64 k4]) (results_cell_row2 rfl _ _ _ _ _ _ _ rfl _ rfl (setRow_heap w8 _ _ (dA (.slice ac4 lc4 cc4) (.slice an4 ln4 cn4) (.slice aa4 la4 ca4)) 30 (0, 0) H6.out) Tryz.underlying30 rfl info30d) rfl ?_
     refine ⟨r, HRes4.out.setRow (fun d' h => by subst h; exact (powR_ok m p d' HVp.out hpl HPow4.out).1) H6.out _, ?_, (HE7.out.trans HE8.out).setRow (by omega) _⟩
     refine hrep2.out r ?_
     show if hi = lo then _ else if hi < 0 then _ else _
     rw [if_neg HNE.out, if_neg (show ¬ hi < 0 by omega)]
     exact ⟨some o, HLim.out, by show PowR p o (hi - lo).toNat r; rw [HM.out, Int.toNat_natCast]; exact HPow4.out⟩
   ·have hn0 : hi < 0 := HB2.out.1 rfl
    have f147 := fun W (hW : Ext w5 W) => Lib.hid (star_any d HVd.out hdn _ W (HTa.out W (HE5.out.trans hW)) (Nat.lt_of_lt_of_le hsz (HE5.out.trans hW).size) (HDd5.out.ext hW))
    have HN0 := Lib.hid hn0
    clear hn0
    go_upto_region 9 with (first
     | (refine wpList_load_row rfl 30 (.tmp 3) rfl _ rfl _ _ _ _ H3.out Tryz.underlying30 rfl hiVd ?_)
     | (go_at_call 147; (with_reducible refine (f147 _ (Ext.refl w5)).out.mono ?_); rintro e w6 ⟨o, hres, hstar, hE6⟩; obtain ⟨ac3, lc3, cc3, an3, ln3, cn3, aa3, la3, ca3, k3, rfl⟩ := hres.form; have HRes := Lib.hid hres; have HStar := Lib.hid hstar; have HE6 := Lib.hid hE6; clear hres hstar hE6)
     | (refine wpList_store_row rfl 30 (.tmp 11) (.tmp 43) rfl _ _ rfl rfl _ _ (heap_alloc_at w6 (.cells #[.slice none 0 0, .slice none 0 0, .slice none 0 0] 30)) info30d rfl (dA_one _ _ _ rfl rfl rfl) ?_))
    obtain ⟨VO, hVO⟩ : ∃ X, dA (.slice ac3 lc3 cc3) (.slice an3 ln3 cn3) (.slice aa3 la3 ca3) = X := ⟨_, rfl⟩
    have hiVO : (Tryz.prog.info? 30).map (·.size) = some VO.size := by rw [← hVO]; exact info30d
    rw [hVO] at HRes
    simp only [hVO]
    clear hVO
    obtain ⟨hN1, hN2⟩ := new_box w6 VO
    obtain ⟨w7, hw7⟩ : ∃ W, (w6.alloc (.cells #[.slice none 0 0, .slice none 0 0, .slice none 0 0] 30)).setRow w6.heap.size VO = W := ⟨_, rfl⟩
    rw [hw7] at hN1 hN2
    simp only [hw7]
    clear hw7
    have hE57 := HE6.out.trans hN1
    have HE7 := Lib.hid (HE5.out.trans hE57)
    have H6 := Lib.hid (hE57.heap H6.out)
    have H10 := Lib.hid (hE57.heap H10.out)
    have H13 := Lib.hid hN2
    have HRes := Lib.hid (HRes.out.ext hN1)
    have HDp := Lib.hid (HDp.out.ext hE57)
    generalize w6.heap.size = g13 at *
    clear hN1 hN2 f147 hE57
    cases o with
    | none =>
     obtain ⟨rfl, hz⟩ := HRes.out.none_inv
     have hBz := Lib.hid built30z
     have HR := Lib.hid (hrep2.out none (by show if hi = lo then _ else if hi < 0 then _ else _; rw [if_neg HNE.out, if_pos HN0.out]; exact ⟨none, HStar.out, rfl⟩))
     clear hz
     go_wp2_with (first
      | (refine wpList_build_eq rfl 30 _ rfl #[.slice none 0 0, .slice none 0 0, .slice none 0 0] ?_ ?_; (simp; with_reducible exact hBz.out))
      | (refine wpList_store_row rfl 30 (.tmp 6) (.tmp 47) rfl _ _ rfl rfl _ _ H6.out info30d rfl nil_one ?_))
     refine bodyPost_ret (v := .tuple #[zD, .int .i64 2]) (results_cell_row2 rfl _ _ _ _ _ _ _ rfl _ rfl (setRow_heap w7 _ _ #[.slice none 0 0, .slice none 0 0, .slice none 0 0] 30 (0, 0) H6.out) Tryz.underlying30 rfl info30d) rfl ?_
     exact ⟨none, rfl, HR.out, HE7.out.setRow (by omega) _⟩
    | some o =>
     obtain ⟨rfl, hDo⟩ := HRes.out.some_inv
     obtain ⟨hov, hol⟩ := starR_ok HStar.out o rfl
     have f31 := Lib.hid (concat_any p o HVp.out hov hpl hol _ _ w7 (HTa.out w7 HE7.out) (Nat.lt_of_lt_of_le hsz HE7.out.size) HDp.out hDo)
     clear hDo hov
     go_wp2_with (first
      | (refine wpList_load_row rfl 30 (.tmp 10) rfl _ rfl _ _ _ _ H10.out Tryz.underlying30 rfl hiVP ?_)
      | (refine wpList_load_row rfl 30 (.tmp 11) rfl _ rfl _ _ _ _ H13.out Tryz.underlying30 rfl hiVO ?_)
      | (go_at_call 31; (with_reducible refine f31.out.mono ?_); rintro e w8 ⟨r, hres, hpow, hE8⟩; obtain ⟨ac4, lc4, cc4, an4, ln4, cn4, aa4, la4, ca4, k4, rfl⟩ := hres.form; have HRes4 := Lib.hid hres; have HPow4 := Lib.hid hpow; have H6 := Lib.hid (hE8.heap H6.out); have HE8 := Lib.hid hE8; clear hres hpow hE8)
      | (refine wpList_store_row rfl 30 (.tmp 6) (.tmp 52) rfl _ _ rfl rfl _ _ H6.out info30d rfl (dA_one _ _ _ rfl rfl rfl) ?_))
     refine bodyPost_ret (v := .tuple #[.agg (dA (.slice ac4 lc4 cc4) (.slice an4 ln4 cn4) (.slice aa4 la4 ca4)), .int .i64 k4]) (results_cell_row2 rfl _ _ _ _ _ _ _ rfl _ rfl (setRow_heap w8 _ _ (dA (.slice ac4 lc4 cc4) (.slice an4 ln4 cn4) (.slice aa4 la4 ca4)) 30 (0, 0) H6.out) Tryz.underlying30 rfl info30d) rfl ?_
     refine ⟨r, HRes4.out.setRow (fun d' h => (catR_none HPow4.out d' h).1) H6.out _, ?_, (HE7.out.trans HE8.out).setRow (by omega) _⟩
     refine hrep2.out r ?_
     show if hi = lo then _ else if hi < 0 then _ else _
     rw [if_neg HNE.out, if_pos HN0.out]
     exact ⟨some o, HStar.out, HPow4.out⟩
  ·have HR := Lib.hid (hrep2.out (some p) (by show if hi = lo then _ else _; rw [if_pos (HB1.out.1 rfl)]))
   go_wp2_with (first
    | (refine wpList_load_row rfl 30 (.tmp 10) rfl _ rfl _ _ _ _ H10.out Tryz.underlying30 rfl hiVP ?_)
    | (refine wpList_store_row rfl 30 (.tmp 6) (.tmp 36) rfl _ _ rfl rfl _ _ H6.out hiVP hVP3.out hVP1 ?_))
   refine bodyPost_ret (v := .tuple #[.agg VP, .int .i64 0]) (results_cell_row2 rfl _ _ _ _ _ _ _ rfl _ rfl (setRow_heap w5 _ _ VP 30 (0, 0) H6.out) Tryz.underlying30 rfl hiVP) rfl ?_
   exact ⟨some p, ⟨_, rfl, IsD.setRow HVp.out HDp.out H6.out _⟩, HR.out, HE5.out.setRow (by omega) _⟩
end Go.Proofs.YtaiogolidlamiaaGreatDoor
namespace Go.Proofs.YtaiogolidlamiaaGreatDoor
set_option maxRecDepth 100000
open Go
section
variable {P : Program} {ops : Array Oper} {Q : Exit → Act → World → Prop}
def valP (o : Oper) (a : Act) : Value := match o.dst with | some d => a.tmps.getD d undef | none => undef
structure FInvP (ops : Array Oper) (R : World → World → Prop) (F : Nat → Value → World → Prop) (Ne : Nat → Nat → Value → Value → Prop) (a0 : Act) (w1 : World) (listed : Array Bool) (a : Act) (w : World) : Prop where
 ext : R w1 w
 defers : a.defers = a0.defers
 size : a.tmps.size = a0.tmps.size
 done : ∀ i o, ops[i]? = some o → listed.getD i false = true → F i (valP o a) w
 rest : ∀ d, (∀ i o, ops[i]? = some o → listed.getD i false = true → o.dst ≠ some d) → a.tmps.getD d undef = a0.tmps.getD d undef
 ne : ∀ i j oi oj, i ≠ j → ops[i]? = some oi → ops[j]? = some oj → listed.getD i false = true → listed.getD j false = true → Ne i j (valP oi a) (valP oj a)
def POp (P : Program) (ops : Array Oper) (Q : Exit → Act → World → Prop) (R : World → World → Prop) (F : Nat → Value → World → Prop) (Ne : Nat → Nat → Value → Value → Prop) (a0 : Act) (w1 : World) (i : Nat) : Prop :=
 ∀ o, ops[i]? = some o → ∀ a w, R w1 w →
  (∀ j oj, ops[j]? = some oj → (∃ e ∈ o.after, Region.binds .any e = true ∧ e.on = j) → F j (valP oj a) w) →
  (∀ e, (∀ (j : Nat) (oj : Oper), ops[j]? = some oj → oj.dst ≠ some e) → a.tmps.getD e undef = a0.tmps.getD e undef) →
  Region.wanted o (yielded ops a.tmps) = true ∧ o.wp P a w (fun a' w' => ∃ v, (o.dst = none → v = undef) ∧ a' = a.put o.dst v ∧ R w w' ∧ F i v w' ∧ ∀ j u, j ≠ i → F j u w → (∀ k ok, ops[k]? = some ok → (∃ e ∈ o.after, Region.binds .any e = true ∧ e.on = k) → k ≠ j → Ne k j (valP ok a) u) → Ne i j v u) Q
def dstsP (ops : Array Oper) (sz : Nat) : Bool := (List.range ops.size).all fun i => match ops[i]? with
 | none => false
 | some o => match o.dst with
  | none => true
  | some d => decide (d < sz) && (List.range ops.size).all fun j => decide (j = i) || match ops[j]? with | none => false | some oj => decide (oj.dst ≠ some d)
theorem dstsP_spec {sz : Nat} (h : dstsP ops sz = true) (i : Nat) (o : Oper) (ho : ops[i]? = some o) : ∀ d, o.dst = some d → d < sz ∧ ∀ j oj, j ≠ i → ops[j]? = some oj → oj.dst ≠ some d := by
 unfold dstsP at h
 rw [List.all_eq_true] at h
 have hi := (Array.getElem?_eq_some_iff.1 ho).1
 have h1 := h i (List.mem_range.2 hi)
 rw [ho] at h1
 simp only at h1
 intro d hd
 rw [hd] at h1
 simp only [Bool.and_eq_true, decide_eq_true_eq, List.all_eq_true, Bool.or_eq_true, List.mem_range] at h1
 refine ⟨h1.1, fun j oj hne hoj => ?_⟩
 rcases h1.2 j (Array.getElem?_eq_some_iff.1 hoj).1 with h2 | h2
 ·exact absurd h2 hne
 ·rw [hoj] at h2
  simpa using h2
theorem putP_size (a : Act) (d : Option Tmp) (v : Value) : (a.put d v).tmps.size = a.tmps.size ∧ (a.put d v).defers = a.defers := by
 cases d with
 | none => exact ⟨rfl, rfl⟩
 | some d => exact ⟨put_size a d v, rfl⟩
theorem valP_put {sz : Nat} (hd : dstsP ops sz = true) {i : Nat} {o : Oper} (ho : ops[i]? = some o) {a : Act} (ha : a.tmps.size = sz) {v : Value} (hv : o.dst = none → v = undef) {j : Nat} {oj : Oper} (hoj : ops[j]? = some oj) :
  valP oj (a.put o.dst v) = if j = i then v else valP oj a := by
 by_cases e : j = i
 ·subst e
  rw [ho] at hoj
  injection hoj with hoj
  subst hoj
  rw [if_pos rfl]
  unfold valP
  cases hdd : o.dst with
  | none => exact (hv hdd).symm
  | some d =>
   simp only
   rw [put_getD _ _ _ _ (by rw [ha]; exact (dstsP_spec hd j o ho d hdd).1), if_pos rfl]
 ·rw [if_neg e]
  unfold valP
  cases hdj : oj.dst with
  | none => rfl
  | some dj =>
   simp only
   cases hdd : o.dst with
   | none => rfl
   | some d =>
    rw [put_getD _ _ _ _ (by rw [ha]; exact (dstsP_spec hd i o ho d hdd).1)]
    rw [if_neg (fun h => (dstsP_spec hd i o ho d hdd).2 j oj e hoj (by rw [hdj, h]))]
theorem finvP_step {R : World → World → Prop} (hRt : ∀ x y z, R x y → R y z → R x z) {F : Nat → Value → World → Prop} {Ne : Nat → Nat → Value → Value → Prop} (hNe : ∀ i j v u, Ne i j v u → Ne j i u v) (hF : ∀ i v w w', F i v w → R w w' → F i v w') {a0 : Act} {w1 : World} {sz : Nat} (hsz : a0.tmps.size = sz) (hd : dstsP ops sz = true) {listed : Array Bool} {a : Act} {w : World} (inv : FInvP ops R F Ne a0 w1 listed a w)
  {i : Nat} (hi : i ∈ Region.ready .any ops listed) (H : POp P ops Q R F Ne a0 w1 i) : wpOp P ops Q i (fun a' w' => FInvP ops R F Ne a0 w1 (listed.setIfInBounds i true) a' w') a w := by
 obtain ⟨hun, o, ho, hall⟩ := mem_ready.1 hi
 have hli : i < listed.size := by
  rcases Nat.lt_or_ge i listed.size with h | h
  ·exact h
  ·simp [Array.getElem?_eq_none h] at hun
 have hg : ∀ j, (listed.setIfInBounds i true).getD j false = true → j = i ∨ listed.getD j false = true := fun j hj => by
  by_cases e : i = j
  ·exact .inl e.symm
  ·rw [getD_set_ne false e] at hj; exact .inr hj
 obtain ⟨hw, hwp⟩ := H o ho a w inv.ext (fun j oj hoj ⟨e, he, hb, hej⟩ => inv.done j oj hoj (by rw [← hej]; exact hall e he hb)) (fun e he => inv.rest e fun j oj hoj _ => he j oj hoj)
 unfold wpOp
 rw [ho]
 simp only [hw, if_true]
 refine .inl (Oper.wp_mono (fun a' w' h => ?_) hwp)
 obtain ⟨v, hvn, rfl, hE, hv, hnw⟩ := h
 have has : a.tmps.size = sz := by rw [inv.size, hsz]
 refine ⟨hRt _ _ _ inv.ext hE, by rw [(putP_size a o.dst v).2]; exact inv.defers, by rw [(putP_size a o.dst v).1]; exact inv.size, fun j oj hoj hlj => ?_, fun e he => ?_, fun j k oj ok hjk hoj hok hlj hlk => ?_⟩
 ·rw [valP_put hd ho has hvn hoj]
  by_cases e : j = i
  ·rw [if_pos e, e]; exact hv
  ·rw [if_neg e]
   rcases hg j hlj with h | h
   ·exact absurd h e
   ·exact hF _ _ _ _ (inv.done j oj hoj h) hE
 ·have h1 : (a.put o.dst v).tmps.getD e undef = a.tmps.getD e undef := by
   cases hdd : o.dst with
   | none => rfl
   | some d =>
    rw [put_getD _ _ _ _ (by rw [has]; exact (dstsP_spec hd i o ho d hdd).1), if_neg]
    exact fun h => he i o ho (by simp [hli]) (by rw [hdd, h])
  rw [h1]
  refine inv.rest e fun j oj hoj hlj => he j oj hoj ?_
  by_cases e' : i = j
  ·subst e'; simp [hli]
  ·rw [getD_set_ne false e']; exact hlj
 ·rw [valP_put hd ho has hvn hoj, valP_put hd ho has hvn hok]
  by_cases e1 : j = i
  ·have e2 : k ≠ i := fun h => hjk (by rw [e1, h])
   rw [if_pos e1, if_neg e2, e1]
   rcases hg k hlk with h | h
   ·exact absurd h e2
   ·exact hnw k _ e2 (inv.done k ok hok h) (fun q oq hoq ⟨e, he, hb, hon⟩ hqk => inv.ne q k oq ok hqk hoq hok (by rw [← hon]; exact hall e he hb) h)
  ·rw [if_neg e1]
   rcases hg j hlj with h | hlj'
   ·exact absurd h e1
   ·by_cases e2 : k = i
    ·rw [if_pos e2, e2]
     exact hNe _ _ _ _ (hnw j _ e1 (inv.done j oj hoj hlj') (fun q oq hoq ⟨e, he, hb, hon⟩ hqk => inv.ne q j oq oj hqk hoq hoj (by rw [← hon]; exact hall e he hb) hlj'))
    ·rw [if_neg e2]
     rcases hg k hlk with h | hlk'
     ·exact absurd h e2
     ·exact inv.ne j k oj ok hjk hoj hok hlj' hlk'
theorem putsP_get {sz : Nat} (hd : dstsP ops sz = true) (a a0 : Act) (hsz : a0.tmps.size = sz) (vs : Nat → Value) (hvs : ∀ i o, ops[i]? = some o → vs i = valP o a) (e : Nat) :
  ∀ k, k ≤ ops.size → ((∃ i o, i < k ∧ ops[i]? = some o ∧ o.dst = some e) → (putsR ops vs k a0).tmps.getD e undef = a.tmps.getD e undef) ∧ ((∀ i o, i < k → ops[i]? = some o → o.dst ≠ some e) → (putsR ops vs k a0).tmps.getD e undef = a0.tmps.getD e undef)
 | 0, _ => ⟨fun ⟨i, o, h, _⟩ => by omega, fun _ => rfl⟩
 | k + 1, hk => by
  obtain ⟨h1, h2⟩ := putsP_get hd a a0 hsz vs hvs e k (by omega)
  obtain ⟨o, ho⟩ : ∃ o, ops[k]? = some o := ⟨_, Array.getElem?_eq_getElem (by omega)⟩
  have hput : putsR ops vs (k + 1) a0 = (putsR ops vs k a0).put o.dst (vs k) := by
   show (putsR ops vs k a0).put ((ops[k]?).bind (·.dst)) (vs k) = _
   rw [ho]; rfl
  have hg : (putsR ops vs (k + 1) a0).tmps.getD e undef = if o.dst = some e then a.tmps.getD e undef else (putsR ops vs k a0).tmps.getD e undef := by
   rw [hput]
   cases hdd : o.dst with
   | none => simp [Act.put]
   | some d =>
    rw [put_getD _ _ _ _ (by rw [(puts_size vs a0 k).1, hsz]; exact (dstsP_spec hd k o ho d hdd).1)]
    by_cases e' : e = d
    ·subst e'
     rw [if_pos rfl, if_pos rfl, hvs k o ho]
     unfold valP
     rw [hdd]
    ·rw [if_neg e', if_neg (fun h => e' (Option.some.inj h).symm)]
  rw [hg]
  constructor
  ·rintro ⟨i, o', hi, ho', hd'⟩
   by_cases e' : o.dst = some e
   ·rw [if_pos e']
   ·rw [if_neg e']
    refine h1 ⟨i, o', ?_, ho', hd'⟩
    by_cases hik : i = k
    ·subst hik
     rw [ho] at ho'
     injection ho' with ho'
     subst ho'
     exact absurd hd' e'
    ·omega
  ·intro h
   rw [if_neg (h k o (by omega) ho)]
   exact h2 fun i o' hi => h i o' (by omega)
theorem finvP_end {R : World → World → Prop} {F : Nat → Value → World → Prop} {Ne : Nat → Nat → Value → Value → Prop} {a0 : Act} {w1 : World} {sz : Nat} (hsz : a0.tmps.size = sz) (hd : dstsP ops sz = true) {listed : Array Bool} {a : Act} {w : World} (inv : FInvP ops R F Ne a0 w1 listed a w) (hall : ∀ i, i < ops.size → listed.getD i false = true) :
  ∃ vs : Nat → Value, a = putsR ops vs ops.size a0 ∧ (∀ i, i < ops.size → F i (vs i) w) ∧ ∀ i j, i < ops.size → j < ops.size → i ≠ j → Ne i j (vs i) (vs j) := by
 obtain ⟨vs, hvs⟩ : ∃ vs : Nat → Value, ∀ i o, ops[i]? = some o → vs i = valP o a := ⟨fun i => match ops[i]? with | some o => valP o a | none => undef, fun i o ho => by simp only [ho]⟩
 have get : ∀ i, i < ops.size → ∃ o, ops[i]? = some o := fun i hi => ⟨_, Array.getElem?_eq_getElem hi⟩
 refine ⟨vs, ?_, fun i hi => ?_, fun i j hi hj hij => ?_⟩
 ·have hg := fun e => putsP_get hd a a0 hsz vs hvs e ops.size (Nat.le_refl _)
  obtain ⟨s1, s2⟩ := puts_size (ops := ops) vs a0 ops.size
  have ht : a.tmps = (putsR ops vs ops.size a0).tmps := by
   apply Array.ext
   ·rw [s1, inv.size]
   ·intro e h1 h2
    have he : a.tmps.getD e undef = (putsR ops vs ops.size a0).tmps.getD e undef := by
     obtain ⟨g1, g2⟩ := hg e
     by_cases hex : ∃ i o, i < ops.size ∧ ops[i]? = some o ∧ o.dst = some e
     ·exact (g1 hex).symm
     ·have hno : ∀ i o, i < ops.size → ops[i]? = some o → o.dst ≠ some e := fun i o hi ho hd' => hex ⟨i, o, hi, ho, hd'⟩
      rw [g2 hno]
      exact inv.rest e fun i o ho _ => hno i o (Array.getElem?_eq_some_iff.1 ho).1 ho
    rw [Array.getD_eq_getD_getElem?, Array.getD_eq_getD_getElem?, Array.getElem?_eq_getElem h1, Array.getElem?_eq_getElem h2] at he
    exact he
  have hdf := inv.defers
  rw [← s2] at hdf
  generalize putsR ops vs ops.size a0 = b at *
  cases a; cases b
  simp only at ht hdf
  rw [ht, hdf]
 ·obtain ⟨o, ho⟩ := get i hi
  rw [hvs i o ho]
  exact inv.done i o ho (hall i hi)
 ·obtain ⟨o, ho⟩ := get i hi
  obtain ⟨o', ho'⟩ := get j hj
  rw [hvs i o ho, hvs j o' ho']
  exact inv.ne i j o o' hij ho ho' (hall i hi) (hall j hj)
theorem pre_any {R : World → World → Prop} (hRt : ∀ x y z, R x y → R y z → R x z) {F : Nat → Value → World → Prop} {Ne : Nat → Nat → Value → Value → Prop} (hNe : ∀ i j v u, Ne i j v u → Ne j i u v) (hF : ∀ i v w w', F i v w → R w w' → F i v w') {a0 : Act} {w1 : World} {sz : Nat} (hsz : a0.tmps.size = sz) (hd : dstsP ops sz = true) (hE : edgesB ops ops.size = true)
  (hop : ∀ i, i < ops.size → POp P ops Q R F Ne a0 w1 i) (hend : ∀ (vs : Nat → Value) (w' : World), R w1 w' → (∀ i, i < ops.size → F i (vs i) w') → (∀ i j, i < ops.size → j < ops.size → i ≠ j → Ne i j (vs i) (vs j)) → Q .normal (putsR ops vs ops.size a0) w') :
  ∀ (f : Nat) (listed : Array Bool) (a : Act) (w : World), listed.size = ops.size → FInvP ops R F Ne a0 w1 listed a w → unl ops.size listed = f → wpAny P .any ops Q f listed a w
 | 0, listed, a, w, hs, hI, hu => by
  have hall := unl_zero _ listed hu
  obtain ⟨vs, rfl, h1, h2⟩ := finvP_end hsz hd hI hall
  refine ⟨?_, hend vs w hI.ext h1 h2⟩
  refine List.eq_nil_iff_forall_not_mem.2 fun i hi => ?_
  obtain ⟨hun, o, ho, _⟩ := mem_ready.1 hi
  have hio := (Array.getElem?_eq_some_iff.1 ho).1
  have := hall i hio
  have hil : i < listed.size := by omega
  rw [Array.getD_eq_getD_getElem?, Array.getElem?_eq_getElem hil] at hun this
  rw [Option.getD_some] at hun this
  rw [this] at hun
  cases hun
 | f + 1, listed, a, w, hs, hI, hu => by
  obtain ⟨k, hk, hku, hkl⟩ := least_ex ops.size listed (by omega)
  have hkr := least_ready hE hs (Nat.le_refl _) k hk hkl hku
  refine ⟨fun h0 => (by rw [h0] at hkr; cases hkr), fun i hi => ?_⟩
  obtain ⟨hiu, o, ho, _⟩ := mem_ready.1 hi
  have hin := (Array.getElem?_eq_some_iff.1 ho).1
  have hil : i < listed.size := by omega
  have hiu' : listed.getD i false = false := by
   rw [Array.getD_eq_getD_getElem?, Array.getElem?_eq_getElem hil] at hiu ⊢
   exact hiu
  refine wpOp_mono (fun a' w' h => pre_any hRt hNe hF hsz hd hE hop hend f _ a' w' (by rw [Array.size_setIfInBounds]; exact hs) h ?_) (finvP_step hRt hNe hF hsz hd hI hi (hop i hin))
  have := unl_set _ listed i hin hil hiu'
  show unl ops.size (listed.setIfInBounds i true) = f
  omega
def preB (ops : Array Oper) (sz : Nat) : Bool := dstsP ops sz && edgesB ops ops.size
theorem wp_region_pre {id : Nat} {a0 : Act} {w : World} (n sz : Nat) (hn : ops.size = n) (hm : P.follows .mixedOrders = true) (hB : preB ops sz = true) (hsz : a0.tmps.size = sz) (R : World → World → Prop) (hRr : ∀ x, R x x) (hRt : ∀ x y z, R x y → R y z → R x z) (F : Nat → Value → World → Prop) (Ne : Nat → Nat → Value → Value → Prop) (hNe : ∀ i j v u, Ne i j v u → Ne j i u v) (hF : ∀ i v w w', F i v w → R w w' → F i v w')
  (hop : ∀ i, i < n → POp P ops Q R F Ne a0 w.drew i) (hend : ∀ (vs : Nat → Value) (w' : World), R w.drew w' → (∀ i, i < n → F i (vs i) w') → (∀ i j, i < n → j < n → i ≠ j → Ne i j (vs i) (vs j)) → Q .normal (putsR ops vs n a0) w') : (Code.region id ops true).wp P Q a0 w := by
 subst hn
 simp only [preB, Bool.and_eq_true] at hB
 refine wp_region_any hm (pre_any hRt hNe hF hsz hB.1 hB.2 hop hend _ _ a0 w.drew (by simp) ⟨hRr _, rfl, rfl, fun i o _ hl => (by rw [getD_replicate_false] at hl; cases hl), fun d _ => rfl, fun i j _ _ _ _ _ hl => (by rw [getD_replicate_false] at hl; cases hl)⟩ ?_)
 have hu : ∀ m, unl m (Array.replicate ops.size false) = m := fun m => by
  induction m with
  | zero => rfl
  | succ m ih => rw [unl_succ, ih, getD_replicate_false]; simp
 exact hu _
def depP (ops : Array Oper) (i j dj : Nat) : Bool := (match ops[j]? with | some oj => decide (oj.dst = some dj) | none => false) && Region.waitsFor .any ops i j
def depW (ops : Array Oper) (i j : Nat) : Bool := (match ops[j]? with | some oj => decide (oj.dst = none) | none => false) && Region.waitsFor .any ops i j
def noDstP (ops : Array Oper) (e : Nat) : Bool := (List.range ops.size).all fun j => match ops[j]? with | none => true | some oj => decide (oj.dst ≠ some e)
theorem pop_of {R : World → World → Prop} {F : Nat → Value → World → Prop} {Ne : Nat → Nat → Value → Value → Prop} {a0 : Act} {w1 : World} {i : Nat} (o : Oper) (h0 : ops.toList[i]? = some o) (hg : o.guard = none)
  (H : ∀ a w, R w1 w → (∀ j dj, depP ops i j dj = true → F j (a.tmps.getD dj undef) w) → (∀ j, depW ops i j = true → F j undef w) → (∀ e, noDstP ops e = true → a.tmps.getD e undef = a0.tmps.getD e undef) →
   o.wp P a w (fun a' w' => ∃ v, (o.dst = none → v = undef) ∧ a' = a.put o.dst v ∧ R w w' ∧ F i v w' ∧ ∀ j u, j ≠ i → F j u w → (∀ k dk, depP ops i k dk = true → k ≠ j → Ne k j (a.tmps.getD dk undef) u) → Ne i j v u) Q) : POp P ops Q R F Ne a0 w1 i := by
 intro o' ho' a w hE hdep hkeep
 rw [← Array.getElem?_toList, h0] at ho'
 injection ho' with ho'
 subst ho'
 have ho : ops[i]? = some o := by rw [← Array.getElem?_toList]; exact h0
 have hwf : ∀ j, Region.waitsFor .any ops i j = true → ∃ e ∈ o.after, Region.binds .any e = true ∧ e.on = j := fun j h => by
  obtain ⟨oi, hoi, e, he, hb, hon⟩ := Region.waitsFor_spec h
  have : oi = o := Option.some.inj (hoi.symm.trans ho)
  subst this
  exact ⟨e, he, hb, hon⟩
 have hval : ∀ j dj, depP ops i j dj = true → ∃ oj, ops[j]? = some oj ∧ (∃ e ∈ o.after, Region.binds .any e = true ∧ e.on = j) ∧ valP oj a = a.tmps.getD dj undef := fun j dj h => by
  unfold depP at h
  simp only [Bool.and_eq_true] at h
  obtain ⟨h1, h2⟩ := h
  cases hoj : ops[j]? with
  | none => rw [hoj] at h1; cases h1
  | some oj =>
   rw [hoj] at h1
   have hdj : oj.dst = some dj := of_decide_eq_true h1
   exact ⟨oj, rfl, hwf j h2, by unfold valP; rw [hdj]⟩
 refine ⟨by simp [Region.wanted, hg], Oper.wp_mono (fun a' w' ⟨v, h1, h2, h3, h4, h5⟩ => ⟨v, h1, h2, h3, h4, fun j u hji hF hd => h5 j u hji hF fun k dk hk hkj => by
  obtain ⟨oj, e1, e2, e3⟩ := hval k dk hk
  have := hd k oj e1 e2 hkj
  rw [e3] at this
  exact this⟩) (H a w hE (fun j dj h => ?_) (fun j h => ?_) (fun e h => hkeep e fun j oj hoj => ?_))⟩
 ·unfold depP at h
  simp only [Bool.and_eq_true] at h
  obtain ⟨h1, h2⟩ := h
  cases hoj : ops[j]? with
  | none => rw [hoj] at h1; cases h1
  | some oj =>
   rw [hoj] at h1
   have hdj : oj.dst = some dj := of_decide_eq_true h1
   have := hdep j oj hoj (hwf j h2)
   unfold valP at this
   rw [hdj] at this
   exact this
 ·unfold depW at h
  simp only [Bool.and_eq_true] at h
  obtain ⟨h1, h2⟩ := h
  cases hoj : ops[j]? with
  | none => rw [hoj] at h1; cases h1
  | some oj =>
   rw [hoj] at h1
   have hdj : oj.dst = none := of_decide_eq_true h1
   have := hdep j oj hoj (hwf j h2)
   unfold valP at this
   rw [hdj] at this
   exact this
 ·unfold noDstP at h
  rw [List.all_eq_true] at h
  have := h j (List.mem_range.2 (Array.getElem?_eq_some_iff.1 hoj).1)
  rw [hoj] at this
  exact of_decide_eq_true this
theorem pop_v {R : World → World → Prop} {F : Nat → Value → World → Prop} {Ne : Nat → Nat → Value → Value → Prop} {a0 : Act} {w1 : World} {i : Nat} (o : Oper) (d : Tmp) (h0 : ops.toList[i]? = some o) (hd : o.dst = some d) (hg : o.guard = none)
  (H : ∀ a w, R w1 w → (∀ j dj, depP ops i j dj = true → F j (a.tmps.getD dj undef) w) → (∀ j, depW ops i j = true → F j undef w) → (∀ e, noDstP ops e = true → a.tmps.getD e undef = a0.tmps.getD e undef) →
   o.wp P a w (fun a' w' => ∃ v, a' = a.put (some d) v ∧ R w w' ∧ F i v w' ∧ ∀ j u, j ≠ i → F j u w → Ne i j v u) Q) : POp P ops Q R F Ne a0 w1 i :=
 pop_of o h0 hg fun a w h1 h2 h3 h4 => Oper.wp_mono (fun a' w' ⟨v, e, h⟩ => ⟨v, fun h' => (by rw [hd] at h'; cases h'), by rw [hd]; exact e, h.1, h.2.1, fun j u a b _ => h.2.2 j u a b⟩) (H a w h1 h2 h3 h4)
theorem pop_vn {R : World → World → Prop} {F : Nat → Value → World → Prop} {Ne : Nat → Nat → Value → Value → Prop} {a0 : Act} {w1 : World} {i : Nat} (o : Oper) (d : Tmp) (h0 : ops.toList[i]? = some o) (hd : o.dst = some d) (hg : o.guard = none)
  (H : ∀ a w, R w1 w → (∀ j dj, depP ops i j dj = true → F j (a.tmps.getD dj undef) w) → (∀ j, depW ops i j = true → F j undef w) → (∀ e, noDstP ops e = true → a.tmps.getD e undef = a0.tmps.getD e undef) →
   o.wp P a w (fun a' w' => ∃ v, a' = a.put (some d) v ∧ R w w' ∧ F i v w' ∧ ∀ j u, j ≠ i → F j u w → (∀ k dk, depP ops i k dk = true → k ≠ j → Ne k j (a.tmps.getD dk undef) u) → Ne i j v u) Q) : POp P ops Q R F Ne a0 w1 i :=
 pop_of o h0 hg fun a w h1 h2 h3 h4 => Oper.wp_mono (fun a' w' ⟨v, e, h⟩ => ⟨v, fun h' => (by rw [hd] at h'; cases h'), by rw [hd]; exact e, h⟩) (H a w h1 h2 h3 h4)
theorem pop_w {R : World → World → Prop} {F : Nat → Value → World → Prop} {Ne : Nat → Nat → Value → Value → Prop} {a0 : Act} {w1 : World} {i : Nat} (o : Oper) (h0 : ops.toList[i]? = some o) (hd : o.dst = none) (hg : o.guard = none)
  (H : ∀ a w, R w1 w → (∀ j dj, depP ops i j dj = true → F j (a.tmps.getD dj undef) w) → (∀ j, depW ops i j = true → F j undef w) → (∀ e, noDstP ops e = true → a.tmps.getD e undef = a0.tmps.getD e undef) →
   o.wp P a w (fun a' w' => a' = a ∧ R w w' ∧ F i undef w' ∧ ∀ j u, j ≠ i → F j u w → Ne i j undef u) Q) : POp P ops Q R F Ne a0 w1 i :=
 pop_of o h0 hg fun a w h1 h2 h3 h4 => Oper.wp_mono (fun a' w' ⟨e, h⟩ => ⟨undef, fun _ => rfl, by rw [hd]; exact e, h.1, h.2.1, fun j u a b _ => h.2.2 j u a b⟩) (H a w h1 h2 h3 h4)
end
end Go.Proofs.YtaiogolidlamiaaGreatDoor
