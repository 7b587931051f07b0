import Derived.Test.YtaiogolidlamiaaGreatDoorM10
import Derived.Test.YtaiogolidlamiaaGreatDoorM08
import Derived.Deep.RegionHeldLaw
import Derived.Maps.OwnSet
import Derived.WideKeyPair
import Derived.DeepKeys4
set_option linter.unusedVariables false
set_option linter.unusedSimpArgs false
namespace Go.Proofs.YtaiogolidlamiaaGreatDoor
set_option maxRecDepth 100000
open Go.RowKit Go.Shelf
theorem Kw (x : Cls) (m : Bool) (h : (x == 0#256) = m) (W : World) : (Op.equalIn 10000 62 (.agg (Aa x)) (.agg zA)).run Tryz.prog W = .ok m W := by
 have := Jp x 0#256 W;rw [Fj, h] at this;exact this
theorem Parts.pos {L : List Cls} (h : Parts L) : 0 < L.length := by
 obtain ⟨c, hc, _⟩ := h.cov 0 (by omega);exact List.length_pos_of_mem hc
theorem Parts.le {L : List Cls} (h : Parts L) : L.length ≤ 256 := by
 have := Gs (fun b => Aj L b) 256 L.length fun j hj => by
  obtain ⟨b, hb, e⟩ := He h hj;exact ⟨b, hb, e⟩
 exact this
theorem Abe : ~~~allC = 0#256 := by decide
set_option maxHeartbeats 2000000 in
theorem Dp (d : Dfa) (hv : Val d) (hn : d.nxt.length ≤ 64) (v : Value) (w : World) (h : IsD w v d) :
  Calls Tryz.prog 47 #[v] w fun e w' => e = .returned (.bool true) ∧ Ext w w' := by
 obtain ⟨vc, vn, va, rfl, hC, ⟨vs, hvs, hN, hrows⟩, hA⟩ := h;have hm0 := hv.parts.pos;have hm1 := hv.parts.le;have hn0 := hv.pos;obtain ⟨bc, oc, cc, rfl, hc⟩ := Sl.form hC hm0;obtain ⟨bn, on, cn, rfl, hnc⟩ := Sl.form hN hn0;obtain ⟨aa, ca, rfl⟩ := Sl.len hA;rw [hv.accL];have HC := Lib.hid hc;have HNC := Lib.hid hnc;have HRow := Lib.hid (fun s (hs : s < d.nxt.length) => by
  obtain ⟨b, off, cap, hv1, hc1⟩ := Sl.form (hrows s hs) (by rw [hv.row s hs]; exact hm0);exact (⟨b, off, cap, by rw [← hv.row s hs]; exact hv1, fun k hk => by rw [hc1 k (by rw [hv.row s hs]; omega)]; rfl⟩ : ∃ b off cap, vs.getD s undef = .slice (some ⟨b, off, none⟩) d.cls.length cap ∧ ∀ k, k < d.cls.length → w.cell? ⟨b, off + k, none⟩ = some (iv (d.ent2 s k))))
 have HTgt := Lib.hid hv.tgt;have HP := Lib.hid hv.parts;clear hc hnc hN hA hC hrows hvs hv;have d1 : decide ((d.nxt.length : Int) < 1) = false := by simp; omega
 have d2 : decide ((64 : Int) < (d.nxt.length : Int)) = false := by simp; omega
 have dn : ((d.nxt.length : Int) != (d.nxt.length : Int)) = false := by simp
 have d3 : decide ((d.cls.length : Int) < 1) = false := by simp; omega
 have d4 : decide ((256 : Int) < (d.cls.length : Int)) = false := by simp; omega
 have hE0 := (Ext.refl w).alloc (.cells #[.slice (some ⟨bc, oc, none⟩) d.cls.length cc, .slice (some ⟨bn, on, none⟩) d.nxt.length cn, .slice aa d.nxt.length ca] 30);have H0 := Ab w (.cells #[.slice (some ⟨bc, oc, none⟩) d.cls.length cc, .slice (some ⟨bn, on, none⟩) d.nxt.length cn, .slice aa d.nxt.length ca] 30);go_enter Tryz.func47, Tryz.ntmps47;go_upto_region 1 with (fail)
 obtain ⟨w1, hw1⟩ : ∃ W, w.alloc (.cells #[.slice (some ⟨bc, oc, none⟩) d.cls.length cc, .slice (some ⟨bn, on, none⟩) d.nxt.length cn, .slice aa d.nxt.length ca] 30) = W := ⟨_, rfl⟩;simp only [hw1] at *;clear hw1;have HK := Lib.hid (fun (W : World) (hW : Ext w1 W) => (⟨(cell_of_row W _ 0 _ _ _ (hW.heap H0)).trans rfl, (cell_of_row W _ 1 _ _ _ (hW.heap H0)).trans rfl, (cell_of_row W _ 2 _ _ _ (hW.heap H0)).trans rfl⟩ :
  W.cell? ⟨w.heap.size, 0, none⟩ = some (.slice (some ⟨bc, oc, none⟩) d.cls.length cc) ∧ W.cell? ⟨w.heap.size, 1, none⟩ = some (.slice (some ⟨bn, on, none⟩) d.nxt.length cn) ∧ W.cell? ⟨w.heap.size, 2, none⟩ = some (.slice aa d.nxt.length ca)))
 clear H0;obtain ⟨k0, k1, k2⟩ := HK.out w1 (Ext.refl w1);go_upto_region 4 with (fail)
 clear k0 k1 k2;go_upto_region 5 with (fail)
 have hE1 := (Ext.refl w1).alloc (.cells zA 62);have HS0 := Lib.hid (Ab w1 (.cells zA 62));obtain ⟨w2, hw2⟩ : ∃ W, w1.alloc (.cells zA 62) = W := ⟨_, rfl⟩;simp only [hw2] at *;clear hw2;obtain ⟨k0, k1, k2⟩ := HK.out w2 hE1;go_wp2_with (fail);clear k0 k1 k2 d1 d2 d3 d4;go_loopw [42] (fun i W => ∃ k : Nat, k ≤ d.cls.length ∧ i = .int .i64 k ∧ Ext w1 W ∧ W.heap[w1.heap.size]? = some (.cells (Aa (uTo (fun _ => true) d.cls k)) 62 (0, 0)))
  (fun i _ => d.cls.length - (intOf i).toNat)
 case atStart => exact ⟨0, by omega, rfl, hE1, by rw [Wz, Fj]; exact HS0.out⟩
 case round =>
  obtain ⟨k, hk, rfl, hE, hBk⟩ := hrel;have HB := Lib.hid hBk;clear hBk;by_cases hlt : k < d.cls.length
  ·obtain ⟨a0, a1, a2, a3⟩ := Hd (W := wr) (fun i hi => (hE0.trans hE).cell (HC.out i hi)) k hlt;have hdi := Aai (Kn HP.out) k hlt;have hnz := HP.out.nz (d.cls.getD k 0#256) (by rw [List.getD_eq_getElem?_getD, List.getElem?_eq_getElem hlt]; exact List.getElem_mem hlt);have hus := W4 (fun _ => true) d.cls k hlt;rw [if_pos rfl] at hus;have HUS := Lib.hid hus;clear hus;obtain ⟨c, hcd⟩ : ∃ c, d.cls.getD k 0#256 = c := ⟨_, rfl⟩;rw [hcd] at a0 a1 a2 a3 hdi hnz HUS;clear hcd;generalize uTo (fun _ => true) d.cls k = A at *;have f92 := fun W => Lib.hid (Sv A c W)
   have f93 := fun W => Lib.hid (Pt A c W)
   have g1 := Kw c false (by simpa using hnz);have g2 := Kw (A &&& c) true (by rw [hdi]; rfl);have g3 := Ik;clear hdi hnz;generalize A &&& c = x at *;have hBlt := Am HB.out;go_upto_region 8 with (fail)
   obtain ⟨wi, hwi⟩ : ∃ W, wr.alloc (.cells (Aa c) 62) = W := ⟨_, rfl⟩;simp only [hwi];have hEi : Ext wr wi := hwi ▸ (Ext.refl wr).alloc _;have H6 := Lib.hid (show wi.heap[wr.heap.size]? = some (.cells (Aa c) 62 (0, 0)) from hwi ▸ Ab wr _);have HB := Lib.hid (hEi.heap HB.out);clear hwi a0 a1 a2 a3;obtain ⟨x0, x1, x2, x3⟩ := Kv H6.out;obtain ⟨y0, y1, y2, y3⟩ := Kv HB.out;obtain ⟨e0, he0⟩ := Afc wi;rw [he0];clear he0;go_wp2_with (first
    | (go_at_call 92; with_reducible refine (f92 _).out.mono ?_; rintro e w' ⟨rfl, hE'⟩; obtain ⟨e', rfl⟩ := T1 hE')
    | (go_at_call 93; with_reducible refine (f93 _).out.mono ?_; rintro e w' ⟨rfl, hE'⟩; obtain ⟨e', rfl⟩ := T1 hE')
    | (refine wpList_store_row rfl 62 (.tmp 4) (.tmp 58) rfl _ _ rfl rfl _ _ (e'.ext.heap HB.out) A3 rfl (Dl _) ?_))
   go_roundw
   case rel => exact ⟨k + 1, by omega, by go_num, ((hE.trans hEi).trans e'.ext).setRow (Nat.le_refl _) _, by rw [HUS.out]; exact setRow_heap e'.W _ _ _ _ _ (e'.ext.heap HB.out)⟩
   case measure => simp [intOf]; omega
  ·obtain rfl : k = d.cls.length := by omega
   rw [Aaj (Kn HP.out)] at HB;have f94 := fun W => Lib.hid (R5 allC W)
   have g1 := Kw (~~~allC) true (by rw [Abe]; rfl);have g3 := Ik;generalize ~~~allC = x at *;generalize allC = uA at *;go_wp2_with (first
    | (refine wpList_load_row rfl 62 (.tmp 4) rfl _ rfl _ _ _ _ HB.out Tryz.underlying62 rfl A3 ?_)
    | (go_at_call 94; with_reducible refine (f94 _).out.mono ?_; rintro e w5 ⟨rfl, hE5⟩; obtain ⟨k0, k1, k2⟩ := HK.out w5 (hE.trans hE5)))
   clear k0 k1 k2 f94 g1 g3 HB;have hE6 := hE.trans hE5;go_loopw [67] (fun i W => ∃ s : Nat, s ≤ d.nxt.length ∧ i = .int .i64 s ∧ Ext w1 W) (fun i _ => d.nxt.length - (intOf i).toNat)
   case atStart => exact ⟨0, by omega, rfl, hE6⟩
   case round =>
    obtain ⟨s, hs, rfl, hEs⟩ := hrel;by_cases hsl : s < d.nxt.length
    ·have cs := (hE0.trans hEs).cell (HNC.out s (by omega));obtain ⟨br, or', cr, hvr, hcr⟩ := HRow.out s hsl;rw [hvr] at cs;have HCR := Lib.hid (fun k hk => (hE0.trans hEs).cell (hcr k hk));have HT := Lib.hid (HTgt.out s hsl);have dm : ((d.cls.length : Int) != (d.cls.length : Int)) = false := by simp
     have ds : decide ((s : Int) < (d.nxt.length : Int)) = true := by simp; omega
     obtain ⟨k0, k1, k2⟩ := HK.out wr hEs;clear hvr hcr;obtain ⟨wo, hwo⟩ : ∃ W, W = wr := ⟨_, rfl⟩;subst hwo;go_wp2_with (fail);clear k0 k1 k2 cs dm ds;go_loopw [79] (fun i W => ∃ j : Nat, j ≤ d.cls.length ∧ i = .int .i64 j ∧ Ext wo W) (fun i _ => d.cls.length - (intOf i).toNat)
     case atStart => exact ⟨0, by omega, rfl, Ext.refl wo⟩
     case round =>
      obtain ⟨j, hj, rfl, hEj⟩ := hrel;by_cases hjl : j < d.cls.length
      ·have cj := hEj.cell (HCR.out j hjl);have ht := HT.out j hjl;generalize d.ent2 s j = t at *;have e1 : decide ((t : Int) < 0) = false := by simp
       have e2 : decide ((d.nxt.length : Int) ≤ (t : Int)) = false := by simp; omega
       go_wp2;go_roundw
       case rel => exact ⟨j + 1, by omega, by go_num, hEj⟩
       case measure => simp [intOf]; omega
      ·obtain rfl : j = d.cls.length := by omega
       have hEo := hEs.trans hEj;go_wp2;go_roundw
       case rel => exact ⟨s + 1, by omega, by go_num, hEo⟩
       case measure => simp [intOf]; omega
    ·obtain rfl : s = d.nxt.length := by omega
     go_wp2;go_ret;exact ⟨rfl, hE0.trans hEs⟩
structure BInv (t : Tbl) (l : List Nat) (k q : Nat) : Prop where
 pos : 0 < l.length
 head : l.getD 0 0 = 0
 nodup : l.Nodup
 lt : ∀ s ∈ l, s < t.nxt.length
 all : ∀ s ∈ l, ∃ w, t.run 0 w = s
 done : ∀ j, j < k → ∀ c, c < t.cells → t.ent2 (l.getD j 0) c ∈ l
 cur : ∀ c, c < q → t.ent2 (l.getD k 0) c ∈ l
theorem Cz {α : Type} (l : List α) (k : Nat) (d : α) (h : k < l.length) : l.getD k d ∈ l := by
 rw [List.getD_eq_getElem?_getD, List.getElem?_eq_getElem h]; exact List.getElem_mem h
theorem Agx {t : Tbl} (hv : TVal t) : BInv t [0] 0 0 where
 pos := by simp
 head := rfl
 nodup := by simp
 lt := fun s hs => by rw [List.mem_singleton] at hs; subst hs; exact hv.pos
 all := fun s hs => by rw [List.mem_singleton] at hs; subst hs; exact ⟨[], rfl⟩
 done := fun j hj => by omega
 cur := fun c hc => by omega
theorem Agy {t : Tbl} {l : List Nat} {k q : Nat} (h : BInv t l k q) (hm : t.ent2 (l.getD k 0) q ∈ l) : BInv t l k (q + 1) :=
 ⟨h.pos, h.head, h.nodup, h.lt, h.all, h.done, fun c hc => by
  by_cases e : c = q
  ·subst e; exact hm
  ·exact h.cur c (by omega)⟩
theorem Ag0 {t : Tbl} (hv : TVal t) {l : List Nat} {k q : Nat} (h : BInv t l k q) (hk : k < l.length) (hq : q < t.cells) (hm : t.ent2 (l.getD k 0) q ∉ l) : BInv t (l ++ [t.ent2 (l.getD k 0) q]) k (q + 1) := by
 have hs := Cz l k 0 hk;have hg : ∀ j, j < l.length → (l ++ [t.ent2 (l.getD k 0) q]).getD j 0 = l.getD j 0 := fun j hj => Bi _ _ _ _ hj
 refine ⟨by simp, by rw [hg 0 h.pos]; exact h.head, ?_, fun s hs' => ?_, fun s hs' => ?_, fun j hj c hc => ?_, fun c hc => ?_⟩
 ·rw [List.nodup_append];exact ⟨h.nodup, by simp, fun a ha b hb => by rw [List.mem_singleton] at hb; subst hb; rintro rfl; exact hm ha⟩
 ·rw [List.mem_append, List.mem_singleton] at hs';rcases hs' with hs' | rfl
  ·exact h.lt s hs'
  ·exact hv.tgt _ (h.lt _ hs) q hq
 ·rw [List.mem_append, List.mem_singleton] at hs';rcases hs' with hs' | rfl
  ·exact h.all s hs'
  ·obtain ⟨w, hw⟩ := h.all _ hs;obtain ⟨b, hb, hbq⟩ := hv.onto q hq;refine ⟨w ++ [UInt8.ofNat b], ?_⟩;rw [Eu, hw, u8n b hb];unfold Tbl.stp;rw [hbq]
 ·have hjl : j < l.length := by omega
  rw [hg j hjl, List.mem_append];exact .inl (h.done j hj c hc)
 ·rw [hg k hk, List.mem_append, List.mem_singleton];by_cases e : c = q
  ·subst e; exact .inr rfl
  ·exact .inl (h.cur c (by omega))
theorem Agz {t : Tbl} {l : List Nat} {k : Nat} (h : BInv t l k t.cells) : BInv t l (k + 1) 0 :=
 ⟨h.pos, h.head, h.nodup, h.lt, h.all, fun j hj c hc => by
  by_cases e : j = k
  ·subst e; exact h.cur c hc
  ·exact h.done j (by omega) c hc, fun c hc => by omega⟩
theorem Ag1 {t : Tbl} {l : List Nat} (h : BInv t l l.length 0) : Reached t l where
 head := h.head
 ne := h.pos
 nodup := h.nodup
 lt := h.lt
 closed := fun s hs k hk => by
  obtain ⟨j, hj, rfl⟩ := F1 (d := 0) hs;exact h.done j hj k hk
 all := h.all
theorem BInv.le {t : Tbl} {l : List Nat} {k q : Nat} (h : BInv t l k q) : l.length ≤ t.nxt.length := by
 have := Cx l (List.range t.nxt.length) h.nodup fun s hs => List.mem_range.2 (h.lt s hs)
 simpa using this
def Dy (n : Nat) (l : List Nat) : List Bool := (List.range n).map fun s => decide (s ∈ l)
theorem Jm (n : Nat) (l : List Nat) : (Dy n l).length = n := by simp [Dy]
theorem Yk (n : Nat) (l : List Nat) (s : Nat) (h : s < n) : (Dy n l).getD s false = decide (s ∈ l) := by
 simp [Dy, List.getD_eq_getElem?_getD, h]
theorem Yj (n : Nat) : Dy n [] = List.replicate n false := by
 unfold Dy;rw [List.eq_replicate_iff];exact ⟨by simp, fun x hx => by obtain ⟨b, _, rfl⟩ := List.mem_map.1 hx; simp⟩
theorem Qo (n : Nat) (l : List Nat) (s : Nat) : (Dy n l).set s true = Dy n (l ++ [s]) := by
 unfold Dy;apply List.ext_getElem?;intro i;rw [List.getElem?_set];by_cases hi : i < n
 ·by_cases e : s = i
  ·subst e; simp [hi]
  ·simp [hi, e, Ne.symm e]
 ·by_cases e : s = i
  ·subst e; simp [hi]
  ·simp [hi, e]
def RowsAt (W : World) (bn on n m : Nat) (f : Nat → Nat → Nat) : Prop :=
 ∀ s, s < n → ∃ b off cap, W.cell? ⟨bn, on + s, none⟩ = some (.slice (some ⟨b, off, none⟩) m cap) ∧ ∀ k, k < m → W.cell? ⟨b, off + k, none⟩ = some (iv (f s k))
theorem RowsAt.ext {W W' : World} {bn on n m : Nat} {f : Nat → Nat → Nat} (h : RowsAt W bn on n m f) (hE : Ext W W') : RowsAt W' bn on n m f := fun s hs => by
 obtain ⟨b, off, cap, h1, h2⟩ := h s hs;exact ⟨b, off, cap, hE.cell h1, fun k hk => hE.cell (h2 k hk)⟩
theorem Mc {W : World} {v : Value} {N : List (List Nat)} (h : Rows W v N) (m : Nat) (h0 : 0 < N.length) (hm : 0 < m) (hr : ∀ s, s < N.length → (N.getD s []).length = m) :
  ∃ bn on cn, v = .slice (some ⟨bn, on, none⟩) N.length cn ∧ RowsAt W bn on N.length m (fun s k => (N.getD s []).getD k 0) := by
 obtain ⟨vs, _, hN, hrows⟩ := h;obtain ⟨bn, on, cn, rfl, hnc⟩ := Sl.form hN h0;refine ⟨bn, on, cn, rfl, fun s hs => ?_⟩;obtain ⟨b, off, cap, hv1, hc1⟩ := Sl.form (hrows s hs) (by rw [hr s hs]; exact hm);refine ⟨b, off, cap, ?_, fun k hk => hc1 k (by rw [hr s hs]; omega)⟩;rw [hnc s (by omega), hv1, hr s hs]
theorem Ld {W : World} {v : Value} {l : List Bool} (h : Bools W v l) (h0 : 0 < l.length) : ∃ ba oa ca, v = .slice (some ⟨ba, oa, none⟩) l.length ca ∧ ∀ s, s < l.length → W.cell? ⟨ba, oa + s, none⟩ = some (.bool (l.getD s false)) := by
 obtain ⟨b, o, c, rfl, hc⟩ := Sl.form h h0;exact ⟨b, o, c, rfl, fun s hs => hc s (by omega)⟩
theorem TVal.cpos {t : Tbl} (hv : TVal t) : 0 < t.cells := by have := hv.cell_lt 0 (by omega); omega
theorem TVal.cle {t : Tbl} (hv : TVal t) : t.cells ≤ 256 := Gs t.cell 256 t.cells hv.onto
theorem IsT.opened {W : World} {A : Array Value} {t : Tbl} (h : IsT W A t) (hv : TVal t) : ∃ bn on cn ba oa ca, A.size = 259 ∧ A.all (·.oneCell') = true ∧ (∀ b, b < 256 → A[b]? = some (iv (t.cell b))) ∧ A[256]? = some (iv t.cells) ∧
  A[257]? = some (.slice (some ⟨bn, on, none⟩) t.nxt.length cn) ∧ A[258]? = some (.slice (some ⟨ba, oa, none⟩) t.nxt.length ca) ∧ RowsAt W bn on t.nxt.length t.cells t.ent2 ∧ ∀ s, s < t.nxt.length → W.cell? ⟨ba, oa + s, none⟩ = some (.bool (t.ok s)) := by
 obtain ⟨vn, va, rfl, hN, hA⟩ := h;obtain ⟨bn, on, cn, rfl, hr⟩ := Mc hN t.cells hv.pos hv.cpos hv.row;obtain ⟨ba, oa, ca, rfl, ha⟩ := Ld hA (by rw [hv.accL]; exact hv.pos);refine ⟨bn, on, cn, ba, oa, ca, Dq _ _ _ _, Fu _ _ _ _ rfl rfl, fun b hb => Ly _ _ _ _ b hb, Xc _ _ _ _, Ho _ _ _ _, by rw [Fw, hv.accL], hr, fun s hs => ha s (by rw [hv.accL]; exact hs)⟩
abbrev OwnI (W : World) (base : Nat) (v : Value) (l : List Nat) : Prop := W.ownsRow base 3 1 v l.length (l.map iv)
abbrev OwnB (W : World) (base : Nat) (v : Value) (l : List Bool) : Prop := W.ownsRow base 4 1 v l.length (l.map Value.bool)
theorem Ap {α : Type} {W : World} {base e g n cap : Nat} {l : List α} {f : α → Value} (d : α) (h : W.ownsRow base e 1 (.slice (some ⟨g, 0, none⟩) n cap) n (l.map f)) (hn : n = l.length) (k : Nat) (hk : k < l.length) :
  W.cell? ⟨g, k, none⟩ = some (f (l.getD k d)) := by
 subst hn;rw [World.ownsRow.cellAt h k (by omega)];simp [List.getD_eq_getElem?_getD, hk]
theorem A5 {α : Type} {W : World} {base e g n cap : Nat} {l : List α} {f : α → Value} (h : W.ownsRow base e 1 (.slice (some ⟨g, 0, none⟩) n cap) n (l.map f)) (k : Nat) (x : α) :
  (W.setCell ⟨g, k, none⟩ (f x)).ownsRow base e 1 (.slice (some ⟨g, 0, none⟩) n cap) n ((l.set k x).map f) ∧ W.grownBy (W.setCell ⟨g, k, none⟩ (f x)) (some g) := by
 have := h.stored k (f x);rw [List.map_set];exact this
theorem OwnI.ints {W : World} {base : Nat} {v : Value} {l : List Nat} (h : OwnI W base v l) (hn : l.length ≤ 4611686018427387904) : Ints W v l :=
 (Sl.of_owns h hn (iv 0)).congr fun i hi => by
  simp only [List.getD_eq_getElem?_getD, List.getElem?_map];cases l[i]? <;> rfl
theorem OwnB.bools {W : World} {base : Nat} {v : Value} {l : List Bool} (h : OwnB W base v l) (hn : l.length ≤ 4611686018427387904) : Bools W v l :=
 (Sl.of_owns h hn (.bool false)).congr fun i hi => by
  simp only [List.getD_eq_getElem?_getD, List.getElem?_map];cases l[i]? <;> rfl
theorem C2 : (Tryz.prog.info? 3).map (fun i => (i.zero, i.size, i.bytes)) = some (some (.int .i64 0), 1, 8) := by kernel_rfl
theorem El : (Tryz.prog.info? 4).map (fun i => (i.zero, i.size, i.bytes)) = some (some (.bool false), 1, 1) := by kernel_rfl
theorem B7 {α : Type} (f : α → Value) (x : α) (n : Nat) : (madeCells #[f x] (n * 1)).toList = (List.replicate n x).map f := by
 rw [Nat.mul_one, toList_madeCells_one, List.map_replicate]
open Go.Maps (Keyed)
def IsMp {κ : Type} (W : World) (k : TypeId) (key : κ → Value) (b n : Nat) (f : κ → Option Nat) : Prop :=
 ∃ D : DataW Unit, W.ownsMap Tryz.prog k (plainElem Tryz.prog 3) b n D ∧ ∀ x l, keyOf Tryz.prog k (key x) = some l → Maps.has D l = (f x).isSome ∧ D.atKey l (.lit (.int .i64 0)) = .lit (.int .i64 ((f x).getD 0 : Nat))
section
variable {κ : Type} {W : World} {k : TypeId} {key : κ → Value} {b n : Nat} {f : κ → Option Nat}
theorem Ig (W : World) (k : TypeId) (key : κ → Value) : IsMp (W.alloc (.map #[] 0)) k key W.heap.size 0 (fun _ => none) :=
 ⟨.map [], World.ownsMap_made W _ _ _, fun _ _ _ => ⟨rfl, rfl⟩⟩
theorem IsMp.kept {W' : World} {row : Option Nat} (h : IsMp W k key b n f) (hg : W.grownBy W' row) (hne : some b ≠ row) : IsMp W' k key b n f := by
 obtain ⟨D, h1, h2⟩ := h;exact ⟨D, h1.kept hg hne, h2⟩
theorem IsMp.ext {W' : World} (h : IsMp W k key b n f) (hE : Ext W W') : IsMp W' k key b n f := h.kept (hE.grownBy none) (by simp)
theorem IsMp.alloc (h : IsMp W k key b n f) (o : Obj) : IsMp (W.alloc o) k key b n f := by
 obtain ⟨D, h1, h2⟩ := h;exact ⟨D, h1.alloc o, h2⟩
theorem IsMp.lt (h : IsMp W k key b n f) : b < W.heap.size := by
 obtain ⟨D, h1, _⟩ := h;exact h1.lt
theorem IsMp.setCell (h : IsMp W k key b n f) {a : Addr} (ha : b ≠ a.block) (u : Value) : IsMp (W.setCell a u) k key b n f := by
 obtain ⟨D, h1, h2⟩ := h;exact ⟨D, h1.setCell ha u, h2⟩
theorem IsMp.congr {g : κ → Option Nat} (h : IsMp W k key b n f) (hg : ∀ x, f x = g x) : IsMp W k key b n g := by
 obtain ⟨D, h1, h2⟩ := h;exact ⟨D, h1, fun x l hl => by rw [← hg]; exact h2 x l hl⟩
theorem IsMp.ne_row {base e size : Nat} {v : Value} {m : Nat} {xs : List Value} (h : IsMp W k key b n f) (ho : W.ownsRow base e size v m xs) : some b ≠ v.ownBlock := by
 obtain ⟨_, ⟨es, clock, hb, _⟩, _⟩ := h;obtain ⟨hl, ⟨rfl, rfl⟩ | ⟨g, cap, cur, rfl, _, hg, _⟩⟩ := ho
 ·simp [Value.ownBlock]
 ·intro e;simp only [Value.ownBlock, Option.some.injEq] at e;rw [e, hg] at hb;cases hb
theorem An {W : World} {base e size : Nat} {v : Value} {m : Nat} {xs : List Value} (ho : W.ownsRow base e size v m xs) {g : Nat} (hg : g < base) : v.ownBlock = none ∨ v.ownBlock ≠ some g :=
 .inr fun e => by have := (ho.lt _ e).1; omega
theorem IsMp.far {base e size : Nat} {v : Value} {m : Nat} {xs : List Value} (h : IsMp W k key b n f) (ho : W.ownsRow base e size v m xs) : v.ownBlock = none ∨ v.ownBlock ≠ some b := .inr (fun e => h.ne_row ho e.symm)
theorem Bt {W W' : World} {base e size : Nat} {v : Value} {m : Nat} {xs : List Value} (ho : W.ownsRow base e size v m xs) (hg : W.grownBy W' none) : W'.ownsRow base e size v m xs := ho.kept hg (by cases v.ownBlock <;> simp)
theorem V4 (W : World) : (zeroValue 3).run Tryz.prog W = .ok (.int .i64 0) W := by kernel_rfl
end
section
variable {κ : Type} {W : World} {k : TypeId} {key : κ → Value} {b n : Nat} {f : κ → Option Nat} {ops : Array Oper} {rest : List Oper} {o : Oper} {a : Act} {Q : Exit → Act → World → Prop}
theorem Dw (hg : o.guard = none) (m x : Operand) (t : TypeId) (hop : o.op = Op.lookup t m x true) (K : Keyed Tryz.prog k) (ht : Tryz.prog.underlying t = some (.map k 3)) (hm : a.eval m = .map (some b)) (h : IsMp W k key b n f)
  (y : κ) (hx : a.eval x = key y) (hl : ∃ l, keyOf Tryz.prog k (key y) = some l) (hK : wpList Tryz.prog ops Q rest (a.put o.dst (.tuple #[iv ((f y).getD 0), .bool (f y).isSome])) W) : wpList Tryz.prog ops Q (o :: rest) a W := by
 obtain ⟨D, h1, h2⟩ := h;obtain ⟨l, hl⟩ := hl;obtain ⟨e1, e2⟩ := h2 y l hl;refine wpList_lookup_own_ok_int W hg m x t hop k 3 .i64 K ht Tryz.underlying3 (V4 W) b n D hm h1 (key y) l hx hl ?_;intro c hc _;rw [e2] at hc;rw [e1];injection hc with hc
 injection hc with _ hc
 rw [← hc];exact hK
theorem Hl [DecidableEq κ] (hg : o.guard = none) (m x v : Operand) (t : TypeId) (hop : o.op = Op.mapUpdate t m x v) (K : Keyed Tryz.prog k) (ht : Tryz.prog.underlying t = some (.map k 3)) (hm : a.eval m = .map (some b)) (h : IsMp W k key b n f) (hn : n < maxLen)
  (hinj : ∀ y z, key y = key z → y = z) (y : κ) (hx : a.eval x = key y) (hl : ∃ l, keyOf Tryz.prog k (key y) = some l) (i : Nat) (hv : a.eval v = iv i) (hi : i < 9223372036854775808)
  (hK : ∀ W', IsMp W' k key b (n + 1) (fun z => if z = y then some i else f z) → W.grownBy W' (some b) → wpList Tryz.prog ops Q rest (a.put o.dst undef) W') : wpList Tryz.prog ops Q (o :: rest) a W := by
 obtain ⟨D, h1, h2⟩ := h;obtain ⟨l, hl⟩ := hl;have hwf : (Lit.int .i64 (i : Int)).wf = true := by
  have e1 : IntKind.i64.min = -9223372036854775808 := rfl;simp [Lit.wf, IntKind.wrap, IntKind.signed, IntKind.bits, e1];omega
 refine wpList_mapUpdate_own W hg m x v t hop k 3 K ht (plainElem Tryz.prog 3) b n D hm h1 hn (key y) (iv i) l hx hv hl (.lit (.int .i64 i)) [] (plainElem_int Tryz.underlying3 hwf) ?_;intro W' hW hgr;refine hK W' ⟨_, hW, fun z lz hz => ?_⟩ hgr;by_cases e : z = y
 ·subst e;rw [hl] at hz;cases hz
  simp only [if_true];exact ⟨Maps.has_put_same h1.isMap (K.key hl) _, Maps.atKey_put_same h1.isMap (K.key hl) _ _⟩
 ·have hne : lz ≠ l := fun e' => e (hinj _ _ (K.inj hz (e' ▸ hl)))
  simp only [e, if_false];rw [Maps.has_put_other hne, Maps.atKey_put_other hne];exact h2 z lz hz
end
open Go.RowKit Go.Shelf Go.WideMaps
theorem Nu : laidOutB Tryz.prog = true := by kernel_rfl
theorem Ag6 : ArrKey Tryz.prog 166 3 2 := ⟨Tryz.underlying166, by kernel_rfl, by kernel_rfl, by kernel_rfl⟩
theorem Yg : ∃ m, Tryz.prog.types.size = m + 1 := ⟨_, (Nat.succ_pred_eq_of_pos (of_decide_eq_true (by kernel_rfl))).symm⟩
theorem Nr : Keyed Tryz.prog 166 := Keyed.of_law (deep_law_laid Nu (m := 2) (by omega) (of_decide_eq_true (by kernel_rfl)) (by kernel_rfl) (by rw [Tryz.underlying166]))
def Gr (x : Nat × Nat) : Value := .agg #[iv x.1, iv x.2]
theorem Aaq (x y : Nat × Nat) (h : Gr x = Gr y) : x = y := by
 simp [Gr] at h;exact Prod.ext (by omega) (by omega)
theorem Hm (i : Nat) (hi : i < 9223372036854775808) : (Lit.int .i64 (i : Int)).wf = true := by
 have e1 : IntKind.i64.min = -9223372036854775808 := rfl;simp [Lit.wf, IntKind.wrap, IntKind.signed, IntKind.bits, e1];omega
theorem Aap (x : Nat × Nat) (h1 : x.1 < 9223372036854775808) (h2 : x.2 < 9223372036854775808) : ∃ l, keyOf Tryz.prog 166 (Gr x) = some l :=
 ⟨_, keyOf_pair Ag6 Tryz.underlying3 Yg (Hm _ h1) (Hm _ h2)⟩
theorem Ez : Keyed Tryz.prog 9 := Go.Maps.string_keyed Tryz.underlying9
structure JInv (a b : Nat → Nat) (x : Nat) (c : Nat → Nat) (bs : List Nat) (f : Nat × Nat → Option Nat) : Prop where
 le : bs.length ≤ x
 lt : ∀ y, y < x → c y < bs.length
 byte : ∀ k, k < bs.length → bs.getD k 0 < x ∧ c (bs.getD k 0) = k
 same : ∀ y z, y < x → z < x → (c y = c z ↔ a y = a z ∧ b y = b z)
 has : ∀ y, y < x → f (a y, b y) = some (c y)
 from_ : ∀ p i, f p = some i → ∃ y, y < x ∧ p = (a y, b y) ∧ i = c y
theorem Adl (a b : Nat → Nat) : JInv a b 0 (fun _ => 0) [] (fun _ => none) where
 le := by simp
 lt := fun y hy => by omega
 byte := fun k hk => by simp at hk
 same := fun y z hy => by omega
 has := fun y hy => by omega
 from_ := fun p i h => by simp at h
theorem Adm {a b : Nat → Nat} {x : Nat} {c : Nat → Nat} {bs : List Nat} {f : Nat × Nat → Option Nat} (h : JInv a b x c bs f) (i : Nat) (hi : f (a x, b x) = some i) : JInv a b (x + 1) (fun y => if y = x then i else c y) bs f := by
 obtain ⟨z, hz, hp, rfl⟩ := h.from_ _ _ hi;simp only [Prod.mk.injEq] at hp;refine ⟨by have := h.le; omega, fun y hy => ?_, fun k hk => ?_, fun y y' hy hy' => ?_, fun y hy => ?_, fun p i hp => ?_⟩
 ·split
  ·exact h.lt z hz
  ·exact h.lt y (by omega)
 ·obtain ⟨h1, h2⟩ := h.byte k hk;rw [if_neg (by omega)];exact ⟨by omega, h2⟩
 ·by_cases e : y = x <;> by_cases e' : y' = x
  ·subst e; subst e'; simp
  ·subst e; rw [if_pos rfl, if_neg e', h.same z y' hz (by omega), hp.1, hp.2]
  ·subst e'; rw [if_neg e, if_pos rfl, h.same y z (by omega) hz, hp.1, hp.2]
  ·rw [if_neg e, if_neg e']; exact h.same y y' (by omega) (by omega)
 ·by_cases e : y = x
  ·subst e; rw [if_pos rfl]; exact hi
  ·rw [if_neg e]; exact h.has y (by omega)
 ·obtain ⟨y, hy, h1, h2⟩ := h.from_ p i hp;exact ⟨y, by omega, h1, by rw [if_neg (by omega)]; exact h2⟩
theorem Adn {a b : Nat → Nat} {x : Nat} {c : Nat → Nat} {bs : List Nat} {f : Nat × Nat → Option Nat} (h : JInv a b x c bs f) (hi : f (a x, b x) = none) :
  JInv a b (x + 1) (fun y => if y = x then bs.length else c y) (bs ++ [x]) (fun p => if p = (a x, b x) then some bs.length else f p) := by
 have hno : ∀ y, y < x → ¬ (a y = a x ∧ b y = b x) := fun y hy he => by
  have := h.has y hy;rw [he.1, he.2, hi] at this;cases this
 have hl : (bs ++ [x]).length = bs.length + 1 := by simp
 refine ⟨by have := h.le; omega, fun y hy => ?_, fun k hk => ?_, fun y y' hy hy' => ?_, fun y hy => ?_, fun p i hp => ?_⟩
 ·rw [hl];split
  ·omega
  ·have := h.lt y (by omega); omega
 ·rw [hl] at hk;by_cases e : k = bs.length
  ·subst e;have : (bs ++ [x]).getD bs.length 0 = x := by simp [List.getD_eq_getElem?_getD]
   rw [this, if_pos rfl];exact ⟨by omega, rfl⟩
  ·have hk' : k < bs.length := by omega
   obtain ⟨h1, h2⟩ := h.byte k hk';rw [Bi _ _ _ _ hk', if_neg (by omega)];exact ⟨by omega, h2⟩
 ·by_cases e : y = x <;> by_cases e' : y' = x
  ·subst e; subst e'; simp
  ·subst e;have h1 := h.lt y' (by omega);rw [if_pos rfl, if_neg e'];exact ⟨fun h2 => by omega, fun h2 => absurd ⟨h2.1.symm, h2.2.symm⟩ (hno y' (by omega))⟩
  ·subst e';have h1 := h.lt y (by omega);rw [if_neg e, if_pos rfl];exact ⟨fun h2 => by omega, fun h2 => absurd h2 (hno y (by omega))⟩
  ·rw [if_neg e, if_neg e']; exact h.same y y' (by omega) (by omega)
 ·by_cases e : y = x
  ·subst e; simp
  ·have h1 := hno y (by omega);rw [if_neg e, if_neg (by simpa using h1)];exact h.has y (by omega)
 ·by_cases e : p = (a x, b x)
  ·simp only [e, if_true] at hp;cases hp
   exact ⟨x, by omega, e, by rw [if_pos rfl]⟩
  ·simp only [e, if_false] at hp;obtain ⟨y, hy, h1, h2⟩ := h.from_ p i hp;exact ⟨y, by omega, h1, by rw [if_neg (by omega)]; exact h2⟩
theorem Ado {a b c : Nat → Nat} {bs : List Nat} {f : Nat × Nat → Option Nat} (h : JInv a b 256 c bs f) : Joint a b c bs :=
 ⟨h.lt, h.byte, h.same⟩
def Bj (c : Nat → Nat) : Array Value := ((List.range 256).map (fun b => iv (c b))).toArray
theorem Hj : Tryz.zeroCells77 = Bj (fun _ => 0) := by kernel_rfl
theorem Dv (c : Nat → Nat) : (Bj c).size = 256 := by simp [Bj]
theorem Uw (c : Nat → Nat) (b : Nat) (hb : b < 256) : (Bj c)[b]? = some (iv (c b)) := by simp [Bj, hb]
theorem Uv (c : Nat → Nat) (b x : Nat) (hb : b < 256) : (Bj c).setIfInBounds b (iv x) = Bj (fun y => if y = b then x else c y) := by
 apply Array.ext';rw [Array.toList_setIfInBounds];unfold Bj;simp only;apply List.ext_getElem?;intro i;rw [List.getElem?_set];by_cases hi : i < 256
 ·by_cases e : b = i
  ·subst e; simp [hb]
  ·simp [hi, e, Ne.symm e]
 ·have : b ≠ i := by omega
  rw [if_neg this];simp [hi]
theorem K6 (c : Nat → Nat) : (Bj c).all (·.oneCell') = true := by
 rw [Array.all_eq_true_iff_forall_mem];intro x hx;simp only [Bj, List.mem_toArray, List.mem_map] at hx;obtain ⟨b, _, rfl⟩ := hx;rfl
theorem Ih : (Tryz.prog.info? 77).map (·.size) = some 256 := by kernel_rfl
theorem N1 : (Tryz.prog.info? 166).map (·.size) = some 2 := by kernel_rfl
theorem Az {P : Program} {fn : Func} {p u : Tmp} {ty : TypeId} (h : fn.results = #[.cell p ty, .tmp u]) (tmps : Array Value) (w : World) (g : Nat) (t : TypeId) (cs : Array Value) (fr : Nat × Nat) (d : TypeDesc)
  (hp : tmps.getD p undef = .pointer (some ⟨g, 0, none⟩)) (v : Value) (hu' : tmps.getD u undef = v) (hg : w.heap[g]? = some (.cells cs t fr))
  (hu : P.underlying ty = some d) (hd : (match d with | .struct _ | .array _ _ => true | _ => false) = true) (hi : (P.info? ty).map (·.size) = some cs.size) :
  (results fn tmps).run P w = .ok (.tuple #[.agg cs, v]) w := by
 rw [results_cell_tmp h, hp, hu'];simp [asAddr, run_loadVar_row w g t ty cs fr d hg hu hd hi, Result.andThen]
set_option maxHeartbeats 2000000 in
theorem Nv (t u : Tbl) (ht : TVal t) (hu : TVal u) (A B : Array Value) (w : World) (hA : IsT w A t) (hB : IsT w B u) :
  Calls Tryz.prog 70 #[.agg A, .agg B] w fun e w' => ∃ c bs v, e = .returned (.tuple #[.agg (Bj c), v]) ∧ Joint t.cell u.cell c bs ∧ Ints w' v bs ∧ Ext w w' := by
 obtain ⟨_, _, _, _, _, _, hAs, hAo, hAc, _⟩ := hA.opened ht;obtain ⟨_, _, _, _, _, _, hBs, hBo, hBc, _⟩ := hB.opened hu;clear hA hB;obtain ⟨i0, hi, hz0, hz1, hz2⟩ := info_parts C2;have hmm := @run_makeMap Tryz.prog;have hE0 := ((Ext.refl w).alloc (.cells A 108)).alloc (.cells B 108);have H0 := Af (Ab w (.cells A 108)) (.cells B 108);have H1 := heap_alloc2_new w (.cells A 108) (.cells B 108);go_enter Tryz.func70, Tryz.ntmps70;go_upto_region 3 with (fail)
 obtain ⟨w0, hw0⟩ : ∃ W, (w.alloc (.cells A 108)).alloc (.cells B 108) = W := ⟨_, rfl⟩;have hs0 : w0.heap.size = w.heap.size + 1 + 1 := by rw [← hw0, World.size_alloc, World.size_alloc]
 simp only [hw0] at *;clear hw0;have HKA := Lib.hid (fun (W : World) (hW : Ext w0 W) (b : Nat) (hb : b < 256) => (cell_of_row W w.heap.size b _ _ _ (hW.heap H0)).trans (hAc b hb));have HKB := Lib.hid (fun (W : World) (hW : Ext w0 W) (b : Nat) (hb : b < 256) => (cell_of_row W (w.heap.size + 1) b _ _ _ (hW.heap H1)).trans (hBc b hb));have HCL := Lib.hid (fun (b : Nat) (hb : b < 256) => And.intro (Nat.lt_of_lt_of_le (ht.cell_lt b hb) ht.cle) (Nat.lt_of_lt_of_le (hu.cell_lt b hb) hu.cle));clear H0 H1 hAs hAo hAc hBs hBo hBc ht hu;go_upto_region 4 with (fail)
 clear hmm;have R2 := Af (Af (Ab w0 (.cells Tryz.zeroCells77 77)) (.cells Tryz.zeroCells77 77)) (.map #[] 0);have R3 := Af (heap_alloc2_new w0 (.cells Tryz.zeroCells77 77) (.cells Tryz.zeroCells77 77)) (.map #[] 0);have hmp := Ig ((w0.alloc (.cells Tryz.zeroCells77 77)).alloc (.cells Tryz.zeroCells77 77)) 166 Gr;have hE1 := (((Ext.refl w0).alloc (.cells Tryz.zeroCells77 77)).alloc (.cells Tryz.zeroCells77 77)).alloc (.map #[] 0);have hs1 : (((w0.alloc (.cells Tryz.zeroCells77 77)).alloc (.cells Tryz.zeroCells77 77)).alloc (.map #[] 0)).heap.size = w.heap.size + 1 + 1 + 1 + 1 + 1 := by
  rw [World.size_alloc, World.size_alloc, World.size_alloc, hs0]
 rw [World.size_alloc, World.size_alloc, hs0] at hmp;rw [hs0] at R2 R3;obtain ⟨w1, hw1⟩ : ∃ W, ((w0.alloc (.cells Tryz.zeroCells77 77)).alloc (.cells Tryz.zeroCells77 77)).alloc (.map #[] 0) = W := ⟨_, rfl⟩;simp only [hw1] at *;clear hw1;have hI := World.ownsRow_nil w1 w1.heap.size 3 1;have R2 := Lib.hid R2;have R3 : Hid (w1.heap[w.heap.size + 1 + 1 + 1]? = some (.cells (Bj fun _ => 0) 77 (0, 0))) := Lib.hid (by rw [R3, Hj]);go_wp2_with (fail);go_loopw [7, 14] (fun v i W => ∃ (x : Nat) (bs : List Nat) (a : Option Addr) (cp : Nat) (c : Nat → Nat) (f : Nat × Nat → Option Nat), x ≤ 256 ∧ i = .int .i64 x ∧ v = .slice a bs.length cp ∧ Ext w0 W ∧ w1.heap.size ≤ W.heap.size ∧ OwnI W w1.heap.size v bs ∧
   IsMp W 166 Gr (w.heap.size + 1 + 1 + 1 + 1) bs.length f ∧ W.heap[w.heap.size + 1 + 1]? = some (.cells Tryz.zeroCells77 77 (0, 0)) ∧ W.heap[w.heap.size + 1 + 1 + 1]? = some (.cells (Bj c) 77 (0, 0)) ∧ Hid (JInv t.cell u.cell x c bs f))
  (fun _ i _ => 256 - (intOf i).toNat)
 case atStart => exact ⟨0, [], none, 0, _, _, by omega, rfl, rfl, hE1, Nat.le_refl _, hI, hmp, R2.out, R3.out, Lib.hid (Adl _ _)⟩
 case round =>
  obtain ⟨x, bs, a, cp, c, f, hx, rfl, rfl, hE, hsz, hI, hmp, hR2, hR3, HJ⟩ := hrel;have hbl := HJ.out.le;have HR2 := Lib.hid hR2;have HR3 := Lib.hid hR3;clear hR2 hR3;by_cases hlt : x < 256
  ·have hxi : (x : Int) < 256 := by omega
   have ka := HKA.out wr hE x hlt;have kb := HKB.out wr hE x hlt;obtain ⟨ha, hb⟩ := HCL.out x hlt;have hkey := Aap (t.cell x, u.cell x) (by show t.cell x < _; omega) (by show u.cell x < _; omega);generalize hta : t.cell x = ca at *;generalize htb : u.cell x = cb at *;have HTA := Lib.hid hta;have HTB := Lib.hid htb;clear hta htb;go_upto_region 7 with (fail)
   have na := World.new_ne wr _ ka;have nb := World.new_ne wr _ kb;go_region_held (fun W => W.cell? ⟨w.heap.size, x, none⟩ = some (iv ca) ∧ W.cell? ⟨w.heap.size + 1, x, none⟩ = some (iv cb)) (go_keep) (fail)
   have e5 : Ext wr (wr.alloc (.cells #[iv ca, iv cb] 166)).drew := ((Ext.refl wr).alloc _).drew;have K5 : Hid ((wr.alloc (.cells #[iv ca, iv cb] 166)).drew.heap[wr.heap.size]? = some (.cells #[iv ca, iv cb] 166 (0, 0))) := Lib.hid (Ab wr _);obtain ⟨w5, hw5⟩ : ∃ W, (wr.alloc (.cells #[iv ca, iv cb] 166)).drew = W := ⟨_, rfl⟩;simp only [hw5] at *;clear hw5 ka kb na nb;rename_i hHeld
   clear hHeld;have hE5 := hE.trans e5;have hsz5 := Nat.le_trans hsz e5.size;have hI := Ah hI e5;have hmp := hmp.ext e5;have HR2 := Lib.hid (e5.heap HR2.out);have HR3 := Lib.hid (e5.heap HR3.out);have hszr : w1.heap.size ≤ wr.heap.size := hsz;cases hf : f (ca, cb) with
   | some i =>
    have HJ' := HJ.out;have HN := Lib.hid (Adm HJ.out i (by rw [HTA.out, HTB.out]; exact hf));have hib : i < bs.length := by
     obtain ⟨z, hz, _, rfl⟩ := HJ.out.from_ _ _ hf;exact HJ.out.lt z hz
    clear HJ';have c3 := (cell_of_row w5 (w.heap.size + 1 + 1 + 1) x _ _ _ HR3.out).trans (Uw c x hlt);have f3 := frozen_of_row w5 (w.heap.size + 1 + 1 + 1) x _ _ HR3.out;go_wp2_with (first
     | (refine wpList_load_row rfl 166 (.tmp 10) rfl _ rfl _ _ _ _ K5.out Tryz.underlying166 rfl N1 ?_)
     | (at_lookup; refine Dw rfl _ _ 165 rfl Nr Tryz.underlying165 rfl hmp (ca, cb) rfl hkey ?_; rw [hf]; dsimp only [Option.isSome, Option.getD]))
    go_roundw
    case rel =>
     rw [setCell_eq_setRow w5 _ _ _ _ _ _ HR3.out, Uv _ _ _ hlt];have hgr := B0 w5 (w.heap.size + 1 + 1 + 1) (Bj fun y => if y = x then i else c y);refine ⟨x + 1, bs, a, cp, _, f, by omega, by go_num, rfl, hE5.setRow (by omega) _, by rw [size_setRow]; exact hsz5, hI.kept hgr (An hI (by omega)), hmp.kept hgr (by simp), Br HR2.out (by omega) _, setRow_heap w5 _ _ _ _ _ HR3.out, HN⟩
    case measure => simp [intOf]; omega
   | none =>
    have HN := Adn HJ.out (by rw [HTA.out, HTB.out]; exact hf);rw [HTA.out, HTB.out] at HN;have HN := Lib.hid HN;have hK6 := K5;go_upto_region 11 with (first
     | (refine wpList_load_row rfl 166 (.tmp 10) rfl _ rfl _ _ _ _ K5.out Tryz.underlying166 rfl N1 ?_)
     | (at_lookup; refine Dw rfl _ _ 165 rfl Nr Tryz.underlying165 rfl hmp (ca, cb) rfl hkey ?_; rw [hf]; dsimp only [Option.isSome, Option.getD]))
    go_upto_region 12 with (first
     | (refine wpList_load_row rfl 166 (.tmp 10) rfl _ rfl _ _ _ _ K5.out Tryz.underlying166 rfl N1 ?_)
     | (at_mapUpdate; refine Hl rfl _ _ _ 165 rfl Nr Tryz.underlying165 rfl hmp (by unfold maxLen; omega) Aaq (ca, cb) rfl hkey bs.length rfl (by omega) ?_; intro w6 hmp6 hgr6))
    clear hmp hK6;have hI6 := hI.kept hgr6 (An hI (by omega));have HR2 : Hid (w6.heap[w.heap.size + 1 + 1]? = _) := Lib.hid ((hgr6.block _ (Am HR2.out) (by simp)).trans HR2.out);have HR3 : Hid (w6.heap[w.heap.size + 1 + 1 + 1]? = _) := Lib.hid ((hgr6.block _ (Am HR3.out) (by simp)).trans HR3.out);have hE6 := hE5.grown hgr6 (fun k e => by cases e; omega);have hsz6 : w1.heap.size ≤ w6.heap.size := Nat.le_trans hsz5 hgr6.size;clear hgr6 hI K5 e5;go_upto_region 13 with (at_builtin; refine wpList_append_lies _ rfl _ _ 68 rfl w1.heap.size 3 i0 (.int .i64 0) 1 8 Tryz.underlying68 hi hz0 hz1 hz2 rfl (by decide) _ _ _ rfl (hI6.alloc _) _ 1 1 [iv x] rfl rfl (cell_one_new _ _ _) (by simp [Value.oneCell']) (by decide) (by unfold maxLen; omega) (by omega) (by simp; omega) _ rfl ?_; intro g7 c7 w7 hI7 hgr7 _ _)
    have hlt3 := Am HR3.out;have hlt2 := Am HR2.out;have HR2 : Hid (w7.heap[w.heap.size + 1 + 1]? = _) := Lib.hid ((hgr7.block _ (Nat.lt_of_lt_of_le hlt2 (by rw [World.size_alloc]; omega)) (fun e => by have := (hI6.lt _ e.symm).1; omega)).trans (Af HR2.out _));have HR3 : Hid (w7.heap[w.heap.size + 1 + 1 + 1]? = _) := Lib.hid ((hgr7.block _ (Nat.lt_of_lt_of_le hlt3 (by rw [World.size_alloc]; omega)) (fun e => by have := (hI6.lt _ e.symm).1; omega)).trans (Af HR3.out _));have hmp7 := (hmp6.alloc (.cells #[iv x] 3)).kept hgr7 (fun e => by have := (hI6.lt _ e.symm).1; omega);have hE7 := (hE6.alloc (.cells #[iv x] 3)).grown hgr7 (fun k e => by have := (hI6.lt k e).1; omega);have hsz7 : w1.heap.size ≤ w7.heap.size := Nat.le_trans hsz6 (by have := hgr7.size; rw [World.size_alloc] at this; omega);clear hgr7 hI6 hmp6;have hI7 : OwnI w7 w1.heap.size (.slice (some ⟨g7, 0, none⟩) (bs.length + 1) c7) (bs ++ [x]) := by
     show World.ownsRow _ _ _ _ _ _ _;rw [List.length_append, List.map_append];exact hI7
    have c3 := (cell_of_row w7 (w.heap.size + 1 + 1 + 1) x _ _ _ HR3.out).trans (Uw c x hlt);have f3 := frozen_of_row w7 (w.heap.size + 1 + 1 + 1) x _ _ HR3.out;go_wp2;go_roundw
    case rel =>
     rw [setCell_eq_setRow w7 _ _ _ _ _ _ HR3.out, Uv _ _ _ hlt];have hgr := B0 w7 (w.heap.size + 1 + 1 + 1) (Bj fun y => if y = x then bs.length else c y);refine ⟨x + 1, bs ++ [x], _, c7, _, _, by omega, by go_num, by rw [List.length_append]; rfl, hE7.setRow (by omega) _, by rw [size_setRow]; exact hsz7, hI7.kept hgr (An hI7 (by omega)), IsMp.kept (by rw [List.length_append]; exact hmp7) hgr (by simp), Br HR2.out (by omega) _, setRow_heap w7 _ _ _ _ _ HR3.out, HN⟩
    case measure => simp [intOf]; omega
  ·obtain rfl : x = 256 := by omega
   have HC := Lib.hid (show (Tryz.zeroCells77).size = (Bj c).size by rw [Hj, Dv, Dv]);have HO := Lib.hid (K6 c);have HI7 := Lib.hid (show (Tryz.prog.info? 77).map (·.size) = some (Bj c).size by rw [Dv]; exact Ih);obtain ⟨A', hA'⟩ : ∃ X, Bj c = X := ⟨_, rfl⟩;rw [hA'] at HC HO HI7 HR3;have HA' := Lib.hid hA';clear hA';go_wp2_with (first
    | (refine wpList_load_row rfl 77 (.tmp 6) rfl _ rfl _ _ _ _ HR3.out Tryz.underlying77 rfl HI7.out ?_)
    | (refine wpList_store_row rfl 77 (.tmp 4) (.tmp 47) rfl _ A' rfl rfl _ _ HR2.out HI7.out HC.out HO.out ?_))
   refine bodyPost_ret (v := .tuple #[.agg A', .slice a bs.length cp]) (Az rfl _ _ _ _ _ _ _ rfl _ rfl (setRow_heap wr _ _ A' 77 (0, 0) HR2.out) Tryz.underlying77 rfl HI7.out) rfl ?_;have hgr := B0 wr (w.heap.size + 1 + 1) A';refine ⟨c, bs, _, by rw [HA'.out], Ado HJ.out, OwnI.ints (hI.kept hgr (An hI (by omega))) (by omega), (hE0.trans hE).setRow (by omega) _⟩
end Go.Proofs.YtaiogolidlamiaaGreatDoor
