import Derived.Maps.AppendAt
import Derived.Test.YtaiogolidlamiaaGreatDoorM02
set_option linter.unusedVariables false
set_option linter.unusedSimpArgs false
namespace Go.Proofs.YtaiogolidlamiaaGreatDoor
set_option maxRecDepth 100000
open Go.RowKit Go.Shelf
theorem u8_nat (k : Nat) (h : k < 256) : ((UInt8.ofNat k).toNat : Int) = (k : Int) := by
 simp
 omega
theorem info5 : (Tryz.prog.info? 5).map (fun i => (i.zero, i.size, i.bytes)) = some (some (.int .u8 0), 1, 1) := by kernel_rfl
set_option maxRecDepth 100000 in
theorem rbytes_any (c : Cls) (w : World) :
  Calls Tryz.prog 106 #[.agg (encA c)] w fun e w' => ∃ v, e = .returned v ∧ By w' v (bytesTo c 256) ∧ Ext w w' := by
 obtain ⟨i0, hi, hz0, hz1, hz2⟩ := info_parts info5
 go_enter Tryz.func106, Tryz.ntmps106
 go_wp2_with (fail)
 go_loopw [3, 4] (fun v i W => ∃ k : Nat, k ≤ 256 ∧ i = .int .i64 k ∧ Ext w W ∧ W.heap[w.heap.size]? = some (.cells (encA c) 62 (0, 0)) ∧
   W.ownsRow (w.heap.size + 1) 5 1 v (bytesTo c k).length ((bytesTo c k).map bv))
  (fun _ i _ => 256 - (intOf i).toNat)
 case atStart =>
  refine ⟨0, by omega, rfl, ((Ext.refl w).alloc _).alloc _, heap_alloc_keep (heap_alloc_new w _) _, ?_⟩
  have h := World.ownsRow_made (base := w.heap.size + 1) (e := 5) (size := 1) (w.alloc (.cells (encA c) 62)) #[] 0 (by simp) (by unfold maxLen; omega) rfl
  rwa [World.size_alloc] at h
 case round =>
  obtain ⟨k, hk, rfl, hE, hA, hown⟩ := hrel
  have HA := Lib.hid hA
  clear hA
  by_cases hlt : k < 256
  ·go_upto_region 5 with (fail)
   have hw : IntKind.u8.wrap (k : Int) = k := IntWalk.u8_in _ ⟨by omega, by omega⟩
   have hHa := fun (W : World) => Lib.hid (rHas_any c (k : Int) (by omega) (by omega) W)
   obtain ⟨a0, a1, a2, a3⟩ := ew_cells HA.out
   have hlen := bytesTo_len c k
   have HS : Hid (bytesTo c (k + 1) = if memB c (k : Int) then bytesTo c k ++ [UInt8.ofNat k] else bytesTo c k) := Lib.hid rfl
   generalize memB c (k : Int) = ma at *
   go_cut [13] (fun v W => v = .bool ma ∧ ∃ e : EW wr, W = e.W)
   case first =>
    refine region_ew_text 4 ?_
    simp only [List.take_succ_cons, List.drop_succ_cons, List.take_nil, List.drop_nil]
    iterate 4 (refine wpQuiet_step (fun K hK => ?_); go_simp; first | (refine hK _ ?_; clear hK K) | (apply Exists.intro; refine ⟨fun _ => ?_, hK _ ?_⟩; (with_reducible exact calls_ew (hHa _).out); clear hK K))
    refine wpQuiet_nil ?_
    rintro _ ⟨e, rfl⟩
    refine wpList_nil ?_
    go_wp2
    go_meet
    exact ⟨rfl, e, rfl⟩
   case rest =>
    obtain ⟨rfl, e, rfl⟩ := hcut
    have HA' := Lib.hid (e.ext.heap HA.out)
    have hE' := hE.trans e.ext
    have hown := owns_ext hown e.ext
    clear a0 a1 a2 a3 hHa HA hE
    generalize e.W = w1 at *
    cases ma
    ·have HS := HS.out
     simp only [Bool.false_eq_true, if_false] at HS
     rw [← HS] at hown
     clear HS
     go_wp2
     go_roundw
     case rel => exact ⟨k + 1, by omega, by go_num, hE', HA'.out, hown⟩
     case measure => simp [intOf]; omega
    ·have hs1 := HS.out
     simp only [if_true] at hs1
     have HS2 := Lib.hid hs1
     clear hs1 HS
     have hb := hE'.size
     have hx : (k : Int) = ((UInt8.ofNat k).toNat : Int) := (u8_nat k hlt).symm
     have HX := Lib.hid hx
     clear hx
     go_wp2_with (at_builtin; refine wpList_append_own _ rfl _ _ 22 rfl (w.heap.size + 1) 5 i0 (.int .u8 0) 1 1 Tryz.underlying22 hi hz0 hz1 hz2 rfl (by decide) _ _ _ rfl (hown.alloc _) ⟨w1.heap.size, 0, none⟩ 1 1 [.int .u8 (k : Int)] rfl rfl (cell_one_new _ _ _) (by simp [Value.oneCell']) (by unfold maxLen; omega) (by omega) (by simp; omega) ?_)
     intro v' w2 hown' hgrow _
     have hE2 : Ext w w2 := (hE'.alloc _).grown hgrow (fun k e => by have := (hown.lt k e).1; omega)
     have hA2 : w2.heap[w.heap.size]? = some (.cells (encA c) 62 (0, 0)) := (hgrow.block _ (by simp; omega) (fun e => by have := (hown.lt _ e.symm).1; omega)).trans (heap_alloc_keep HA'.out _)
     have HA2 := Lib.hid hA2
     clear hA2 hown
     go_wp2
     go_roundw
     case rel => exact ⟨k + 1, by omega, by go_num, hE2, HA2.out, by rw [HS2.out, List.length_append, List.map_append]; rw [HX.out] at hown'; exact hown'⟩
     case measure => simp [intOf]; omega
  ·obtain rfl : k = 256 := by omega
   have hlen := bytesTo_len c 256
   go_wp2
   go_ret
   exact ⟨_, rfl, By.of_owns hown (by omega), hE⟩
theorem rsize_any (c : Cls) (w : World) :
  Calls Tryz.prog 63 #[.agg (encA c)] w fun e w' => e = .returned (.int .i64 (bytesTo c 256).length) ∧ Ext w w' := by
 have hA := heap_alloc_new w (.cells (encA c) 62)
 have hE := (Ext.refl w).alloc (.cells (encA c) 62)
 have HA := Lib.hid hA
 clear hA
 go_enter Tryz.func63, Tryz.ntmps63
 go_wp2_with (first
  | (refine wpList_load_row rfl 62 (.tmp 1) rfl _ rfl _ _ _ _ HA.out Tryz.underlying62 rfl info30 ?_)
  | (go_at_call 106; refine (rbytes_any c _).mono ?_; rintro e w' ⟨v, rfl, hB, hE'⟩; obtain ⟨a, cap, hv⟩ := By.len hB; rw [hv]))
 go_ret
 exact ⟨rfl, hE.trans hE'⟩
def headI (l : List UInt8) : Int := match l with | [] => -1 | x :: _ => (x.toNat : Int)
end Go.Proofs.YtaiogolidlamiaaGreatDoor
namespace Go.Proofs.YtaiogolidlamiaaGreatDoor
set_option maxRecDepth 100000
open Go.RowKit Go.Shelf
def Cs (W : World) (v : Value) (l : List Cls) : Prop := Sl W v 4 l.length (fun i => .int .u64 (wd (l.getD (i / 4) 0#256) (i % 4)))
theorem Cs.ext {W W' : World} {v : Value} {l : List Cls} (h : Cs W v l) (hE : Ext W W') : Cs W' v l := Sl.ext h hE
theorem cs_cells {W : World} {b off : Nat} {l : List Cls} (h : ∀ i, i < l.length * 4 → W.cell? ⟨b, off + i, none⟩ = some (.int .u64 (wd (l.getD (i / 4) 0#256) (i % 4)))) (k : Nat) (hk : k < l.length) :
  (∀ e : EW W, e.W.cell? ⟨b, off + k * 4, none⟩ = some (.int .u64 (wd (l.getD k 0#256) 0))) ∧ (∀ e : EW W, e.W.cell? ⟨b, off + k * 4 + 1, none⟩ = some (.int .u64 (wd (l.getD k 0#256) 1))) ∧
  (∀ e : EW W, e.W.cell? ⟨b, off + k * 4 + 2, none⟩ = some (.int .u64 (wd (l.getD k 0#256) 2))) ∧ (∀ e : EW W, e.W.cell? ⟨b, off + k * 4 + 3, none⟩ = some (.int .u64 (wd (l.getD k 0#256) 3))) := by
 have H : ∀ j, j < 4 → W.cell? ⟨b, off + k * 4 + j, none⟩ = some (.int .u64 (wd (l.getD k 0#256) j)) := fun j hj => by
  have := h (k * 4 + j) (by omega)
  rwa [show (k * 4 + j) / 4 = k by omega, show (k * 4 + j) % 4 = j by omega, ← Nat.add_assoc] at this
 exact ⟨ew_cell (H 0 (by omega)), ew_cell (H 1 (by omega)), ew_cell (H 2 (by omega)), ew_cell (H 3 (by omega))⟩
set_option maxRecDepth 100000 in
theorem alike_walk (l : List Cls) (x y : Int) (hx0 : 0 ≤ x) (hx : x < 256) (hy0 : 0 ≤ y) (hy : y < 256) (hl : l.length ≤ 4611686018427387904) (a : Option Addr) (b off cap : Nat) (w : World) (ha : 0 < l.length → a = some ⟨b, off, none⟩)
  (hc : ∀ i, i < l.length * 4 → w.cell? ⟨b, off + i, none⟩ = some (.int .u64 (wd (l.getD (i / 4) 0#256) (i % 4)))) :
  Calls Tryz.prog 123 #[.slice a l.length cap, .int .u8 x, .int .u8 y] w fun e w' => e = .returned (.bool (l.all fun c => memB c x == memB c y)) ∧ Ext w w' := by
 go_enter Tryz.func123, Tryz.ntmps123
 go_wp2_with (fail)
 go_loopw [7] (fun i W => ∃ k : Nat, k ≤ l.length ∧ i = .int .i64 k ∧ Ext w W ∧ Hid (∀ j, j < k → memB (l.getD j 0#256) x = memB (l.getD j 0#256) y))
  (fun i _ => l.length - (intOf i).toNat)
 case atStart => exact ⟨0, by omega, rfl, Ext.refl w, Lib.hid (fun j hj => by omega)⟩
 case round =>
  obtain ⟨k, hk, rfl, hE, hall⟩ := hrel
  by_cases hlt : k < l.length
  ·have e := ha (by omega)
   obtain ⟨a0, a1, a2, a3⟩ := cs_cells (W := wr) (fun i hi => hE.cell (hc i hi)) k hlt
   clear ha hc
   subst e
   obtain ⟨c, hcd⟩ : ∃ c, l.getD k 0#256 = c := ⟨_, rfl⟩
   rw [hcd] at a0 a1 a2 a3
   have HCd := Lib.hid hcd
   clear hcd
   go_upto_region 4 with (fail)
   have h1 := fun (W : World) => Lib.hid (rHas_any c x hx0 hx W)
   have h2 := fun (W : World) => Lib.hid (rHas_any c y hy0 hy W)
   generalize hm1 : memB c x = m1 at h1
   generalize hm2 : memB c y = m2 at h2
   have HM1 := Lib.hid hm1
   have HM2 := Lib.hid hm2
   clear hm1 hm2
   go_cut [26] (fun v W => v = .bool (m1 != m2) ∧ ∃ e : EW wr, W = e.W)
   case first =>
    refine region_ew (by kernel_rfl) (by kernel_rfl) ?_
    iterate 13 (refine wpQuiet_step (fun K hK => ?_); go_simp; first | (refine hK _ ?_; clear hK K) | (apply Exists.intro; refine ⟨fun _ => ?_, hK _ ?_⟩; (first | (with_reducible exact calls_ew (h1 _).out) | (with_reducible exact calls_ew (h2 _).out)); clear hK K))
    refine wpQuiet_nil ?_
    rintro _ ⟨e, rfl⟩
    go_wp2
    go_meet
    exact ⟨rfl, e, rfl⟩
   case rest =>
    obtain ⟨rfl, e, rfl⟩ := hcut
    clear a0 a1 a2 a3 h1 h2
    have hE' := hE.trans e.ext
    generalize e.W = w1 at *
    generalize hmm : (m1 != m2) = mm at *
    have HMM := Lib.hid hmm
    clear hmm
    cases mm
    ·go_wp2
     go_roundw
     case rel => exact ⟨k + 1, by omega, by go_num, hE', Lib.hid (fun j hj => by
      by_cases hjk : j = k
      ·subst hjk; rw [HCd.out, HM1.out, HM2.out]; simpa using HMM.out
      ·exact hall.out j (by omega))⟩
     case measure => simp [intOf]; omega
    ·have hf : (l.all fun c => memB c x == memB c y) = false := by
      rw [List.all_eq_false]
      refine ⟨c, ?_, by rw [HM1.out, HM2.out]; simpa using HMM.out⟩
      rw [← HCd.out, List.getD_eq_getElem?_getD, List.getElem?_eq_getElem hlt]
      exact List.getElem_mem hlt
     have HF := Lib.hid hf
     clear hf
     go_wp2
     go_ret
     exact ⟨ret_bool HF.out.symm, hE'⟩
  ·obtain rfl : k = l.length := by omega
   have hf : (l.all fun c => memB c x == memB c y) = true := by
    rw [List.all_eq_true]
    intro c hcm
    obtain ⟨j, hj, rfl⟩ := List.mem_iff_getElem.1 hcm
    have := hall.out j hj
    rw [List.getD_eq_getElem?_getD, List.getElem?_eq_getElem hj] at this
    simpa using this
   have HF := Lib.hid hf
   clear hf hall
   go_wp2
   go_ret
   exact ⟨ret_bool HF.out.symm, hE⟩
theorem alike_any (l : List Cls) (v : Value) (x y : Int) (hx0 : 0 ≤ x) (hx : x < 256) (hy0 : 0 ≤ y) (hy : y < 256) (w : World) (h : Cs w v l) :
  Calls Tryz.prog 123 #[v, .int .u8 x, .int .u8 y] w fun e w' => e = .returned (.bool (l.all fun c => memB c x == memB c y)) ∧ Ext w w' := by
 obtain ⟨h0, ⟨hn, a, cap, rfl⟩ | ⟨hn, b, off, cap, rfl, hb, hc⟩⟩ := h
 ·have := alike_walk l x y hx0 hx hy0 hy (by omega) a 0 0 cap w (by omega) (fun i hi => by omega)
  rwa [hn] at this
 ·exact alike_walk l x y hx0 hx hy0 hy h0 (some ⟨b, off, none⟩) b off cap w (fun _ => rfl) hc
def idxC (l : List Cls) (b : Int) : Int := match l.findIdx? (fun c => memB c b) with | some i => (i : Int) | none => -1
theorem idxC_hit (l : List Cls) (b : Int) (k : Nat) (hk : k < l.length) (h : memB (l.getD k 0#256) b = true) (hne : ∀ j, j < k → memB (l.getD j 0#256) b = false) : idxC l b = k := by
 have : l.findIdx? (fun c => memB c b) = some k := by
  rw [List.findIdx?_eq_some_iff_getElem]
  refine ⟨hk, by rwa [List.getD_eq_getElem?_getD, List.getElem?_eq_getElem hk] at h, fun j hj => ?_⟩
  have h1 := hne j hj
  rw [List.getD_eq_getElem?_getD, List.getElem?_eq_getElem (by omega)] at h1
  simpa using h1
 unfold idxC; rw [this]
theorem idxC_miss (l : List Cls) (b : Int) (hne : ∀ j, j < l.length → memB (l.getD j 0#256) b = false) : idxC l b = -1 := by
 have : l.findIdx? (fun c => memB c b) = none := by
  rw [List.findIdx?_eq_none_iff]
  intro c hc
  obtain ⟨j, hj, rfl⟩ := List.mem_iff_getElem.1 hc
  have h1 := hne j hj
  rwa [List.getD_eq_getElem?_getD, List.getElem?_eq_getElem hj] at h1
 unfold idxC; rw [this]
end Go.Proofs.YtaiogolidlamiaaGreatDoor
namespace Go.Proofs.YtaiogolidlamiaaGreatDoor
set_option maxRecDepth 100000
theorem u8n (k : Nat) (h : k < 256) : (UInt8.ofNat k).toNat = k := by simp; omega
theorem mem_bytesTo (c : Cls) (k : Nat) (hk : k ≤ 256) (x : UInt8) : x ∈ bytesTo c k ↔ x.toNat < k ∧ c.getLsbD x.toNat = true := by
 induction k with
 | zero => simp [bytesTo]
 | succ k ih =>
  have ih := ih (by omega)
  have hx : x = UInt8.ofNat k ↔ x.toNat = k := by
   rw [← UInt8.toNat_inj, u8n k (by omega)]
  simp only [bytesTo]
  split
  ·rename_i h
   rw [List.mem_append, ih, List.mem_singleton, hx]
   constructor
   ·rintro (⟨h1, h2⟩ | h1)
    ·exact ⟨by omega, h2⟩
    ·exact ⟨by omega, by rw [h1]; exact h⟩
   ·rintro ⟨h1, h2⟩
    by_cases h3 : x.toNat = k
    ·exact .inr h3
    ·exact .inl ⟨by omega, h2⟩
  ·rename_i h
   rw [ih]
   constructor
   ·rintro ⟨h1, h2⟩; exact ⟨by omega, h2⟩
   ·rintro ⟨h1, h2⟩
    refine ⟨?_, h2⟩
    by_cases h3 : x.toNat = k
    ·rw [h3] at h2; exact absurd h2 h
    ·omega
theorem mem_bytes (c : Cls) (x : UInt8) : x ∈ bytesTo c 256 ↔ c.getLsbD x.toNat = true := by
 rw [mem_bytesTo c 256 (Nat.le_refl _)]
 exact ⟨fun h => h.2, fun h => ⟨x.toNat_lt, h⟩⟩
theorem least_mem (c : Cls) (h : c ≠ 0#256) : 0 ≤ headI (bytesTo c 256) ∧ headI (bytesTo c 256) < 256 ∧ c.getLsbD (headI (bytesTo c 256)).toNat = true := by
 cases hb : bytesTo c 256 with
 | nil =>
  exfalso; apply h
  apply BitVec.eq_of_getLsbD_eq
  intro i hi
  rw [BitVec.getLsbD_zero]
  cases hc : c.getLsbD i
  ·rfl
  ·have := (mem_bytes c (UInt8.ofNat i)).2 (by rw [u8n i hi]; exact hc)
   rw [hb] at this; cases this
 | cons x t =>
  have hx := (mem_bytes c x).1 (by rw [hb]; exact List.mem_cons_self)
  have := x.toNat_lt
  simp only [headI]
  exact ⟨by omega, by omega, by simpa using hx⟩
def Dis (a b : Cls) : Prop := ∀ i, ¬ (a.getLsbD i = true ∧ b.getLsbD i = true)
theorem split1_sub (k c x : Cls) (h : x ∈ split1 k c) (i : Nat) (hi : x.getLsbD i = true) : c.getLsbD i = true := by
 have := (List.mem_filter.1 h).1
 simp only [List.mem_cons, List.not_mem_nil, or_false] at this
 rcases this with rfl | rfl <;> (rw [BitVec.getLsbD_and] at hi; simp only [Bool.and_eq_true] at hi; exact hi.1)
theorem split1_dis (k c : Cls) : (split1 k c).Pairwise Dis := by
 unfold split1
 refine List.Pairwise.filter _ ?_
 refine List.Pairwise.cons (fun y hy => ?_) (List.pairwise_singleton _ _)
 simp only [List.mem_singleton] at hy
 subst hy
 rintro i ⟨h1, h2⟩
 simp only [BitVec.getLsbD_and, BitVec.getLsbD_not, Bool.and_eq_true, Bool.not_eq_true'] at h1 h2
 rw [h1.2] at h2
 exact absurd h2.2.2 (by simp)
theorem splitC_dis (k : Cls) (L : List Cls) (h : L.Pairwise Dis) : (splitC k L).Pairwise Dis := by
 unfold splitC
 rw [List.pairwise_flatMap]
 refine ⟨fun c _ => split1_dis k c, h.imp ?_⟩
 intro a b hab x hx y hy i ⟨h1, h2⟩
 exact hab i ⟨split1_sub k a x hx i h1, split1_sub k b y hy i h2⟩
theorem cellsU_dis (l : List Cls) : (cellsU l).Pairwise Dis := by
 have : ∀ (l : List Cls) (L : List Cls), L.Pairwise Dis → (l.foldl (fun L k => splitC k L) L).Pairwise Dis := fun l => by
  induction l with
  | nil => intro L h; exact h
  | cons k l ih => intro L h; exact ih _ (splitC_dis k L h)
 exact this l _ (List.pairwise_singleton _ _)
def key (c : Cls) : Int := headI (bytesTo c 256)
theorem Dis.symm {a b : Cls} (h : Dis a b) : Dis b a := fun i ⟨h1, h2⟩ => h i ⟨h2, h1⟩
theorem key_inj {L : List Cls} (hd : L.Pairwise Dis) (hz : ∀ c ∈ L, c ≠ 0#256) (a b : Cls) (ha : a ∈ L) (hb : b ∈ L) (h : key a = key b) : a = b := by
 have h1 := (least_mem a (hz a ha)).2.2
 have h2 := (least_mem b (hz b hb)).2.2
 apply Classical.byContradiction
 intro hne
 have hd' : Dis a b := by
  obtain ⟨s, t, rfl⟩ := List.append_of_mem ha
  rw [List.mem_append, List.mem_cons] at hb
  rcases hb with hb | hb | hb
  ·exact ((List.pairwise_append.1 hd).2.2 b hb a List.mem_cons_self).symm
  ·exact absurd hb.symm hne
  ·exact (List.pairwise_cons.1 (List.pairwise_append.1 hd).2.1).1 b hb
 unfold key at h
 rw [← h] at h2
 exact hd' _ ⟨h1, h2⟩
def cellsS (l : List Cls) : List Cls := (cellsU l).mergeSort fun a b => decide (key a ≤ key b)
theorem cellsS_perm (l : List Cls) : (cellsS l).Perm (cellsU l) := List.mergeSort_perm _ _
theorem cellsS_sorted (l : List Cls) : (cellsS l).Pairwise fun a b => key a ≤ key b := by
 have := List.pairwise_mergeSort (le := fun a b : Cls => decide (key a ≤ key b)) (fun a b c h1 h2 => by simp only [decide_eq_true_eq] at *; omega) (fun a b => by simp only [Bool.or_eq_true, decide_eq_true_eq]; omega) (cellsU l)
 exact this.imp (fun h => of_decide_eq_true h)
theorem cells_unique {L M : List Cls} (hd : M.Pairwise Dis) (hz : ∀ c ∈ M, c ≠ 0#256) (hp : L.Perm M) (hs : L.Pairwise fun a b => key a ≤ key b) {N : List Cls} (hp' : N.Perm M) (hs' : N.Pairwise fun a b => key a ≤ key b) : L = N :=
 List.Perm.eq_of_pairwise (fun a b ha hb h1 h2 => key_inj hd hz a b (hp.mem_iff.1 ha) (hp'.mem_iff.1 hb) (Int.le_antisymm h1 h2)) hs hs' (hp.trans hp'.symm)
theorem cellsS_unique {l L : List Cls} (hp : L.Perm (cellsU l)) (hs : L.Pairwise fun a b => key a ≤ key b) : L = cellsS l :=
 cells_unique (cellsU_dis l) (full_cellsU l).2 hp hs (cellsS_perm l) (cellsS_sorted l)
theorem cellsS_len (l : List Cls) : (cellsS l).length ≤ 256 := by rw [(cellsS_perm l).length_eq]; exact (full_cellsU l).len
end Go.Proofs.YtaiogolidlamiaaGreatDoor
namespace Go.Proofs.YtaiogolidlamiaaGreatDoor
set_option maxRecDepth 100000
def Alk (l : List Cls) (i j : Nat) : Prop := ∀ c ∈ l, c.getLsbD i = c.getLsbD j
theorem Alk.refl (l : List Cls) (i : Nat) : Alk l i i := fun _ _ => rfl
theorem Alk.symm {l : List Cls} {i j : Nat} (h : Alk l i j) : Alk l j i := fun c hc => (h c hc).symm
theorem Alk.trans {l : List Cls} {i j k : Nat} (h : Alk l i j) (h' : Alk l j k) : Alk l i k := fun c hc => (h c hc).trans (h' c hc)
structure IsCells (l L : List Cls) : Prop where
 dis : L.Pairwise Dis
 nz : ∀ c ∈ L, c ≠ 0#256
 cover : ∀ i, i < 256 → ∃ c ∈ L, c.getLsbD i = true
 cls : ∀ c ∈ L, ∀ i, i < 256 → c.getLsbD i = true → ∀ j, j < 256 → (c.getLsbD j = true ↔ Alk l i j)
theorem mem_split1 (k c x : Cls) : x ∈ split1 k c ↔ (x = c &&& k ∨ x = c &&& ~~~k) ∧ x ≠ 0#256 := by
 unfold split1
 rw [List.mem_filter]
 simp
theorem nz_of_bit {c : Cls} {i : Nat} (h : c.getLsbD i = true) : c ≠ 0#256 := by
 rintro rfl; simp at h
theorem bit_of_nz {c : Cls} (h : c ≠ 0#256) : ∃ i, i < 256 ∧ c.getLsbD i = true := by
 have h1 := least_mem c h
 exact ⟨_, by omega, h1.2.2⟩
theorem isCells_split {l L : List Cls} (k : Cls) (h : IsCells l L) : IsCells (l ++ [k]) (splitC k L) where
 dis := splitC_dis k L h.dis
 nz := splitC_nz k L
 cover := fun i hi => by
  obtain ⟨c, hc, hci⟩ := h.cover i hi
  cases hk : k.getLsbD i
  ·have hx : (c &&& ~~~k).getLsbD i = true := by rw [BitVec.getLsbD_and, BitVec.getLsbD_not, hci, hk]; simp [hi]
   exact ⟨_, List.mem_flatMap.2 ⟨c, hc, (mem_split1 k c _).2 ⟨.inr rfl, nz_of_bit hx⟩⟩, hx⟩
  ·have hx : (c &&& k).getLsbD i = true := by rw [BitVec.getLsbD_and, hci, hk]; rfl
   exact ⟨_, List.mem_flatMap.2 ⟨c, hc, (mem_split1 k c _).2 ⟨.inl rfl, nz_of_bit hx⟩⟩, hx⟩
 cls := fun x hx i hi hxi j hj => by
  obtain ⟨c, hc, hx⟩ := List.mem_flatMap.1 hx
  obtain ⟨hx, -⟩ := (mem_split1 k c x).1 hx
  have hal : Alk (l ++ [k]) i j ↔ Alk l i j ∧ k.getLsbD i = k.getLsbD j := by
   constructor
   ·intro h; exact ⟨fun c hc => h c (by simp [hc]), h k (by simp)⟩
   ·rintro ⟨h1, h2⟩ c hc
    rw [List.mem_append, List.mem_singleton] at hc
    rcases hc with hc | rfl
    ·exact h1 c hc
    ·exact h2
  rw [hal]
  rcases hx with rfl | rfl
  ·rw [BitVec.getLsbD_and, Bool.and_eq_true] at hxi
   rw [← h.cls c hc i hi hxi.1 j hj, BitVec.getLsbD_and, Bool.and_eq_true, hxi.2]
   cases k.getLsbD j <;> simp
  ·simp only [BitVec.getLsbD_and, BitVec.getLsbD_not, hi, hj, decide_true, Bool.true_and, Bool.and_eq_true, Bool.not_eq_true'] at hxi ⊢
   rw [← h.cls c hc i hi hxi.1 j hj, hxi.2]
   cases k.getLsbD j <;> simp
theorem isCells_cellsU (l : List Cls) : IsCells l (cellsU l) := by
 have : ∀ (l m L : List Cls), IsCells m L → IsCells (m ++ l) (l.foldl (fun L k => splitC k L) L) := fun l => by
  induction l with
  | nil => intro m L h; rw [List.append_nil]; exact h
  | cons k l ih =>
   intro m L h
   have := ih (m ++ [k]) _ (isCells_split k h)
   rw [List.append_assoc, List.singleton_append] at this
   exact this
 have h0 : IsCells [] [allC] := by
  refine ⟨List.pairwise_singleton _ _, full_one.2, fun i hi => ⟨allC, List.mem_singleton.2 rfl, ?_⟩, fun c hc i hi _ j hj => ?_⟩
  ·unfold allC; rw [BitVec.getLsbD_not, BitVec.getLsbD_zero]; simp [hi]
  ·rw [List.mem_singleton] at hc
   subst hc
   constructor
   ·intro _ c hc; cases hc
   ·intro _; unfold allC; rw [BitVec.getLsbD_not, BitVec.getLsbD_zero]; simp [hj]
 exact this l [] [allC] h0
theorem IsCells.perm {l L M : List Cls} (h : IsCells l L) (hp : M.Perm L) : IsCells l M where
 dis := hp.symm.pairwise h.dis (fun hab => Dis.symm hab)
 nz := fun c hc => h.nz c (hp.mem_iff.1 hc)
 cover := fun i hi => by obtain ⟨c, hc, hi⟩ := h.cover i hi; exact ⟨c, hp.mem_iff.2 hc, hi⟩
 cls := fun c hc => h.cls c (hp.mem_iff.1 hc)
theorem isCells_S (l : List Cls) : IsCells l (cellsS l) := (isCells_cellsU l).perm (cellsS_perm l)
theorem IsCells.nodup {l L : List Cls} (h : IsCells l L) : L.Nodup := by
 refine List.Pairwise.imp_of_mem ?_ h.dis
 rintro a b ha hb hab rfl
 obtain ⟨i, _, hi⟩ := bit_of_nz (h.nz a ha)
 exact hab i ⟨hi, hi⟩
theorem IsCells.sub {l m L M : List Cls} (h : IsCells l L) (h' : IsCells m M) (hs : ∀ i j, i < 256 → j < 256 → (Alk l i j ↔ Alk m i j)) (c : Cls) (hc : c ∈ L) : c ∈ M := by
 obtain ⟨i, hi, hci⟩ := bit_of_nz (h.nz c hc)
 obtain ⟨d, hd, hdi⟩ := h'.cover i hi
 have : c = d := by
  apply BitVec.eq_of_getLsbD_eq
  intro j hj
  have h1 := h.cls c hc i hi hci j hj
  have h2 := h'.cls d hd i hi hdi j hj
  rw [hs i j hi hj] at h1
  rw [Bool.eq_iff_iff, h1, h2]
 rw [this]; exact hd
theorem IsCells.eq {l m L M : List Cls} (h : IsCells l L) (h' : IsCells m M) (hs : ∀ i j, i < 256 → j < 256 → (Alk l i j ↔ Alk m i j)) (hL : L.Pairwise fun a b => key a ≤ key b) (hM : M.Pairwise fun a b => key a ≤ key b) : L = M := by
 have hp : L.Perm M := (List.perm_ext_iff_of_nodup h.nodup h'.nodup).2 fun c => ⟨h.sub h' hs c, h'.sub h (fun i j hi hj => (hs i j hi hj).symm) c⟩
 exact List.Perm.eq_of_pairwise (fun a b ha hb h1 h2 => key_inj h'.dis h'.nz a b (hp.mem_iff.1 ha) hb (Int.le_antisymm h1 h2)) hL hM hp
theorem cellsS_eq {l m : List Cls} (hs : ∀ i j, i < 256 → j < 256 → (Alk l i j ↔ Alk m i j)) : cellsS l = cellsS m :=
 (isCells_S l).eq (isCells_S m) hs (cellsS_sorted l) (cellsS_sorted m)
theorem alk_cells (l : List Cls) (i j : Nat) (hi : i < 256) (hj : j < 256) : Alk (cellsS l) i j ↔ Alk l i j := by
 have h := isCells_S l
 constructor
 ·intro ha
  obtain ⟨c, hc, hci⟩ := h.cover i hi
  exact (h.cls c hc i hi hci j hj).1 (by rw [← ha c hc]; exact hci)
 ·intro ha c hc
  rw [Bool.eq_iff_iff]
  exact ⟨fun hci => (h.cls c hc i hi hci j hj).2 ha, fun hcj => (h.cls c hc j hj hcj i hi).2 ha.symm⟩
theorem key_of (c : Cls) (m : Nat) (hm : m < 256) (h : c.getLsbD m = true) (hl : ∀ j, j < m → c.getLsbD j = false) : key c = m := by
 have h1 := least_mem c (nz_of_bit h)
 have h2 := hl (headI (bytesTo c 256)).toNat
 unfold key
 have h3 : ¬ (headI (bytesTo c 256)).toNat < m := fun hlt => by rw [h2 hlt] at h1; exact absurd h1.2.2 (by simp)
 have h4 : headI (bytesTo c 256) ≤ m := by
  have hmem : UInt8.ofNat m ∈ bytesTo c 256 := (mem_bytes c _).2 (by rw [u8n m hm]; exact h)
  have hinc : (bytesTo c 256).Pairwise fun a b => a.toNat < b.toNat := by
   have : ∀ k, k ≤ 256 → (bytesTo c k).Pairwise fun a b => a.toNat < b.toNat := fun k => by
    induction k with
    | zero => intro _; exact List.Pairwise.nil
    | succ k ih =>
     intro hk
     simp only [bytesTo]
     split
     ·rw [List.pairwise_append]
      refine ⟨ih (by omega), List.pairwise_singleton _ _, fun a ha b hb => ?_⟩
      rw [List.mem_singleton] at hb
      subst hb
      rw [u8n k (by omega)]
      exact ((mem_bytesTo c k (by omega) a).1 ha).1
     ·exact ih (by omega)
   exact this 256 (Nat.le_refl _)
  cases hb : bytesTo c 256 with
  | nil => rw [hb] at hmem; cases hmem
  | cons x t =>
   rw [hb] at hmem hinc
   simp only [headI]
   rcases List.mem_cons.1 hmem with e | e
   ·rw [← e, u8n m hm]; exact Int.le_refl _
   ·have := (List.pairwise_cons.1 hinc).1 _ e
    rw [u8n m hm] at this
    omega
 omega
structure RInv (l : List Cls) (i : Nat) (out : List Cls) (le : List UInt8) : Prop where
 len : out.length = le.length
 bound : le.length ≤ i
 bits : ∀ k, k < le.length → ∀ j, j < 256 → ((out.getD k 0#256).getLsbD j = true ↔ j < i ∧ Alk l (le.getD k 0).toNat j)
 inc : ∀ k, k < le.length → (le.getD k 0).toNat < i
 srt : ∀ m k, m < k → k < le.length → (le.getD m 0).toNat < (le.getD k 0).toNat
 sep : ∀ k j, k < le.length → j < (le.getD k 0).toNat → ¬ Alk l j (le.getD k 0).toNat
 all : ∀ j, j < i → ∃ k, k < le.length ∧ Alk l (le.getD k 0).toNat j
theorem rinv_start (l : List Cls) : RInv l 0 [] [] := by
 refine ⟨rfl, ?_, ?_, ?_, ?_, ?_, ?_⟩ <;> simp
theorem getD_app_lt {α : Type} (l : List α) (x d : α) (k : Nat) (h : k < l.length) : (l ++ [x]).getD k d = l.getD k d := by
 rw [List.getD_eq_getElem?_getD, List.getElem?_append_left h, ← List.getD_eq_getElem?_getD]
theorem getD_app_eq {α : Type} (l : List α) (x d : α) : (l ++ [x]).getD l.length d = x := by
 rw [List.getD_eq_getElem?_getD, List.getElem?_append_right (Nat.le_refl _)]; simp
theorem getD_set_self {α : Type} (l : List α) (x d : α) (k : Nat) (h : k < l.length) : (l.set k x).getD k d = x := by
 simp [List.getD_eq_getElem?_getD, h]
theorem getD_set_oth {α : Type} (l : List α) (x d : α) (k m : Nat) (h : k ≠ m) : (l.set k x).getD m d = l.getD m d := by
 simp [List.getD_eq_getElem?_getD, List.getElem?_set_ne h]
theorem rinv_new {l : List Cls} {i : Nat} {out : List Cls} {le : List UInt8} (h : RInv l i out le) (hi : i < 256) (hn : ∀ k, k < le.length → ¬ Alk l (le.getD k 0).toNat i) :
  RInv l (i + 1) (out ++ [addB 0#256 (i : Int)]) (le ++ [UInt8.ofNat i]) := by
 have hu := u8n i hi
 have hlen := h.len
 have hlt : ∀ k, k < (le ++ [UInt8.ofNat i]).length → k < le.length ∨ k = le.length := fun k hk => by simp at hk; omega
 refine ⟨by simp [hlen], by have := h.bound; simp; omega, fun k hk j hj => ?_, fun k hk => ?_, fun m k hmk hk => ?_, fun k j hk hj => ?_, fun j hj => ?_⟩
 ·rcases hlt k hk with hk | rfl
  ·rw [getD_app_lt _ _ _ _ (by omega), getD_app_lt _ _ _ _ hk, h.bits k hk j hj]
   constructor
   ·rintro ⟨h1, h2⟩; exact ⟨by omega, h2⟩
   ·rintro ⟨h1, h2⟩
    refine ⟨?_, h2⟩
    by_cases e : j = i
    ·rw [e] at h2; exact absurd h2 (hn k hk)
    ·omega
  ·rw [← hlen, getD_app_eq, hlen, getD_app_eq, hu, getLsbD_addB _ _ _ hi]
   simp only [BitVec.getLsbD_zero, Bool.false_or, decide_eq_true_eq]
   constructor
   ·rintro rfl; exact ⟨by omega, Alk.refl _ _⟩
   ·rintro ⟨h1, h2⟩
    by_cases e : j = i
    ·exact e
    ·obtain ⟨k, hk, hka⟩ := h.all j (by omega)
     exact absurd (hka.trans h2.symm) (hn k hk)
 ·rcases hlt k hk with hk | rfl
  ·rw [getD_app_lt _ _ _ _ hk]; have := h.inc k hk; omega
  ·rw [getD_app_eq, hu]; omega
 ·rcases hlt k hk with hk | rfl
  ·rw [getD_app_lt _ _ _ _ hk, getD_app_lt _ _ _ _ (by omega)]; exact h.srt m k hmk hk
  ·rw [getD_app_eq, hu, getD_app_lt _ _ _ _ hmk]; exact h.inc m hmk
 ·rcases hlt k hk with hk | rfl
  ·rw [getD_app_lt _ _ _ _ hk] at hj ⊢; exact h.sep k j hk hj
  ·rw [getD_app_eq, hu] at hj ⊢
   intro ha
   obtain ⟨k, hk, hka⟩ := h.all j hj
   exact hn k hk (hka.trans ha)
 ·by_cases e : j = i
  ·subst e
   exact ⟨le.length, by simp, by rw [getD_app_eq, hu]; exact Alk.refl _ _⟩
  ·obtain ⟨k, hk, hka⟩ := h.all j (by omega)
   exact ⟨k, by simp; omega, by rw [getD_app_lt _ _ _ _ hk]; exact hka⟩
theorem rinv_old {l : List Cls} {i : Nat} {out : List Cls} {le : List UInt8} (h : RInv l i out le) (hi : i < 256) (k : Nat) (hk : k < le.length) (ha : Alk l (le.getD k 0).toNat i) :
  RInv l (i + 1) (out.set k (addB (out.getD k 0#256) (i : Int))) le := by
 have hlen := h.len
 refine ⟨by simp [hlen], by have := h.bound; omega, fun m hm j hj => ?_, fun m hm => by have := h.inc m hm; omega, h.srt, h.sep, fun j hj => ?_⟩
 ·by_cases e : k = m
  ·subst e
   rw [getD_set_self _ _ _ _ (by omega), getLsbD_addB _ _ _ hi, Bool.or_eq_true, h.bits k hk j hj, decide_eq_true_eq]
   constructor
   ·rintro (⟨h1, h2⟩ | rfl)
    ·exact ⟨by omega, h2⟩
    ·exact ⟨by omega, ha⟩
   ·rintro ⟨h1, h2⟩
    by_cases e : j = i
    ·exact .inr e
    ·exact .inl ⟨by omega, h2⟩
  ·rw [getD_set_oth _ _ _ _ _ e, h.bits m hm j hj]
   constructor
   ·rintro ⟨h1, h2⟩; exact ⟨by omega, h2⟩
   ·rintro ⟨h1, h2⟩
    refine ⟨?_, h2⟩
    by_cases e' : j = i
    ·exfalso
     subst e'
     have hkm := ha.trans h2.symm
     rcases Nat.lt_or_gt_of_ne e with hlt | hgt
     ·exact h.sep m _ hm (h.srt k m hlt hm) hkm
     ·exact h.sep k _ hk (h.srt m k hgt hk) hkm.symm
    ·omega
 ·by_cases e : j = i
  ·subst e; exact ⟨k, hk, ha⟩
  ·exact h.all j (by omega)
theorem mem_getD {α : Type} {l : List α} {x d : α} (h : x ∈ l) : ∃ k, k < l.length ∧ l.getD k d = x := by
 obtain ⟨k, hk, rfl⟩ := List.mem_iff_getElem.1 h
 exact ⟨k, hk, by rw [List.getD_eq_getElem?_getD, List.getElem?_eq_getElem hk]; rfl⟩
theorem rinv_end {l : List Cls} {out : List Cls} {le : List UInt8} (h : RInv l 256 out le) : out = cellsS l := by
 have hlen := h.len
 have hat : ∀ k (hk : k < out.length), out[k] = out.getD k 0#256 := fun k hk => by rw [List.getD_eq_getElem?_getD, List.getElem?_eq_getElem hk]; rfl
 have hself : ∀ k, k < le.length → (out.getD k 0#256).getLsbD (le.getD k 0).toNat = true := fun k hk =>
  (h.bits k hk _ (UInt8.toNat_lt _)).2 ⟨UInt8.toNat_lt _, Alk.refl _ _⟩
 have hkey : ∀ k, k < le.length → key (out.getD k 0#256) = ((le.getD k 0).toNat : Int) := fun k hk =>
  key_of _ _ (UInt8.toNat_lt _) (hself k hk) fun j hj => by
   rw [← Bool.not_eq_true]
   intro hb
   exact h.sep k j hk hj ((h.bits k hk j (by have := UInt8.toNat_lt (le.getD k 0); omega)).1 hb).2.symm
 have hcells : IsCells l out := by
  refine ⟨?_, fun c hc => ?_, fun i hi => ?_, fun c hc i hi hci j hj => ?_⟩
  ·rw [List.pairwise_iff_getElem]
   intro m k hm hk hmk i ⟨h1, h2⟩
   rw [hat m hm] at h1
   rw [hat k hk] at h2
   have hi : i < 256 := by
    apply Classical.byContradiction; intro hn
    rw [BitVec.getLsbD_of_ge _ _ (by omega)] at h1; cases h1
   have a1 := ((h.bits m (by omega) i hi).1 h1).2
   have a2 := ((h.bits k (by omega) i hi).1 h2).2
   exact h.sep k _ (by omega) (h.srt m k hmk (by omega)) (a1.trans a2.symm)
  ·obtain ⟨k, hk, rfl⟩ := mem_getD (d := 0#256) hc
   exact nz_of_bit (hself k (by omega))
  ·obtain ⟨k, hk, ha⟩ := h.all i hi
   refine ⟨out.getD k 0#256, ?_, (h.bits k hk i hi).2 ⟨hi, ha⟩⟩
   rw [← hat k (by omega)]; exact List.getElem_mem _
  ·obtain ⟨k, hk, rfl⟩ := mem_getD (d := 0#256) hc
   have ai := ((h.bits k (by omega) i hi).1 hci).2
   rw [h.bits k (by omega) j hj]
   exact ⟨fun ⟨_, aj⟩ => ai.symm.trans aj, fun aij => ⟨hj, ai.trans aij⟩⟩
 refine hcells.eq (isCells_S l) (fun _ _ _ _ => Iff.rfl) ?_ (cellsS_sorted l)
 rw [List.pairwise_iff_getElem]
 intro m k hm hk hmk
 rw [hat m hm, hat k hk, hkey m (by omega), hkey k (by omega)]
 have := h.srt m k hmk (by omega)
 omega
theorem alk_all (l : List Cls) (x y : Nat) : (l.all fun c => memB c (x : Int) == memB c (y : Int)) = true ↔ Alk l x y := by
 simp [Alk, memB]
theorem alk_all_not (l : List Cls) (x y : Nat) : (l.all fun c => memB c (x : Int) == memB c (y : Int)) = false ↔ ¬ Alk l x y := by
 rw [← alk_all, Bool.not_eq_true]
end Go.Proofs.YtaiogolidlamiaaGreatDoor
