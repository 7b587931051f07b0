import Derived.Test.YtaiogolidlamiaaGreatDoorM07
import Derived.Test.YtaiogolidlamiaaGreatDoorM03
import Derived.Test.YtaiogolidlamiaaGreatDoorM05
import Derived.Deep.RegionHeldLaw
set_option linter.unusedVariables false
set_option linter.unusedSimpArgs false
namespace Go.Proofs.YtaiogolidlamiaaGreatDoor
set_option maxRecDepth 100000
open Go.RowKit Go.Shelf
theorem built108 (n : Int) (a : Option Addr) (l c : Nat) (a' : Option Addr) (l' c' : Nat) : Tryz.prog.built 108 [(1, .int .i64 n), (2, .slice a l c), (3, .slice a' l' c')] = some ((List.replicate 256 (Value.int .i64 0) ++ [Value.int .i64 n, Value.slice a l c, Value.slice a' l' c']).toArray) := by kernel_rfl
theorem tbl_zero (n : Nat) (vn va : Value) : tblA (fun _ => 0) n vn va = (List.replicate 256 (Value.int .i64 0) ++ [iv n, vn, va]).toArray := by
 unfold tblA tblL
 simp [List.map_const']
theorem By.split {W : World} {v : Value} {l : List UInt8} (h : By W v l) : ∃ a b off cap, v = .slice a l.length cap ∧ (0 < l.length → a = some ⟨b, off, none⟩) ∧ ∀ i, i < l.length → W.cell? ⟨b, off + i, none⟩ = some (bv (l.getD i 0)) := by
 obtain ⟨h0, ⟨hn, a, cap, rfl⟩ | ⟨hn, b, off, cap, rfl, hb, hc⟩⟩ := h
 ·exact ⟨a, 0, 0, cap, by rw [hn], by omega, by omega⟩
 ·exact ⟨_, b, off, cap, rfl, fun _ => rfl, fun i hi => hc i (by omega)⟩
theorem tbl_byte (c : Nat → Nat) (n : Nat) (a : Option Addr) (l cp : Nat) (a' : Option Addr) (l' cp' : Nat) (i : Nat) (x : Int) : (tblA c n (.slice a l cp) (.slice a' l' cp'))[i]? ≠ some (.int .u8 x) := by
 intro h
 have := Array.mem_of_getElem? h
 simp only [tblA, tblL, List.mem_toArray, List.mem_append, List.mem_map, List.mem_cons, List.not_mem_nil, or_false] at this
 rcases this with ⟨b, _, hb⟩ | hb | hb | hb <;> simp at hb
theorem cell_setRow_other (w : World) (g : Nat) (cs : Array Value) (p : Addr) (h : p.block ≠ g) : (w.setRow g cs).cell? p = w.cell? p := World.cell?_of_block (setRow_other w g p.block cs h)
theorem wpList_build_eq {P : Program} {ops : Array Oper} {rest : List Oper} {o : Oper} {a : Act} {w : World} {Q : Exit → Act → World → Prop} (hg : o.guard = none) (t : TypeId) (parts : Array (Nat × Operand)) (ho : o.op = .build t parts)
  (A : Array Value) (hb : P.built t (parts.map fun (i, x) => (i, a.eval x)).toList = some A) (h : wpList P ops Q rest (a.put o.dst (.agg A)) w) : wpList P ops Q (o :: rest) a w :=
 wpList_build hg t parts ho (by rw [hb]; rfl) (by rw [hb]; exact h)
theorem zero108 : Tryz.zeroCells108.size = 259 := by kernel_rfl
set_option maxHeartbeats 1000000 in
theorem tableOf_cells (d : Dfa) (hv : Val d) (v : Value) (w : World) (hT : Tab w) (hsz : 0 < w.heap.size) (h : IsD w v d) :
  Calls Tryz.prog 68 #[v] w fun e w' => ∃ A, e = .returned (.agg A) ∧ (∀ W, IsD W v d → IsT W A (tblOf d)) ∧ Ext w w' := by
 obtain ⟨vc, vn, va, rfl, hC, hN, hA⟩ := h
 obtain ⟨bc, oc, cc, rfl, hc⟩ := Sl.form hC (by obtain ⟨c, hc, _⟩ := hv.parts.cov 0 (by omega); exact List.length_pos_of_mem hc)
 obtain ⟨an, ln, cn, rfl⟩ : ∃ a n c, vn = .slice a n c := by obtain ⟨vs, _, hs, _⟩ := hN; obtain ⟨a, c, rfl⟩ := hs.len; exact ⟨_, _, _, rfl⟩
 obtain ⟨aa, la, ca, rfl⟩ : ∃ a n c, va = .slice a n c := by obtain ⟨a, c, rfl⟩ := Sl.len hA; exact ⟨_, _, _, rfl⟩
 have hmb : d.cls.length ≤ 4611686018427387904 := hC.1
 have HN := Lib.hid hN
 have HA := Lib.hid hA
 have HC := Lib.hid hc
 clear hN hA hc hC
 have hB : Hid (Tryz.prog.built 108 [(1, .int .i64 (d.cls.length : Int)), (2, .slice an ln cn), (3, .slice aa la ca)] = some (tblA (fun _ => 0) d.cls.length (.slice an ln cn) (.slice aa la ca))) := Lib.hid (by rw [built108, tbl_zero])
 go_enter Tryz.func68, Tryz.ntmps68
 go_upto_region 1 with (fail)
 have hE2 := ((Ext.refl w).alloc (.cells #[.slice (some ⟨bc, oc, none⟩) d.cls.length cc, .slice an ln cn, .slice aa la ca] 30)).alloc (.cells Tryz.zeroCells108 108)
 have H0 := Lib.hid (heap_alloc_keep (heap_alloc_at w (.cells #[.slice (some ⟨bc, oc, none⟩) d.cls.length cc, .slice an ln cn, .slice aa la ca] 30)) (.cells Tryz.zeroCells108 108))
 have H1 := Lib.hid (heap_alloc2_new w (.cells #[.slice (some ⟨bc, oc, none⟩) d.cls.length cc, .slice an ln cn, .slice aa la ca] 30) (.cells Tryz.zeroCells108 108))
 obtain ⟨w2, hw2⟩ : ∃ W, (w.alloc (.cells #[.slice (some ⟨bc, oc, none⟩) d.cls.length cc, .slice an ln cn, .slice aa la ca] 30)).alloc (.cells Tryz.zeroCells108 108) = W := ⟨_, rfl⟩
 simp only [hw2] at *
 clear hw2
 have c0 : w2.cell? ⟨w.heap.size, 0, none⟩ = some (.slice (some ⟨bc, oc, none⟩) d.cls.length cc) := (cell_of_row w2 _ 0 _ _ _ H0.out).trans rfl
 have c1 : w2.cell? ⟨w.heap.size, 1, none⟩ = some (.slice an ln cn) := (cell_of_row w2 _ 1 _ _ _ H0.out).trans rfl
 have c2 : w2.cell? ⟨w.heap.size, 2, none⟩ = some (.slice aa la ca) := (cell_of_row w2 _ 2 _ _ _ H0.out).trans rfl
 obtain ⟨A0, hA0⟩ : ∃ A, tblA (fun _ => 0) d.cls.length (.slice an ln cn) (.slice aa la ca) = A := ⟨_, rfl⟩
 have hsz0 : A0.size = 259 := by rw [← hA0, tbl_size]
 have hone0 : A0.all (·.oneCell') = true := by rw [← hA0]; exact tbl_one _ _ _ _ rfl rfl
 rw [hA0] at hB
 have HA0 := Lib.hid hA0
 have HS := Lib.hid (show Tryz.zeroCells108.size = A0.size by rw [zero108, hsz0])
 clear hA0
 go_upto_region 2 with (first
  | (refine wpList_build_eq rfl 108 _ rfl A0 ?_ ?_; (simp [Act.eval]; with_reducible exact hB.out))
  | (refine wpList_store_row rfl 108 (.tmp 3) (.tmp 15) rfl w2.heap.size A0 rfl rfl _ _ (heap_alloc_at w2 (.cells Tryz.zeroCells108 108)) (by rw [hsz0]; exact info108) HS.out hone0 ?_))
 have hs2 := hE2.size
 have hE3 : Ext w ((w2.alloc (.cells Tryz.zeroCells108 108)).setRow w2.heap.size A0) := (hE2.alloc _).setRow hs2 _
 have H3 := setRow_heap (w2.alloc (.cells Tryz.zeroCells108 108)) _ _ A0 108 (0, 0) (heap_alloc_at w2 (.cells Tryz.zeroCells108 108))
 have H0' := heap_setRow_keep (heap_alloc_keep H0.out (.cells Tryz.zeroCells108 108)) (g := w2.heap.size) (by have := lt_of_heap H0.out; omega) A0
 have hlt1 := lt_of_heap H1.out
 have HR0 := heap_setRow_keep (heap_alloc_keep H1.out (.cells Tryz.zeroCells108 108)) (g := w2.heap.size) (by omega) A0
 obtain ⟨w3, hw3⟩ : ∃ W, (w2.alloc (.cells Tryz.zeroCells108 108)).setRow w2.heap.size A0 = W := ⟨_, rfl⟩
 simp only [hw3] at *
 clear hw3
 have c0 : w3.cell? ⟨w.heap.size, 0, none⟩ = some (.slice (some ⟨bc, oc, none⟩) d.cls.length cc) := (cell_of_row w3 _ 0 _ _ _ H0').trans rfl
 rw [← HA0.out] at H3
 have H3 := Lib.hid H3
 have HR0 := Lib.hid HR0
 clear c1 c2 H0' HS hsz0 hone0 H0 H1
 generalize w2.heap.size = B at *
 go_wp2_with (fail)
 clear c0
 go_loopw [19] (fun i W => ∃ k : Nat, k ≤ d.cls.length ∧ i = .int .i64 k ∧ Ext w W ∧ W.heap[B]? = some (.cells (tblA (fun b => if cellOf d.cls b < k then cellOf d.cls b else 0) d.cls.length (.slice an ln cn) (.slice aa la ca)) 108 (0, 0)) ∧ W.heap[w.heap.size + 1]? = some (.cells Tryz.zeroCells108 108 (0, 0)))
  (fun i _ => d.cls.length - (intOf i).toNat)
 case atStart =>
  refine ⟨0, by omega, rfl, hE3, ?_, HR0.out⟩
  rw [H3.out, tbl_congr (c := fun b => if cellOf d.cls b < 0 then cellOf d.cls b else 0) (c' := fun _ => 0) (fun b _ => by simp)]
 case round =>
  obtain ⟨k, hk, rfl, hE, hBk, hRk⟩ := hrel
  have HB := Lib.hid hBk
  have HR := Lib.hid hRk
  clear hBk hRk
  by_cases hlt : k < d.cls.length
  ·obtain ⟨a0, a1, a2, a3⟩ := cells4 (W := wr) (fun i hi => hE.cell (HC.out i hi)) k hlt
   have HK := Lib.hid (fun b hb => cell_uniq hv.parts (b := b) hb hlt)
   have HK' := Lib.hid (fun b hb => cell_at hv.parts (b := b) hb)
   obtain ⟨c, hcd⟩ : ∃ c, d.cls.getD k 0#256 = c := ⟨_, rfl⟩
   rw [hcd] at a0 a1 a2 a3
   have HCD := Lib.hid hcd
   have HMem : Hid (∀ b, b < 256 → (UInt8.ofNat b ∈ bytesTo c 256 ↔ cellOf d.cls b = k)) := Lib.hid fun b hb => by
    rw [mem_bytes, u8n b hb, ← HCD.out]
    exact ⟨HK.out b hb, fun e => by rw [← e]; exact HK'.out b hb⟩
   clear hcd HCD HK HK'
   have hT' := hT.below hE.below hsz
   have hs' : 0 < wr.heap.size := Nat.lt_of_lt_of_le hsz hE.size
   have HLen := Lib.hid (bytesTo_len c 256)
   have hBlt := lt_of_heap HB.out
   go_upto_region 5 with (fail)
   obtain ⟨wi, hwi⟩ : ∃ W, wr.alloc (.cells (encA c) 62) = W := ⟨_, rfl⟩
   simp only [hwi]
   have hEi : Ext wr wi := hwi ▸ (Ext.refl wr).alloc _
   have H5 := Lib.hid (show wi.heap[wr.heap.size]? = some (.cells (encA c) 62 (0, 0)) from hwi ▸ heap_alloc_at wr _)
   clear hwi a0 a1 a2 a3
   have f109 := Lib.hid (bytes_any c wi (hT'.below hEi.below hs') (Nat.lt_of_lt_of_le hs' hEi.size))
   generalize bytesTo c 256 = l at *
   go_wp2_with (first
    | (refine wpList_load_row rfl 62 (.tmp 5) rfl _ rfl _ _ _ _ H5.out Tryz.underlying62 rfl info30 ?_)
    | (go_at_call 109; with_reducible refine f109.out.mono ?_; rintro e w5 ⟨vb, rfl, hBy, hE5⟩; obtain ⟨ab, bb, ob, cb, hvb, hab, hcb⟩ := hBy.split; rw [hvb]))
   clear f109 H5 hBy hvb
   have hEw := (hE.trans hEi).trans hE5
   have HB5 := Lib.hid (hE5.heap (hEi.heap HB.out))
   have HR5 := Lib.hid (hE5.heap (hEi.heap HR.out))
   have HCB := Lib.hid hcb
   have HAB := Lib.hid hab
   have hne : Hid (0 < l.length → bb ≠ B) := Lib.hid fun h0 e => by
    have h1 := hcb 0 h0
    rw [e, cell_of_row w5 B _ _ _ _ HB5.out] at h1
    exact tbl_byte _ _ _ _ _ _ _ _ _ _ h1
   clear hcb hab
   go_loopw [27] (fun i W => ∃ j : Nat, j ≤ l.length ∧ i = .int .i64 j ∧ Ext w W ∧ Hid (∀ i, i < l.length → W.cell? ⟨bb, ob + i, none⟩ = some (bv (l.getD i 0))) ∧
     W.heap[B]? = some (.cells (tblA (fun b => if UInt8.ofNat b ∈ l.take j then k else if cellOf d.cls b < k then cellOf d.cls b else 0) d.cls.length (.slice an ln cn) (.slice aa la ca)) 108 (0, 0)) ∧ W.heap[w.heap.size + 1]? = some (.cells Tryz.zeroCells108 108 (0, 0)))
    (fun i _ => l.length - (intOf i).toNat)
   case atStart => exact ⟨0, by omega, rfl, hEw, HCB, by simpa using HB5.out, HR5.out⟩
   case round =>
    obtain ⟨j, hj, rfl, hEj, hcj, hBj, hRj⟩ := hrel
    have HBj := Lib.hid hBj
    have HRj := Lib.hid hRj
    clear hBj hRj
    by_cases hlt2 : j < l.length
    ·have e := HAB.out (by omega)
     subst e
     have cj := hcj.out j hlt2
     have hls := HLen.out
     have HTk := Lib.hid (List.take_succ_eq_append_getElem hlt2)
     have HGe : Hid (l.getD j 0 = l[j]) := Lib.hid (by rw [List.getD_eq_getElem?_getD, List.getElem?_eq_getElem hlt2]; rfl)
     obtain ⟨x, hxd⟩ : ∃ x, l.getD j 0 = x := ⟨_, rfl⟩
     rw [hxd] at cj HGe
     clear hxd
     have hx := x.toNat_lt
     have hcc := (cell_of_row wr B x.toNat _ _ _ HBj.out).trans (tbl_cell _ _ _ _ x.toNat hx)
     have hfr := frozen_of_row wr B x.toNat _ _ HBj.out
     generalize (if UInt8.ofNat x.toNat ∈ l.take j then k else if cellOf d.cls x.toNat < k then cellOf d.cls x.toNat else 0) = old at *
     go_wp2
     go_roundw
     case rel =>
      rw [setCell_eq_setRow wr _ _ _ _ _ _ HBj.out, tbl_set _ _ _ _ _ _ hx]
      refine ⟨j + 1, by omega, by go_num, hEj.setRow hs2 _, Lib.hid fun i hi => ?_, ?_, heap_setRow_keep HRj.out (by omega) _⟩
      ·rw [cell_setRow_other _ _ _ _ (hne.out (by omega))]
       exact hcj.out i hi
      ·have hq := tbl_congr (c := fun b => if UInt8.ofNat b ∈ l.take (j + 1) then k else if cellOf d.cls b < k then cellOf d.cls b else 0) (c' := fun y => if y = x.toNat then k else if UInt8.ofNat y ∈ l.take j then k else if cellOf d.cls y < k then cellOf d.cls y else 0) (fun b hb => by
        rw [HTk.out, ← HGe.out]
        have hbx : UInt8.ofNat b = x ↔ b = x.toNat := by rw [← UInt8.toNat_inj, u8n b hb]
        simp only [List.mem_append, List.mem_singleton, hbx]
        by_cases h1 : b = x.toNat <;> by_cases h2 : UInt8.ofNat b ∈ l.take j <;> simp [h1, h2]) d.cls.length (.slice an ln cn) (.slice aa la ca)
       rw [hq]
       exact setRow_heap wr _ _ _ _ _ HBj.out
     case measure => simp [intOf]; omega
    ·obtain rfl : j = l.length := by omega
     rw [List.take_length] at HBj
     have HBk := HBj.out
     rw [tbl_congr (c' := fun b => if cellOf d.cls b < k + 1 then cellOf d.cls b else 0) (fun b hb => by
      by_cases h1 : UInt8.ofNat b ∈ l
      ·have := (HMem.out b hb).1 h1
       simp [h1, this]
      ·have : cellOf d.cls b ≠ k := fun e => h1 ((HMem.out b hb).2 e)
       have h2 : cellOf d.cls b < k + 1 ↔ cellOf d.cls b < k := by omega
       simp [h1, h2])] at HBk
     have HBk := Lib.hid HBk
     clear HBj HMem HCB hcj HAB hne
     go_wp2
     go_roundw
     case rel => exact ⟨k + 1, by omega, by go_num, hEj, HBk.out, HRj.out⟩
     case measure => simp [intOf]; omega
  ·obtain rfl : k = d.cls.length := by omega
   have HBk := HB.out
   rw [tbl_congr (c' := cellOf d.cls) (fun b hb => by rw [if_pos (cell_lt hv.parts hb)])] at HBk
   obtain ⟨A, hA⟩ : ∃ A, tblA (cellOf d.cls) d.cls.length (.slice an ln cn) (.slice aa la ca) = A := ⟨_, rfl⟩
   have hAs : A.size = 259 := by rw [← hA, tbl_size]
   have hAo : A.all (·.oneCell') = true := by rw [← hA]; exact tbl_one _ _ _ _ rfl rfl
   rw [hA] at HBk
   have HBk := Lib.hid HBk
   have HA' := Lib.hid hA
   have HS := Lib.hid (show Tryz.zeroCells108.size = A.size by rw [zero108, hAs])
   clear hA HB
   go_wp2_with (first
    | (refine wpList_load_row rfl 108 (.tmp 3) rfl _ rfl _ _ _ _ HBk.out Tryz.underlying108 rfl (by rw [hAs]; exact info108) ?_)
    | (refine wpList_store_row rfl 108 (.tmp 2) (.tmp 37) rfl _ A rfl rfl _ _ HR.out (by rw [hAs]; exact info108) HS.out hAo ?_))
   refine bodyPost_ret (v := .agg A) (results_cell_row rfl _ _ _ _ _ _ _ rfl (setRow_heap wr _ _ A 108 (0, 0) HR.out) Tryz.underlying108 rfl (by rw [hAs]; exact info108)) rfl ?_
   have hEf := hE.setRow (g := w.heap.size + 1) (by omega) A
   exact ⟨A, rfl, fun W hW => by
    obtain ⟨vc', vn', va', he, _, hn', ha'⟩ := hW
    injection he with he
    injection he with he
    injection he with e0 he
    injection he with e1 he
    injection he with e2 he
    subst e1; subst e2
    exact ⟨_, _, HA'.out.symm, hn', ha'⟩, hEf⟩
theorem tableOf_any0 (d : Dfa) (hv : Val d) (v : Value) (w0 w : World) (hw : Ext w0 w) (hT : Tab w) (hsz : 0 < w.heap.size) (h : IsD w0 v d) :
  Calls Tryz.prog 68 #[v] w fun e w' => ∃ A, e = .returned (.agg A) ∧ IsT w0 A (tblOf d) ∧ Ext w w' :=
 (tableOf_cells d hv v w hT hsz (h.ext hw)).mono fun _ _ ⟨A, he, hA, hE⟩ => ⟨A, he, hA w0 h, hE⟩
theorem tableOf_any (d : Dfa) (hv : Val d) (v : Value) (w : World) (hT : Tab w) (hsz : 0 < w.heap.size) (h : IsD w v d) :
  Calls Tryz.prog 68 #[v] w fun e w' => ∃ A, e = .returned (.agg A) ∧ IsT w' A (tblOf d) ∧ Ext w w' :=
 (tableOf_any0 d hv v w w (Ext.refl w) hT hsz h).mono fun _ _ ⟨A, he, hA, hE⟩ => ⟨A, he, hA.ext hE, hE⟩
end Go.Proofs.YtaiogolidlamiaaGreatDoor
namespace Go.Proofs.YtaiogolidlamiaaGreatDoor
set_option maxRecDepth 100000
def uTo (p : Cls → Bool) (L : List Cls) (i : Nat) : Cls := (L.take i).foldl (fun d c => if p c then d ||| c else d) 0#256
theorem uTo_zero (p : Cls → Bool) (L : List Cls) : uTo p L 0 = 0#256 := rfl
theorem uTo_succ (p : Cls → Bool) (L : List Cls) (i : Nat) (h : i < L.length) : uTo p L (i + 1) = if p (L.getD i 0#256) then uTo p L i ||| L.getD i 0#256 else uTo p L i := by
 unfold uTo
 rw [List.take_succ_eq_append_getElem h, List.foldl_append]
 simp [List.getD_eq_getElem?_getD, h]
theorem fold_bit (p : Cls → Bool) (b : Nat) : ∀ (L : List Cls) (d : Cls), (L.foldl (fun d c => if p c then d ||| c else d) d).getLsbD b = (d.getLsbD b || L.any fun c => p c && c.getLsbD b)
 | [], d => by simp
 | c :: L, d => by
  rw [List.foldl_cons, fold_bit p b L, List.any_cons]
  cases hp : p c
  ·simp
  ·rw [if_pos rfl, BitVec.getLsbD_or]; simp [Bool.or_assoc]
theorem uTo_bit (p : Cls → Bool) (L : List Cls) (i b : Nat) : (uTo p L i).getLsbD b = (L.take i).any fun c => p c && c.getLsbD b := by
 unfold uTo
 rw [fold_bit]; simp
theorem bit_ge (c : Cls) (b : Nat) (h : 256 ≤ b) : c.getLsbD b = false := BitVec.getLsbD_of_ge _ _ (by omega)
theorem part_dis {l L : List Cls} (h : IsCells l L) (i : Nat) (hi : i < L.length) : uTo (fun _ => true) L i &&& L.getD i 0#256 = 0#256 := by
 apply BitVec.eq_of_getLsbD_eq
 intro b hb
 rw [BitVec.getLsbD_and, uTo_bit, BitVec.getLsbD_zero, ← Bool.not_eq_true]
 intro hh
 rw [Bool.and_eq_true, List.any_eq_true] at hh
 obtain ⟨⟨c, hc, hcb⟩, hd⟩ := hh
 rw [Bool.true_and] at hcb
 obtain ⟨j, hj, rfl⟩ := List.mem_iff_getElem.1 hc
 rw [List.length_take] at hj
 rw [List.getElem_take] at hcb
 rw [List.getD_eq_getElem?_getD, List.getElem?_eq_getElem hi] at hd
 exact (List.pairwise_iff_getElem.1 h.dis j i (by omega) hi (by omega)) b ⟨hcb, hd⟩
theorem part_all {l L : List Cls} (h : IsCells l L) : uTo (fun _ => true) L L.length = allC := by
 apply BitVec.eq_of_getLsbD_eq
 intro b hb
 rw [uTo_bit, List.take_length]
 have h1 : allC.getLsbD b = true := by unfold allC; rw [BitVec.getLsbD_not, BitVec.getLsbD_zero]; simp [hb]
 rw [h1, List.any_eq_true]
 obtain ⟨c, hc, hcb⟩ := h.cover b hb
 exact ⟨c, hc, by simp [hcb]⟩
theorem part_nz {l L : List Cls} (h : IsCells l L) (i : Nat) (hi : i < L.length) : sz (L.getD i 0#256) ≠ 0 := by
 rw [List.getD_eq_getElem?_getD, List.getElem?_eq_getElem hi]
 exact fun e => h.nz _ (List.getElem_mem hi) ((sz_eq_zero _).1 e)
theorem part_lt (l : List Cls) (i : Nat) (hi : i < (cellsS l).length) (h0 : 0 < i) : key ((cellsS l).getD (i - 1) 0#256) < key ((cellsS l).getD i 0#256) := by
 have h := isCells_S l
 have hs := List.pairwise_iff_getElem.1 (cellsS_sorted l) (i - 1) i (by omega) hi (by omega)
 rw [List.getD_eq_getElem?_getD, List.getD_eq_getElem?_getD, List.getElem?_eq_getElem hi, List.getElem?_eq_getElem (by omega)]
 simp only [Option.getD_some]
 rcases Int.lt_or_eq_of_le hs with hlt | heq
 ·exact hlt
 ·exfalso
  have he := key_inj h.dis h.nz _ _ (List.getElem_mem _) (List.getElem_mem _) heq
  have hn := List.pairwise_iff_getElem.1 h.nodup (i - 1) i (by omega) hi (by omega)
  exact hn he
theorem part_met {l L : List Cls} (h : IsCells l L) (c : Cls) (hc : c ∈ l) : uTo (fun d => (d &&& c) != 0#256) L L.length = c := by
 apply BitVec.eq_of_getLsbD_eq
 intro b hb
 rw [uTo_bit, List.take_length, Bool.eq_iff_iff, List.any_eq_true]
 constructor
 ·rintro ⟨d, hd, hdb⟩
  rw [Bool.and_eq_true] at hdb
  obtain ⟨b', hb', hbb⟩ := bit_of_nz (c := d &&& c) (by simpa using hdb.1)
  rw [BitVec.getLsbD_and, Bool.and_eq_true] at hbb
  have := (h.cls d hd b' hb' hbb.1 b hb).1 hdb.2 c hc
  rw [← this]; exact hbb.2
 ·intro hcb
  obtain ⟨d, hd, hdb⟩ := h.cover b hb
  refine ⟨d, hd, ?_⟩
  rw [Bool.and_eq_true]
  refine ⟨?_, hdb⟩
  have : (d &&& c) ≠ 0#256 := nz_of_bit (i := b) (by rw [BitVec.getLsbD_and, hdb, hcb]; rfl)
  simpa using this
end Go.Proofs.YtaiogolidlamiaaGreatDoor
namespace Go.Proofs.YtaiogolidlamiaaGreatDoor
set_option maxRecDepth 100000
open Go.RowKit Go.Shelf
theorem eqz_of (x : Cls) (m : Bool) (h : (x == 0#256) = m) (W : World) : (Op.equalIn 10000 62 (.agg (encA x)) (.agg zA)).run Tryz.prog W = .ok m W := by
 have := run_eq30 x 0#256 W
 rw [encA_zero, h] at this
 exact this
theorem Parts.pos {L : List Cls} (h : Parts L) : 0 < L.length := by
 obtain ⟨c, hc, _⟩ := h.cov 0 (by omega)
 exact List.length_pos_of_mem hc
theorem Parts.le {L : List Cls} (h : Parts L) : L.length ≤ 256 := by
 have := onto_le (fun b => cellOf L b) 256 L.length fun j hj => by
  obtain ⟨b, hb, e⟩ := cell_of_all h hj
  exact ⟨b, hb, e⟩
 exact this
theorem not_all : ~~~allC = 0#256 := by decide
set_option maxHeartbeats 2000000 in
theorem valid_any (d : Dfa) (hv : Val d) (hn : d.nxt.length ≤ 64) (v : Value) (w : World) (h : IsD w v d) :
  Calls Tryz.prog 47 #[v] w fun e w' => e = .returned (.bool true) ∧ Ext w w' := by
 obtain ⟨vc, vn, va, rfl, hC, ⟨vs, hvs, hN, hrows⟩, hA⟩ := h
 have hm0 := hv.parts.pos
 have hm1 := hv.parts.le
 have hn0 := hv.pos
 obtain ⟨bc, oc, cc, rfl, hc⟩ := Sl.form hC hm0
 obtain ⟨bn, on, cn, rfl, hnc⟩ := Sl.form hN hn0
 obtain ⟨aa, ca, rfl⟩ := Sl.len hA
 rw [hv.accL]
 have HC := Lib.hid hc
 have HNC := Lib.hid hnc
 have HRow := Lib.hid (fun s (hs : s < d.nxt.length) => by
  obtain ⟨b, off, cap, hv1, hc1⟩ := Sl.form (hrows s hs) (by rw [hv.row s hs]; exact hm0)
  exact (⟨b, off, cap, by rw [← hv.row s hs]; exact hv1, fun k hk => by rw [hc1 k (by rw [hv.row s hs]; omega)]; rfl⟩ : ∃ b off cap, vs.getD s undef = .slice (some ⟨b, off, none⟩) d.cls.length cap ∧ ∀ k, k < d.cls.length → w.cell? ⟨b, off + k, none⟩ = some (iv (d.ent2 s k))))
 have HTgt := Lib.hid hv.tgt
 have HP := Lib.hid hv.parts
 clear hc hnc hN hA hC hrows hvs hv
 have d1 : decide ((d.nxt.length : Int) < 1) = false := by simp; omega
 have d2 : decide ((64 : Int) < (d.nxt.length : Int)) = false := by simp; omega
 have dn : ((d.nxt.length : Int) != (d.nxt.length : Int)) = false := by simp
 have d3 : decide ((d.cls.length : Int) < 1) = false := by simp; omega
 have d4 : decide ((256 : Int) < (d.cls.length : Int)) = false := by simp; omega
 have hE0 := (Ext.refl w).alloc (.cells #[.slice (some ⟨bc, oc, none⟩) d.cls.length cc, .slice (some ⟨bn, on, none⟩) d.nxt.length cn, .slice aa d.nxt.length ca] 30)
 have H0 := heap_alloc_at w (.cells #[.slice (some ⟨bc, oc, none⟩) d.cls.length cc, .slice (some ⟨bn, on, none⟩) d.nxt.length cn, .slice aa d.nxt.length ca] 30)
 go_enter Tryz.func47, Tryz.ntmps47
 go_upto_region 1 with (fail)
 obtain ⟨w1, hw1⟩ : ∃ W, w.alloc (.cells #[.slice (some ⟨bc, oc, none⟩) d.cls.length cc, .slice (some ⟨bn, on, none⟩) d.nxt.length cn, .slice aa d.nxt.length ca] 30) = W := ⟨_, rfl⟩
 simp only [hw1] at *
 clear hw1
 have HK := Lib.hid (fun (W : World) (hW : Ext w1 W) => (⟨(cell_of_row W _ 0 _ _ _ (hW.heap H0)).trans rfl, (cell_of_row W _ 1 _ _ _ (hW.heap H0)).trans rfl, (cell_of_row W _ 2 _ _ _ (hW.heap H0)).trans rfl⟩ :
  W.cell? ⟨w.heap.size, 0, none⟩ = some (.slice (some ⟨bc, oc, none⟩) d.cls.length cc) ∧ W.cell? ⟨w.heap.size, 1, none⟩ = some (.slice (some ⟨bn, on, none⟩) d.nxt.length cn) ∧ W.cell? ⟨w.heap.size, 2, none⟩ = some (.slice aa d.nxt.length ca)))
 clear H0
 obtain ⟨k0, k1, k2⟩ := HK.out w1 (Ext.refl w1)
 go_upto_region 4 with (fail)
 clear k0 k1 k2
 go_upto_region 5 with (fail)
 have hE1 := (Ext.refl w1).alloc (.cells zA 62)
 have HS0 := Lib.hid (heap_alloc_at w1 (.cells zA 62))
 obtain ⟨w2, hw2⟩ : ∃ W, w1.alloc (.cells zA 62) = W := ⟨_, rfl⟩
 simp only [hw2] at *
 clear hw2
 obtain ⟨k0, k1, k2⟩ := HK.out w2 hE1
 go_wp2_with (fail)
 clear k0 k1 k2 d1 d2 d3 d4
 go_loopw [42] (fun i W => ∃ k : Nat, k ≤ d.cls.length ∧ i = .int .i64 k ∧ Ext w1 W ∧ W.heap[w1.heap.size]? = some (.cells (encA (uTo (fun _ => true) d.cls k)) 62 (0, 0)))
  (fun i _ => d.cls.length - (intOf i).toNat)
 case atStart => exact ⟨0, by omega, rfl, hE1, by rw [uTo_zero, encA_zero]; exact HS0.out⟩
 case round =>
  obtain ⟨k, hk, rfl, hE, hBk⟩ := hrel
  have HB := Lib.hid hBk
  clear hBk
  by_cases hlt : k < d.cls.length
  ·obtain ⟨a0, a1, a2, a3⟩ := cells4 (W := wr) (fun i hi => (hE0.trans hE).cell (HC.out i hi)) k hlt
   have hdi := part_dis (isCells_parts HP.out) k hlt
   have hnz := HP.out.nz (d.cls.getD k 0#256) (by rw [List.getD_eq_getElem?_getD, List.getElem?_eq_getElem hlt]; exact List.getElem_mem hlt)
   have hus := uTo_succ (fun _ => true) d.cls k hlt
   rw [if_pos rfl] at hus
   have HUS := Lib.hid hus
   clear hus
   obtain ⟨c, hcd⟩ : ∃ c, d.cls.getD k 0#256 = c := ⟨_, rfl⟩
   rw [hcd] at a0 a1 a2 a3 hdi hnz HUS
   clear hcd
   generalize uTo (fun _ => true) d.cls k = A at *
   have f92 := fun W => Lib.hid (inter_any A c W)
   have f93 := fun W => Lib.hid (union_any A c W)
   have g1 := eqz_of c false (by simpa using hnz)
   have g2 := eqz_of (A &&& c) true (by rw [hdi]; rfl)
   have g3 := gt30
   clear hdi hnz
   generalize A &&& c = x at *
   have hBlt := lt_of_heap HB.out
   go_upto_region 8 with (fail)
   obtain ⟨wi, hwi⟩ : ∃ W, wr.alloc (.cells (encA c) 62) = W := ⟨_, rfl⟩
   simp only [hwi]
   have hEi : Ext wr wi := hwi ▸ (Ext.refl wr).alloc _
   have H6 := Lib.hid (show wi.heap[wr.heap.size]? = some (.cells (encA c) 62 (0, 0)) from hwi ▸ heap_alloc_at wr _)
   have HB := Lib.hid (hEi.heap HB.out)
   clear hwi a0 a1 a2 a3
   obtain ⟨x0, x1, x2, x3⟩ := ew_cells H6.out
   obtain ⟨y0, y1, y2, y3⟩ := ew_cells HB.out
   obtain ⟨e0, he0⟩ := ew_start wi
   rw [he0]
   clear he0
   go_wp2_with (first
    | (go_at_call 92; with_reducible refine (f92 _).out.mono ?_; rintro e w' ⟨rfl, hE'⟩; obtain ⟨e', rfl⟩ := ew_next hE')
    | (go_at_call 93; with_reducible refine (f93 _).out.mono ?_; rintro e w' ⟨rfl, hE'⟩; obtain ⟨e', rfl⟩ := ew_next hE')
    | (refine wpList_store_row rfl 62 (.tmp 4) (.tmp 58) rfl _ _ rfl rfl _ _ (e'.ext.heap HB.out) info30 rfl (encA_one _) ?_))
   go_roundw
   case rel => exact ⟨k + 1, by omega, by go_num, ((hE.trans hEi).trans e'.ext).setRow (Nat.le_refl _) _, by rw [HUS.out]; exact setRow_heap e'.W _ _ _ _ _ (e'.ext.heap HB.out)⟩
   case measure => simp [intOf]; omega
  ·obtain rfl : k = d.cls.length := by omega
   rw [part_all (isCells_parts HP.out)] at HB
   have f94 := fun W => Lib.hid (not_any allC W)
   have g1 := eqz_of (~~~allC) true (by rw [not_all]; rfl)
   have g3 := gt30
   generalize ~~~allC = x at *
   generalize allC = uA at *
   go_wp2_with (first
    | (refine wpList_load_row rfl 62 (.tmp 4) rfl _ rfl _ _ _ _ HB.out Tryz.underlying62 rfl info30 ?_)
    | (go_at_call 94; with_reducible refine (f94 _).out.mono ?_; rintro e w5 ⟨rfl, hE5⟩; obtain ⟨k0, k1, k2⟩ := HK.out w5 (hE.trans hE5)))
   clear k0 k1 k2 f94 g1 g3 HB
   have hE6 := hE.trans hE5
   go_loopw [67] (fun i W => ∃ s : Nat, s ≤ d.nxt.length ∧ i = .int .i64 s ∧ Ext w1 W) (fun i _ => d.nxt.length - (intOf i).toNat)
   case atStart => exact ⟨0, by omega, rfl, hE6⟩
   case round =>
    obtain ⟨s, hs, rfl, hEs⟩ := hrel
    by_cases hsl : s < d.nxt.length
    ·have cs := (hE0.trans hEs).cell (HNC.out s (by omega))
     obtain ⟨br, or', cr, hvr, hcr⟩ := HRow.out s hsl
     rw [hvr] at cs
     have HCR := Lib.hid (fun k hk => (hE0.trans hEs).cell (hcr k hk))
     have HT := Lib.hid (HTgt.out s hsl)
     have dm : ((d.cls.length : Int) != (d.cls.length : Int)) = false := by simp
     have ds : decide ((s : Int) < (d.nxt.length : Int)) = true := by simp; omega
     obtain ⟨k0, k1, k2⟩ := HK.out wr hEs
     clear hvr hcr
     obtain ⟨wo, hwo⟩ : ∃ W, W = wr := ⟨_, rfl⟩
     subst hwo
     go_wp2_with (fail)
     clear k0 k1 k2 cs dm ds
     go_loopw [79] (fun i W => ∃ j : Nat, j ≤ d.cls.length ∧ i = .int .i64 j ∧ Ext wo W) (fun i _ => d.cls.length - (intOf i).toNat)
     case atStart => exact ⟨0, by omega, rfl, Ext.refl wo⟩
     case round =>
      obtain ⟨j, hj, rfl, hEj⟩ := hrel
      by_cases hjl : j < d.cls.length
      ·have cj := hEj.cell (HCR.out j hjl)
       have ht := HT.out j hjl
       generalize d.ent2 s j = t at *
       have e1 : decide ((t : Int) < 0) = false := by simp
       have e2 : decide ((d.nxt.length : Int) ≤ (t : Int)) = false := by simp; omega
       go_wp2
       go_roundw
       case rel => exact ⟨j + 1, by omega, by go_num, hEj⟩
       case measure => simp [intOf]; omega
      ·obtain rfl : j = d.cls.length := by omega
       have hEo := hEs.trans hEj
       go_wp2
       go_roundw
       case rel => exact ⟨s + 1, by omega, by go_num, hEo⟩
       case measure => simp [intOf]; omega
    ·obtain rfl : s = d.nxt.length := by omega
     go_wp2
     go_ret
     exact ⟨rfl, hE0.trans hEs⟩
end Go.Proofs.YtaiogolidlamiaaGreatDoor
namespace Go.Proofs.YtaiogolidlamiaaGreatDoor
structure BInv (t : Tbl) (l : List Nat) (k q : Nat) : Prop where
 pos : 0 < l.length
 head : l.getD 0 0 = 0
 nodup : l.Nodup
 lt : ∀ s ∈ l, s < t.nxt.length
 all : ∀ s ∈ l, ∃ w, t.run 0 w = s
 done : ∀ j, j < k → ∀ c, c < t.cells → t.ent2 (l.getD j 0) c ∈ l
 cur : ∀ c, c < q → t.ent2 (l.getD k 0) c ∈ l
theorem getD_mem {α : Type} (l : List α) (k : Nat) (d : α) (h : k < l.length) : l.getD k d ∈ l := by
 rw [List.getD_eq_getElem?_getD, List.getElem?_eq_getElem h]; exact List.getElem_mem h
theorem binv_start {t : Tbl} (hv : TVal t) : BInv t [0] 0 0 where
 pos := by simp
 head := rfl
 nodup := by simp
 lt := fun s hs => by rw [List.mem_singleton] at hs; subst hs; exact hv.pos
 all := fun s hs => by rw [List.mem_singleton] at hs; subst hs; exact ⟨[], rfl⟩
 done := fun j hj => by omega
 cur := fun c hc => by omega
theorem binv_seen {t : Tbl} {l : List Nat} {k q : Nat} (h : BInv t l k q) (hm : t.ent2 (l.getD k 0) q ∈ l) : BInv t l k (q + 1) :=
 ⟨h.pos, h.head, h.nodup, h.lt, h.all, h.done, fun c hc => by
  by_cases e : c = q
  ·subst e; exact hm
  ·exact h.cur c (by omega)⟩
theorem binv_new {t : Tbl} (hv : TVal t) {l : List Nat} {k q : Nat} (h : BInv t l k q) (hk : k < l.length) (hq : q < t.cells) (hm : t.ent2 (l.getD k 0) q ∉ l) : BInv t (l ++ [t.ent2 (l.getD k 0) q]) k (q + 1) := by
 have hs := getD_mem l k 0 hk
 have hg : ∀ j, j < l.length → (l ++ [t.ent2 (l.getD k 0) q]).getD j 0 = l.getD j 0 := fun j hj => getD_app_lt _ _ _ _ hj
 refine ⟨by simp, by rw [hg 0 h.pos]; exact h.head, ?_, fun s hs' => ?_, fun s hs' => ?_, fun j hj c hc => ?_, fun c hc => ?_⟩
 ·rw [List.nodup_append]
  exact ⟨h.nodup, by simp, fun a ha b hb => by rw [List.mem_singleton] at hb; subst hb; rintro rfl; exact hm ha⟩
 ·rw [List.mem_append, List.mem_singleton] at hs'
  rcases hs' with hs' | rfl
  ·exact h.lt s hs'
  ·exact hv.tgt _ (h.lt _ hs) q hq
 ·rw [List.mem_append, List.mem_singleton] at hs'
  rcases hs' with hs' | rfl
  ·exact h.all s hs'
  ·obtain ⟨w, hw⟩ := h.all _ hs
   obtain ⟨b, hb, hbq⟩ := hv.onto q hq
   refine ⟨w ++ [UInt8.ofNat b], ?_⟩
   rw [trun_snoc, hw, u8n b hb]
   unfold Tbl.stp
   rw [hbq]
 ·have hjl : j < l.length := by omega
  rw [hg j hjl, List.mem_append]
  exact .inl (h.done j hj c hc)
 ·rw [hg k hk, List.mem_append, List.mem_singleton]
  by_cases e : c = q
  ·subst e; exact .inr rfl
  ·exact .inl (h.cur c (by omega))
theorem binv_next {t : Tbl} {l : List Nat} {k : Nat} (h : BInv t l k t.cells) : BInv t l (k + 1) 0 :=
 ⟨h.pos, h.head, h.nodup, h.lt, h.all, fun j hj c hc => by
  by_cases e : j = k
  ·subst e; exact h.cur c hc
  ·exact h.done j (by omega) c hc, fun c hc => by omega⟩
theorem binv_end {t : Tbl} {l : List Nat} (h : BInv t l l.length 0) : Reached t l where
 head := h.head
 ne := h.pos
 nodup := h.nodup
 lt := h.lt
 closed := fun s hs k hk => by
  obtain ⟨j, hj, rfl⟩ := mem_getD (d := 0) hs
  exact h.done j hj k hk
 all := h.all
theorem BInv.le {t : Tbl} {l : List Nat} {k q : Nat} (h : BInv t l k q) : l.length ≤ t.nxt.length := by
 have := nodup_le l (List.range t.nxt.length) h.nodup fun s hs => List.mem_range.2 (h.lt s hs)
 simpa using this
def seenL (n : Nat) (l : List Nat) : List Bool := (List.range n).map fun s => decide (s ∈ l)
theorem seenL_len (n : Nat) (l : List Nat) : (seenL n l).length = n := by simp [seenL]
theorem seenL_get (n : Nat) (l : List Nat) (s : Nat) (h : s < n) : (seenL n l).getD s false = decide (s ∈ l) := by
 simp [seenL, List.getD_eq_getElem?_getD, h]
theorem seenL_nil (n : Nat) : seenL n [] = List.replicate n false := by
 unfold seenL
 rw [List.eq_replicate_iff]
 exact ⟨by simp, fun x hx => by obtain ⟨b, _, rfl⟩ := List.mem_map.1 hx; simp⟩
theorem seenL_add (n : Nat) (l : List Nat) (s : Nat) : (seenL n l).set s true = seenL n (l ++ [s]) := by
 unfold seenL
 apply List.ext_getElem?
 intro i
 rw [List.getElem?_set]
 by_cases hi : i < n
 ·by_cases e : s = i
  ·subst e; simp [hi]
  ·simp [hi, e, Ne.symm e]
 ·by_cases e : s = i
  ·subst e; simp [hi]
  ·simp [hi, e]
end Go.Proofs.YtaiogolidlamiaaGreatDoor
namespace Go.Proofs.YtaiogolidlamiaaGreatDoor
set_option maxRecDepth 100000
open Go.RowKit Go.Shelf
def RowsAt (W : World) (bn on n m : Nat) (f : Nat → Nat → Nat) : Prop :=
 ∀ s, s < n → ∃ b off cap, W.cell? ⟨bn, on + s, none⟩ = some (.slice (some ⟨b, off, none⟩) m cap) ∧ ∀ k, k < m → W.cell? ⟨b, off + k, none⟩ = some (iv (f s k))
theorem RowsAt.ext {W W' : World} {bn on n m : Nat} {f : Nat → Nat → Nat} (h : RowsAt W bn on n m f) (hE : Ext W W') : RowsAt W' bn on n m f := fun s hs => by
 obtain ⟨b, off, cap, h1, h2⟩ := h s hs
 exact ⟨b, off, cap, hE.cell h1, fun k hk => hE.cell (h2 k hk)⟩
theorem rowsAt_of {W : World} {v : Value} {N : List (List Nat)} (h : Rows W v N) (m : Nat) (h0 : 0 < N.length) (hm : 0 < m) (hr : ∀ s, s < N.length → (N.getD s []).length = m) :
  ∃ bn on cn, v = .slice (some ⟨bn, on, none⟩) N.length cn ∧ RowsAt W bn on N.length m (fun s k => (N.getD s []).getD k 0) := by
 obtain ⟨vs, _, hN, hrows⟩ := h
 obtain ⟨bn, on, cn, rfl, hnc⟩ := Sl.form hN h0
 refine ⟨bn, on, cn, rfl, fun s hs => ?_⟩
 obtain ⟨b, off, cap, hv1, hc1⟩ := Sl.form (hrows s hs) (by rw [hr s hs]; exact hm)
 refine ⟨b, off, cap, ?_, fun k hk => hc1 k (by rw [hr s hs]; omega)⟩
 rw [hnc s (by omega), hv1, hr s hs]
theorem boolsAt_of {W : World} {v : Value} {l : List Bool} (h : Bools W v l) (h0 : 0 < l.length) : ∃ ba oa ca, v = .slice (some ⟨ba, oa, none⟩) l.length ca ∧ ∀ s, s < l.length → W.cell? ⟨ba, oa + s, none⟩ = some (.bool (l.getD s false)) := by
 obtain ⟨b, o, c, rfl, hc⟩ := Sl.form h h0
 exact ⟨b, o, c, rfl, fun s hs => hc s (by omega)⟩
theorem TVal.cpos {t : Tbl} (hv : TVal t) : 0 < t.cells := by have := hv.cell_lt 0 (by omega); omega
theorem TVal.cle {t : Tbl} (hv : TVal t) : t.cells ≤ 256 := onto_le t.cell 256 t.cells hv.onto
theorem IsT.opened {W : World} {A : Array Value} {t : Tbl} (h : IsT W A t) (hv : TVal t) : ∃ bn on cn ba oa ca, A.size = 259 ∧ A.all (·.oneCell') = true ∧ (∀ b, b < 256 → A[b]? = some (iv (t.cell b))) ∧ A[256]? = some (iv t.cells) ∧
  A[257]? = some (.slice (some ⟨bn, on, none⟩) t.nxt.length cn) ∧ A[258]? = some (.slice (some ⟨ba, oa, none⟩) t.nxt.length ca) ∧ RowsAt W bn on t.nxt.length t.cells t.ent2 ∧ ∀ s, s < t.nxt.length → W.cell? ⟨ba, oa + s, none⟩ = some (.bool (t.ok s)) := by
 obtain ⟨vn, va, rfl, hN, hA⟩ := h
 obtain ⟨bn, on, cn, rfl, hr⟩ := rowsAt_of hN t.cells hv.pos hv.cpos hv.row
 obtain ⟨ba, oa, ca, rfl, ha⟩ := boolsAt_of hA (by rw [hv.accL]; exact hv.pos)
 refine ⟨bn, on, cn, ba, oa, ca, tbl_size _ _ _ _, tbl_one _ _ _ _ rfl rfl, fun b hb => tbl_cell _ _ _ _ b hb, tbl_n _ _ _ _, tbl_next _ _ _ _, by rw [tbl_acc, hv.accL], hr, fun s hs => ha s (by rw [hv.accL]; exact hs)⟩
abbrev OwnI (W : World) (base : Nat) (v : Value) (l : List Nat) : Prop := W.ownsRow base 3 1 v l.length (l.map iv)
abbrev OwnB (W : World) (base : Nat) (v : Value) (l : List Bool) : Prop := W.ownsRow base 4 1 v l.length (l.map Value.bool)
theorem own_cell {α : Type} {W : World} {base e g n cap : Nat} {l : List α} {f : α → Value} (d : α) (h : W.ownsRow base e 1 (.slice (some ⟨g, 0, none⟩) n cap) n (l.map f)) (hn : n = l.length) (k : Nat) (hk : k < l.length) :
  W.cell? ⟨g, k, none⟩ = some (f (l.getD k d)) := by
 subst hn
 rw [World.ownsRow.cellAt h k (by omega)]
 simp [List.getD_eq_getElem?_getD, hk]
theorem own_set {α : Type} {W : World} {base e g cap : Nat} {l : List α} {f : α → Value} (h : W.ownsRow base e 1 (.slice (some ⟨g, 0, none⟩) l.length cap) l.length (l.map f)) (k : Nat) (x : α) :
  (W.setCell ⟨g, k, none⟩ (f x)).ownsRow base e 1 (.slice (some ⟨g, 0, none⟩) (l.set k x).length cap) (l.set k x).length ((l.set k x).map f) ∧ W.grownBy (W.setCell ⟨g, k, none⟩ (f x)) (some g) := by
 have := h.stored k (f x)
 rw [List.length_set, List.map_set]
 exact this
theorem own_put {α : Type} {W : World} {base e g n cap : Nat} {l : List α} {f : α → Value} (h : W.ownsRow base e 1 (.slice (some ⟨g, 0, none⟩) n cap) n (l.map f)) (k : Nat) (x : α) :
  (W.setCell ⟨g, k, none⟩ (f x)).ownsRow base e 1 (.slice (some ⟨g, 0, none⟩) n cap) n ((l.set k x).map f) ∧ W.grownBy (W.setCell ⟨g, k, none⟩ (f x)) (some g) := by
 have := h.stored k (f x)
 rw [List.map_set]
 exact this
theorem OwnI.ints {W : World} {base : Nat} {v : Value} {l : List Nat} (h : OwnI W base v l) (hn : l.length ≤ 4611686018427387904) : Ints W v l :=
 (Sl.of_owns h hn (iv 0)).congr fun i hi => by
  simp only [List.getD_eq_getElem?_getD, List.getElem?_map]
  cases l[i]? <;> rfl
theorem OwnB.bools {W : World} {base : Nat} {v : Value} {l : List Bool} (h : OwnB W base v l) (hn : l.length ≤ 4611686018427387904) : Bools W v l :=
 (Sl.of_owns h hn (.bool false)).congr fun i hi => by
  simp only [List.getD_eq_getElem?_getD, List.getElem?_map]
  cases l[i]? <;> rfl
theorem info3 : (Tryz.prog.info? 3).map (fun i => (i.zero, i.size, i.bytes)) = some (some (.int .i64 0), 1, 8) := by kernel_rfl
theorem info4 : (Tryz.prog.info? 4).map (fun i => (i.zero, i.size, i.bytes)) = some (some (.bool false), 1, 1) := by kernel_rfl
theorem made_one {α : Type} (f : α → Value) (x : α) (n : Nat) : (madeCells #[f x] (n * 1)).toList = (List.replicate n x).map f := by
 rw [Nat.mul_one, toList_madeCells_one, List.map_replicate]
end Go.Proofs.YtaiogolidlamiaaGreatDoor
