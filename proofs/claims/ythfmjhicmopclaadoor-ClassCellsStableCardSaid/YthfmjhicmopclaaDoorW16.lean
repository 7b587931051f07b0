/-
  The sort of the cells by their least members.
-/
import Derived.Test.YthfmjhicmopclaaDoorLay
import Derived.Test.YthfmjhicmopclaaDoorW15
import Derived.Test.YthfmjhicmopclaaDoorRW
import Derived.Shelf.SlSortCmp.WholeK
namespace Go.Proofs.YthfmjhicmopclaaDoor
open Go.RowKit Go.Shelf

theorem ltC (x y : Cls) : ltOf cmpC x y = decide (headI (bytesTo x 256) < headI (bytesTo y 256)) := by
  unfold ltOf cmpC
  by_cases h : headI (bytesTo x 256) < headI (bytesTo y 256)
  · simp only [h, decide_true, decide_eq_true_eq]; omega
  · simp only [h, decide_false, decide_eq_false_iff_not]; omega
theorem swoC : Go.Sort.SWO (ltOf cmpC) where
  irrefl x := by rw [ltC]; simp
  trans x y z h1 h2 := by rw [ltC] at *; simp at *; omega
  ntrans x y z h1 h2 := by rw [ltC] at *; simp at *; omega

theorem sortWorldK_grown {α : Type} [Inhabited α] (enc : α → List Value) (k : Nat) (w : World) (blk off m : Nat) (dk : Array α) (os : Array Obj) : w.grownBy (sortWorldK enc k w blk off m dk os) (some blk) := by
  refine ⟨rfl, rfl, rfl, Go.Proofs.size_sortWorldK_c enc k w blk off m dk os, fun i hi hne => ?_⟩
  have hne' : i ≠ blk := fun e => hne (by rw [e])
  unfold sortWorldK Go.Sort.putRowK Go.Sort.putRow Go.Sort.mapBlock
  show ((w.heap.modify blk _) ++ os)[i]? = _
  rw [Array.getElem?_append, if_pos (by simpa using hi), Array.getElem?_modify, if_neg (fun e => hne' e.symm)]

theorem sort_any (l : List Cls) (blk off cap : Nat) (w : World) (hT : Tab w) (hb0 : 0 < blk) (hblk : blk < w.heap.size) (hsz : l.length < 4611686018427387904)
    (hc : ∀ i, i < l.length * 4 → w.cell? ⟨blk, off + i, none⟩ = some (.int .u64 (wd (l.getD (i / 4) 0#256) (i % 4)))) (hf : ∀ i, w.frozen? ⟨blk, i, none⟩ = false) :
    Calls Tryd.prog 37 #[.slice (some ⟨blk, off, none⟩) l.length cap, .func (.func 38) #[] #[]] w fun e w' => e = .returned (.tuple #[]) ∧ w.grownBy w' (some blk) ∧
      ∃ l' : List Cls, l'.length = l.length ∧ l'.Perm l ∧ l'.Pairwise (fun a b => headI (bytesTo a 256) ≤ headI (bytesTo b 256)) ∧ ∀ i, i < l'.length * 4 → w'.cell? ⟨blk, off + i, none⟩ = some (.int .u64 (wd (l'.getD (i / 4) 0#256) (i % 4))) := by
  have hk : ∀ x, (encL x).length = 4 := fun _ => rfl
  have hH : Go.Sort.HoldsK encL 4 w blk off l.toArray := fun j hj => by
    rw [Go.Sort.size_flatK] at hj
    simp only [List.size_toArray] at hj
    refine ⟨?_, hf _⟩
    rw [hc j hj, Go.Sort.get_flatK _ _ _ _ (by simpa using hj), encL_get _ _ (by omega)]
    congr 2
    have : j / 4 < l.length := by omega
    simp [List.getD_eq_getElem?_getD, this]
  have eg : ∀ args w, (callFunc 38 args).run Tryd.prog w = .ok (.enter 38 args) w := enters_of Tryd.func38 (by kernel_rfl) rfl
  have hcmp : CmpLays Tryd.prog 38 #[] encL 4 cmpC blk off l.toArray.size w := fun m os dk _ x y => by
    have hg := sortWorldK_grown encL 4 w blk off m dk os
    have hT' : Tab (sortWorldK encL 4 w blk off m dk os) := fun j hj => by
      rw [World.cell?_of_block (hg.block 0 (by omega) (fun e => by injection e with e; omega))]
      exact hT j hj
    exact (cmp_any x y _ hT' (by have := hg.size; omega)).mono fun e w' ⟨he, hE, hd⟩ => ⟨he, ext_grow hE hd⟩
  have hcon := AnyQ.slices_SortFunc Tryd.l37 4 Tryd.isAgg30 Tryd.sizeOf30 encL hk (fun x v hv => by simp [encL] at hv; rcases hv with rfl | rfl | rfl | rfl <;> rfl) cmpC swoC 38 #[] blk off cap l.toArray w eg hcmp hH hblk (by simpa using hsz)
  change Calls Tryd.prog 37 _ _ _ at hcon
  refine hcon.mono ?_
  rintro e w' ⟨he, d', n, os, hp, hs, rfl⟩
  have hgr := sortWorldK_grown encL 4 w blk off n d' os
  refine ⟨he, hgr, d'.toList, ?_⟩
  obtain ⟨hsize, _, hperm⟩ := hp
  simp only [List.size_toArray] at hsize hperm hs
  have hH' := holdsK_sortWorldK_c encL 4 w blk off l.toArray d' n os hH hblk (by simpa using hsize)
  have hlen : d'.toList.length = l.length := by simpa using hsize
  refine ⟨hlen, ?_, ?_, fun i hi => ?_⟩
  · have e2 : (l.toArray.extract 0 l.length) = l.toArray := by simp
    have e3 : (d'.extract 0 l.length) = d' := by rw [← hsize]; simp
    rw [e2, e3] at hperm
    exact hperm
  · rw [List.pairwise_iff_getElem]
    intro i j hi hj hij
    have := hs i j (Nat.zero_le _) hij (by rw [← hlen]; exact hj)
    rw [ltC, decide_eq_false_iff_not] at this
    have e1 : d'[i]! = d'.toList[i] := by simp at hi; simp [hi]
    have e2 : d'[j]! = d'.toList[j] := by simp at hj; simp [hj]
    rw [e1, e2] at this
    omega
  · have h1 : i / 4 < d'.size := by simp at hi; omega
    have := (hH'.cell (i := i / 4) (c := i % 4) h1 (by omega)).1
    rw [show off + i / 4 * 4 + i % 4 = off + i by omega, encL_get _ _ (by omega)] at this
    rw [this]
    congr 3
    simp [List.getD_eq_getElem?_getD, h1]

end Go.Proofs.YthfmjhicmopclaaDoor
