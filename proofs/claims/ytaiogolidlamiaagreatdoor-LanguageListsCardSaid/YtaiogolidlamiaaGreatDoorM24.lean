import Derived.Test.YtaiogolidlamiaaGreatDoorM02
set_option linter.unusedVariables false
set_option linter.unusedSimpArgs false
namespace Go.Proofs.YtaiogolidlamiaaGreatDoor
set_option maxRecDepth 100000
open Go Go.RowKit
structure Prg (w1 wF x y:World):Prop where
 os:y.os=x.os
 tape:y.tape=x.tape
 output:y.output=x.output
 size:x.heap.size≤y.heap.size
 old:∀ k,k<w1.heap.size→y.heap[k]? = x.heap[k]?∨y.heap[k]? = wF.heap[k]?
 new:∀ k,w1.heap.size≤k→k<x.heap.size→y.heap[k]? = x.heap[k]?
theorem Prg.refl (w1 wF x:World):Prg w1 wF x x:=⟨rfl,rfl,rfl,Nat.le_refl _,fun _ _=>.inl rfl,fun _ _ _=>rfl⟩
theorem Prg.trans (w1 wF x y z:World) (h:Prg w1 wF x y) (k:Prg w1 wF y z):Prg w1 wF x z where
 os:=k.os.trans h.os
 tape:=k.tape.trans h.tape
 output:=k.output.trans h.output
 size:=Nat.le_trans h.size k.size
 old:=fun j hj=>by
  rcases k.old j hj with h1|h1
  ·rw [h1];exact h.old j hj
  ·exact .inr h1
 new:=fun j h1 h2=>by rw [k.new j h1 (Nat.lt_of_lt_of_le h2 h.size),h.new j h1 h2]
theorem Prg.of_ext {w1 wF x y:World} (h:Ext x y) (hs:w1.heap.size≤x.heap.size):Prg w1 wF x y:=
 ⟨h.below.os,h.below.tape,h.below.output,h.size,fun k hk=>.inl (h.block (by omega)),fun k _ hk=>h.block hk⟩
theorem Prg.keep {w1 wF W:World} (h:Prg w1 wF w1 W) {k:Nat} {o:Obj} (hk:w1.heap[k]? = some o) (hF:wF.heap[k]? = some o):W.heap[k]? = some o:=by
 have hlt:k<w1.heap.size:=(Array.getElem?_eq_some_iff.1 hk).1;rcases h.old k hlt with h1|h1
 ·rw [h1,hk]
 ·rw [h1,hF]
theorem Prg.cell {w1 wF W:World} (h:Prg w1 wF w1 W) {p:Addr} {v:Value} (hk:w1.cell? p=some v) (hl:p.block<w1.heap.size) (hF:wF.heap[p.block]? = w1.heap[p.block]?):W.cell? p=some v:=by
 have hb:W.heap[p.block]? = w1.heap[p.block]? := by
  rcases h.old p.block hl with h1|h1
  ·exact h1
  ·rw [h1,hF]
 rw [World.cell?_of_block hb];exact hk
theorem Prg.turned {w1 wF x y:World} (h:Prg w1 wF x y) {k:Nat} (hk:k<w1.heap.size) (hx:x.heap[k]? = wF.heap[k]?):y.heap[k]? = wF.heap[k]? := by
 rcases h.old k hk with h1|h1
 ·rw [h1,hx]
 ·exact h1
theorem Prg.done {w1 wF W:World} (h:Prg w1 wF w1 W) (hs:wF.heap.size=w1.heap.size) (ho:wF.os=w1.os) (ht:wF.tape=w1.tape) (hu:wF.output=w1.output) (hall:∀ k,k<w1.heap.size→wF.heap[k]? = w1.heap[k]?∨W.heap[k]? = wF.heap[k]?):Ext wF W:=by
 refine ⟨⟨by rw [h.os,ho],by rw [h.tape,ht],by rw [h.output,hu],by rw [hs];exact h.size,fun k hk=>?_⟩⟩;rw [hs] at hk;rcases hall k hk with h1|h1
 ·rcases h.old k hk with h2|h2
  ·rw [h2,h1]
  ·exact h2
 ·exact h1
theorem Prg.store {w1 wF W:World} (h:Prg w1 wF w1 W) {g o:Nat} {C:Array Value} {e:TypeId} {v:Value} (h1:w1.heap[g]? = some (.cells C e (0,0))) (hF:wF.heap[g]? = some (.cells (C.setIfInBounds o v) e (0,0))) (ho:o<C.size) :
  (∃ u,W.cell? ⟨g,o,none⟩=some u)∧W.frozen? ⟨g,o,none⟩=false∧Prg w1 wF W (W.setCell ⟨g,o,none⟩ v)∧(W.setCell ⟨g,o,none⟩ v).heap[g]? = wF.heap[g]? := by
 have hlt:g<w1.heap.size:=(Array.getElem?_eq_some_iff.1 h1).1;obtain ⟨D,hD,hDs,hDo⟩:∃ D,W.heap[g]? = some (.cells D e (0,0))∧D.size=C.size∧D.setIfInBounds o v=C.setIfInBounds o v:=by
  rcases h.old g hlt with h2|h2
  ·exact ⟨C,by rw [h2,h1],rfl,rfl⟩
  ·exact ⟨C.setIfInBounds o v,by rw [h2,hF],by simp,by simp⟩
 have hse:=setCell_eq_setRow W g o D e (0,0) v hD;rw [hDo] at hse;have hh:(W.setCell ⟨g,o,none⟩ v).heap[g]? = wF.heap[g]? := by
  rw [hse,hF];exact setRow_heap W g _ _ _ _ hD
 refine ⟨⟨D[o]'(by omega),?_⟩,frozen_of_row W g o D e hD,?_,hh⟩
 ·rw [cell_of_row W g o D e _ hD];exact Array.getElem?_eq_getElem (by omega)
 ·rw [hse] at hh ⊢;refine ⟨rfl,rfl,rfl,by rw [size_setRow];exact Nat.le_refl _,fun k _=>?_,fun k hk _=>?_⟩
  ·by_cases e':k=g
   ·subst e';exact .inr hh
   ·exact .inl (setRow_other W g k _ e')
  ·exact setRow_other W g k _ (by omega)
theorem Jq (W:World) (g o:Nat) (v:Value) {C:Array Value} {e:TypeId} (h:W.heap[g]? = some (.cells C e (0,0))) :
  (W.setCell ⟨g,o,none⟩ v).heap.size=W.heap.size∧(W.setCell ⟨g,o,none⟩ v).os=W.os∧(W.setCell ⟨g,o,none⟩ v).tape=W.tape∧(W.setCell ⟨g,o,none⟩ v).output=W.output∧
  (W.setCell ⟨g,o,none⟩ v).heap[g]? = some (.cells (C.setIfInBounds o v) e (0,0))∧∀ k,k≠g→(W.setCell ⟨g,o,none⟩ v).heap[k]? = W.heap[k]? := by
 rw [setCell_eq_setRow W g o C e (0,0) v h];exact ⟨size_setRow _ _ _,rfl,rfl,rfl,setRow_heap W g _ _ _ _ h,fun k hk=>setRow_other W g k _ hk⟩
theorem Fc {W:World} {base e g n cap:Nat} {xs:List Value} (h:W.ownsRow base e 1 (.slice (some ⟨g,0,none⟩) n cap) n xs):∃ C,W.heap[g]? = some (.cells C e (0,0))∧n≤C.size:=by
 obtain ⟨_,⟨h1,_⟩|⟨g',cap',cur,hv,_,hg,hn,_,hs,_⟩⟩:=h
 ·cases h1
 ·injection hv with h1 h2 h3
  injection h1 with h1
  injection h1 with h1
  subst h1;subst h3;exact ⟨cur,hg,by omega⟩
theorem El {W:World} {base e size:Nat} {v:Value} {n:Nat} {xs:List Value} (h:W.ownsRow base e size v n xs) {g:Nat} {cs:Array Value} {t:TypeId} {fr:Nat × Nat} (hg:W.heap[g]? = some (.cells cs t fr)) (ht:t≠e):v.ownBlock=none∨v.ownBlock≠some g:=by
 obtain ⟨_,⟨rfl,_⟩|⟨g',cap',cur,rfl,_,hg',_⟩⟩:=h
 ·exact .inl rfl
 ·refine .inr fun e'=>?_
  have:g'=g:=Option.some.inj e';subst this;rw [hg'] at hg;injection hg with hg
  injection hg with _ h2 _
  exact ht h2.symm
def Bo (f:Nat→Nat) (m k:Nat):List Nat:=(List.range m).map fun q=>if q<k then f q else 0
theorem C1 (f:Nat→Nat) (m k:Nat):(Bo f m k).length=m:=by simp [Bo]
theorem Iz (f:Nat→Nat) (m:Nat):Bo f m 0=List.replicate m 0:=by
 apply List.ext_getElem?;intro i;simp only [Bo,List.getElem?_map,List.getElem?_replicate,Nat.not_lt_zero,if_false];by_cases h:i<m
 ·simp [h]
 ·simp [h]
theorem Ku (f:Nat→Nat) (m:Nat):Bo f m m=(List.range m).map f:=by
 unfold Bo;exact List.map_congr_left fun q hq=>if_pos (List.mem_range.1 hq)
theorem F7 (f:Nat→Nat) (m k:Nat) (hk:k<m):(Bo f m k).set k (f k)=Bo f m (k+1):=by
 apply List.ext_getElem?;intro i;rw [List.getElem?_set,C1];simp only [Bo,List.getElem?_map];by_cases e:k=i
 ·subst e;simp [hk]
 ·by_cases hi:i<m
  ·simp only [List.getElem?_range hi,Option.map_some,e,if_false];by_cases hik:i<k
   ·simp [hik,Nat.lt_succ_of_lt hik]
   ·have:¬ i<k+1:=by omega
    simp [hik,this]
  ·simp [e,hi]
end Go.Proofs.YtaiogolidlamiaaGreatDoor
