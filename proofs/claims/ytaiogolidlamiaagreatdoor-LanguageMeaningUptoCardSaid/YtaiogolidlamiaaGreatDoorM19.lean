import Derived.Test.YtaiogolidlamiaaGreatDoorM16
import Derived.Laws.EntriesVeiled
import Derived.Test.YtaiogolidlamiaaGreatDoorM18
import Derived.Test.YtaiogolidlamiaaGreatDoorM12
set_option linter.unusedVariables false
set_option linter.unusedSimpArgs false
namespace Go.Proofs.YtaiogolidlamiaaGreatDoor
set_option maxRecDepth 100000
open Go
section
variable {P:Program} {ops:Array Oper} {Q:Exit→Act→World→Prop} {n:Nat}
def I6 (ops:Array Oper) (n p:Nat):Bool:=
 (List.range n).all (fun k=>decide (k=p)||Region.waitsFor .any ops n k)&&(List.range ops.size).all (fun t=>decide (t≤n)||Region.waitsFor .any ops t (t-1))&&
 (match ops[p]? with|none=>false|some op=>op.after.all fun e=>!Region.binds .any e||decide (e.on<p))&&
 (List.range ops.size).all fun j=>decide (j=p)||Region.waitsFor .any ops j p||Region.waitsFor .any ops p j||match ops[p]?,ops[j]? with|some op,some oj=>op.apart ops oj|_,_=>false
theorem J9 {i j:Nat} {listed:Array Bool} (h:Region.waitsFor .any ops i j=true) (hr:i∈Region.ready .any ops listed):listed.getD j false=true:=by
 obtain ⟨oi,hoi,e,he,hb,hon⟩:=Region.waitsFor_spec h;obtain ⟨_,o,ho,hall⟩:=mem_ready.1 hr;have:oi=o:=Option.some.inj (hoi.symm.trans ho);subst this;rw [← hon];exact hall e he hb
theorem O1 {F:Nat→Value→World→Prop} {Ne:Nat→Nat→Value→Value→Prop} (hNe:∀ i j v u,Ne i j v u→Ne j i u v) (hF:∀ i v w w',F i v w→Ext w w'→F i v w') {a0:Act} {w1:World} {sz g p:Nat} (hp:p<n) (hsz:a0.tmps.size=sz) (hd:E2 ops n sz=true) (hL:I6 ops n p=true) (hsel:Region.noSelect ops=true) (hn:n<ops.size) (hE:En ops n=true)
  (hQ:∀ c a tm w,Q (.panic c) { tmps:=tm,defers:=a.defers } w→Q (.panic c) a w)
  (hyv:∀ o (listed:Array Bool) a w,ops[p]? = some o→p∈Region.ready .any ops listed→FInvR ops n F Ne a0 w1 listed a w→∃ v,∀ W,(execOp a.eval o).run P W=.ok (.value v) W)
  (hop:∀ i,i<n→FOp P ops Q n F Ne a0 w1 i) (htail:∀ listed a w,HeadInv .any ops n listed→(∀ i,i<n→listed.getD i false=true)→FInvR ops n F Ne a0 w1 listed a w→wpAny P .any ops Q g listed a w) :
  ∀ (f:Nat) (listed:Array Bool) (a:Act) (w:World),HeadInv .any ops n listed→FInvR ops n F Ne a0 w1 listed a w→unl n listed=f→wpAny P .any ops Q (f+g) listed a w
 | 0,listed,a,w,inv,hI,hu=>by
  rw [Nat.zero_add];exact htail listed a w inv (G5 n listed hu) hI
 | f+1,listed,a,w,inv,hI,hu=>by
  obtain ⟨k,hk,hku,hkl⟩:=I5 n listed (by omega);have hkr:=Lf hE inv.size (by omega) k hk hkl hku;rw [show f+1+g=(f+g)+1 by omega];have key:∀ i,i∈Region.ready .any ops listed→i<n→unl n (listed.setIfInBounds i true)=f:=fun i hi hin=>by
   have hiu:=(mem_ready.1 hi).1;have hil:i<listed.size:=by rw [inv.size];omega
   have hiu':listed.getD i false=false:=by
    rw [Array.getD_eq_getD_getElem?,Array.getElem?_eq_getElem hil] at hiu ⊢;exact hiu
   have:=Im n listed i hin hil hiu';omega
  simp only [I6,Bool.and_eq_true,List.all_eq_true,List.mem_range] at hL;obtain ⟨⟨⟨l1,l2⟩,l3⟩,l4⟩:=hL;have hL':I6 ops n p=true:=by
   simp only [I6,Bool.and_eq_true,List.all_eq_true,List.mem_range];exact ⟨⟨⟨l1,l2⟩,l3⟩,l4⟩
  by_cases hpr:p∈Region.ready .any ops listed
  ·obtain ⟨hun,o,ho,hall⟩:=mem_ready.1 hpr;obtain ⟨o',d,ho',hdst,_,_⟩:=Hw hd p hp;rw [ho] at ho';injection ho' with ho'
   subst ho';obtain ⟨v,hv⟩:=hyv o listed a w ho hpr hI;obtain ⟨o2,ho2,hw,hst⟩:=U2 hNe hF hsz hd hI hpr hp (hop p hp);have e2:o2=o:=Option.some.inj (ho2.symm.trans ho);subst e2;have hst':FInvR ops n F Ne a0 w1 (listed.setIfInBounds p true) (a.put o2.dst v) w:=by
    unfold Oper.wp at hst;rw [hv w] at hst;exact hst
   refine wpAny_first ho (Region.noSelect_spec hsel) (v:=v) (fun c a w hq=>?_) (f+g) listed a w (fun j oj hj hjp hun' hno=>?_) hpr (.inl ⟨hw,hv⟩) (O1 hNe hF hp hsz hd hL' hsel hn hE hQ hyv hop htail f _ _ w (inv.set hpr hp) hst' (key p hpr hp))
   ·rw [hdst] at hq;exact hQ c a _ w hq
   ·have h4:=l4 j (Array.getElem?_eq_some_iff.1 hj).1;rw [ho,hj] at h4;simp only [Bool.or_eq_true,decide_eq_true_eq] at h4;rcases h4 with ((h4|h4)|h4)|h4
    ·exact absurd h4 hjp
    ·obtain ⟨oj',hoj',e,he,hb,hon⟩:=Region.waitsFor_spec h4;rw [hj] at hoj';injection hoj' with hoj'
     subst hoj';exact absurd hon (hno e he hb)
    ·have:=J9 h4 hpr;have h5:=getD_both hun';rw [this] at h5;cases h5
    ·exact h4
  ·refine ⟨fun h0=>(by rw [h0] at hkr;cases hkr),fun i hi=>?_⟩;have hin:i<n:=Nat.lt_of_not_le fun h=>by
    by_cases hin':i=n
    ·subst hin';have hall:∀ k,k<i→k≠p→listed.getD k false=true:=fun k hk hkp=>by
      have:=l1 k hk;simp only [Bool.or_eq_true,decide_eq_true_eq] at this;rcases this with h|h
      ·exact absurd h hkp
      ·exact J9 h hi
     have hkp:k=p:=by
      apply Classical.byContradiction;intro h';rw [hall k hk h'] at hku;cases hku
     subst hkp;exact hpr hkr
    ·have h2:=l2 i (by
      obtain ⟨_,o,ho,_⟩:=mem_ready.1 hi;exact (Array.getElem?_eq_some_iff.1 ho).1)
     simp only [Bool.or_eq_true,decide_eq_true_eq] at h2;rcases h2 with h2|h2
     ·omega
     ·have h3:=J9 h2 hi;have h5:=inv.tail (i-1) (by omega) (by
       obtain ⟨_,o,ho,_⟩:=mem_ready.1 hi;have:=(Array.getElem?_eq_some_iff.1 ho).1;omega)
      rw [getD_both h5] at h3;cases h3
   exact wpOp_mono (fun a' w' h=>O1 hNe hF hp hsz hd hL' hsel hn hE hQ hyv hop htail f _ a' w' (inv.set hi hin) h (key i hi hin)) (U3 hNe hF hsz hd hI hi hin (hop i hin))
def T5 (ops:Array Oper) (n sz p:Nat):Bool:=
 E2 ops n sz&&I6 ops n p&&Region.noSelect ops&&decide (p<n)&&decide (n<ops.size)&&En ops n&&Region.seqB .any ops (ops.size-n) n (E4 ops.size n)
theorem Qo {id:Nat} {l:List Oper} {a0:Act} {w:World} (n sz p:Nat) (hm:P.follows .mixedOrders=true) (hB:T5 l.toArray n sz p=true) (hsz:a0.tmps.size=sz) (hQ:∀ c a tm w,Q (.panic c) { tmps:=tm,defers:=a.defers } w→Q (.panic c) a w)
  (F:Nat→Value→World→Prop) (Ne:Nat→Nat→Value→Value→Prop) (hNe:∀ i j v u,Ne i j v u→Ne j i u v) (hF:∀ i v w w',F i v w→Ext w w'→F i v w')
  (op:Oper) (hpo:l[p]? = some op) (hyv:∀ (a:Act) (w:World),(∀ j dj,Lu l.toArray n p j dj=true→F j (a.tmps.getD dj undef) w)→∃ v,∀ W,(execOp a.eval op).run P W=.ok (.value v) W)
  (hop:∀ i,i<n→FOp P l.toArray Q n F Ne a0 w.drew i) (htail:∀ (vs:Nat→Value) (w':World),Ext w.drew w'→(∀ i,i<n→F i (vs i) w')→(∀ i j,i<n→j<n→i≠j→Ne i j (vs i) (vs j))→wpList P l.toArray Q (l.drop n) (Ba l.toArray vs n a0) w'):(Code.region id l.toArray true).wp P Q a0 w:=by
 simp only [T5,Bool.and_eq_true,decide_eq_true_eq] at hB;obtain ⟨⟨⟨⟨⟨⟨hd,hL⟩,hsel⟩,hp⟩,hn⟩,hE⟩,hseq⟩:=hB;refine wp_region_any hm ?_;have inv0:HeadInv .any l.toArray n (Array.replicate l.toArray.size false):=
  ⟨by simp,fun j oj _ hl=>(by rw [getD_replicate_false] at hl;cases hl),fun t _ ht=>getD_in (by simpa using ht) (getD_replicate_false _ _)⟩
 have hI0:FInvR l.toArray n F Ne a0 w.drew (Array.replicate l.toArray.size false) a0 w.drew:=
  ⟨Ext.refl _,rfl,rfl,fun i o d _ _ _ hl=>(by rw [getD_replicate_false] at hl;cases hl),fun d _=>rfl,fun i j _ _ _ _ _ _ _ _ _ _ _ hl=>(by rw [getD_replicate_false] at hl;cases hl)⟩
 have hu:∀ m,unl m (Array.replicate l.toArray.size false)=m:=fun m=>by
  induction m with
  | zero=>rfl
  | succ m ih=>rw [Es,ih,getD_replicate_false];simp
 have H:=O1 (P:=P) (Q:=Q) (g:=(l.drop n).length) hNe hF hp hsz hd hL hsel hn hE hQ (fun o listed a w ho hpr hI=>by
  obtain ⟨_,o',ho',hall⟩:=mem_ready.1 hpr;have e1:o'=o:=Option.some.inj (ho'.symm.trans ho);subst e1;have e2:op=o':=by
   have:l.toArray[p]? = some op:=by rw [← hpo];simp
   exact Option.some.inj (this.symm.trans ho)
  subst e2;refine hyv a w fun j dj h=>?_
  unfold Lu at h;simp only [Bool.and_eq_true,decide_eq_true_eq] at h;obtain ⟨⟨hj,h1⟩,h2⟩:=h;cases hoj:l.toArray[j]? with
  | none=>rw [hoj] at h1;cases h1
  | some oj=>
   rw [hoj] at h1;exact hI.done j oj dj hj hoj (of_decide_eq_true h1) (J9 h2 hpr)) hop (fun listed a w' inv hall hI=>by
  obtain ⟨vs,rfl,hv,hne⟩:=U6 hsz hd hI hall;have hL:listed=E4 l.toArray.size n:=by
   apply Array.ext
   ·rw [inv.size];simp [E4]
   ·intro i h1 h2;have h3:(E4 l.toArray.size n)[i]=decide (i<n):=by simp [E4]
    rw [h3];by_cases hi:i<n
    ·have:=hall i hi;rw [Array.getD_eq_getD_getElem?,Array.getElem?_eq_getElem h1] at this;simp only [Option.getD_some] at this;rw [this];simp [hi]
    ·have:=inv.tail i (by omega) (by rw [← inv.size];exact h1);rw [Array.getD_eq_getD_getElem?,Array.getElem?_eq_getElem h1] at this;simp only [Option.getD_some] at this;rw [this];simp [hi]
  have hdl:l.toArray.size-n=(l.drop n).length:=by simp
  rw [hdl] at hseq;exact wpAny_of_seq (l.drop n) n listed _ w' (fun j=>by simp [List.getElem?_drop]) (by rw [hL];exact hseq) (htail vs w' hI.ext hv hne)) n _ a0 w.drew inv0 hI0 (hu n)
 have e:n+(l.drop n).length=l.toArray.size:=by
  have:n<l.length:=by simpa using hn
  simp;omega
 rw [e] at H;exact H
end
open Go.RowKit Go.Shelf
def CanT (a:Dfa) (A:Array Value) (W:World):Prop:=∃ d,Cano d∧(∀ u,d.has u=a.has u)∧∀ W',Near W W'→IsT W' A (Ae d)
def PtrF (n0:Nat) (v:Value) (W:World):Prop:=∃ g,v=.pointer (some ⟨g,0,none⟩)∧W.heap[g]? = some (.cells Tryz.zeroCells108 108 (0,0))∧n0≤g
def P0 (w0:World) (n0:Nat) (va vb:Array Value) (a b:Dfa):Nat→Value→World→Prop
 | 0,v,_=>v=.agg va
 | 1,v,_=>∃ A,v=.agg A∧IsT w0 A (Ae a)
 | 2,v,W=>∃ d,Cano d∧(∀ u,d.has u=a.has u)∧∀ W',Near W W'→IsD W' v d
 | 3,v,W=>∃ A,v=.agg A∧CanT a A W
 | 4,v,_=>v=.agg vb
 | 5,v,_=>∃ A,v=.agg A∧IsT w0 A (Ae b)
 | 6,v,W=>∃ d,Cano d∧(∀ u,d.has u=b.has u)∧∀ W',Near W W'→IsD W' v d
 | 7,v,W=>∃ A,v=.agg A∧CanT b A W
 | _,v,W=>PtrF n0 v W
def Pz (i j:Nat) (v u:Value):Prop:=(i=8∧j=9∨i=9∧j=8)→v≠u
theorem Ah8 (i j:Nat) (v u:Value) (h:Pz i j v u):Pz j i u v:=fun hij=>(h (by omega)).symm
theorem CanT.ext {a:Dfa} {A:Array Value} {W W':World} (h:CanT a A W) (hE:Ext W W'):CanT a A W':=by
 obtain ⟨d,h1,h2,h3⟩:=h;exact ⟨d,h1,h2,fun W2 hN=>h3 W2 (hN.pre hE)⟩
theorem PtrF.ext {n0:Nat} {v:Value} {W W':World} (h:PtrF n0 v W) (hE:Ext W W'):PtrF n0 v W':=by
 obtain ⟨g,h1,h2,h3⟩:=h;exact ⟨g,h1,hE.heap h2,h3⟩
theorem Ah9 (w0:World) (n0:Nat) (va vb:Array Value) (a b:Dfa):∀ (i:Nat) (v:Value) (w w':World),P0 w0 n0 va vb a b i v w→Ext w w'→P0 w0 n0 va vb a b i v w'
 | 0,_,_,_,h,_=>h
 | 1,_,_,_,h,_=>h
 | 2,_,_,_,⟨d,h1,h2,h3⟩,hE=>⟨d,h1,h2,fun W2 hN=>h3 W2 (hN.pre hE)⟩
 | 3,_,_,_,⟨A,h1,h2⟩,hE=>⟨A,h1,h2.ext hE⟩
 | 4,_,_,_,h,_=>h
 | 5,_,_,_,h,_=>h
 | 6,_,_,_,⟨d,h1,h2,h3⟩,hE=>⟨d,h1,h2,fun W2 hN=>h3 W2 (hN.pre hE)⟩
 | 7,_,_,_,⟨A,h1,h2⟩,hE=>⟨A,h1,h2.ext hE⟩
 | _+8,_,_,_,h,hE=>PtrF.ext h hE
def TabF (bo:Bool) (L:List UInt8→Prop) (A:Array Value) (W:World):Prop:=A.size=259∧A.all (·.oneCell')=true∧
 (bo=true→∃ t,TVal t∧t.nxt.length≤4096∧(∀ u,t.has u=true↔L u)∧∀ W',Near W W'→IsT W' A t)
theorem TabF.ext {bo:Bool} {L:List UInt8→Prop} {A:Array Value} {W W':World} (h:TabF bo L A W) (hE:Ext W W'):TabF bo L A W':=by
 obtain ⟨h1,h2,h3⟩:=h;refine ⟨h1,h2,fun hb=>?_⟩;obtain ⟨t,t1,t2,t3,t4⟩:=h3 hb;exact ⟨t,t1,t2,t3,fun W2 hN=>t4 W2 (hN.pre hE)⟩
def Pn (n0:Nat) (va:Array Value) (vj f1:Value) (vs:Value) (f2 f3:Value) (bo:Bool) (L:List UInt8→Prop):Nat→Value→World→Prop
 | 0,v,_=>v=.agg va
 | 1,v,_=>v=vj
 | 2,v,_=>v=f1
 | 3,v,_=>v=.agg #[.int .i64 0,.int .i64 0,.int .u64 0]
 | 4,v,_=>v=vs
 | 5,v,_=>v=f2
 | 6,v,_=>v=f3
 | 7,v,W=>∃ A,v=.tuple #[.agg A,.bool bo]∧TabF bo L A W
 | 8,v,W=>∃ A,v=.tuple #[.agg A,.bool bo]∧TabF bo L A W
 | 9,v,W=>∃ A,v=.agg A∧TabF bo L A W
 | 10,v,_=>v=.bool bo
 | _,v,W=>PtrF n0 v W
def Pm (_ _:Nat) (_ _:Value):Prop:=True
theorem Ag9 (i j:Nat) (v u:Value) (_:Pm i j v u):Pm j i u v:=trivial
theorem Aha (n0:Nat) (va:Array Value) (vj f1:Value) (vs:Value) (f2 f3:Value) (bo:Bool) (L:List UInt8→Prop):∀ (i:Nat) (v:Value) (w w':World),Pn n0 va vj f1 vs f2 f3 bo L i v w→Ext w w'→Pn n0 va vj f1 vs f2 f3 bo L i v w'
 | 0,_,_,_,h,_=>h
 | 1,_,_,_,h,_=>h
 | 2,_,_,_,h,_=>h
 | 3,_,_,_,h,_=>h
 | 4,_,_,_,h,_=>h
 | 5,_,_,_,h,_=>h
 | 6,_,_,_,h,_=>h
 | 7,_,_,_,⟨A,h1,h2⟩,hE=>⟨A,h1,h2.ext hE⟩
 | 8,_,_,_,⟨A,h1,h2⟩,hE=>⟨A,h1,h2.ext hE⟩
 | 9,_,_,_,⟨A,h1,h2⟩,hE=>⟨A,h1,h2.ext hE⟩
 | 10,_,_,_,h,_=>h
 | _+11,_,_,_,h,hE=>PtrF.ext h hE
theorem Aip:Tryz.prog.built 116 []=some #[.int .i64 0,.int .i64 0,.int .u64 0]:=by kernel_rfl
set_option maxHeartbeats 2000000 in
theorem Pr (a b:Dfa) (ha:Val a) (hb:Val b) (hna:a.nxt.length≤64) (hnb:b.nxt.length≤64) (va vb:Value) (w:World) (hT:Tab w) (hsz:0<w.heap.size) (hva:IsD w va a) (hvb:IsD w vb b) :
  Calls Tryz.prog 31 #[va,vb] w fun e w'=>∃ r,ResOf w' e r∧Dg a b r∧Ext w w':=by
 have HDa:=Lib.hid hva;have HDb:=Lib.hid hvb;have HVa:=Lib.hid ha;have HVb:=Lib.hid hb;obtain ⟨ac,lc,cc,an,cn,aa,la,ca,rfl⟩:=hva.agg;obtain ⟨ac',lc',cc',an',cn',aa',la',ca',rfl⟩:=hvb.agg;have f47a:=fun W (hW:Ext w W)=>Lib.hid (Dr a ha hna _ W (HDa.out.ext hW))
 have f47b:=fun W (hW:Ext w W)=>Lib.hid (Dr b hb hnb _ W (HDb.out.ext hW))
 have f68a:=fun W (hW:Ext w W)=>Lib.hid (Ir a ha _ w W hW (hT.below hW.below hsz) (Nat.lt_of_lt_of_le hsz hW.size) HDa.out)
 have f68b:=fun W (hW:Ext w W)=>Lib.hid (Ir b hb _ w W hW (hT.below hW.below hsz) (Nat.lt_of_lt_of_le hsz hW.size) HDb.out)
 have HTa:=Lib.hid (fun W (hW:Ext w W)=>hT.below hW.below hsz);obtain ⟨Va,hVa⟩:∃ X,dA (.slice ac lc cc) (.slice an a.nxt.length cn) (.slice aa la ca)=X:=⟨_,rfl⟩;obtain ⟨Vb,hVb⟩:∃ X,dA (.slice ac' lc' cc') (.slice an' b.nxt.length cn') (.slice aa' la' ca')=X:=⟨_,rfl⟩;have hiVa:(Tryz.prog.info? 30).map (·.size)=some Va.size:=by rw [← hVa];exact Ad
 have hiVb:(Tryz.prog.info? 30).map (·.size)=some Vb.size:=by rw [← hVb];exact Ad
 rw [hVa] at f47a f68a HDa;rw [hVb] at f47b f68b HDb;rw [hVa,hVb];have hE0:=(((Ext.refl w).alloc (.cells Va 30)).alloc (.cells Vb 30)).alloc (.cells #[.slice none 0 0,.slice none 0 0,.slice none 0 0] 30);have H3:=Af (Af (Ab w (.cells Va 30)) (.cells Vb 30)) (.cells #[.slice none 0 0,.slice none 0 0,.slice none 0 0] 30);have H4:=Af (heap_alloc2_new w (.cells Va 30) (.cells Vb 30)) (.cells #[.slice none 0 0,.slice none 0 0,.slice none 0 0] 30);have H6:=Ab ((w.alloc (.cells Va 30)).alloc (.cells Vb 30)) (.cells #[.slice none 0 0,.slice none 0 0,.slice none 0 0] 30);rw [World.size_alloc,World.size_alloc] at H6;clear hva hvb ha hb hT hVa hVb;go_enter Tryz.func31,Tryz.ntmps31;go_upto_region 1 with (fail)
 obtain ⟨w1,hw1⟩:∃ W,((w.alloc (.cells Va 30)).alloc (.cells Vb 30)).alloc (.cells #[.slice none 0 0,.slice none 0 0,.slice none 0 0] 30)=W:=⟨_,rfl⟩;have hs1:w.heap.size+1+1<w1.heap.size:=by rw [← hw1,World.size_alloc,World.size_alloc,World.size_alloc];omega
 rw [hw1] at hE0 H3 H4 H6;simp only [hw1];clear hw1;have HB3:=Lib.hid H3;have HB4:=Lib.hid H4;have HB6:=Lib.hid H6;clear H3 H4 H6;go_upto_region 3 with (first
  | (refine wpList_load_row rfl 30 (.tmp 2) rfl _ rfl _ _ _ _ HB3.out Tryz.underlying30 rfl hiVa ?_)
  | (refine Dq rfl (wp_load_row 30 (.tmp 3) rfl _ rfl _ _ _ _ HB4.out Tryz.underlying30 rfl hiVb ?_))
  | (go_at_call 47;(with_reducible refine (f47a _ hE0).out.mono ?_);rintro e w2 ⟨rfl,hE2⟩;have hE3:=hE0.trans hE2;have HB4:=Lib.hid (hE2.heap HB4.out))
  | (go_at_call 47;(with_reducible refine (f47b _ hE3).out.mono ?_);rintro e w3 ⟨rfl,hE4⟩;have hE5:=hE3.trans hE4))
 have HB3:=Lib.hid ((hE2.trans hE4).heap HB3.out);have HB4:=Lib.hid (hE4.heap HB4.out);have HB6:=Lib.hid ((hE2.trans hE4).heap HB6.out);have hs5:w.heap.size+1+1<w3.heap.size:=Nat.lt_of_lt_of_le hs1 (hE2.trans hE4).size;clear f47a f47b hE0 hE2 hE3 hE4 hs1;refine J7 10 57 (by kernel_rfl) (by kernel_rfl) rfl (P0 w w3.heap.size Va Vb a b) Pz Ah8 (Ah9 w w3.heap.size Va Vb a b) (fun i hi=>?_) (fun vs w4 hE6 hF hN=>?_)
 ·have hd1:=(Ext.refl w3).drew
  match i,hi with
  | 0,_=>
   refine Ar _ _ rfl rfl rfl fun c W hW hdep hkeep=>?_
   have h3:=hkeep 2 (by kernel_rfl);refine Cy (Ec 30 (.tmp 2) rfl w.heap.size h3 _ _ _ _ ((hd1.trans hW).heap HB3.out) Tryz.underlying30 rfl hiVa) ?_;exact ⟨_,rfl,Ext.refl W,rfl,fun j u _ _ _ h=>by omega⟩
  | 4,_=>
   refine Ar _ _ rfl rfl rfl fun c W hW hdep hkeep=>?_
   have h3:=hkeep 3 (by kernel_rfl);refine Cy (Ec 30 (.tmp 3) rfl (w.heap.size+1) h3 _ _ _ _ ((hd1.trans hW).heap HB4.out) Tryz.underlying30 rfl hiVb) ?_;exact ⟨_,rfl,Ext.refl W,rfl,fun j u _ _ _ h=>by omega⟩
  | 1,_=>
   refine Ar _ _ rfl rfl rfl fun c W hW hdep hkeep=>?_
   have h14:c.tmps.getD 23 undef=.agg Va:=hdep 0 23 (by kernel_rfl);go_simp
   (with_reducible refine (f68a W (hE5.trans (hd1.trans hW))).out.mono ?_)
   rintro e W' ⟨A,rfl,hA,hE⟩;exact ⟨_,rfl,hE,⟨A,rfl,hA⟩,fun j u _ _ _ h=>by omega⟩
  | 5,_=>
   refine Ar _ _ rfl rfl rfl fun c W hW hdep hkeep=>?_
   have h16:c.tmps.getD 27 undef=.agg Vb:=hdep 4 27 (by kernel_rfl);go_simp
   (with_reducible refine (f68b W (hE5.trans (hd1.trans hW))).out.mono ?_)
   rintro e W' ⟨A,rfl,hA,hE⟩;exact ⟨_,rfl,hE,⟨A,rfl,hA⟩,fun j u _ _ _ h=>by omega⟩
  | 2,_=>
   refine Ar _ _ rfl rfl rfl fun c W hW hdep hkeep=>?_
   obtain ⟨A,h24,hIT⟩:∃ A,c.tmps.getD 24 undef=.agg A∧IsT w A (Ae a):=hdep 1 24 (by kernel_rfl);go_simp
   (with_reducible refine (P1 (Ae a) (Be HVa.out) (Nat.le_trans hna (by omega)) A W (hIT.ext (hE5.trans (hd1.trans hW)))).mono ?_)
   rintro e W' ⟨v,d,rfl,hD,h1,h2,hE⟩;exact ⟨_,rfl,hE,⟨d,h1,fun u=>by rw [h2,Dt],hD⟩,fun j u _ _ _ h=>by omega⟩
  | 6,_=>
   refine Ar _ _ rfl rfl rfl fun c W hW hdep hkeep=>?_
   obtain ⟨A,h24,hIT⟩:∃ A,c.tmps.getD 28 undef=.agg A∧IsT w A (Ae b):=hdep 5 28 (by kernel_rfl);go_simp
   (with_reducible refine (P1 (Ae b) (Be HVb.out) (Nat.le_trans hnb (by omega)) A W (hIT.ext (hE5.trans (hd1.trans hW)))).mono ?_)
   rintro e W' ⟨v,d,rfl,hD,h1,h2,hE⟩;exact ⟨_,rfl,hE,⟨d,h1,fun u=>by rw [h2,Dt],hD⟩,fun j u _ _ _ h=>by omega⟩
  | 3,_=>
   refine Ar _ _ rfl rfl rfl fun c W hW hdep hkeep=>?_
   obtain ⟨d,h1,h2,h3⟩:∃ d,Cano d∧(∀ u,d.has u=a.has u)∧∀ W',Near W W'→IsD W' (c.tmps.getD 25 undef) d:=hdep 2 25 (by kernel_rfl);obtain ⟨v,hv⟩:∃ v,c.tmps.getD 25 undef=v:=⟨_,rfl⟩;rw [hv] at h3;have hWW:=hE5.trans (hd1.trans hW);go_simp
   (with_reducible refine (M4 d h1.val v W (HTa.out W hWW) (Nat.lt_of_lt_of_le hsz hWW.size) (h3 W (Near.of_ext (Ext.refl W)))).mono ?_)
   rintro e W' ⟨A,rfl,hA,hE⟩;exact ⟨_,rfl,hE,⟨A,rfl,d,h1,h2,fun W2 hN=>hA W2 (h3 W2 (hN.pre hE))⟩,fun j u _ _ _ h=>by omega⟩
  | 7,_=>
   refine Ar _ _ rfl rfl rfl fun c W hW hdep hkeep=>?_
   obtain ⟨d,h1,h2,h3⟩:∃ d,Cano d∧(∀ u,d.has u=b.has u)∧∀ W',Near W W'→IsD W' (c.tmps.getD 29 undef) d:=hdep 6 29 (by kernel_rfl);obtain ⟨v,hv⟩:∃ v,c.tmps.getD 29 undef=v:=⟨_,rfl⟩;rw [hv] at h3;have hWW:=hE5.trans (hd1.trans hW);go_simp
   (with_reducible refine (M4 d h1.val v W (HTa.out W hWW) (Nat.lt_of_lt_of_le hsz hWW.size) (h3 W (Near.of_ext (Ext.refl W)))).mono ?_)
   rintro e W' ⟨A,rfl,hA,hE⟩;exact ⟨_,rfl,hE,⟨A,rfl,d,h1,h2,fun W2 hN=>hA W2 (h3 W2 (hN.pre hE))⟩,fun j u _ _ _ h=>by omega⟩
  | 8,_=>
   refine Ar _ _ rfl rfl rfl fun c W hW hdep hkeep=>?_
   go_simp;refine ⟨_,rfl,(Ext.refl W).alloc _,⟨_,rfl,Ab W _,(hd1.trans hW).size⟩,fun j u _ _ hu h=>?_⟩;obtain rfl:j=9:=by omega
   obtain ⟨g',rfl,hg',-⟩:=hu;intro e;have:W.heap.size=g':=by simpa using e
   have:=Ak hg';omega
  | 9,_=>
   refine Ar _ _ rfl rfl rfl fun c W hW hdep hkeep=>?_
   go_simp;refine ⟨_,rfl,(Ext.refl W).alloc _,⟨_,rfl,Ab W _,(hd1.trans hW).size⟩,fun j u _ _ hu h=>?_⟩;obtain rfl:j=8:=by omega
   obtain ⟨g',rfl,hg',-⟩:=hu;intro e;have:W.heap.size=g':=by simpa using e
   have:=Ak hg';omega
 ·obtain ⟨A1,hA1,hA1T⟩:=hF 1 (by omega);obtain ⟨A,hA,x,hCx,hHx,hXT⟩:=hF 3 (by omega);obtain ⟨B1,hB1,hB1T⟩:=hF 5 (by omega);obtain ⟨B,hB,y,hCy,hHy,hYT⟩:=hF 7 (by omega);obtain ⟨g6,h6,H6,hl6⟩:PtrF _ _ _:=hF 8 (by omega);obtain ⟨g7,h7,H7,hl7⟩:PtrF _ _ _:=hF 9 (by omega);have h67:g6≠g7:=fun e=>hN 8 9 (by omega) (by omega) (by omega) (by omega) (by rw [h6,h7,e])
  have hE7:=(Ext.refl w3).drew.trans hE6;have hF0:vs 0=.agg Va:=hF 0 (by omega);have hF4:vs 4=.agg Vb:=hF 4 (by omega);obtain ⟨v2,hv2⟩:∃ v,vs 2=v:=⟨_,rfl⟩;obtain ⟨v6,hv6⟩:∃ v,vs 6=v:=⟨_,rfl⟩;simp only [Ba,List.drop_succ_cons,List.drop_zero,hA,hB,hA1,hB1,h6,h7,hF0,hF4,hv2,hv6,List.getElem?_toArray,List.getElem?_cons_zero,List.getElem?_cons_succ,Option.bind_some,Act.put,List.setIfInBounds_toArray,List.set_cons_zero,List.set_cons_succ];clear hF hN hA hB h6 h7 hF0 hF4 hA1 hB1 hv2 hv6 hA1T hB1T;obtain ⟨_,_,_,_,_,_,hAs,hAo,_⟩:=(hXT w4 (Near.of_ext (Ext.refl w4))).opened (Be hCx.val);obtain ⟨_,_,_,_,_,_,hBs,hBo,_⟩:=(hYT w4 (Near.of_ext (Ext.refl w4))).opened (Be hCy.val);have hiA:(Tryz.prog.info? 108).map (·.size)=some A.size:=by rw [hAs];exact Bv
  have hiB:(Tryz.prog.info? 108).map (·.size)=some B.size:=by rw [hBs];exact Bv
  have hzA:Tryz.zeroCells108.size=A.size:=by rw [Cl,hAs]
  have hzB:Tryz.zeroCells108.size=B.size:=by rw [Cl,hBs]
  have H7':=Bg H7 (Ne.symm h67) A;have hE8:=((hE7.setRow hl6 A).setRow hl7 B);have G6:=Bg (setRow_heap w4 g6 _ A _ _ H6) h67 B;have G7:=setRow_heap (w4.setRow g6 A) g7 _ B _ _ H7';have hNr:Near w4 ((w4.setRow g6 A).setRow g7 B):=((Near.of_ext (Ext.refl w4)).setRow H6 Mo A).setRow H7' Mo B;have hXT:=hXT _ hNr;have hYT:=hYT _ hNr;clear hAs hBs hNr;go_upto_region 4 with (first
   | (refine wpList_store_row rfl 108 (.tmp 6) (.tmp 26) rfl _ _ rfl rfl _ _ H6 hiA hzA hAo ?_)
   | (refine wpList_store_row rfl 108 (.tmp 7) (.tmp 30) rfl _ _ rfl rfl _ _ H7' hiB hzB hBo ?_))
  obtain ⟨w5,hw5⟩:∃ W,(w4.setRow g6 A).setRow g7 B=W:=⟨_,rfl⟩;rw [hw5] at hE8 G6 G7 hXT hYT;simp only [hw5];clear hw5 hE7 H6 H7 H7' hzA hzB hE6 hAo hBo;have hE9:=hE5.trans hE8;have HB6:=Lib.hid (hE8.heap HB6.out);have HCx:=Lib.hid hCx;have HCy:=Lib.hid hCy;have HHx:=Lib.hid hHx;have HHy:=Lib.hid hHy;have HXT:=Lib.hid hXT;have HYT:=Lib.hid hYT;have HG6:=Lib.hid G6;have HG7:=Lib.hid G7;have hJ:=Lib.hid (O5 (Ae x) (Ae y) (Be HCx.out.val) (Be HCy.out.val) A B w5 HXT.out HYT.out);have hz77:∀ c,Tryz.zeroCells77.size=(Bk c).size:=fun c=>by rw [Ij,D7,D7]
  have hi77:∀ c,(Tryz.prog.info? 77).map (·.size)=some (Bk c).size:=fun c=>by rw [D7];exact I9
  clear hXT hYT G6 G7 hCx hCy hHx hHy hE5 hE8;go_upto_region 5 with (first
   | (refine wpList_load_row rfl 108 (.tmp 6) rfl _ rfl _ _ _ _ HG6.out Tryz.underlying108 rfl hiA ?_)
   | (refine wpList_load_row rfl 108 (.tmp 7) rfl _ rfl _ _ _ _ HG7.out Tryz.underlying108 rfl hiB ?_)
   | (go_at_call 70;(with_reducible refine hJ.out.mono ?_);rintro e w6 ⟨c,bs,vj,rfl,hjo,hib,hE10⟩;have hzc:=hz77 c;have hic:=hi77 c;have hoc:=Lz c;obtain ⟨A9,hA9⟩:∃ X,Bk c=X:=⟨_,rfl⟩;rw [hA9] at hzc hic hoc;rw [hA9])
   | (refine wpList_store_row rfl 77 (.tmp 8) (.tmp 35) rfl _ _ rfl rfl _ _ (Ab w6 (.cells Tryz.zeroCells77 77)) hic hzc hoc ?_))
  have hE11:=hE10.trans (((Ext.refl w6).alloc (.cells Tryz.zeroCells77 77)).setRow (Nat.le_refl _) A9);have H8:=setRow_heap (w6.alloc (.cells Tryz.zeroCells77 77)) w6.heap.size _ A9 _ _ (Ab w6 _);have hib7:=hib.ext (((Ext.refl w6).alloc (.cells Tryz.zeroCells77 77)).setRow (Nat.le_refl _) A9);obtain ⟨w7,hw7⟩:∃ W,(w6.alloc (.cells Tryz.zeroCells77 77)).setRow w6.heap.size A9=W:=⟨_,rfl⟩;rw [hw7] at hE11 H8 hib7;simp only [hw7];clear hw7 hE10 hib hz77 hi77 hJ hzc hoc;have HG6:=Lib.hid (hE11.heap HG6.out);have HG7:=Lib.hid (hE11.heap HG7.out);have HB6:=Lib.hid (hE11.heap HB6.out);have HXT:=Lib.hid (HXT.out.ext hE11);have HYT:=Lib.hid (HYT.out.ext hE11);have hE12:=hE9.trans hE11;have HG8:=Lib.hid H8;have HJO:=Lib.hid hjo;have HA9:=Lib.hid hA9;clear H8 hjo hA9 hE9 hE11;generalize w6.heap.size=g8 at *;have hc10:=(cell_of_row (w7.alloc (.cells #[.nilFunc] 117)) w7.heap.size 0 _ _ _ (Ab w7 (.cells #[.nilFunc] 117))).trans (show (#[Value.nilFunc]:Array Value)[0]? = some .nilFunc from rfl);have hf10:=frozen_of_row (w7.alloc (.cells #[.nilFunc] 117)) w7.heap.size 0 _ _ (Ab w7 (.cells #[.nilFunc] 117));go_upto_region 7 with (fail)
  have hE13:=(Ext.refl w7).alloc (.cells #[.func (.func 71) #[] #[.pointer (some ⟨g6,0,none⟩)]] 117);have G10:=Ab w7 (.cells #[.func (.func 71) #[] #[.pointer (some ⟨g6,0,none⟩)]] 117);obtain ⟨w8,hw8⟩:∃ W,w7.alloc (.cells #[.func (.func 71) #[] #[.pointer (some ⟨g6,0,none⟩)]] 117)=W:=⟨_,rfl⟩;rw [hw8] at hE13 G10;simp only [hw8];clear hw8 hc10 hf10;generalize w7.heap.size=g10 at *;have HE8:=Lib.hid (hE12.trans hE13);have HG6:=Lib.hid (hE13.heap HG6.out);have HG7:=Lib.hid (hE13.heap HG7.out);have HG8:=Lib.hid (hE13.heap HG8.out);have HB6:=Lib.hid (hE13.heap HB6.out);have HXT:=Lib.hid (HXT.out.ext hE13);have HYT:=Lib.hid (HYT.out.ext hE13);have HIB:=Lib.hid (hib7.ext hE13);have HG10:=Lib.hid G10;clear G10 hib7 hE12 hE13;have hm0:0<bs.length:=by have:=HJO.out.lt 0 (by omega);omega
  have hm1:bs.length≤256:=by
   have:=Hj c 256 bs.length (fun j hj=>⟨bs.getD j 0,(HJO.out.byte j hj).1,(HJO.out.byte j hj).2⟩);exact this
  have hx64:(Ae x).nxt.length≤64:=Nat.le_trans (L1 HCx.out HVa.out HHx.out) hna;have hy64:(Ae y).nxt.length≤64:=Nat.le_trans (L1 HCy.out HVb.out HHy.out) hnb;have hx0:0<(Ae x).nxt.length:=(Be HCx.out.val).pos;have HTX:=Lib.hid (Be HCx.out.val);have HTY:=Lib.hid (Be HCy.out.val);obtain ⟨bo,hbo⟩:∃ bo:Bool,bo=true↔¬ Bx (cnx (Ae x) (Ae y)) (cst (Ae x)) 4096:=by
   by_cases hM:Bx (cnx (Ae x) (Ae y)) (cst (Ae x)) 4096
   ·exact ⟨false,by simp [hM]⟩
   ·exact ⟨true,by simp [hM]⟩
  have HBO:=Lib.hid hbo;clear hbo;obtain ⟨Lc,hLc⟩:∃ L,Cat (fun u=>(Ae x).has u=true) (fun v=>(Ae y).has v=true)=L:=⟨_,rfl⟩;have hX:=fun W (hW:Ext w8 W)=>Lib.hid (Calls.mono (Pl c bs hm0 hm1 (fun k hk=>(HJO.out.byte k hk).1) (cSt (Ae x)) (cNx (Ae x) (Ae y)) (cAc (Ae y)) (Js (Ae x))
   (fun s hs=>⟨by have:=hs.1;omega,by have:=hs.2.1;omega,hs.2.2⟩) ⟨hx0,rfl,Wo _ _ (by show 0<_;omega)⟩
   (fun s hs k hk=>Aic HTX.out HTY.out hy64 s hs k hk) 4096 (by omega) (by omega) 72 75 _ _ (enters_of Tryz.func72 (by kernel_rfl) rfl) (enters_of Tryz.func75 (by kernel_rfl) rfl) vj W (HIB.out.ext hW)
   (Ahv (Ae x) (Ae y) HTX.out HTY.out hy64 A B g6 g7 g10 W (HXT.out.ext hW) (HYT.out.ext hW) (hW.heap HG6.out) (hW.heap HG7.out) (hW.heap HG10.out))
   (Ahh (Ae x) (Ae y) HTY.out hy64 B g7 W (HYT.out.ext hW) (hW.heap HG7.out)))
   (R':=fun e w'=>∃ A,e=.returned (.tuple #[.agg A,.bool bo])∧TabF bo Lc A w'∧Ext W w') fun e w' ⟨hE,h⟩=>by
    rcases h with ⟨A,l,t,he,hT,hXp,hl,_,hTg⟩|⟨hM,he⟩
    ·obtain ⟨h1,h2,h3,h4⟩:=Ah7 HTX.out HTY.out HJO.out hXp hl;obtain ⟨_,_,_,_,_,_,hTs,hTo,_⟩:=hT.opened h1;obtain rfl:bo=true:=HBO.out.2 h3;exact ⟨A,he,⟨hTs,hTo,fun _=>⟨t,h1,h2,fun u=>by rw [h4,hLc],hTg⟩⟩,hE⟩
    ·have hM':=Ty hM stP (fun s b=>Wn _ _ s b) (fun w w' e=>Kh (L3 _ _ w) (L3 _ _ w') e);have hbf:bo=false:=by
      cases bo
      ·rfl
      ·exact absurd hM' (HBO.out.1 rfl)
     subst hbf;exact ⟨Tryz.zeroCells108,he,⟨Cl,Qk,fun h=>by cases h⟩,hE⟩)
  rw [HA9.out] at hX;have f71:∀ W,Ext w8 W→Hid (Calls Tryz.prog 71 #[.agg #[.int .i64 0,.int .i64 0,.int .u64 0],.pointer (some ⟨g6,0,none⟩)] W fun e w'=>e=.returned (stV (cSt (Ae x)))∧Ext W w'):=fun W hW=>
   Lib.hid (V5 (Ae x) HTX.out A g6 w8 HXT.out HG6.out W hW 0 0 hx0 (by omega))
  have HLc:=Lib.hid hLc;clear hLc;have i77':(Tryz.prog.info? 77).map (·.size)=some A9.size:=hic;refine Qo 12 57 10 (by kernel_rfl) (by kernel_rfl) rfl (fun _ _ _ _ h=>h) (Pn w8.heap.size A9 vj (.func (.func 71) #[] #[.pointer (some ⟨g6,0,none⟩)]) (stV (cSt (Ae x)))
   (.func (.func 72) #[] #[.pointer (some ⟨g10,0,none⟩),.pointer (some ⟨g6,0,none⟩),.pointer (some ⟨g7,0,none⟩)]) (.func (.func 75) #[] #[.pointer (some ⟨g7,0,none⟩)]) bo Lc) Pm Ag9 (Aha _ _ _ _ _ _ _ _ _) _ rfl (fun c W hdep=>?_) (fun i hi=>?_) (fun vs w9 hE9 hF hN=>?_)
  ·obtain ⟨AX,h39,-⟩:∃ A,c.tmps.getD 39 undef=.tuple #[.agg A,.bool bo]∧TabF bo Lc A W:=hdep 8 39 (by kernel_rfl);exact ⟨.bool bo,fun W=>by
    simp only [execOp,Act.eval,h39];rfl⟩
  ·have hd1:=(Ext.refl w8).drew
   match i,hi with
   | 0,_=>
    refine Ar _ _ rfl rfl rfl fun c W hW hdep hkeep=>?_
    have h3:=hkeep 8 (by kernel_rfl);refine Cy (Ec 77 (.tmp 8) rfl g8 h3 _ _ _ _ ((hd1.trans hW).heap HG8.out) Tryz.underlying77 rfl i77') ?_;exact ⟨_,rfl,Ext.refl W,rfl,fun _ _ _ _ _=>trivial⟩
   | 1,_=>
    refine Ar _ _ rfl rfl rfl fun c W hW hdep hkeep=>?_
    have h3:c.tmps.getD 9 undef=vj:=hkeep 9 (by kernel_rfl);go_simp;exact ⟨_,rfl,Ext.refl W,rfl,fun _ _ _ _ _=>trivial⟩
   | 2,_=>
    refine Ar _ _ rfl rfl rfl fun c W hW hdep hkeep=>?_
    have h3:c.tmps.getD 10 undef=.pointer (some ⟨g10,0,none⟩):=hkeep 10 (by kernel_rfl);have c10:=(cell_of_row W g10 0 _ _ _ ((hd1.trans hW).heap HG10.out)).trans (show (#[Value.func (.func 71) #[] #[.pointer (some ⟨g6,0,none⟩)]]:Array Value)[0]? = some (.func (.func 71) #[] #[.pointer (some ⟨g6,0,none⟩)]) from rfl);go_simp;exact ⟨_,rfl,Ext.refl W,rfl,fun _ _ _ _ _=>trivial⟩
   | 3,_=>
    refine Ar _ _ rfl rfl rfl fun c W hW hdep hkeep=>?_
    refine Cy (Jg 116 _ rfl (by simpa [Act.eval] using Aip) W) ?_;exact ⟨_,rfl,Ext.refl W,rfl,fun _ _ _ _ _=>trivial⟩
   | 4,_=>
    refine Ar _ _ rfl rfl rfl fun c W hW hdep hkeep=>?_
    have h42:c.tmps.getD 42 undef=.func (.func 71) #[] #[.pointer (some ⟨g6,0,none⟩)]:=hdep 2 42 (by kernel_rfl);have h43:c.tmps.getD 43 undef=.agg #[.int .i64 0,.int .i64 0,.int .u64 0]:=hdep 3 43 (by kernel_rfl);have e71:=enters_of Tryz.func71 (by kernel_rfl) rfl;go_simp
    (with_reducible refine (f71 W (hd1.trans hW)).out.mono ?_)
    rintro e W' ⟨rfl,hE⟩;exact ⟨_,rfl,hE,rfl,fun _ _ _ _ _=>trivial⟩
   | 5,_=>
    refine Ar _ _ rfl rfl rfl fun c W hW hdep hkeep=>?_
    have h3:=hkeep 11 (by kernel_rfl);replace h3:c.tmps.getD 11 undef=.func (.func 72) #[] #[.pointer (some ⟨g10,0,none⟩),.pointer (some ⟨g6,0,none⟩),.pointer (some ⟨g7,0,none⟩)]:=h3;go_simp;exact ⟨_,rfl,Ext.refl W,rfl,fun _ _ _ _ _=>trivial⟩
   | 6,_=>
    refine Ar _ _ rfl rfl rfl fun c W hW hdep hkeep=>?_
    have h3:c.tmps.getD 7 undef=.pointer (some ⟨g7,0,none⟩):=hkeep 7 (by kernel_rfl);go_simp;exact ⟨_,rfl,Ext.refl W,rfl,fun _ _ _ _ _=>trivial⟩
   | 7,_=>
    refine Ar _ _ rfl rfl rfl fun c W hW hdep hkeep=>?_
    have h40:c.tmps.getD 40 undef=.agg A9:=hdep 0 40 (by kernel_rfl);have h41:c.tmps.getD 41 undef=vj:=hdep 1 41 (by kernel_rfl);have h44:c.tmps.getD 44 undef=stV (cSt (Ae x)):=hdep 4 44 (by kernel_rfl);have h45:c.tmps.getD 45 undef=.func (.func 72) #[] #[.pointer (some ⟨g10,0,none⟩),.pointer (some ⟨g6,0,none⟩),.pointer (some ⟨g7,0,none⟩)]:=hdep 5 45 (by kernel_rfl);have h46:c.tmps.getD 46 undef=.func (.func 75) #[] #[.pointer (some ⟨g7,0,none⟩)]:=hdep 6 46 (by kernel_rfl);go_simp;refine (hX W (hd1.trans hW)).out.mono ?_;rintro e W' ⟨A',rfl,hT,hE⟩;exact ⟨_,rfl,hE,⟨A',rfl,hT⟩,fun _ _ _ _ _=>trivial⟩
   | 8,_=>
    refine Ar _ _ rfl rfl rfl fun c W hW hdep hkeep=>?_
    obtain ⟨AX,h47,hT⟩:∃ A,c.tmps.getD 47 undef=.tuple #[.agg A,.bool bo]∧TabF bo Lc A W:=hdep 7 47 (by kernel_rfl);go_simp;exact ⟨_,rfl,Ext.refl W,⟨AX,rfl,hT⟩,fun _ _ _ _ _=>trivial⟩
   | 9,_=>
    refine Ar _ _ rfl rfl rfl fun c W hW hdep hkeep=>?_
    obtain ⟨AX,h47,hT⟩:∃ A,c.tmps.getD 39 undef=.tuple #[.agg A,.bool bo]∧TabF bo Lc A W:=hdep 8 39 (by kernel_rfl);go_simp;exact ⟨_,rfl,Ext.refl W,⟨AX,rfl,hT⟩,fun _ _ _ _ _=>trivial⟩
   | 10,_=>
    refine Ar _ _ rfl rfl rfl fun c W hW hdep hkeep=>?_
    obtain ⟨AX,h47,hT⟩:∃ A,c.tmps.getD 39 undef=.tuple #[.agg A,.bool bo]∧TabF bo Lc A W:=hdep 8 39 (by kernel_rfl);go_simp;exact ⟨_,rfl,Ext.refl W,rfl,fun _ _ _ _ _=>trivial⟩
   | 11,_=>
    refine Ar _ _ rfl rfl rfl fun c W hW hdep hkeep=>?_
    go_simp;exact ⟨_,rfl,(Ext.refl W).alloc _,⟨_,rfl,Ab W _,(hd1.trans hW).size⟩,fun _ _ _ _ _=>trivial⟩
  ·have hF0:vs 0=.agg A9:=hF 0 (by omega);have hF1:vs 1=vj:=hF 1 (by omega);have hF2:=hF 2 (by omega);have hF3:vs 3=.agg #[.int .i64 0,.int .i64 0,.int .u64 0]:=hF 3 (by omega);have hF4:vs 4=stV (cSt (Ae x)):=hF 4 (by omega);have hF5:=hF 5 (by omega);have hF6:=hF 6 (by omega);replace hF2:vs 2=.func (.func 71) #[] #[.pointer (some ⟨g6,0,none⟩)]:=hF2;replace hF5:vs 5=.func (.func 72) #[] #[.pointer (some ⟨g10,0,none⟩),.pointer (some ⟨g6,0,none⟩),.pointer (some ⟨g7,0,none⟩)]:=hF5;replace hF6:vs 6=.func (.func 75) #[] #[.pointer (some ⟨g7,0,none⟩)]:=hF6;obtain ⟨A7,hF7,-⟩:∃ A,vs 7=.tuple #[.agg A,.bool bo]∧TabF bo Lc A w9:=hF 7 (by omega);obtain ⟨A8,hF8,-⟩:∃ A,vs 8=.tuple #[.agg A,.bool bo]∧TabF bo Lc A w9:=hF 8 (by omega);obtain ⟨AT,hF9,hTs,hTo,hTT⟩:∃ A,vs 9=.agg A∧TabF bo Lc A w9:=hF 9 (by omega);have hF10:vs 10=.bool bo:=hF 10 (by omega);obtain ⟨g12,hF11,H12,hl12⟩:PtrF _ _ _:=hF 11 (by omega);simp only [Ba,List.drop_succ_cons,List.drop_zero,hF0,hF1,hF2,hF3,hF4,hF5,hF6,hF7,hF8,hF9,hF10,hF11,List.getElem?_toArray,List.getElem?_cons_zero,List.getElem?_cons_succ,Option.bind_some,Act.put,List.setIfInBounds_toArray,List.set_cons_zero,List.set_cons_succ];clear hF hN hF0 hF1 hF2 hF3 hF4 hF5 hF6 hF7 hF8 hF9 hF10 hF11;have hiT:(Tryz.prog.info? 108).map (·.size)=some AT.size:=by rw [hTs];exact Bv
   have hzT:Tryz.zeroCells108.size=AT.size:=by rw [Cl,hTs]
   have hE10:=((Ext.refl w8).drew.trans hE9).setRow hl12 AT;have H12':=setRow_heap w9 g12 _ AT _ _ H12;have hNr:Near w9 (w9.setRow g12 AT):=(Near.of_ext (Ext.refl w9)).setRow H12 Mo AT;clear hTs;go_upto_region 8 with (refine wpList_store_row rfl 108 (.tmp 12) (.tmp 48) rfl _ _ rfl rfl _ _ H12 hiT hzT hTo ?_)
   obtain ⟨w10,hw10⟩:∃ W,w9.setRow g12 AT=W:=⟨_,rfl⟩;rw [hw10] at hE10 H12' hNr;simp only [hw10];clear hw10 hE9 H12;have HB12:=Lib.hid H12';have HB6:=Lib.hid (hE10.heap HB6.out);have HE10:=Lib.hid (HE8.out.trans hE10);clear hE10 H12' hX f71 i77';cases bo
   ·have hBz:=Lib.hid Fl;go_wp2_with (first
     | (refine Ci rfl 30 _ rfl #[.slice none 0 0,.slice none 0 0,.slice none 0 0] ?_ ?_;(simp;with_reducible exact hBz.out))
     | (refine wpList_store_row rfl 30 (.tmp 4) (.tmp 52) rfl _ _ rfl rfl _ _ HB6.out Ad rfl Ex ?_))
    refine bodyPost_ret (v:=.tuple #[zD,.int .i64 2]) (A2 rfl _ _ _ _ _ _ _ rfl _ rfl (setRow_heap w10 _ _ #[.slice none 0 0,.slice none 0 0,.slice none 0 0] 30 (0,0) HB6.out) Tryz.underlying30 rfl Ad) rfl ?_;exact ⟨none,rfl,⟨x,y,HCx.out,HCy.out,HHx.out,HHy.out,fun _=>rfl,fun h=>absurd (HBO.out.2 h) (by simp)⟩,HE10.out.setRow (by omega) _⟩
   ·obtain ⟨t,htv,htn,hhas,hIT⟩:=hTT rfl;have hL:=Lib.hid (Ot t htv (show t.nxt.length≤65536 by omega) AT w10 (hIT _ hNr));have HHas:=Lib.hid hhas;have HMn:=Lib.hid (HBO.out.1 rfl);clear hIT htv htn hhas hNr hTT;go_wp2_with (first
     | (refine wpList_load_row rfl 108 (.tmp 12) rfl _ rfl _ _ _ _ HB12.out Tryz.underlying108 rfl hiT ?_)
     | (go_at_call 77;(with_reducible refine hL.out.mono ?_);rintro e w11 ⟨r,hres,hlim,hE11⟩;obtain ⟨ac2,lc2,cc2,an2,ln2,cn2,aa2,la2,ca2,k2,rfl⟩:=hres.form;have HRes:=Lib.hid hres;have HLim:=Lib.hid hlim;clear hres hlim;have HB6:=Lib.hid (hE11.heap HB6.out))
     | (refine wpList_store_row rfl 30 (.tmp 4) (.tmp 55) rfl _ _ rfl rfl _ _ HB6.out Ad rfl (An _ _ _ rfl rfl rfl) ?_))
    refine bodyPost_ret (v:=.tuple #[.agg (dA (.slice ac2 lc2 cc2) (.slice an2 ln2 cn2) (.slice aa2 la2 ca2)),.int .i64 k2]) (A2 rfl _ _ _ _ _ _ _ rfl _ rfl (setRow_heap w11 _ _ (dA (.slice ac2 lc2 cc2) (.slice an2 ln2 cn2) (.slice aa2 la2 ca2)) 30 (0,0) HB6.out) Tryz.underlying30 rfl Ad) rfl ?_;refine ⟨r,HRes.out.setRow (Gl HLim.out) HB6.out _,⟨x,y,HCx.out,HCy.out,HHx.out,HHy.out,fun h=>absurd h HMn.out,fun _=>Gm HLim.out fun u=>?_⟩,(HE10.out.trans hE11).setRow (by omega) _⟩;rw [HHas.out,← HLc.out];have e1:(fun u=>(Ae x).has u=true)=fun u=>a.has u=true:=funext fun u=>by rw [Dt,HHx.out]
    have e2:(fun u=>(Ae y).has u=true)=fun u=>b.has u=true:=funext fun u=>by rw [Dt,HHy.out]
    rw [e1,e2]
def Ck (L:List UInt8→Bool):Nat→List (List UInt8)
 | 0=>[]
 | n+1=>Ck L n++Bm L n
def Df (L:List UInt8→Bool):Nat→Nat
 | 0=>0
 | n+1=>Df L n+Bp L n
theorem Le (L:List UInt8→Bool):∀ n,(Ck L n).length=Df L n
 | 0=>rfl
 | n+1=>by simp only [Ck,Df,List.length_append,Le L n,Bp]
def E0 (L:List UInt8→Bool) (n k:Nat):List (List UInt8):=(List.range k).flatMap fun b=>(Bm (fun w=>L (UInt8.ofNat b::w)) n).map (UInt8.ofNat b::·)
theorem Pe (L:List UInt8→Bool) (n k:Nat):E0 L n (k+1)=E0 L n k++(Bm (fun w=>L (UInt8.ofNat k::w)) n).map (UInt8.ofNat k::·):=by
 simp [E0,List.range_succ,List.flatMap_append]
theorem X2 {L:List UInt8→Bool} {n:Nat} (h:Bp L n=0):Bm L n=[]:=List.eq_nil_of_length_eq_zero h
theorem Ahs (L:List UInt8→Bool) {a b:Nat} (h:a≤b):Df L a≤Df L b:=by
 induction h with
 | refl=>exact Nat.le_refl _
 | step _ ih=>exact Nat.le_trans ih (Nat.le_add_right _ _)
end Go.Proofs.YtaiogolidlamiaaGreatDoor
