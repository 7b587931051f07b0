import Derived.Test.YtaiogolidlamiaaGreatDoorM01
set_option linter.unusedVariables false
set_option linter.unusedSimpArgs false
namespace Go.Proofs.YtaiogolidlamiaaGreatDoor
set_option maxRecDepth 100000
open Go
section
variable {P:Program} {ops:Array Oper} {Q:Exit→Act→World→Prop} {n:Nat}
structure FInvR (ops:Array Oper) (n:Nat) (F:Nat→Value→World→Prop) (Ne:Nat→Nat→Value→Value→Prop) (a0:Act) (w1:World) (listed:Array Bool) (a:Act) (w:World):Prop where
 ext:Ext w1 w
 defers:a.defers=a0.defers
 size:a.tmps.size=a0.tmps.size
 done:∀ i o d,i<n→ops[i]? = some o→o.dst=some d→listed.getD i false=true→F i (a.tmps.getD d undef) w
 rest:∀ d,(∀ i o,i<n→ops[i]? = some o→listed.getD i false=true→o.dst≠some d)→a.tmps.getD d undef=a0.tmps.getD d undef
 ne:∀ i j oi oj di dj,i<n→j<n→i≠j→ops[i]? = some oi→ops[j]? = some oj→oi.dst=some di→oj.dst=some dj→listed.getD i false=true→listed.getD j false=true→Ne i j (a.tmps.getD di undef) (a.tmps.getD dj undef)
theorem D1 (a:Act) (d e:Nat) (v:Value) (h:d<a.tmps.size):(a.put (some d) v).tmps.getD e undef=if e=d then v else a.tmps.getD e undef:=by
 simp only [Act.put,Array.getD_eq_getD_getElem?,Array.getElem?_setIfInBounds];by_cases hd:d=e
 ·subst hd;simp [h]
 ·simp [hd,Ne.symm hd]
theorem Mp (a:Act) (d:Nat) (v:Value):(a.put (some d) v).tmps.size=a.tmps.size:=by simp [Act.put]
def FOp (P:Program) (ops:Array Oper) (Q:Exit→Act→World→Prop) (n:Nat) (F:Nat→Value→World→Prop) (Ne:Nat→Nat→Value→Value→Prop) (a0:Act) (w1:World) (i:Nat):Prop:=
 ∀ o d,ops[i]? = some o→o.dst=some d→∀ a w,Ext w1 w→a.defers=a0.defers→a.tmps.size=a0.tmps.size→
  (∀ j oj dj,j<n→ops[j]? = some oj→oj.dst=some dj→(∃ e∈o.after,Region.binds .any e=true∧e.on=j)→F j (a.tmps.getD dj undef) w)→
  (∀ e,(∀ j oj,j<n→ops[j]? = some oj→oj.dst≠some e)→a.tmps.getD e undef=a0.tmps.getD e undef)→
  Region.wanted o (yielded ops a.tmps)=true∧o.wp P a w (fun a' w'=>∃ v,a'=a.put (some d) v∧Ext w w'∧F i v w'∧∀ j u,j<n→j≠i→F j u w→Ne i j v u) Q
def Ep (ops:Array Oper) (n:Nat) (sz:Nat):Bool:=(List.range n).all fun i=>match ops[i]? with
 | none=>false
 | some o=>match o.dst with
  | none=>false
  | some d=>decide (d<sz)&&(List.range n).all fun j=>decide (j=i)||match ops[j]? with|none=>false|some oj=>decide (oj.dst≠some d)
theorem Hf {sz:Nat} (h:Ep ops n sz=true) (i:Nat) (hi:i<n):∃ o d,ops[i]? = some o∧o.dst=some d∧d<sz∧∀ j oj,j<n→j≠i→ops[j]? = some oj→oj.dst≠some d:=by
 unfold Ep at h;rw [List.all_eq_true] at h;have h1:=h i (List.mem_range.2 hi);cases ho:ops[i]? with
 | none=>rw [ho] at h1;cases h1
 | some o=>
  rw [ho] at h1;simp only at h1;cases hd:o.dst with
  | none=>rw [hd] at h1;cases h1
  | some d=>
   rw [hd] at h1;simp only [Bool.and_eq_true,decide_eq_true_eq,List.all_eq_true,Bool.or_eq_true,List.mem_range] at h1;refine ⟨o,d,rfl,hd,h1.1,fun j oj hj hne hoj=>?_⟩;rcases h1.2 j hj with h2|h2
   ·exact absurd h2 hne
   ·rw [hoj] at h2
    simpa using h2
theorem Th {F:Nat→Value→World→Prop} {Ne:Nat→Nat→Value→Value→Prop} (hNe:∀ i j v u,Ne i j v u→Ne j i u v) (hF:∀ i v w w',F i v w→Ext w w'→F i v w') {a0:Act} {w1:World} {sz:Nat} (hsz:a0.tmps.size=sz) (hd:Ep ops n sz=true) {listed:Array Bool} {a:Act} {w:World} (inv:FInvR ops n F Ne a0 w1 listed a w)
  {i:Nat} (hi:i∈Region.ready .any ops listed) (hin:i<n) (H:FOp P ops Q n F Ne a0 w1 i):∃ o,ops[i]? = some o∧Region.wanted o (yielded ops a.tmps)=true∧o.wp P a w (fun a' w'=>FInvR ops n F Ne a0 w1 (listed.setIfInBounds i true) a' w') Q:=by
 obtain ⟨o,d,ho,hdst,hdsz,hdis⟩:=Hf hd i hin;obtain ⟨hun,o',ho',hall⟩:=mem_ready.1 hi;rw [ho] at ho';injection ho' with ho'
 subst ho';have hli:i<listed.size:=by
  rcases Nat.lt_or_ge i listed.size with h|h
  ·exact h
  ·simp [Array.getElem?_eq_none h] at hun
 have hg:∀ j,(listed.setIfInBounds i true).getD j false=true→j=i∨listed.getD j false=true:=fun j hj=>by
  by_cases e:i=j
  ·exact .inl e.symm
  ·rw [getD_set_ne false e] at hj;exact .inr hj
 obtain ⟨hw,hwp⟩:=H o d ho hdst a w inv.ext inv.defers inv.size (fun j oj dj hj hoj hdj ⟨e,he,hb,hej⟩=>inv.done j oj dj hj hoj hdj (by rw [← hej];exact hall e he hb)) (fun e he=>inv.rest e fun j oj hj hoj _=>he j oj hj hoj);refine ⟨o,ho,hw,Oper.wp_mono (fun a' w' h=>?_) hwp⟩;obtain ⟨v,rfl,hE,hv,hnw⟩:=h;have hda:d<a.tmps.size:=by rw [inv.size,hsz];exact hdsz
 refine ⟨inv.ext.trans hE,inv.defers,by rw [Mp];exact inv.size,fun j oj dj hj hoj hdj hlj=>?_,fun e he=>?_,fun j k oj ok dj dk hj hk hjk hoj hok hdj hdk hlj hlk=>?_⟩
 ·rw [D1 _ _ _ _ hda];by_cases e:j=i
  ·subst e;rw [ho] at hoj;injection hoj with hoj
   subst hoj;rw [hdst] at hdj;injection hdj with hdj
   rw [if_pos hdj.symm];exact hv
  ·rw [if_neg (fun h=>hdis j oj hj e hoj (by rw [hdj,h]))];rcases hg j hlj with h|h
   ·exact absurd h e
   ·exact hF _ _ _ _ (inv.done j oj dj hj hoj hdj h) hE
 ·rw [D1 _ _ _ _ hda];have hne:e≠d:=fun h=>he i o hin ho (by simp [hli]) (by rw [hdst,h])
  rw [if_neg hne];refine inv.rest e fun j oj hj hoj hlj=>he j oj hj hoj ?_
  by_cases e':i=j
  ·subst e';simp [hli]
  ·rw [getD_set_ne false e'];exact hlj
 ·rw [D1 _ _ _ _ hda,D1 _ _ _ _ hda];have hdd:∀ j oj dj,j<n→ops[j]? = some oj→oj.dst=some dj→(j=i→dj=d)∧(j≠i→dj≠d):=fun j oj dj hj hoj hdj=>by
   constructor
   ·rintro rfl;rw [ho] at hoj;injection hoj with hoj
    subst hoj;rw [hdst] at hdj;injection hdj with hdj
    exact hdj.symm
   ·intro e h;exact hdis j oj hj e hoj (by rw [hdj,h])
  by_cases e1:j=i
  ·have e2:k≠i:=fun h=>hjk (by rw [e1,h])
   rw [if_pos ((hdd j oj dj hj hoj hdj).1 e1),if_neg ((hdd k ok dk hk hok hdk).2 e2)];rcases hg k hlk with h|h
   ·exact absurd h e2
   ·rw [e1];exact hnw k _ hk e2 (inv.done k ok dk hk hok hdk h)
  ·rw [if_neg ((hdd j oj dj hj hoj hdj).2 e1)];rcases hg j hlj with h|hlj'
   ·exact absurd h e1
   ·by_cases e2:k=i
    ·rw [if_pos ((hdd k ok dk hk hok hdk).1 e2)];rw [e2];exact hNe _ _ _ _ (hnw j _ hj e1 (inv.done j oj dj hj hoj hdj hlj'))
    ·rw [if_neg ((hdd k ok dk hk hok hdk).2 e2)];rcases hg k hlk with h|hlk'
     ·exact absurd h e2
     ·exact inv.ne j k oj ok dj dk hj hk hjk hoj hok hdj hdk hlj' hlk'
theorem Ti {F:Nat→Value→World→Prop} {Ne:Nat→Nat→Value→Value→Prop} (hNe:∀ i j v u,Ne i j v u→Ne j i u v) (hF:∀ i v w w',F i v w→Ext w w'→F i v w') {a0:Act} {w1:World} {sz:Nat} (hsz:a0.tmps.size=sz) (hd:Ep ops n sz=true) {listed:Array Bool} {a:Act} {w:World} (inv:FInvR ops n F Ne a0 w1 listed a w)
  {i:Nat} (hi:i∈Region.ready .any ops listed) (hin:i<n) (H:FOp P ops Q n F Ne a0 w1 i):wpOp P ops Q i (fun a' w'=>FInvR ops n F Ne a0 w1 (listed.setIfInBounds i true) a' w') a w:=by
 obtain ⟨o,ho,hw,h⟩:=Th hNe hF hsz hd inv hi hin H;unfold wpOp;rw [ho];simp only [hw,if_true];exact .inl h
def Bi (ops:Array Oper) (vs:Nat→Value):Nat→Act→Act
 | 0,a=>a
 | k+1,a=>(Bi ops vs k a).put ((ops[k]?).bind (·.dst)) (vs k)
theorem Ig (vs:Nat→Value) (a:Act):∀ k,(Bi ops vs k a).tmps.size=a.tmps.size∧(Bi ops vs k a).defers=a.defers
 | 0=>⟨rfl,rfl⟩
 | k+1=>by
  obtain ⟨h1,h2⟩:=Ig vs a k;unfold Bi;cases (ops[k]?).bind (·.dst) with
  | none=>exact ⟨h1,h2⟩
  | some d=>exact ⟨by rw [Mp];exact h1,h2⟩
theorem Q1 {sz:Nat} (hd:Ep ops n sz=true) (a a0:Act) (hsz:a0.tmps.size=sz) (vs:Nat→Value) (hvs:∀ i o d,i<n→ops[i]? = some o→o.dst=some d→vs i=a.tmps.getD d undef) (hr:∀ e,(∀ i o,i<n→ops[i]? = some o→o.dst≠some e)→a.tmps.getD e undef=a0.tmps.getD e undef) (e:Nat) :
  ∀ k,k≤n→((∃ i o,i<k∧ops[i]? = some o∧o.dst=some e)→(Bi ops vs k a0).tmps.getD e undef=a.tmps.getD e undef)∧((∀ i o,i<k→ops[i]? = some o→o.dst≠some e)→(Bi ops vs k a0).tmps.getD e undef=a0.tmps.getD e undef)
 | 0,_=>⟨fun ⟨i,o,h,_⟩=>by omega,fun _=>rfl⟩
 | k+1,hk=>by
  obtain ⟨h1,h2⟩:=Q1 hd a a0 hsz vs hvs hr e k (by omega);obtain ⟨o,d,ho,hdst,hdsz,hdis⟩:=Hf hd k (by omega);have hput:Bi ops vs (k+1) a0=(Bi ops vs k a0).put (some d) (vs k):=by
   show (Bi ops vs k a0).put ((ops[k]?).bind (·.dst)) (vs k)=_;rw [ho];show (Bi ops vs k a0).put o.dst (vs k)=_;rw [hdst]
  rw [hput,D1 _ _ _ _ (by rw [(Ig vs a0 k).1,hsz];exact hdsz)];constructor
  ·rintro ⟨i,o',hi,ho',hd'⟩;by_cases e':e=d
   ·rw [if_pos e',hvs k o d (by omega) ho hdst,e']
   ·rw [if_neg e'];refine h1 ⟨i,o',?_,ho',hd'⟩;by_cases hik:i=k
    ·subst hik;rw [ho] at ho';injection ho' with ho'
     subst ho';rw [hdst] at hd';injection hd' with hd'
     exact absurd hd'.symm e'
    ·omega
  ·intro h;have hne:e≠d:=fun h'=>h k o (by omega) ho (by rw [hdst,h'])
   rw [if_neg hne];exact h2 fun i o' hi=>h i o' (by omega)
theorem Tl {F:Nat→Value→World→Prop} {Ne:Nat→Nat→Value→Value→Prop} {a0:Act} {w1:World} {sz:Nat} (hsz:a0.tmps.size=sz) (hd:Ep ops n sz=true) {listed:Array Bool} {a:Act} {w:World} (inv:FInvR ops n F Ne a0 w1 listed a w) (hall:∀ i,i<n→listed.getD i false=true) :
  ∃ vs:Nat→Value,a=Bi ops vs n a0∧(∀ i,i<n→F i (vs i) w)∧∀ i j,i<n→j<n→i≠j→Ne i j (vs i) (vs j):=by
 refine ⟨fun i=>a.tmps.getD (((ops[i]?).bind (·.dst)).getD 0) undef,?_,fun i hi=>?_,fun i j hi hj hij=>?_⟩
 ·have hr:∀ e,(∀ i o,i<n→ops[i]? = some o→o.dst≠some e)→a.tmps.getD e undef=a0.tmps.getD e undef:=fun e he=>inv.rest e fun i o hi ho _=>he i o hi ho
  have hg:=fun e=>Q1 hd a a0 hsz (fun i=>a.tmps.getD (((ops[i]?).bind (·.dst)).getD 0) undef) (fun i o d hi ho hdst=>by
   show a.tmps.getD (((ops[i]?).bind (·.dst)).getD 0) undef=_;rw [ho];show a.tmps.getD (o.dst.getD 0) undef=_;rw [hdst];rfl) hr e n (Nat.le_refl _)
  obtain ⟨s1,s2⟩:=Ig (ops:=ops) (fun i=>a.tmps.getD (((ops[i]?).bind (·.dst)).getD 0) undef) a0 n;have ht:a.tmps=(Bi ops (fun i=>a.tmps.getD (((ops[i]?).bind (·.dst)).getD 0) undef) n a0).tmps:=by
   apply Array.ext
   ·rw [s1,inv.size]
   ·intro e h1 h2;have he:a.tmps.getD e undef=(Bi ops (fun i=>a.tmps.getD (((ops[i]?).bind (·.dst)).getD 0) undef) n a0).tmps.getD e undef:=by
     obtain ⟨g1,g2⟩:=hg e;by_cases hex:∃ i o,i<n∧ops[i]? = some o∧o.dst=some e
     ·exact (g1 hex).symm
     ·have hno:∀ i o,i<n→ops[i]? = some o→o.dst≠some e:=fun i o hi ho hd'=>hex ⟨i,o,hi,ho,hd'⟩
      rw [g2 hno];exact hr e hno
    rw [Array.getD_eq_getD_getElem?,Array.getD_eq_getD_getElem?,Array.getElem?_eq_getElem h1,Array.getElem?_eq_getElem h2] at he;exact he
  have hdf:=inv.defers;rw [← s2] at hdf;generalize Bi ops (fun i=>a.tmps.getD (((ops[i]?).bind (·.dst)).getD 0) undef) n a0=b at *;cases a;cases b
  simp only at ht hdf;rw [ht,hdf]
 ·obtain ⟨o,d,ho,hdst,_,_⟩:=Hf hd i hi;have:=inv.done i o d hi ho hdst (hall i hi);show F i (a.tmps.getD (((ops[i]?).bind (·.dst)).getD 0) undef) w;rw [ho];show F i (a.tmps.getD (o.dst.getD 0) undef) w;rw [hdst];exact this
 ·obtain ⟨o,d,ho,hdst,_,_⟩:=Hf hd i hi;obtain ⟨o',d',ho',hdst',_,_⟩:=Hf hd j hj;have:=inv.ne i j o o' d d' hi hj hij ho ho' hdst hdst' (hall i hi) (hall j hj);show Ne i j (a.tmps.getD (((ops[i]?).bind (·.dst)).getD 0) undef) (a.tmps.getD (((ops[j]?).bind (·.dst)).getD 0) undef);rw [ho,ho'];show Ne i j (a.tmps.getD (o.dst.getD 0) undef) (a.tmps.getD (o'.dst.getD 0) undef);rw [hdst,hdst'];exact this
def Ec (ops:Array Oper) (n:Nat):Bool:=(List.range n).all fun i=>match ops[i]? with|none=>false|some o=>o.after.all fun e=>!Region.binds .any e||decide (e.on<i)
def unl (n:Nat) (listed:Array Bool):Nat:=((List.range n).filter fun i=>!listed.getD i false).length
theorem Kl (hE:Ec ops n=true) {listed:Array Bool} (hsz:listed.size=ops.size) (hn:n≤ops.size):∀ k,k<n→(∀ j,j<k→listed.getD j false=true)→listed.getD k false=false→k∈Region.ready .any ops listed:=by
 intro k hk hall hun;unfold Ec at hE;rw [List.all_eq_true] at hE;have h1:=hE k (List.mem_range.2 hk);cases ho:ops[k]? with
 | none=>rw [ho] at h1;cases h1
 | some o=>
  rw [ho] at h1;refine mem_ready.2 ⟨?_,o,ho,fun e he hb=>?_⟩
  ·have:k<listed.size:=by omega
   rw [Array.getD_eq_getD_getElem?,Array.getElem?_eq_getElem this] at hun ⊢;exact hun
  ·have:=(Array.all_eq_true'.1 h1) e he;rw [Bool.or_eq_true] at this;rcases this with h|h
   ·rw [hb] at h;cases h
   ·exact hall _ (of_decide_eq_true h)
theorem Ei (n:Nat) (listed:Array Bool):unl (n+1) listed=unl n listed+if listed.getD n false then 0 else 1:=by
 unfold unl;rw [List.range_succ,List.filter_append,List.length_append];cases h:listed.getD n false
 ·simp only [List.filter_cons,List.filter_nil,h,Bool.not_false,if_true,Bool.false_eq_true,if_false];rfl
 ·simp only [List.filter_cons,List.filter_nil,h,Bool.not_true,if_true,Bool.false_eq_true,if_false];rfl
theorem Pl:∀ (n:Nat) (listed:Array Bool) (i:Nat),n≤i→unl n (listed.setIfInBounds i true)=unl n listed
 | 0,_,_,_=>rfl
 | n+1,listed,i,h=>by
  rw [Ei,Ei,Pl n listed i (by omega),getD_set_ne false (by omega)]
theorem Hv:∀ (n:Nat) (listed:Array Bool) (i:Nat),i<n→i<listed.size→listed.getD i false=false→unl n (listed.setIfInBounds i true)+1=unl n listed
 | 0,_,_,h,_,_=>by omega
 | n+1,listed,i,h,hs,hu=>by
  rw [Ei,Ei];by_cases e:i=n
  ·subst e;rw [Pl _ _ _ (Nat.le_refl _),hu];have:(listed.setIfInBounds i true).getD i false=true:=by simp [hs]
   rw [this];simp
  ·have:=Hv n listed i (by omega) hs hu;rw [getD_set_ne false e];omega
theorem Gi:∀ (n:Nat) (listed:Array Bool),unl n listed=0→∀ i,i<n→listed.getD i false=true
 | 0,_,_,_,h=>by omega
 | n+1,listed,h,i,hi=>by
  rw [Ei] at h;by_cases e:i=n
  ·subst e;cases hb:listed.getD i false
   ·rw [hb] at h;simp at h
   ·rfl
  ·exact Gi n listed (by omega) i (by omega)
theorem Im:∀ (n:Nat) (listed:Array Bool),unl n listed≠0→∃ k,k<n∧listed.getD k false=false∧∀ j,j<k→listed.getD j false=true
 | 0,_,h=>absurd rfl h
 | n+1,listed,h=>by
  by_cases h0:unl n listed=0
  ·refine ⟨n,by omega,?_,Gi n listed h0⟩;rw [Ei,h0] at h;cases hb:listed.getD n false
   ·rfl
   ·rw [hb] at h;simp at h
  ·obtain ⟨k,h1,h2,h3⟩:=Im n listed h0;exact ⟨k,by omega,h2,h3⟩
theorem Td {F:Nat→Value→World→Prop} {Ne:Nat→Nat→Value→Value→Prop} (hNe:∀ i j v u,Ne i j v u→Ne j i u v) (hF:∀ i v w w',F i v w→Ext w w'→F i v w') {a0:Act} {w1:World} {sz g:Nat} (hsz:a0.tmps.size=sz) (hd:Ep ops n sz=true) (hs:Region.sinkB .any ops n=true) (hc:Region.chainB .any ops n=true) (hn:n<ops.size) (hE:Ec ops n=true)
  (hop:∀ i,i<n→FOp P ops Q n F Ne a0 w1 i) (htail:∀ listed a w,HeadInv .any ops n listed→(∀ i,i<n→listed.getD i false=true)→FInvR ops n F Ne a0 w1 listed a w→wpAny P .any ops Q g listed a w) :
  ∀ (f:Nat) (listed:Array Bool) (a:Act) (w:World),HeadInv .any ops n listed→FInvR ops n F Ne a0 w1 listed a w→unl n listed=f→wpAny P .any ops Q (f+g) listed a w
 | 0,listed,a,w,inv,hI,hu=>by
  rw [Nat.zero_add];exact htail listed a w inv (Gi n listed hu) hI
 | f+1,listed,a,w,inv,hI,hu=>by
  obtain ⟨k,hk,hku,hkl⟩:=Im n listed (by omega);have hkr:=Kl hE inv.size (by omega) k hk hkl hku;have hkt:=(mem_ready.1 hkr).1;rw [show f+1+g=(f+g)+1 by omega];refine ⟨fun h0=>(by rw [h0] at hkr;cases hkr),fun i hi=>?_⟩;have hin:i<n:=Nat.lt_of_not_le fun h=>tail_waits hs hc hn inv _ k rfl hk hkt i h hi
  have hiu:=(mem_ready.1 hi).1;have hil:i<listed.size:=by rw [inv.size];omega
  have hiu':listed.getD i false=false:=by
   rw [Array.getD_eq_getD_getElem?,Array.getElem?_eq_getElem hil] at hiu ⊢;exact hiu
  refine wpOp_mono (fun a' w' h=>Td hNe hF hsz hd hs hc hn hE hop htail f _ a' w' (inv.set hi hin) h ?_) (Ti hNe hF hsz hd hI hi hin (hop i hin));have:=Hv n listed i hin hil hiu';omega
def Er (m n:Nat):Array Bool:=((List.range m).map fun i=>decide (i<n)).toArray
def Te (ops:Array Oper) (n sz:Nat):Bool:=
 Ep ops n sz&&Region.sinkB .any ops n&&Region.chainB .any ops n&&decide (n<ops.size)&&Ec ops n&&Region.seqB .any ops (ops.size-n) n (Er ops.size n)
theorem Jk {id:Nat} {l:List Oper} {a0:Act} {w:World} (n sz:Nat) (hm:P.follows .mixedOrders=true) (hB:Te l.toArray n sz=true) (hsz:a0.tmps.size=sz) (F:Nat→Value→World→Prop) (Ne:Nat→Nat→Value→Value→Prop) (hNe:∀ i j v u,Ne i j v u→Ne j i u v) (hF:∀ i v w w',F i v w→Ext w w'→F i v w')
  (hop:∀ i,i<n→FOp P l.toArray Q n F Ne a0 w.drew i) (htail:∀ (vs:Nat→Value) (w':World),Ext w.drew w'→(∀ i,i<n→F i (vs i) w')→(∀ i j,i<n→j<n→i≠j→Ne i j (vs i) (vs j))→wpList P l.toArray Q (l.drop n) (Bi l.toArray vs n a0) w'):(Code.region id l.toArray true).wp P Q a0 w:=by
 simp only [Te,Bool.and_eq_true,decide_eq_true_eq] at hB;obtain ⟨⟨⟨⟨⟨hd,hs⟩,hc⟩,hn⟩,hE⟩,hseq⟩:=hB;refine wp_region_any hm ?_;have inv0:HeadInv .any l.toArray n (Array.replicate l.toArray.size false):=
  ⟨by simp,fun j oj _ hl=>(by rw [getD_replicate_false] at hl;cases hl),fun t _ ht=>getD_in (by simpa using ht) (getD_replicate_false _ _)⟩
 have hI0:FInvR l.toArray n F Ne a0 w.drew (Array.replicate l.toArray.size false) a0 w.drew:=
  ⟨Ext.refl _,rfl,rfl,fun i o d _ _ _ hl=>(by rw [getD_replicate_false] at hl;cases hl),fun d _=>rfl,fun i j _ _ _ _ _ _ _ _ _ _ _ hl=>(by rw [getD_replicate_false] at hl;cases hl)⟩
 have hu:∀ m,unl m (Array.replicate l.toArray.size false)=m:=fun m=>by
  induction m with
  | zero=>rfl
  | succ m ih=>rw [Ei,ih,getD_replicate_false];simp
 have H:=Td (P:=P) (Q:=Q) (g:=(l.drop n).length) hNe hF hsz hd hs hc hn hE hop (fun listed a w' inv hall hI=>by
  obtain ⟨vs,rfl,hv,hne⟩:=Tl hsz hd hI hall;have hL:listed=Er l.toArray.size n:=by
   apply Array.ext
   ·rw [inv.size];simp [Er]
   ·intro i h1 h2;have h3:(Er l.toArray.size n)[i]=decide (i<n):=by simp [Er]
    rw [h3];by_cases hi:i<n
    ·have:=hall i hi;rw [Array.getD_eq_getD_getElem?,Array.getElem?_eq_getElem h1] at this;simp only [Option.getD_some] at this;rw [this];simp [hi]
    ·have:=inv.tail i (by omega) (by rw [← inv.size];exact h1);rw [Array.getD_eq_getD_getElem?,Array.getElem?_eq_getElem h1] at this;simp only [Option.getD_some] at this;rw [this];simp [hi]
  have hdl:l.toArray.size-n=(l.drop n).length:=by simp
  rw [hdl] at hseq;exact wpAny_of_seq (l.drop n) n listed _ w' (fun j=>by simp [List.getElem?_drop]) (by rw [hL];exact hseq) (htail vs w' hI.ext hv hne)) n _ a0 w.drew inv0 hI0 (hu n)
 have e:n+(l.drop n).length=l.toArray.size:=by
  have:n<l.length:=by simpa using hn
  simp;omega
 rw [e] at H;exact H
/-! ### As it is used -/
def R5 (ops:Array Oper) (n e:Nat):Bool:=(List.range n).all fun j=>match ops[j]? with|none=>true|some oj=>decide (oj.dst≠some e)
def Kz (ops:Array Oper) (n i j dj:Nat):Bool:=decide (j<n)&&(match ops[j]? with|some oj=>decide (oj.dst=some dj)|none=>false)&&Region.waitsFor .any ops i j
theorem At {F:Nat→Value→World→Prop} {Ne:Nat→Nat→Value→Value→Prop} {a0:Act} {w1:World} {i:Nat} (o:Oper) (d:Tmp) (h0:ops.toList[i]? = some o) (hd:o.dst=some d) (hg:o.guard=none)
  (H:∀ a w,Ext w1 w→(∀ j dj,Kz ops n i j dj=true→F j (a.tmps.getD dj undef) w)→(∀ e,R5 ops n e=true→a.tmps.getD e undef=a0.tmps.getD e undef)→
   o.wp P a w (fun a' w'=>∃ v,a'=a.put (some d) v∧Ext w w'∧F i v w'∧∀ j u,j<n→j≠i→F j u w→Ne i j v u) Q):FOp P ops Q n F Ne a0 w1 i:=by
 intro o' d' ho' hd' a w hE _ _ hdep hkeep;rw [← Array.getElem?_toList,h0] at ho';injection ho' with ho'
 subst ho';rw [hd] at hd';injection hd' with hd'
 subst hd';refine ⟨by simp [Region.wanted,hg],H a w hE (fun j dj h=>?_) (fun e h=>hkeep e fun j oj hj hoj=>?_)⟩
 ·unfold Kz at h;simp only [Bool.and_eq_true,decide_eq_true_eq] at h;obtain ⟨⟨hj,h1⟩,h2⟩:=h;cases hoj:ops[j]? with
  | none=>rw [hoj] at h1;cases h1
  | some oj=>
   rw [hoj] at h1;obtain ⟨oi,hoi,e,he,hb,hej⟩:=Region.waitsFor_spec h2;rw [← Array.getElem?_toList,h0] at hoi;injection hoi with hoi
   subst hoi;exact hdep j oj dj hj hoj (of_decide_eq_true h1) ⟨e,he,hb,hej⟩
 ·unfold R5 at h;rw [List.all_eq_true] at h;have:=h j (List.mem_range.2 hj);rw [hoj] at this
  simpa using this
theorem C7 {o:Oper} {a:Act} {w w':World} {v:Value} {next:Act→World→Prop} (h:(execOp a.eval o).run P w=.ok (.value v) w') (hk:next (a.put o.dst v) w'):o.wp P a w next Q:=by
 unfold Oper.wp;rw [h];exact hk
end
section
variable {P:Program} {ops:Array Oper} {Q:Exit→Act→World→Prop}
def Ce (o:Oper) (a:Act):Value:=match o.dst with|some d=>a.tmps.getD d undef|none=>undef
structure FInvP (ops:Array Oper) (R:World→World→Prop) (F:Nat→Value→World→Prop) (Ne:Nat→Nat→Value→Value→Prop) (a0:Act) (w1:World) (listed:Array Bool) (a:Act) (w:World):Prop where
 ext:R w1 w
 defers:a.defers=a0.defers
 size:a.tmps.size=a0.tmps.size
 done:∀ i o,ops[i]? = some o→listed.getD i false=true→F i (Ce o a) w
 rest:∀ d,(∀ i o,ops[i]? = some o→listed.getD i false=true→o.dst≠some d)→a.tmps.getD d undef=a0.tmps.getD d undef
 ne:∀ i j oi oj,i≠j→ops[i]? = some oi→ops[j]? = some oj→listed.getD i false=true→listed.getD j false=true→Ne i j (Ce oi a) (Ce oj a)
def POp (P:Program) (ops:Array Oper) (Q:Exit→Act→World→Prop) (R:World→World→Prop) (F:Nat→Value→World→Prop) (Ne:Nat→Nat→Value→Value→Prop) (a0:Act) (w1:World) (i:Nat):Prop:=
 ∀ o,ops[i]? = some o→∀ a w,R w1 w→
  (∀ j oj,ops[j]? = some oj→(∃ e∈o.after,Region.binds .any e=true∧e.on=j)→F j (Ce oj a) w)→
  (∀ e,(∀ (j:Nat) (oj:Oper),ops[j]? = some oj→oj.dst≠some e)→a.tmps.getD e undef=a0.tmps.getD e undef)→
  Region.wanted o (yielded ops a.tmps)=true∧o.wp P a w (fun a' w'=>∃ v,(o.dst=none→v=undef)∧a'=a.put o.dst v∧R w w'∧F i v w'∧∀ j u,j≠i→F j u w→(∀ k ok,ops[k]? = some ok→(∃ e∈o.after,Region.binds .any e=true∧e.on=k)→k≠j→Ne k j (Ce ok a) u)→Ne i j v u) Q
def D4 (ops:Array Oper) (sz:Nat):Bool:=(List.range ops.size).all fun i=>match ops[i]? with
 | none=>false
 | some o=>match o.dst with
  | none=>true
  | some d=>decide (d<sz)&&(List.range ops.size).all fun j=>decide (j=i)||match ops[j]? with|none=>false|some oj=>decide (oj.dst≠some d)
theorem F8 {sz:Nat} (h:D4 ops sz=true) (i:Nat) (o:Oper) (ho:ops[i]? = some o):∀ d,o.dst=some d→d<sz∧∀ j oj,j≠i→ops[j]? = some oj→oj.dst≠some d:=by
 unfold D4 at h;rw [List.all_eq_true] at h;have hi:=(Array.getElem?_eq_some_iff.1 ho).1;have h1:=h i (List.mem_range.2 hi);rw [ho] at h1;simp only at h1;intro d hd;rw [hd] at h1;simp only [Bool.and_eq_true,decide_eq_true_eq,List.all_eq_true,Bool.or_eq_true,List.mem_range] at h1;refine ⟨h1.1,fun j oj hne hoj=>?_⟩;rcases h1.2 j (Array.getElem?_eq_some_iff.1 hoj).1 with h2|h2
 ·exact absurd h2 hne
 ·rw [hoj] at h2
  simpa using h2
theorem Gs (a:Act) (d:Option Tmp) (v:Value):(a.put d v).tmps.size=a.tmps.size∧(a.put d v).defers=a.defers:=by
 cases d with
 | none=>exact ⟨rfl,rfl⟩
 | some d=>exact ⟨Mp a d v,rfl⟩
theorem Jn {sz:Nat} (hd:D4 ops sz=true) {i:Nat} {o:Oper} (ho:ops[i]? = some o) {a:Act} (ha:a.tmps.size=sz) {v:Value} (hv:o.dst=none→v=undef) {j:Nat} {oj:Oper} (hoj:ops[j]? = some oj) :
  Ce oj (a.put o.dst v)=if j=i then v else Ce oj a:=by
 by_cases e:j=i
 ·subst e;rw [ho] at hoj;injection hoj with hoj
  subst hoj;rw [if_pos rfl];unfold Ce;cases hdd:o.dst with
  | none=>exact (hv hdd).symm
  | some d=>
   simp only;rw [D1 _ _ _ _ (by rw [ha];exact (F8 hd j o ho d hdd).1),if_pos rfl]
 ·rw [if_neg e];unfold Ce;cases hdj:oj.dst with
  | none=>rfl
  | some dj=>
   simp only;cases hdd:o.dst with
   | none=>rfl
   | some d=>
    rw [D1 _ _ _ _ (by rw [ha];exact (F8 hd i o ho d hdd).1)];rw [if_neg (fun h=>(F8 hd i o ho d hdd).2 j oj e hoj (by rw [hdj,h]))]
theorem Aev {R:World→World→Prop} (hRt:∀ x y z,R x y→R y z→R x z) {F:Nat→Value→World→Prop} {Ne:Nat→Nat→Value→Value→Prop} (hNe:∀ i j v u,Ne i j v u→Ne j i u v) (hF:∀ i v w w',F i v w→R w w'→F i v w') {a0:Act} {w1:World} {sz:Nat} (hsz:a0.tmps.size=sz) (hd:D4 ops sz=true) {listed:Array Bool} {a:Act} {w:World} (inv:FInvP ops R F Ne a0 w1 listed a w)
  {i:Nat} (hi:i∈Region.ready .any ops listed) (H:POp P ops Q R F Ne a0 w1 i):wpOp P ops Q i (fun a' w'=>FInvP ops R F Ne a0 w1 (listed.setIfInBounds i true) a' w') a w:=by
 obtain ⟨hun,o,ho,hall⟩:=mem_ready.1 hi;have hli:i<listed.size:=by
  rcases Nat.lt_or_ge i listed.size with h|h
  ·exact h
  ·simp [Array.getElem?_eq_none h] at hun
 have hg:∀ j,(listed.setIfInBounds i true).getD j false=true→j=i∨listed.getD j false=true:=fun j hj=>by
  by_cases e:i=j
  ·exact .inl e.symm
  ·rw [getD_set_ne false e] at hj;exact .inr hj
 obtain ⟨hw,hwp⟩:=H o ho a w inv.ext (fun j oj hoj ⟨e,he,hb,hej⟩=>inv.done j oj hoj (by rw [← hej];exact hall e he hb)) (fun e he=>inv.rest e fun j oj hoj _=>he j oj hoj);unfold wpOp;rw [ho];simp only [hw,if_true];refine .inl (Oper.wp_mono (fun a' w' h=>?_) hwp);obtain ⟨v,hvn,rfl,hE,hv,hnw⟩:=h;have has:a.tmps.size=sz:=by rw [inv.size,hsz]
 refine ⟨hRt _ _ _ inv.ext hE,by rw [(Gs a o.dst v).2];exact inv.defers,by rw [(Gs a o.dst v).1];exact inv.size,fun j oj hoj hlj=>?_,fun e he=>?_,fun j k oj ok hjk hoj hok hlj hlk=>?_⟩
 ·rw [Jn hd ho has hvn hoj];by_cases e:j=i
  ·rw [if_pos e,e];exact hv
  ·rw [if_neg e];rcases hg j hlj with h|h
   ·exact absurd h e
   ·exact hF _ _ _ _ (inv.done j oj hoj h) hE
 ·have h1:(a.put o.dst v).tmps.getD e undef=a.tmps.getD e undef:=by
   cases hdd:o.dst with
   | none=>rfl
   | some d=>
    rw [D1 _ _ _ _ (by rw [has];exact (F8 hd i o ho d hdd).1),if_neg];exact fun h=>he i o ho (by simp [hli]) (by rw [hdd,h])
  rw [h1];refine inv.rest e fun j oj hoj hlj=>he j oj hoj ?_
  by_cases e':i=j
  ·subst e';simp [hli]
  ·rw [getD_set_ne false e'];exact hlj
 ·rw [Jn hd ho has hvn hoj,Jn hd ho has hvn hok];by_cases e1:j=i
  ·have e2:k≠i:=fun h=>hjk (by rw [e1,h])
   rw [if_pos e1,if_neg e2,e1];rcases hg k hlk with h|h
   ·exact absurd h e2
   ·exact hnw k _ e2 (inv.done k ok hok h) (fun q oq hoq ⟨e,he,hb,hon⟩ hqk=>inv.ne q k oq ok hqk hoq hok (by rw [← hon];exact hall e he hb) h)
  ·rw [if_neg e1];rcases hg j hlj with h|hlj'
   ·exact absurd h e1
   ·by_cases e2:k=i
    ·rw [if_pos e2,e2];exact hNe _ _ _ _ (hnw j _ e1 (inv.done j oj hoj hlj') (fun q oq hoq ⟨e,he,hb,hon⟩ hqk=>inv.ne q j oq oj hqk hoq hoj (by rw [← hon];exact hall e he hb) hlj'))
    ·rw [if_neg e2];rcases hg k hlk with h|hlk'
     ·exact absurd h e2
     ·exact inv.ne j k oj ok hjk hoj hok hlj' hlk'
theorem Q2 {sz:Nat} (hd:D4 ops sz=true) (a a0:Act) (hsz:a0.tmps.size=sz) (vs:Nat→Value) (hvs:∀ i o,ops[i]? = some o→vs i=Ce o a) (e:Nat) :
  ∀ k,k≤ops.size→((∃ i o,i<k∧ops[i]? = some o∧o.dst=some e)→(Bi ops vs k a0).tmps.getD e undef=a.tmps.getD e undef)∧((∀ i o,i<k→ops[i]? = some o→o.dst≠some e)→(Bi ops vs k a0).tmps.getD e undef=a0.tmps.getD e undef)
 | 0,_=>⟨fun ⟨i,o,h,_⟩=>by omega,fun _=>rfl⟩
 | k+1,hk=>by
  obtain ⟨h1,h2⟩:=Q2 hd a a0 hsz vs hvs e k (by omega);obtain ⟨o,ho⟩:∃ o,ops[k]? = some o:=⟨_,Array.getElem?_eq_getElem (by omega)⟩;have hput:Bi ops vs (k+1) a0=(Bi ops vs k a0).put o.dst (vs k):=by
   show (Bi ops vs k a0).put ((ops[k]?).bind (·.dst)) (vs k)=_;rw [ho];rfl
  have hg:(Bi ops vs (k+1) a0).tmps.getD e undef=if o.dst=some e then a.tmps.getD e undef else (Bi ops vs k a0).tmps.getD e undef:=by
   rw [hput];cases hdd:o.dst with
   | none=>simp [Act.put]
   | some d=>
    rw [D1 _ _ _ _ (by rw [(Ig vs a0 k).1,hsz];exact (F8 hd k o ho d hdd).1)];by_cases e':e=d
    ·subst e';rw [if_pos rfl,if_pos rfl,hvs k o ho];unfold Ce;rw [hdd]
    ·rw [if_neg e',if_neg (fun h=>e' (Option.some.inj h).symm)]
  rw [hg];constructor
  ·rintro ⟨i,o',hi,ho',hd'⟩;by_cases e':o.dst=some e
   ·rw [if_pos e']
   ·rw [if_neg e'];refine h1 ⟨i,o',?_,ho',hd'⟩;by_cases hik:i=k
    ·subst hik;rw [ho] at ho';injection ho' with ho'
     subst ho';exact absurd hd' e'
    ·omega
  ·intro h;rw [if_neg (h k o (by omega) ho)];exact h2 fun i o' hi=>h i o' (by omega)
theorem Aew {R:World→World→Prop} {F:Nat→Value→World→Prop} {Ne:Nat→Nat→Value→Value→Prop} {a0:Act} {w1:World} {sz:Nat} (hsz:a0.tmps.size=sz) (hd:D4 ops sz=true) {listed:Array Bool} {a:Act} {w:World} (inv:FInvP ops R F Ne a0 w1 listed a w) (hall:∀ i,i<ops.size→listed.getD i false=true) :
  ∃ vs:Nat→Value,a=Bi ops vs ops.size a0∧(∀ i,i<ops.size→F i (vs i) w)∧∀ i j,i<ops.size→j<ops.size→i≠j→Ne i j (vs i) (vs j):=by
 obtain ⟨vs,hvs⟩:∃ vs:Nat→Value,∀ i o,ops[i]? = some o→vs i=Ce o a:=⟨fun i=>match ops[i]? with|some o=>Ce o a|none=>undef,fun i o ho=>by simp only [ho]⟩;have get:∀ i,i<ops.size→∃ o,ops[i]? = some o:=fun i hi=>⟨_,Array.getElem?_eq_getElem hi⟩
 refine ⟨vs,?_,fun i hi=>?_,fun i j hi hj hij=>?_⟩
 ·have hg:=fun e=>Q2 hd a a0 hsz vs hvs e ops.size (Nat.le_refl _)
  obtain ⟨s1,s2⟩:=Ig (ops:=ops) vs a0 ops.size;have ht:a.tmps=(Bi ops vs ops.size a0).tmps:=by
   apply Array.ext
   ·rw [s1,inv.size]
   ·intro e h1 h2;have he:a.tmps.getD e undef=(Bi ops vs ops.size a0).tmps.getD e undef:=by
     obtain ⟨g1,g2⟩:=hg e;by_cases hex:∃ i o,i<ops.size∧ops[i]? = some o∧o.dst=some e
     ·exact (g1 hex).symm
     ·have hno:∀ i o,i<ops.size→ops[i]? = some o→o.dst≠some e:=fun i o hi ho hd'=>hex ⟨i,o,hi,ho,hd'⟩
      rw [g2 hno];exact inv.rest e fun i o ho _=>hno i o (Array.getElem?_eq_some_iff.1 ho).1 ho
    rw [Array.getD_eq_getD_getElem?,Array.getD_eq_getD_getElem?,Array.getElem?_eq_getElem h1,Array.getElem?_eq_getElem h2] at he;exact he
  have hdf:=inv.defers;rw [← s2] at hdf;generalize Bi ops vs ops.size a0=b at *;cases a;cases b
  simp only at ht hdf;rw [ht,hdf]
 ·obtain ⟨o,ho⟩:=get i hi;rw [hvs i o ho];exact inv.done i o ho (hall i hi)
 ·obtain ⟨o,ho⟩:=get i hi;obtain ⟨o',ho'⟩:=get j hj;rw [hvs i o ho,hvs j o' ho'];exact inv.ne i j o o' hij ho ho' (hall i hi) (hall j hj)
theorem Q5 {R:World→World→Prop} (hRt:∀ x y z,R x y→R y z→R x z) {F:Nat→Value→World→Prop} {Ne:Nat→Nat→Value→Value→Prop} (hNe:∀ i j v u,Ne i j v u→Ne j i u v) (hF:∀ i v w w',F i v w→R w w'→F i v w') {a0:Act} {w1:World} {sz:Nat} (hsz:a0.tmps.size=sz) (hd:D4 ops sz=true) (hE:Ec ops ops.size=true)
  (hop:∀ i,i<ops.size→POp P ops Q R F Ne a0 w1 i) (hend:∀ (vs:Nat→Value) (w':World),R w1 w'→(∀ i,i<ops.size→F i (vs i) w')→(∀ i j,i<ops.size→j<ops.size→i≠j→Ne i j (vs i) (vs j))→Q .normal (Bi ops vs ops.size a0) w') :
  ∀ (f:Nat) (listed:Array Bool) (a:Act) (w:World),listed.size=ops.size→FInvP ops R F Ne a0 w1 listed a w→unl ops.size listed=f→wpAny P .any ops Q f listed a w
 | 0,listed,a,w,hs,hI,hu=>by
  have hall:=Gi _ listed hu;obtain ⟨vs,rfl,h1,h2⟩:=Aew hsz hd hI hall;refine ⟨?_,hend vs w hI.ext h1 h2⟩;refine List.eq_nil_iff_forall_not_mem.2 fun i hi=>?_
  obtain ⟨hun,o,ho,_⟩:=mem_ready.1 hi;have hio:=(Array.getElem?_eq_some_iff.1 ho).1;have:=hall i hio;have hil:i<listed.size:=by omega
  rw [Array.getD_eq_getD_getElem?,Array.getElem?_eq_getElem hil] at hun this;rw [Option.getD_some] at hun this;rw [this] at hun;cases hun
 | f+1,listed,a,w,hs,hI,hu=>by
  obtain ⟨k,hk,hku,hkl⟩:=Im ops.size listed (by omega);have hkr:=Kl hE hs (Nat.le_refl _) k hk hkl hku;refine ⟨fun h0=>(by rw [h0] at hkr;cases hkr),fun i hi=>?_⟩;obtain ⟨hiu,o,ho,_⟩:=mem_ready.1 hi;have hin:=(Array.getElem?_eq_some_iff.1 ho).1;have hil:i<listed.size:=by omega
  have hiu':listed.getD i false=false:=by
   rw [Array.getD_eq_getD_getElem?,Array.getElem?_eq_getElem hil] at hiu ⊢;exact hiu
  refine wpOp_mono (fun a' w' h=>Q5 hRt hNe hF hsz hd hE hop hend f _ a' w' (by rw [Array.size_setIfInBounds];exact hs) h ?_) (Aev hRt hNe hF hsz hd hI hi (hop i hin));have:=Hv _ listed i hin hil hiu';show unl ops.size (listed.setIfInBounds i true)=f;omega
def Gt (ops:Array Oper) (sz:Nat):Bool:=D4 ops sz&&Ec ops ops.size
theorem Lu {id:Nat} {a0:Act} {w:World} (n sz:Nat) (hn:ops.size=n) (hm:P.follows .mixedOrders=true) (hB:Gt ops sz=true) (hsz:a0.tmps.size=sz) (R:World→World→Prop) (hRr:∀ x,R x x) (hRt:∀ x y z,R x y→R y z→R x z) (F:Nat→Value→World→Prop) (Ne:Nat→Nat→Value→Value→Prop) (hNe:∀ i j v u,Ne i j v u→Ne j i u v) (hF:∀ i v w w',F i v w→R w w'→F i v w')
  (hop:∀ i,i<n→POp P ops Q R F Ne a0 w.drew i) (hend:∀ (vs:Nat→Value) (w':World),R w.drew w'→(∀ i,i<n→F i (vs i) w')→(∀ i j,i<n→j<n→i≠j→Ne i j (vs i) (vs j))→Q .normal (Bi ops vs n a0) w'):(Code.region id ops true).wp P Q a0 w:=by
 subst hn;simp only [Gt,Bool.and_eq_true] at hB;refine wp_region_any hm (Q5 hRt hNe hF hsz hB.1 hB.2 hop hend _ _ a0 w.drew (by simp) ⟨hRr _,rfl,rfl,fun i o _ hl=>(by rw [getD_replicate_false] at hl;cases hl),fun d _=>rfl,fun i j _ _ _ _ _ hl=>(by rw [getD_replicate_false] at hl;cases hl)⟩ ?_);have hu:∀ m,unl m (Array.replicate ops.size false)=m:=fun m=>by
  induction m with
  | zero=>rfl
  | succ m ih=>rw [Ei,ih,getD_replicate_false];simp
 exact hu _
def E3 (ops:Array Oper) (i j dj:Nat):Bool:=(match ops[j]? with|some oj=>decide (oj.dst=some dj)|none=>false)&&Region.waitsFor .any ops i j
def I3 (ops:Array Oper) (i j:Nat):Bool:=(match ops[j]? with|some oj=>decide (oj.dst=none)|none=>false)&&Region.waitsFor .any ops i j
def Ij (ops:Array Oper) (e:Nat):Bool:=(List.range ops.size).all fun j=>match ops[j]? with|none=>true|some oj=>decide (oj.dst≠some e)
theorem Mt {R:World→World→Prop} {F:Nat→Value→World→Prop} {Ne:Nat→Nat→Value→Value→Prop} {a0:Act} {w1:World} {i:Nat} (o:Oper) (h0:ops.toList[i]? = some o) (hg:o.guard=none)
  (H:∀ a w,R w1 w→(∀ j dj,E3 ops i j dj=true→F j (a.tmps.getD dj undef) w)→(∀ j,I3 ops i j=true→F j undef w)→(∀ e,Ij ops e=true→a.tmps.getD e undef=a0.tmps.getD e undef)→
   o.wp P a w (fun a' w'=>∃ v,(o.dst=none→v=undef)∧a'=a.put o.dst v∧R w w'∧F i v w'∧∀ j u,j≠i→F j u w→(∀ k dk,E3 ops i k dk=true→k≠j→Ne k j (a.tmps.getD dk undef) u)→Ne i j v u) Q):POp P ops Q R F Ne a0 w1 i:=by
 intro o' ho' a w hE hdep hkeep;rw [← Array.getElem?_toList,h0] at ho';injection ho' with ho'
 subst ho';have ho:ops[i]? = some o:=by rw [← Array.getElem?_toList];exact h0
 have hwf:∀ j,Region.waitsFor .any ops i j=true→∃ e∈o.after,Region.binds .any e=true∧e.on=j:=fun j h=>by
  obtain ⟨oi,hoi,e,he,hb,hon⟩:=Region.waitsFor_spec h;have:oi=o:=Option.some.inj (hoi.symm.trans ho);subst this;exact ⟨e,he,hb,hon⟩
 have hval:∀ j dj,E3 ops i j dj=true→∃ oj,ops[j]? = some oj∧(∃ e∈o.after,Region.binds .any e=true∧e.on=j)∧Ce oj a=a.tmps.getD dj undef:=fun j dj h=>by
  unfold E3 at h;simp only [Bool.and_eq_true] at h;obtain ⟨h1,h2⟩:=h;cases hoj:ops[j]? with
  | none=>rw [hoj] at h1;cases h1
  | some oj=>
   rw [hoj] at h1;have hdj:oj.dst=some dj:=of_decide_eq_true h1;exact ⟨oj,rfl,hwf j h2,by unfold Ce;rw [hdj]⟩
 refine ⟨by simp [Region.wanted,hg],Oper.wp_mono (fun a' w' ⟨v,h1,h2,h3,h4,h5⟩=>⟨v,h1,h2,h3,h4,fun j u hji hF hd=>h5 j u hji hF fun k dk hk hkj=>by
  obtain ⟨oj,e1,e2,e3⟩:=hval k dk hk;have:=hd k oj e1 e2 hkj;rw [e3] at this;exact this⟩) (H a w hE (fun j dj h=>?_) (fun j h=>?_) (fun e h=>hkeep e fun j oj hoj=>?_))⟩
 ·unfold E3 at h;simp only [Bool.and_eq_true] at h;obtain ⟨h1,h2⟩:=h;cases hoj:ops[j]? with
  | none=>rw [hoj] at h1;cases h1
  | some oj=>
   rw [hoj] at h1;have hdj:oj.dst=some dj:=of_decide_eq_true h1;have:=hdep j oj hoj (hwf j h2);unfold Ce at this;rw [hdj] at this;exact this
 ·unfold I3 at h;simp only [Bool.and_eq_true] at h;obtain ⟨h1,h2⟩:=h;cases hoj:ops[j]? with
  | none=>rw [hoj] at h1;cases h1
  | some oj=>
   rw [hoj] at h1;have hdj:oj.dst=none:=of_decide_eq_true h1;have:=hdep j oj hoj (hwf j h2);unfold Ce at this;rw [hdj] at this;exact this
 ·unfold Ij at h;rw [List.all_eq_true] at h;have:=h j (List.mem_range.2 (Array.getElem?_eq_some_iff.1 hoj).1);rw [hoj] at this;exact of_decide_eq_true this
theorem Aw {R:World→World→Prop} {F:Nat→Value→World→Prop} {Ne:Nat→Nat→Value→Value→Prop} {a0:Act} {w1:World} {i:Nat} (o:Oper) (d:Tmp) (h0:ops.toList[i]? = some o) (hd:o.dst=some d) (hg:o.guard=none)
  (H:∀ a w,R w1 w→(∀ j dj,E3 ops i j dj=true→F j (a.tmps.getD dj undef) w)→(∀ j,I3 ops i j=true→F j undef w)→(∀ e,Ij ops e=true→a.tmps.getD e undef=a0.tmps.getD e undef)→
   o.wp P a w (fun a' w'=>∃ v,a'=a.put (some d) v∧R w w'∧F i v w'∧∀ j u,j≠i→F j u w→Ne i j v u) Q):POp P ops Q R F Ne a0 w1 i:=
 Mt o h0 hg fun a w h1 h2 h3 h4=>Oper.wp_mono (fun a' w' ⟨v,e,h⟩=>⟨v,fun h'=>(by rw [hd] at h';cases h'),by rw [hd];exact e,h.1,h.2.1,fun j u a b _=>h.2.2 j u a b⟩) (H a w h1 h2 h3 h4)
theorem Q9 {R:World→World→Prop} {F:Nat→Value→World→Prop} {Ne:Nat→Nat→Value→Value→Prop} {a0:Act} {w1:World} {i:Nat} (o:Oper) (d:Tmp) (h0:ops.toList[i]? = some o) (hd:o.dst=some d) (hg:o.guard=none)
  (H:∀ a w,R w1 w→(∀ j dj,E3 ops i j dj=true→F j (a.tmps.getD dj undef) w)→(∀ j,I3 ops i j=true→F j undef w)→(∀ e,Ij ops e=true→a.tmps.getD e undef=a0.tmps.getD e undef)→
   o.wp P a w (fun a' w'=>∃ v,a'=a.put (some d) v∧R w w'∧F i v w'∧∀ j u,j≠i→F j u w→(∀ k dk,E3 ops i k dk=true→k≠j→Ne k j (a.tmps.getD dk undef) u)→Ne i j v u) Q):POp P ops Q R F Ne a0 w1 i:=
 Mt o h0 hg fun a w h1 h2 h3 h4=>Oper.wp_mono (fun a' w' ⟨v,e,h⟩=>⟨v,fun h'=>(by rw [hd] at h';cases h'),by rw [hd];exact e,h⟩) (H a w h1 h2 h3 h4)
theorem J6 {R:World→World→Prop} {F:Nat→Value→World→Prop} {Ne:Nat→Nat→Value→Value→Prop} {a0:Act} {w1:World} {i:Nat} (o:Oper) (h0:ops.toList[i]? = some o) (hd:o.dst=none) (hg:o.guard=none)
  (H:∀ a w,R w1 w→(∀ j dj,E3 ops i j dj=true→F j (a.tmps.getD dj undef) w)→(∀ j,I3 ops i j=true→F j undef w)→(∀ e,Ij ops e=true→a.tmps.getD e undef=a0.tmps.getD e undef)→
   o.wp P a w (fun a' w'=>a'=a∧R w w'∧F i undef w'∧∀ j u,j≠i→F j u w→Ne i j undef u) Q):POp P ops Q R F Ne a0 w1 i:=
 Mt o h0 hg fun a w h1 h2 h3 h4=>Oper.wp_mono (fun a' w' ⟨e,h⟩=>⟨undef,fun _=>rfl,by rw [hd];exact e,h.1,h.2.1,fun j u a b _=>h.2.2 j u a b⟩) (H a w h1 h2 h3 h4)
end
end Go.Proofs.YtaiogolidlamiaaGreatDoor
