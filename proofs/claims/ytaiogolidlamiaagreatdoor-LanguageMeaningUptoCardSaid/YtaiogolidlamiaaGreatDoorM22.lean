import Derived.Test.YtaiogolidlamiaaGreatDoorM16
set_option linter.unusedVariables false
set_option linter.unusedSimpArgs false
namespace Go.Proofs.YtaiogolidlamiaaGreatDoor
set_option maxRecDepth 100000
open Go
section
variable {P:Program} {ops:Array Oper} {Q:Exit→Act→World→Prop}
def Ch (o:Oper) (a:Act):Value:=match o.dst with|some d=>a.tmps.getD d undef|none=>undef
structure FInvP (ops:Array Oper) (R:World→World→Prop) (F:Nat→Value→World→Prop) (Ne:Nat→Nat→Value→Value→Prop) (a0:Act) (w1:World) (listed:Array Bool) (a:Act) (w:World):Prop where
 ext:R w1 w
 defers:a.defers=a0.defers
 size:a.tmps.size=a0.tmps.size
 done:∀ i o,ops[i]? = some o→listed.getD i false=true→F i (Ch o a) w
 rest:∀ d,(∀ i o,ops[i]? = some o→listed.getD i false=true→o.dst≠some d)→a.tmps.getD d undef=a0.tmps.getD d undef
 ne:∀ i j oi oj,i≠j→ops[i]? = some oi→ops[j]? = some oj→listed.getD i false=true→listed.getD j false=true→Ne i j (Ch oi a) (Ch oj a)
def POp (P:Program) (ops:Array Oper) (Q:Exit→Act→World→Prop) (R:World→World→Prop) (F:Nat→Value→World→Prop) (Ne:Nat→Nat→Value→Value→Prop) (a0:Act) (w1:World) (i:Nat):Prop:=
 ∀ o,ops[i]? = some o→∀ a w,R w1 w→
  (∀ j oj,ops[j]? = some oj→(∃ e∈o.after,Region.binds .any e=true∧e.on=j)→F j (Ch oj a) w)→
  (∀ e,(∀ (j:Nat) (oj:Oper),ops[j]? = some oj→oj.dst≠some e)→a.tmps.getD e undef=a0.tmps.getD e undef)→
  Region.wanted o (yielded ops a.tmps)=true∧o.wp P a w (fun a' w'=>∃ v,(o.dst=none→v=undef)∧a'=a.put o.dst v∧R w w'∧F i v w'∧∀ j u,j≠i→F j u w→(∀ k ok,ops[k]? = some ok→(∃ e∈o.after,Region.binds .any e=true∧e.on=k)→k≠j→Ne k j (Ch ok a) u)→Ne i j v u) Q
def Ef (ops:Array Oper) (sz:Nat):Bool:=(List.range ops.size).all fun i=>match ops[i]? with
 | none=>false
 | some o=>match o.dst with
  | none=>true
  | some d=>decide (d<sz)&&(List.range ops.size).all fun j=>decide (j=i)||match ops[j]? with|none=>false|some oj=>decide (oj.dst≠some d)
theorem Gs {sz:Nat} (h:Ef ops sz=true) (i:Nat) (o:Oper) (ho:ops[i]? = some o):∀ d,o.dst=some d→d<sz∧∀ j oj,j≠i→ops[j]? = some oj→oj.dst≠some d:=by
 unfold Ef at h;rw [List.all_eq_true] at h;have hi:=(Array.getElem?_eq_some_iff.1 ho).1;have h1:=h i (List.mem_range.2 hi);rw [ho] at h1;simp only at h1;intro d hd;rw [hd] at h1;simp only [Bool.and_eq_true,decide_eq_true_eq,List.all_eq_true,Bool.or_eq_true,List.mem_range] at h1;refine ⟨h1.1,fun j oj hne hoj=>?_⟩;rcases h1.2 j (Array.getElem?_eq_some_iff.1 hoj).1 with h2|h2
 ·exact absurd h2 hne
 ·rw [hoj] at h2
  simpa using h2
theorem Hg (a:Act) (d:Option Tmp) (v:Value):(a.put d v).tmps.size=a.tmps.size∧(a.put d v).defers=a.defers:=by
 cases d with
 | none=>exact ⟨rfl,rfl⟩
 | some d=>exact ⟨Ny a d v,rfl⟩
theorem Ka {sz:Nat} (hd:Ef ops sz=true) {i:Nat} {o:Oper} (ho:ops[i]? = some o) {a:Act} (ha:a.tmps.size=sz) {v:Value} (hv:o.dst=none→v=undef) {j:Nat} {oj:Oper} (hoj:ops[j]? = some oj) :
  Ch oj (a.put o.dst v)=if j=i then v else Ch oj a:=by
 by_cases e:j=i
 ·subst e;rw [ho] at hoj;injection hoj with hoj
  subst hoj;rw [if_pos rfl];unfold Ch;cases hdd:o.dst with
  | none=>exact (hv hdd).symm
  | some d=>
   simp only;rw [Eb _ _ _ _ (by rw [ha];exact (Gs hd j o ho d hdd).1),if_pos rfl]
 ·rw [if_neg e];unfold Ch;cases hdj:oj.dst with
  | none=>rfl
  | some dj=>
   simp only;cases hdd:o.dst with
   | none=>rfl
   | some d=>
    rw [Eb _ _ _ _ (by rw [ha];exact (Gs hd i o ho d hdd).1)];rw [if_neg (fun h=>(Gs hd i o ho d hdd).2 j oj e hoj (by rw [hdj,h]))]
theorem Agn {R:World→World→Prop} (hRt:∀ x y z,R x y→R y z→R x z) {F:Nat→Value→World→Prop} {Ne:Nat→Nat→Value→Value→Prop} (hNe:∀ i j v u,Ne i j v u→Ne j i u v) (hF:∀ i v w w',F i v w→R w w'→F i v w') {a0:Act} {w1:World} {sz:Nat} (hsz:a0.tmps.size=sz) (hd:Ef ops sz=true) {listed:Array Bool} {a:Act} {w:World} (inv:FInvP ops R F Ne a0 w1 listed a w)
  {i:Nat} (hi:i∈Region.ready .any ops listed) (H:POp P ops Q R F Ne a0 w1 i):wpOp P ops Q i (fun a' w'=>FInvP ops R F Ne a0 w1 (listed.setIfInBounds i true) a' w') a w:=by
 obtain ⟨hun,o,ho,hall⟩:=mem_ready.1 hi;have hli:i<listed.size:=by
  rcases Nat.lt_or_ge i listed.size with h|h
  ·exact h
  ·simp [Array.getElem?_eq_none h] at hun
 have hg:∀ j,(listed.setIfInBounds i true).getD j false=true→j=i∨listed.getD j false=true:=fun j hj=>by
  by_cases e:i=j
  ·exact .inl e.symm
  ·rw [getD_set_ne false e] at hj;exact .inr hj
 obtain ⟨hw,hwp⟩:=H o ho a w inv.ext (fun j oj hoj ⟨e,he,hb,hej⟩=>inv.done j oj hoj (by rw [← hej];exact hall e he hb)) (fun e he=>inv.rest e fun j oj hoj _=>he j oj hoj);unfold wpOp;rw [ho];simp only [hw,if_true];refine .inl (Oper.wp_mono (fun a' w' h=>?_) hwp);obtain ⟨v,hvn,rfl,hE,hv,hnw⟩:=h;have has:a.tmps.size=sz:=by rw [inv.size,hsz]
 refine ⟨hRt _ _ _ inv.ext hE,by rw [(Hg a o.dst v).2];exact inv.defers,by rw [(Hg a o.dst v).1];exact inv.size,fun j oj hoj hlj=>?_,fun e he=>?_,fun j k oj ok hjk hoj hok hlj hlk=>?_⟩
 ·rw [Ka hd ho has hvn hoj];by_cases e:j=i
  ·rw [if_pos e,e];exact hv
  ·rw [if_neg e];rcases hg j hlj with h|h
   ·exact absurd h e
   ·exact hF _ _ _ _ (inv.done j oj hoj h) hE
 ·have h1:(a.put o.dst v).tmps.getD e undef=a.tmps.getD e undef:=by
   cases hdd:o.dst with
   | none=>rfl
   | some d=>
    rw [Eb _ _ _ _ (by rw [has];exact (Gs hd i o ho d hdd).1),if_neg];exact fun h=>he i o ho (by simp [hli]) (by rw [hdd,h])
  rw [h1];refine inv.rest e fun j oj hoj hlj=>he j oj hoj ?_
  by_cases e':i=j
  ·subst e';simp [hli]
  ·rw [getD_set_ne false e'];exact hlj
 ·rw [Ka hd ho has hvn hoj,Ka hd ho has hvn hok];by_cases e1:j=i
  ·have e2:k≠i:=fun h=>hjk (by rw [e1,h])
   rw [if_pos e1,if_neg e2,e1];rcases hg k hlk with h|h
   ·exact absurd h e2
   ·exact hnw k _ e2 (inv.done k ok hok h) (fun q oq hoq ⟨e,he,hb,hon⟩ hqk=>inv.ne q k oq ok hqk hoq hok (by rw [← hon];exact hall e he hb) h)
  ·rw [if_neg e1];rcases hg j hlj with h|hlj'
   ·exact absurd h e1
   ·by_cases e2:k=i
    ·rw [if_pos e2,e2];exact hNe _ _ _ _ (hnw j _ e1 (inv.done j oj hoj hlj') (fun q oq hoq ⟨e,he,hb,hon⟩ hqk=>inv.ne q j oq oj hqk hoq hoj (by rw [← hon];exact hall e he hb) hlj'))
    ·rw [if_neg e2];rcases hg k hlk with h|hlk'
     ·exact absurd h e2
     ·exact inv.ne j k oj ok hjk hoj hok hlj' hlk'
theorem Ss {sz:Nat} (hd:Ef ops sz=true) (a a0:Act) (hsz:a0.tmps.size=sz) (vs:Nat→Value) (hvs:∀ i o,ops[i]? = some o→vs i=Ch o a) (e:Nat) :
  ∀ k,k≤ops.size→((∃ i o,i<k∧ops[i]? = some o∧o.dst=some e)→(Ba ops vs k a0).tmps.getD e undef=a.tmps.getD e undef)∧((∀ i o,i<k→ops[i]? = some o→o.dst≠some e)→(Ba ops vs k a0).tmps.getD e undef=a0.tmps.getD e undef)
 | 0,_=>⟨fun ⟨i,o,h,_⟩=>by omega,fun _=>rfl⟩
 | k+1,hk=>by
  obtain ⟨h1,h2⟩:=Ss hd a a0 hsz vs hvs e k (by omega);obtain ⟨o,ho⟩:∃ o,ops[k]? = some o:=⟨_,Array.getElem?_eq_getElem (by omega)⟩;have hput:Ba ops vs (k+1) a0=(Ba ops vs k a0).put o.dst (vs k):=by
   show (Ba ops vs k a0).put ((ops[k]?).bind (·.dst)) (vs k)=_;rw [ho];rfl
  have hg:(Ba ops vs (k+1) a0).tmps.getD e undef=if o.dst=some e then a.tmps.getD e undef else (Ba ops vs k a0).tmps.getD e undef:=by
   rw [hput];cases hdd:o.dst with
   | none=>simp [Act.put]
   | some d=>
    rw [Eb _ _ _ _ (by rw [(Iz vs a0 k).1,hsz];exact (Gs hd k o ho d hdd).1)];by_cases e':e=d
    ·subst e';rw [if_pos rfl,if_pos rfl,hvs k o ho];unfold Ch;rw [hdd]
    ·rw [if_neg e',if_neg (fun h=>e' (Option.some.inj h).symm)]
  rw [hg];constructor
  ·rintro ⟨i,o',hi,ho',hd'⟩;by_cases e':o.dst=some e
   ·rw [if_pos e']
   ·rw [if_neg e'];refine h1 ⟨i,o',?_,ho',hd'⟩;by_cases hik:i=k
    ·subst hik;rw [ho] at ho';injection ho' with ho'
     subst ho';exact absurd hd' e'
    ·omega
  ·intro h;rw [if_neg (h k o (by omega) ho)];exact h2 fun i o' hi=>h i o' (by omega)
theorem Ago {R:World→World→Prop} {F:Nat→Value→World→Prop} {Ne:Nat→Nat→Value→Value→Prop} {a0:Act} {w1:World} {sz:Nat} (hsz:a0.tmps.size=sz) (hd:Ef ops sz=true) {listed:Array Bool} {a:Act} {w:World} (inv:FInvP ops R F Ne a0 w1 listed a w) (hall:∀ i,i<ops.size→listed.getD i false=true) :
  ∃ vs:Nat→Value,a=Ba ops vs ops.size a0∧(∀ i,i<ops.size→F i (vs i) w)∧∀ i j,i<ops.size→j<ops.size→i≠j→Ne i j (vs i) (vs j):=by
 obtain ⟨vs,hvs⟩:∃ vs:Nat→Value,∀ i o,ops[i]? = some o→vs i=Ch o a:=⟨fun i=>match ops[i]? with|some o=>Ch o a|none=>undef,fun i o ho=>by simp only [ho]⟩;have get:∀ i,i<ops.size→∃ o,ops[i]? = some o:=fun i hi=>⟨_,Array.getElem?_eq_getElem hi⟩
 refine ⟨vs,?_,fun i hi=>?_,fun i j hi hj hij=>?_⟩
 ·have hg:=fun e=>Ss hd a a0 hsz vs hvs e ops.size (Nat.le_refl _)
  obtain ⟨s1,s2⟩:=Iz (ops:=ops) vs a0 ops.size;have ht:a.tmps=(Ba ops vs ops.size a0).tmps:=by
   apply Array.ext
   ·rw [s1,inv.size]
   ·intro e h1 h2;have he:a.tmps.getD e undef=(Ba ops vs ops.size a0).tmps.getD e undef:=by
     obtain ⟨g1,g2⟩:=hg e;by_cases hex:∃ i o,i<ops.size∧ops[i]? = some o∧o.dst=some e
     ·exact (g1 hex).symm
     ·have hno:∀ i o,i<ops.size→ops[i]? = some o→o.dst≠some e:=fun i o hi ho hd'=>hex ⟨i,o,hi,ho,hd'⟩
      rw [g2 hno];exact inv.rest e fun i o ho _=>hno i o (Array.getElem?_eq_some_iff.1 ho).1 ho
    rw [Array.getD_eq_getD_getElem?,Array.getD_eq_getD_getElem?,Array.getElem?_eq_getElem h1,Array.getElem?_eq_getElem h2] at he;exact he
  have hdf:=inv.defers;rw [← s2] at hdf;generalize Ba ops vs ops.size a0=b at *;cases a;cases b
  simp only at ht hdf;rw [ht,hdf]
 ·obtain ⟨o,ho⟩:=get i hi;rw [hvs i o ho];exact inv.done i o ho (hall i hi)
 ·obtain ⟨o,ho⟩:=get i hi;obtain ⟨o',ho'⟩:=get j hj;rw [hvs i o ho,hvs j o' ho'];exact inv.ne i j o o' hij ho ho' (hall i hi) (hall j hj)
theorem Sw {R:World→World→Prop} (hRt:∀ x y z,R x y→R y z→R x z) {F:Nat→Value→World→Prop} {Ne:Nat→Nat→Value→Value→Prop} (hNe:∀ i j v u,Ne i j v u→Ne j i u v) (hF:∀ i v w w',F i v w→R w w'→F i v w') {a0:Act} {w1:World} {sz:Nat} (hsz:a0.tmps.size=sz) (hd:Ef ops sz=true) (hE:En ops ops.size=true)
  (hop:∀ i,i<ops.size→POp P ops Q R F Ne a0 w1 i) (hend:∀ (vs:Nat→Value) (w':World),R w1 w'→(∀ i,i<ops.size→F i (vs i) w')→(∀ i j,i<ops.size→j<ops.size→i≠j→Ne i j (vs i) (vs j))→Q .normal (Ba ops vs ops.size a0) w') :
  ∀ (f:Nat) (listed:Array Bool) (a:Act) (w:World),listed.size=ops.size→FInvP ops R F Ne a0 w1 listed a w→unl ops.size listed=f→wpAny P .any ops Q f listed a w
 | 0,listed,a,w,hs,hI,hu=>by
  have hall:=G5 _ listed hu;obtain ⟨vs,rfl,h1,h2⟩:=Ago hsz hd hI hall;refine ⟨?_,hend vs w hI.ext h1 h2⟩;refine List.eq_nil_iff_forall_not_mem.2 fun i hi=>?_
  obtain ⟨hun,o,ho,_⟩:=mem_ready.1 hi;have hio:=(Array.getElem?_eq_some_iff.1 ho).1;have:=hall i hio;have hil:i<listed.size:=by omega
  rw [Array.getD_eq_getD_getElem?,Array.getElem?_eq_getElem hil] at hun this;rw [Option.getD_some] at hun this;rw [this] at hun;cases hun
 | f+1,listed,a,w,hs,hI,hu=>by
  obtain ⟨k,hk,hku,hkl⟩:=I5 ops.size listed (by omega);have hkr:=Lf hE hs (Nat.le_refl _) k hk hkl hku;refine ⟨fun h0=>(by rw [h0] at hkr;cases hkr),fun i hi=>?_⟩;obtain ⟨hiu,o,ho,_⟩:=mem_ready.1 hi;have hin:=(Array.getElem?_eq_some_iff.1 ho).1;have hil:i<listed.size:=by omega
  have hiu':listed.getD i false=false:=by
   rw [Array.getD_eq_getD_getElem?,Array.getElem?_eq_getElem hil] at hiu ⊢;exact hiu
  refine wpOp_mono (fun a' w' h=>Sw hRt hNe hF hsz hd hE hop hend f _ a' w' (by rw [Array.size_setIfInBounds];exact hs) h ?_) (Agn hRt hNe hF hsz hd hI hi (hop i hin));have:=Im _ listed i hin hil hiu';show unl ops.size (listed.setIfInBounds i true)=f;omega
def Hh (ops:Array Oper) (sz:Nat):Bool:=Ef ops sz&&En ops ops.size
theorem Mt {id:Nat} {a0:Act} {w:World} (n sz:Nat) (hn:ops.size=n) (hm:P.follows .mixedOrders=true) (hB:Hh ops sz=true) (hsz:a0.tmps.size=sz) (R:World→World→Prop) (hRr:∀ x,R x x) (hRt:∀ x y z,R x y→R y z→R x z) (F:Nat→Value→World→Prop) (Ne:Nat→Nat→Value→Value→Prop) (hNe:∀ i j v u,Ne i j v u→Ne j i u v) (hF:∀ i v w w',F i v w→R w w'→F i v w')
  (hop:∀ i,i<n→POp P ops Q R F Ne a0 w.drew i) (hend:∀ (vs:Nat→Value) (w':World),R w.drew w'→(∀ i,i<n→F i (vs i) w')→(∀ i j,i<n→j<n→i≠j→Ne i j (vs i) (vs j))→Q .normal (Ba ops vs n a0) w'):(Code.region id ops true).wp P Q a0 w:=by
 subst hn;simp only [Hh,Bool.and_eq_true] at hB;refine wp_region_any hm (Sw hRt hNe hF hsz hB.1 hB.2 hop hend _ _ a0 w.drew (by simp) ⟨hRr _,rfl,rfl,fun i o _ hl=>(by rw [getD_replicate_false] at hl;cases hl),fun d _=>rfl,fun i j _ _ _ _ _ hl=>(by rw [getD_replicate_false] at hl;cases hl)⟩ ?_);have hu:∀ m,unl m (Array.replicate ops.size false)=m:=fun m=>by
  induction m with
  | zero=>rfl
  | succ m ih=>rw [Es,ih,getD_replicate_false];simp
 exact hu _
def Fh (ops:Array Oper) (i j dj:Nat):Bool:=(match ops[j]? with|some oj=>decide (oj.dst=some dj)|none=>false)&&Region.waitsFor .any ops i j
def Jj (ops:Array Oper) (i j:Nat):Bool:=(match ops[j]? with|some oj=>decide (oj.dst=none)|none=>false)&&Region.waitsFor .any ops i j
def I2 (ops:Array Oper) (e:Nat):Bool:=(List.range ops.size).all fun j=>match ops[j]? with|none=>true|some oj=>decide (oj.dst≠some e)
theorem N4 {R:World→World→Prop} {F:Nat→Value→World→Prop} {Ne:Nat→Nat→Value→Value→Prop} {a0:Act} {w1:World} {i:Nat} (o:Oper) (h0:ops.toList[i]? = some o) (hg:o.guard=none)
  (H:∀ a w,R w1 w→(∀ j dj,Fh ops i j dj=true→F j (a.tmps.getD dj undef) w)→(∀ j,Jj ops i j=true→F j undef w)→(∀ e,I2 ops e=true→a.tmps.getD e undef=a0.tmps.getD e undef)→
   o.wp P a w (fun a' w'=>∃ v,(o.dst=none→v=undef)∧a'=a.put o.dst v∧R w w'∧F i v w'∧∀ j u,j≠i→F j u w→(∀ k dk,Fh ops i k dk=true→k≠j→Ne k j (a.tmps.getD dk undef) u)→Ne i j v u) Q):POp P ops Q R F Ne a0 w1 i:=by
 intro o' ho' a w hE hdep hkeep;rw [← Array.getElem?_toList,h0] at ho';injection ho' with ho'
 subst ho';have ho:ops[i]? = some o:=by rw [← Array.getElem?_toList];exact h0
 have hwf:∀ j,Region.waitsFor .any ops i j=true→∃ e∈o.after,Region.binds .any e=true∧e.on=j:=fun j h=>by
  obtain ⟨oi,hoi,e,he,hb,hon⟩:=Region.waitsFor_spec h;have:oi=o:=Option.some.inj (hoi.symm.trans ho);subst this;exact ⟨e,he,hb,hon⟩
 have hval:∀ j dj,Fh ops i j dj=true→∃ oj,ops[j]? = some oj∧(∃ e∈o.after,Region.binds .any e=true∧e.on=j)∧Ch oj a=a.tmps.getD dj undef:=fun j dj h=>by
  unfold Fh at h;simp only [Bool.and_eq_true] at h;obtain ⟨h1,h2⟩:=h;cases hoj:ops[j]? with
  | none=>rw [hoj] at h1;cases h1
  | some oj=>
   rw [hoj] at h1;have hdj:oj.dst=some dj:=of_decide_eq_true h1;exact ⟨oj,rfl,hwf j h2,by unfold Ch;rw [hdj]⟩
 refine ⟨by simp [Region.wanted,hg],Oper.wp_mono (fun a' w' ⟨v,h1,h2,h3,h4,h5⟩=>⟨v,h1,h2,h3,h4,fun j u hji hF hd=>h5 j u hji hF fun k dk hk hkj=>by
  obtain ⟨oj,e1,e2,e3⟩:=hval k dk hk;have:=hd k oj e1 e2 hkj;rw [e3] at this;exact this⟩) (H a w hE (fun j dj h=>?_) (fun j h=>?_) (fun e h=>hkeep e fun j oj hoj=>?_))⟩
 ·unfold Fh at h;simp only [Bool.and_eq_true] at h;obtain ⟨h1,h2⟩:=h;cases hoj:ops[j]? with
  | none=>rw [hoj] at h1;cases h1
  | some oj=>
   rw [hoj] at h1;have hdj:oj.dst=some dj:=of_decide_eq_true h1;have:=hdep j oj hoj (hwf j h2);unfold Ch at this;rw [hdj] at this;exact this
 ·unfold Jj at h;simp only [Bool.and_eq_true] at h;obtain ⟨h1,h2⟩:=h;cases hoj:ops[j]? with
  | none=>rw [hoj] at h1;cases h1
  | some oj=>
   rw [hoj] at h1;have hdj:oj.dst=none:=of_decide_eq_true h1;have:=hdep j oj hoj (hwf j h2);unfold Ch at this;rw [hdj] at this;exact this
 ·unfold I2 at h;rw [List.all_eq_true] at h;have:=h j (List.mem_range.2 (Array.getElem?_eq_some_iff.1 hoj).1);rw [hoj] at this;exact of_decide_eq_true this
theorem Ay {R:World→World→Prop} {F:Nat→Value→World→Prop} {Ne:Nat→Nat→Value→Value→Prop} {a0:Act} {w1:World} {i:Nat} (o:Oper) (d:Tmp) (h0:ops.toList[i]? = some o) (hd:o.dst=some d) (hg:o.guard=none)
  (H:∀ a w,R w1 w→(∀ j dj,Fh ops i j dj=true→F j (a.tmps.getD dj undef) w)→(∀ j,Jj ops i j=true→F j undef w)→(∀ e,I2 ops e=true→a.tmps.getD e undef=a0.tmps.getD e undef)→
   o.wp P a w (fun a' w'=>∃ v,a'=a.put (some d) v∧R w w'∧F i v w'∧∀ j u,j≠i→F j u w→Ne i j v u) Q):POp P ops Q R F Ne a0 w1 i:=
 N4 o h0 hg fun a w h1 h2 h3 h4=>Oper.wp_mono (fun a' w' ⟨v,e,h⟩=>⟨v,fun h'=>(by rw [hd] at h';cases h'),by rw [hd];exact e,h.1,h.2.1,fun j u a b _=>h.2.2 j u a b⟩) (H a w h1 h2 h3 h4)
theorem S0 {R:World→World→Prop} {F:Nat→Value→World→Prop} {Ne:Nat→Nat→Value→Value→Prop} {a0:Act} {w1:World} {i:Nat} (o:Oper) (d:Tmp) (h0:ops.toList[i]? = some o) (hd:o.dst=some d) (hg:o.guard=none)
  (H:∀ a w,R w1 w→(∀ j dj,Fh ops i j dj=true→F j (a.tmps.getD dj undef) w)→(∀ j,Jj ops i j=true→F j undef w)→(∀ e,I2 ops e=true→a.tmps.getD e undef=a0.tmps.getD e undef)→
   o.wp P a w (fun a' w'=>∃ v,a'=a.put (some d) v∧R w w'∧F i v w'∧∀ j u,j≠i→F j u w→(∀ k dk,Fh ops i k dk=true→k≠j→Ne k j (a.tmps.getD dk undef) u)→Ne i j v u) Q):POp P ops Q R F Ne a0 w1 i:=
 N4 o h0 hg fun a w h1 h2 h3 h4=>Oper.wp_mono (fun a' w' ⟨v,e,h⟩=>⟨v,fun h'=>(by rw [hd] at h';cases h'),by rw [hd];exact e,h⟩) (H a w h1 h2 h3 h4)
theorem Kz {R:World→World→Prop} {F:Nat→Value→World→Prop} {Ne:Nat→Nat→Value→Value→Prop} {a0:Act} {w1:World} {i:Nat} (o:Oper) (h0:ops.toList[i]? = some o) (hd:o.dst=none) (hg:o.guard=none)
  (H:∀ a w,R w1 w→(∀ j dj,Fh ops i j dj=true→F j (a.tmps.getD dj undef) w)→(∀ j,Jj ops i j=true→F j undef w)→(∀ e,I2 ops e=true→a.tmps.getD e undef=a0.tmps.getD e undef)→
   o.wp P a w (fun a' w'=>a'=a∧R w w'∧F i undef w'∧∀ j u,j≠i→F j u w→Ne i j undef u) Q):POp P ops Q R F Ne a0 w1 i:=
 N4 o h0 hg fun a w h1 h2 h3 h4=>Oper.wp_mono (fun a' w' ⟨e,h⟩=>⟨undef,fun _=>rfl,by rw [hd];exact e,h.1,h.2.1,fun j u a b _=>h.2.2 j u a b⟩) (H a w h1 h2 h3 h4)
end
open Go Go.RowKit
structure Prg (w1 wF x y:World):Prop where
 os:y.os=x.os
 tape:y.tape=x.tape
 output:y.output=x.output
 size:x.heap.size≤y.heap.size
 old:∀ k,k<w1.heap.size→y.heap[k]? = x.heap[k]?∨y.heap[k]? = wF.heap[k]?
 new:∀ k,w1.heap.size≤k→k<x.heap.size→y.heap[k]? = x.heap[k]?
theorem Prg.refl (w1 wF x:World):Prg w1 wF x x:=⟨rfl,rfl,rfl,Nat.le_refl _,fun _ _=>.inl rfl,fun _ _ _=>rfl⟩
theorem Prg.trans (w1 wF x y z:World) (h:Prg w1 wF x y) (k:Prg w1 wF y z):Prg w1 wF x z where
 os:=k.os.trans h.os
 tape:=k.tape.trans h.tape
 output:=k.output.trans h.output
 size:=Nat.le_trans h.size k.size
 old:=fun j hj=>by
  rcases k.old j hj with h1|h1
  ·rw [h1];exact h.old j hj
  ·exact .inr h1
 new:=fun j h1 h2=>by rw [k.new j h1 (Nat.lt_of_lt_of_le h2 h.size),h.new j h1 h2]
theorem Prg.of_ext {w1 wF x y:World} (h:Ext x y) (hs:w1.heap.size≤x.heap.size):Prg w1 wF x y:=
 ⟨h.below.os,h.below.tape,h.below.output,h.size,fun k hk=>.inl (h.block (by omega)),fun k _ hk=>h.block hk⟩
theorem Prg.keep {w1 wF W:World} (h:Prg w1 wF w1 W) {k:Nat} {o:Obj} (hk:w1.heap[k]? = some o) (hF:wF.heap[k]? = some o):W.heap[k]? = some o:=by
 have hlt:k<w1.heap.size:=(Array.getElem?_eq_some_iff.1 hk).1;rcases h.old k hlt with h1|h1
 ·rw [h1,hk]
 ·rw [h1,hF]
theorem Prg.cell {w1 wF W:World} (h:Prg w1 wF w1 W) {p:Addr} {v:Value} (hk:w1.cell? p=some v) (hl:p.block<w1.heap.size) (hF:wF.heap[p.block]? = w1.heap[p.block]?):W.cell? p=some v:=by
 have hb:W.heap[p.block]? = w1.heap[p.block]? := by
  rcases h.old p.block hl with h1|h1
  ·exact h1
  ·rw [h1,hF]
 rw [World.cell?_of_block hb];exact hk
theorem Prg.turned {w1 wF x y:World} (h:Prg w1 wF x y) {k:Nat} (hk:k<w1.heap.size) (hx:x.heap[k]? = wF.heap[k]?):y.heap[k]? = wF.heap[k]? := by
 rcases h.old k hk with h1|h1
 ·rw [h1,hx]
 ·exact h1
theorem Prg.done {w1 wF W:World} (h:Prg w1 wF w1 W) (hs:wF.heap.size=w1.heap.size) (ho:wF.os=w1.os) (ht:wF.tape=w1.tape) (hu:wF.output=w1.output) (hall:∀ k,k<w1.heap.size→wF.heap[k]? = w1.heap[k]?∨W.heap[k]? = wF.heap[k]?):Ext wF W:=by
 refine ⟨⟨by rw [h.os,ho],by rw [h.tape,ht],by rw [h.output,hu],by rw [hs];exact h.size,fun k hk=>?_⟩⟩;rw [hs] at hk;rcases hall k hk with h1|h1
 ·rcases h.old k hk with h2|h2
  ·rw [h2,h1]
  ·exact h2
 ·exact h1
theorem Prg.store {w1 wF W:World} (h:Prg w1 wF w1 W) {g o:Nat} {C:Array Value} {e:TypeId} {v:Value} (h1:w1.heap[g]? = some (.cells C e (0,0))) (hF:wF.heap[g]? = some (.cells (C.setIfInBounds o v) e (0,0))) (ho:o<C.size) :
  (∃ u,W.cell? ⟨g,o,none⟩=some u)∧W.frozen? ⟨g,o,none⟩=false∧Prg w1 wF W (W.setCell ⟨g,o,none⟩ v)∧(W.setCell ⟨g,o,none⟩ v).heap[g]? = wF.heap[g]? := by
 have hlt:g<w1.heap.size:=(Array.getElem?_eq_some_iff.1 h1).1;obtain ⟨D,hD,hDs,hDo⟩:∃ D,W.heap[g]? = some (.cells D e (0,0))∧D.size=C.size∧D.setIfInBounds o v=C.setIfInBounds o v:=by
  rcases h.old g hlt with h2|h2
  ·exact ⟨C,by rw [h2,h1],rfl,rfl⟩
  ·exact ⟨C.setIfInBounds o v,by rw [h2,hF],by simp,by simp⟩
 have hse:=setCell_eq_setRow W g o D e (0,0) v hD;rw [hDo] at hse;have hh:(W.setCell ⟨g,o,none⟩ v).heap[g]? = wF.heap[g]? := by
  rw [hse,hF];exact setRow_heap W g _ _ _ _ hD
 refine ⟨⟨D[o]'(by omega),?_⟩,frozen_of_row W g o D e hD,?_,hh⟩
 ·rw [cell_of_row W g o D e _ hD];exact Array.getElem?_eq_getElem (by omega)
 ·rw [hse] at hh ⊢;refine ⟨rfl,rfl,rfl,by rw [size_setRow];exact Nat.le_refl _,fun k _=>?_,fun k hk _=>?_⟩
  ·by_cases e':k=g
   ·subst e';exact .inr hh
   ·exact .inl (setRow_other W g k _ e')
  ·exact setRow_other W g k _ (by omega)
theorem Kj (W:World) (g o:Nat) (v:Value) {C:Array Value} {e:TypeId} (h:W.heap[g]? = some (.cells C e (0,0))) :
  (W.setCell ⟨g,o,none⟩ v).heap.size=W.heap.size∧(W.setCell ⟨g,o,none⟩ v).os=W.os∧(W.setCell ⟨g,o,none⟩ v).tape=W.tape∧(W.setCell ⟨g,o,none⟩ v).output=W.output∧
  (W.setCell ⟨g,o,none⟩ v).heap[g]? = some (.cells (C.setIfInBounds o v) e (0,0))∧∀ k,k≠g→(W.setCell ⟨g,o,none⟩ v).heap[k]? = W.heap[k]? := by
 rw [setCell_eq_setRow W g o C e (0,0) v h];exact ⟨size_setRow _ _ _,rfl,rfl,rfl,setRow_heap W g _ _ _ _ h,fun k hk=>setRow_other W g k _ hk⟩
theorem Fv {W:World} {base e g n cap:Nat} {xs:List Value} (h:W.ownsRow base e 1 (.slice (some ⟨g,0,none⟩) n cap) n xs):∃ C,W.heap[g]? = some (.cells C e (0,0))∧n≤C.size:=by
 obtain ⟨_,⟨h1,_⟩|⟨g',cap',cur,hv,_,hg,hn,_,hs,_⟩⟩:=h
 ·cases h1
 ·injection hv with h1 h2 h3
  injection h1 with h1
  injection h1 with h1
  subst h1;subst h3;exact ⟨cur,hg,by omega⟩
theorem Ev {W:World} {base e size:Nat} {v:Value} {n:Nat} {xs:List Value} (h:W.ownsRow base e size v n xs) {g:Nat} {cs:Array Value} {t:TypeId} {fr:Nat × Nat} (hg:W.heap[g]? = some (.cells cs t fr)) (ht:t≠e):v.ownBlock=none∨v.ownBlock≠some g:=by
 obtain ⟨_,⟨rfl,_⟩|⟨g',cap',cur,rfl,_,hg',_⟩⟩:=h
 ·exact .inl rfl
 ·refine .inr fun e'=>?_
  have:g'=g:=Option.some.inj e';subst this;rw [hg'] at hg;injection hg with hg
  injection hg with _ h2 _
  exact ht h2.symm
def Bo (f:Nat→Nat) (m k:Nat):List Nat:=(List.range m).map fun q=>if q<k then f q else 0
theorem C4 (f:Nat→Nat) (m k:Nat):(Bo f m k).length=m:=by simp [Bo]
theorem Jf (f:Nat→Nat) (m:Nat):Bo f m 0=List.replicate m 0:=by
 apply List.ext_getElem?;intro i;simp only [Bo,List.getElem?_map,List.getElem?_replicate,Nat.not_lt_zero,if_false];by_cases h:i<m
 ·simp [h]
 ·simp [h]
theorem Lo (f:Nat→Nat) (m:Nat):Bo f m m=(List.range m).map f:=by
 unfold Bo;exact List.map_congr_left fun q hq=>if_pos (List.mem_range.1 hq)
theorem Gr (f:Nat→Nat) (m k:Nat) (hk:k<m):(Bo f m k).set k (f k)=Bo f m (k+1):=by
 apply List.ext_getElem?;intro i;rw [List.getElem?_set,C4];simp only [Bo,List.getElem?_map];by_cases e:k=i
 ·subst e;simp [hk]
 ·by_cases hi:i<m
  ·simp only [List.getElem?_range hi,Option.map_some,e,if_false];by_cases hik:i<k
   ·simp [hik,Nat.lt_succ_of_lt hik]
   ·have:¬ i<k+1:=by omega
    simp [hik,this]
  ·simp [e,hi]
end Go.Proofs.YtaiogolidlamiaaGreatDoor
