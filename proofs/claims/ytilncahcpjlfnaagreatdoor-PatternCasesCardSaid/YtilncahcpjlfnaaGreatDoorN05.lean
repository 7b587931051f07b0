import Derived.Test.YtilncahcpjlfnaaGreatDoorN03
import Derived.Test.YtilncahcpjlfnaaGreatDoorN04
import Derived.Test.YtilncahcpjlfnaaGreatDoorN02
import Derived.Deep.MidRow
import Derived.Laws.EntriesVeiled
set_option linter.unusedVariables false
set_option linter.unusedSimpArgs false
set_option maxRecDepth 100000
set_option maxHeartbeats 2000000
open Array renaming getD_eq_getD_getElem? → Ϗ, getElem?_eq_getElem → ϗ, replicate → ä, getElem?_toList → Ϲ, getElem?_eq_some_iff → Ϙ
open Bool renaming false → Ε, true → Α, and_eq_true → ς, or_eq_true → Ô, false_eq_true → Í, eq_iff_iff → ϴ
open Classical renaming byContradiction → Å
open Go renaming Oper → Ϭ, Value → Δ, World → Γ, Act → ë, undef → δ, Program → Ö, yielded → ð, mem_ready → ý, getD_replicate_false → ϛ, execOp → ö, size_setRow → ì, setRow_heap → Φ, Calls → Ϟ, heap_alloc2_new → ύ, bodyPost_ret → ω, results_cell_row → Æ, cell_of_row → Τ, frozen_of_row → Â, setCell_eq_setRow → ϧ, wpList_load_mid → é
open Go.Act renaming put → θ, eval → ß
open Go.Ending renaming returned → Ω
open Go.IntKind renaming i64 → Χ, u64 → γ, u64 → ϩ
open Go.Lib renaming hid → Z
open Go.Obj renaming cells → Β
open Go.Operand renaming tmp → ε
open Go.Proofs.Tryz renaming zeroCells84 → Ψ, prog → Ι, underlying40 → Ρ, zeroCells82 → Ϝ, underlying84 → ϭ, underlying103 → È
open Go.Region renaming wanted → Ϡ, ready → Ϯ, waitsFor → ñ
open Go.Value renaming pointer → η, slice → U, tuple → ϙ, int → ϲ, oneCell' → ξ
open Go.World renaming size_alloc → Ο
open List renaming range → π, all_eq_true → Þ, mem_range → ώ, length_map → ι, mem_map → Ϫ, drop_succ_cons → ϸ, drop_zero → À, getElem?_toArray → Ϸ, getElem?_cons_zero → Ϻ, getElem?_cons_succ → ϻ, setIfInBounds_toArray → Η, set_cons_zero → Μ, set_cons_succ → Λ, nodup_iff_pairwise_ne → Ù, getElem?_map → υ
open Nat renaming le_refl → Υ, zero_add → Ϣ, lt_of_lt_of_le → Ξ, le_trans → μ
open Ne renaming symm → þ
open Option renaming some → I, getD_some → Ç, none → J, bind_some → ò
open Option.some renaming inj → ϓ
namespace Go.Proofs.YtilncahcpjlfnaaGreatDoor
open Go
section
variable {P:Program} {ops:Array Oper} {Q:Exit->Act->World->Prop} {n:Nat}
structure FInvR (ops:Array Ϭ) (n:Nat) (F:Nat->Δ->Γ->Prop) (Ne:Nat->Nat->Δ->Δ->Prop) (a0:ë) (w1:Γ) (listed:Array Bool) (a:ë) (w:Γ):Prop where
 ext:Ext w1 w
 defers:a.defers=a0.defers
 size:a.tmps.size=a0.tmps.size
 done:∀ i o d,i<n->ops[i]? = I o->o.dst=I d->listed.getD i Ε=Α->F i (a.tmps.getD d δ) w
 rest:∀ d,(∀ i o,i<n->ops[i]? = I o->listed.getD i Ε=Α->o.dst≠I d)->a.tmps.getD d δ=a0.tmps.getD d δ
 ne:∀ i j oi oj di dj,i<n->j<n->i≠j->ops[i]? = I oi->ops[j]? = I oj->oi.dst=I di->oj.dst=I dj->listed.getD i Ε=Α->listed.getD j Ε=Α->Ne i j (a.tmps.getD di δ) (a.tmps.getD dj δ)
theorem D0 (a:ë) (d e:Nat) (v:Δ) (h:d<a.tmps.size):(a.put (I d) v).tmps.getD e δ=if e=d then v else a.tmps.getD e δ:=by
 simp only[θ,Ϗ,Array.getElem?_setIfInBounds];by_cases hd:d=e
 ·subst hd;simp[h]
 simp[hd,þ hd]
theorem Ms (a:ë) (d:Nat) (v:Δ):(a.put (I d) v).tmps.size=a.tmps.size:=by simp[θ]
def FOp (P:Ö) (ops:Array Ϭ) (Q:Exit->ë->Γ->Prop) (n:Nat) (F:Nat->Δ->Γ->Prop) (Ne:Nat->Nat->Δ->Δ->Prop) (a0:ë) (w1:Γ) (i:Nat):Prop:=
 ∀ o d,ops[i]? = I o->o.dst=I d->∀ a w,Ext w1 w->a.defers=a0.defers->a.tmps.size=a0.tmps.size->(∀ j oj dj,j<n->ops[j]? = I oj->oj.dst=I dj->(∃ e∈o.after,Region.binds .any e=Α/\e.on=j)->F j (a.tmps.getD dj δ) w)->(∀ e,(∀ j oj,j<n->ops[j]? = I oj->oj.dst≠I e)->a.tmps.getD e δ=a0.tmps.getD e δ)->Ϡ o (ð ops a.tmps)=Α/\o.wp P a w (λE w'=>∃ v,E=a.put (I d) v/\Ext w w'/\F i v w'/\∀ j u,j<n->j≠i->F j u w->Ne i j v u) Q
def Ey (ops:Array Ϭ) (n:Nat) (sz:Nat):Bool:=(π n).all λi=>match ops[i]? with
 | none=>Ε
 | some o=>match o.dst with
  | none=>Ε
  | some d=>decide (d<sz)&&(π n).all λj=>decide (j=i)||match ops[j]? with|none=>Ε|some oj=>decide (oj.dst≠I d)
theorem Il {sz:Nat} (h:Ey ops n sz=Α) (i:Nat) (hi:i<n):∃ o d,ops[i]? = I o/\o.dst=I d/\d<sz/\∀ j oj,j<n->j≠i->ops[j]? = I oj->oj.dst≠I d:=by
 unfold Ey at h;rw[Þ] at h;have h1:=h i (ώ.2 hi);cases G:ops[i]? with
 | none=>rw[G] at h1;cases h1
 | some o=>
  rw[G] at h1;simp only at h1;cases hd:o.dst with
  | none=>rw[hd] at h1;cases h1
  | some d=>
   rw[hd] at h1;simp only[ς,decide_eq_true_eq,Þ,Ô,ώ] at h1;refine⟨o,d,rfl,hd,h1.1,λj oj H T X=>?_⟩;rcases h1.2 j H with E|E
   ·exact absurd E T
   rw[X] at E
   simpa using E
theorem Yo {F:Nat->Δ->Γ->Prop} {Ne:Nat->Nat->Δ->Δ->Prop} (a8:∀ i j v u,Ne i j v u->Ne j i u v) (hF:∀ i v w w',F i v w->Ext w w'->F i v w') {a0:ë} {w1:Γ} {sz:Nat} (bb:a0.tmps.size=sz) (hd:Ey ops n sz=Α) {listed:Array Bool} {a:ë} {w:Γ} (X:FInvR ops n F Ne a0 w1 listed a w)
  {i:Nat} (hi:i∈Ϯ .any ops listed) (aq:i<n) (H:FOp P ops Q n F Ne a0 w1 i):∃ o,ops[i]? = I o/\Ϡ o (ð ops a.tmps)=Α/\o.wp P a w (λa' w'=>FInvR ops n F Ne a0 w1 (listed.setIfInBounds i Α) a' w') Q:=by
 obtain⟨o,d,ho,ak,bc,au⟩:=Il hd i aq;obtain⟨bd,o',an,be⟩:=ý.1 hi;rw[ho] at an;injection an with an
 subst an;have aw:i<listed.size:=by
  rcases Nat.lt_or_ge i listed.size with h|h
  ·exact h
  simp[Array.getElem?_eq_none h] at bd
 have hg:∀ j,(listed.setIfInBounds i Α).getD j Ε=Α->j=i\/listed.getD j Ε=Α:=λj G=>by
  by_cases e:i=j
  ·exact .inl e.symm
  rw[getD_set_ne Ε e] at G;exact .inr G
 obtain⟨hw,bg⟩:=H o d ho ak a w X.ext X.defers X.size (λj oj dj G E T ⟨e,he,hb,bh⟩=>X.done j oj dj G E T (by rw[<-bh];exact be e he hb)) (λe he=>X.rest e λj oj G E _=>he j oj G E);refine⟨o,ho,hw,Ϭ.wp_mono (λa' w' h=>?_) bg⟩;obtain⟨v,rfl,hE,hv,ay⟩:=h;have ao:d<a.tmps.size:=by rw[X.size,bb];exact bc
 refine⟨X.ext.trans hE,X.defers,by rw[Ms];exact X.size,λj oj dj G E T af=>?_,λe he=>?_,λj k oj ok dj dk G hk az E ah T ai af a1=>?_⟩
 ·rw[D0 _ _ _ _ ao];by_cases e:j=i
  ·subst e;rw[ho] at E;injection E with E
   subst E;rw[ak] at T;injection T with T
   rw[if_pos T.symm];exact hv
  rw[if_neg (λh=>au j oj G e E (by rw[T,h]))];rcases hg j af with h|h
  ·exact absurd h e
  exact hF _ _ _ _ (X.done j oj dj G E T h) hE
 ·rw[D0 _ _ _ _ ao];have bk:e≠d:=λh=>he i o aq ho (by simp[aw]) (by rw[ak,h])
  rw[if_neg bk];refine X.rest e λj oj G E af=>he j oj G E ?_
  by_cases e':i=j
  ·subst e';simp[aw]
  rw[getD_set_ne Ε e'];exact af
 rw[D0 _ _ _ _ ao,D0 _ _ _ _ ao];have aj:∀ j oj dj,j<n->ops[j]? = I oj->oj.dst=I dj->(j=i->dj=d)/\(j≠i->dj≠d):=λj oj dj G E T=>by
  constructor
  ·rintro rfl;rw[ho] at E;injection E with E
   subst E;rw[ak] at T;injection T with T
   exact T.symm
  intro e h;exact au j oj G e E (by rw[T,h])
 by_cases e1:j=i
 ·have e2:k≠i:=λh=>az (by rw[e1,h])
  rw[if_pos ((aj j oj dj G E T).1 e1),if_neg ((aj k ok dk hk ah ai).2 e2)];rcases hg k a1 with h|h
  ·exact absurd h e2
  rw[e1];exact ay k _ hk e2 (X.done k ok dk hk ah ai h)
 rw[if_neg ((aj j oj dj G E T).2 e1)];rcases hg j af with h|a7
 ·exact absurd h e1
 by_cases e2:k=i
 ·rw[if_pos ((aj k ok dk hk ah ai).1 e2)];rw[e2];exact a8 _ _ _ _ (ay j _ G e1 (X.done j oj dj G E T a7))
 rw[if_neg ((aj k ok dk hk ah ai).2 e2)];rcases hg k a1 with h|bl
 ·exact absurd h e2
 exact X.ne j k oj ok dj dk G hk az E ah T ai a7 bl
theorem Yp {F:Nat->Δ->Γ->Prop} {Ne:Nat->Nat->Δ->Δ->Prop} (E:∀ i j v u,Ne i j v u->Ne j i u v) (G:∀ i v w w',F i v w->Ext w w'->F i v w') {a0:ë} {w1:Γ} {sz:Nat} (T:a0.tmps.size=sz) (hd:Ey ops n sz=Α) {listed:Array Bool} {a:ë} {w:Γ} (X:FInvR ops n F Ne a0 w1 listed a w)
  {i:Nat} (hi:i∈Ϯ .any ops listed) (aa:i<n) (H:FOp P ops Q n F Ne a0 w1 i):wpOp P ops Q i (λa' w'=>FInvR ops n F Ne a0 w1 (listed.setIfInBounds i Α) a' w') a w:=by
 obtain⟨o,ho,hw,h⟩:=Yo E G T hd X hi aa H;unfold wpOp;rw[ho];simp only[hw,if_true];exact .inl h
def Bm (ops:Array Ϭ) (vs:Nat->Δ):Nat->ë->ë
 | 0,a=>a
 | k+1,a=>(Bm ops vs k a).put ((ops[k]?).bind (·.dst)) (vs k)
theorem Kr (vs:Nat->Δ) (a:ë):∀ k,(Bm ops vs k a).tmps.size=a.tmps.size/\(Bm ops vs k a).defers=a.defers
 | 0=>⟨rfl,rfl⟩
 | k+1=>by
  obtain⟨h1,E⟩:=Kr vs a k;unfold Bm;cases (ops[k]?).bind (·.dst) with
  | none=>exact⟨h1,E⟩
  | some d=>exact⟨by rw[Ms];exact h1,E⟩
theorem U6 {sz:Nat} (hd:Ey ops n sz=Α) (a a0:ë) (ab:a0.tmps.size=sz) (vs:Nat->Δ) (ad:∀ i o d,i<n->ops[i]? = I o->o.dst=I d->vs i=a.tmps.getD d δ) (hr:∀ e,(∀ i o,i<n->ops[i]? = I o->o.dst≠I e)->a.tmps.getD e δ=a0.tmps.getD e δ) (e:Nat):∀ k,k<=n->((∃ i o,i<k/\ops[i]? = I o/\o.dst=I e)->(Bm ops vs k a0).tmps.getD e δ=a.tmps.getD e δ)/\((∀ i o,i<k->ops[i]? = I o->o.dst≠I e)->(Bm ops vs k a0).tmps.getD e δ=a0.tmps.getD e δ)
 | 0,_=>⟨fun⟨i,o,h,_⟩=>by omega,λ_=>rfl⟩
 | k+1,hk=>by
  obtain⟨h1,h2⟩:=U6 hd a a0 ab vs ad hr e k (by omega);obtain⟨o,d,H,T,ag,ao⟩:=Il hd k (by omega);have ah:Bm ops vs (k+1) a0=(Bm ops vs k a0).put (I d) (vs k):=by show (Bm ops vs k a0).put ((ops[k]?).bind (·.dst)) (vs k)=_;rw[H];show (Bm ops vs k a0).put o.dst (vs k)=_;rw[T]
  rw[ah,D0 _ _ _ _ (by rw[(Kr vs a0 k).1,ab];exact ag)];constructor
  ·rintro⟨i,o',hi,E,G⟩;by_cases X:e=d
   ·rw[if_pos X,ad k o d (by omega) H T,X]
   rw[if_neg X];refine h1 ⟨i,o',?_,E,G⟩;by_cases ai:i=k
   ·subst ai;rw[H] at E;injection E with E
    subst E;rw[T] at G;injection G with G
    exact absurd G.symm X
   omega
  intro h;have aj:e≠d:=λh'=>h k o (by omega) H (by rw[T,h'])
  rw[if_neg aj];exact h2 λi o' hi=>h i o' (by omega)
theorem Qz {F:Nat->Δ->Γ->Prop} {Ne:Nat->Nat->Δ->Δ->Prop} {a0:ë} {w1:Γ} {sz:Nat} (aj:a0.tmps.size=sz) (hd:Ey ops n sz=Α) {listed:Array Bool} {a:ë} {w:Γ} (H:FInvR ops n F Ne a0 w1 listed a w) (T:∀ i,i<n->listed.getD i Ε=Α) :
  ∃ vs:Nat->Δ,a=Bm ops vs n a0/\(∀ i,i<n->F i (vs i) w)/\∀ i j,i<n->j<n->i≠j->Ne i j (vs i) (vs j):=by
 refine⟨λi=>a.tmps.getD (((ops[i]?).bind (·.dst)).getD 0) δ,?_,λi hi=>?_,λi j hi X ak=>?_⟩
 ·have hr:∀ e,(∀ i o,i<n->ops[i]? = I o->o.dst≠I e)->a.tmps.getD e δ=a0.tmps.getD e δ:=λe he=>H.rest e λi o hi E _=>he i o hi E
  have hg:=λe=>U6 hd a a0 aj (λi=>a.tmps.getD (((ops[i]?).bind (·.dst)).getD 0) δ) (λi o d hi E G=>by show a.tmps.getD (((ops[i]?).bind (·.dst)).getD 0) δ=_;rw[E];show a.tmps.getD (o.dst.getD 0) δ=_;rw[G];rfl) hr e n (Υ _)
  obtain⟨s1,s2⟩:=Kr (ops:=ops) (λi=>a.tmps.getD (((ops[i]?).bind (·.dst)).getD 0) δ) a0 n;have ht:a.tmps=(Bm ops (λi=>a.tmps.getD (((ops[i]?).bind (·.dst)).getD 0) δ) n a0).tmps:=by
   apply Array.ext
   ·rw[s1,H.size]
   intro e h1 h2;have he:a.tmps.getD e δ=(Bm ops (λi=>a.tmps.getD (((ops[i]?).bind (·.dst)).getD 0) δ) n a0).tmps.getD e δ:=by
    obtain⟨g1,g2⟩:=hg e;by_cases ae:∃ i o,i<n/\ops[i]? = I o/\o.dst=I e
    ·exact (g1 ae).symm
    have af:∀ i o,i<n->ops[i]? = I o->o.dst≠I e:=λi o hi E aw=>ae ⟨i,o,hi,E,aw⟩
    rw[g2 af];exact hr e af
   rw[Ϗ,Ϗ,ϗ h1,ϗ h2] at he;exact he
  have aa:=H.defers;rw[<-s2] at aa;generalize Bm ops (λi=>a.tmps.getD (((ops[i]?).bind (·.dst)).getD 0) δ) n a0=b at *;cases a;cases b
  simp only at ht aa;rw[ht,aa]
 ·obtain⟨o,d,E,G,_,_⟩:=Il hd i hi;have:=H.done i o d hi E G (T i hi);show F i (a.tmps.getD (((ops[i]?).bind (·.dst)).getD 0) δ) w;rw[E];show F i (a.tmps.getD (o.dst.getD 0) δ) w;rw[G];exact this
 obtain⟨o,d,E,G,_,_⟩:=Il hd i hi;obtain⟨o',d',ah,ai,_,_⟩:=Il hd j X;have:=H.ne i j o o' d d' hi X ak E ah G ai (T i hi) (T j X);show Ne i j (a.tmps.getD (((ops[i]?).bind (·.dst)).getD 0) δ) (a.tmps.getD (((ops[j]?).bind (·.dst)).getD 0) δ);rw[E,ah];show Ne i j (a.tmps.getD (o.dst.getD 0) δ) (a.tmps.getD (o'.dst.getD 0) δ);rw[G,ai];exact this
def Fg (ops:Array Ϭ) (n:Nat):Bool:=(π n).all λi=>match ops[i]? with|none=>Ε|some o=>o.after.all λe=>!Region.binds .any e||decide (e.on<i)
def unl (n:Nat) (listed:Array Bool):Nat:=((π n).filter λi=>!listed.getD i Ε).length
theorem La (E:Fg ops n=Α) {listed:Array Bool} (aa:listed.size=ops.size) (hn:n<=ops.size):∀ k,k<n->(∀ j,j<k->listed.getD j Ε=Α)->listed.getD k Ε=Ε->k∈Ϯ .any ops listed:=by
 intro k T X H;unfold Fg at E;rw[Þ] at E;have h1:=E k (ώ.2 T);cases G:ops[k]? with
 | none=>rw[G] at h1;cases h1
 | some o=>
  rw[G] at h1;refine ý.2 ⟨?_,o,G,λe he hb=>?_⟩
  ·have:k<listed.size:=by omega
   rw[Ϗ,ϗ this] at H ⊢;exact H
  have:=(Array.all_eq_true'.1 h1) e he;rw[Ô] at this;rcases this with h|h
  ·rw[hb] at h;cases h
  exact X _ (of_decide_eq_true h)
theorem Fj (n:Nat) (listed:Array Bool):unl (n+1) listed=unl n listed+if listed.getD n Ε then 0 else 1:=by
 unfold unl;rw[List.range_succ,List.filter_append,List.length_append];cases h:listed.getD n Ε
 ·simp only[List.filter_cons,List.filter_nil,h,Bool.not_false,if_true,Í,if_false];rfl
 simp only[List.filter_cons,List.filter_nil,h,Bool.not_true,if_true,Í,if_false];rfl
theorem Tb:∀ (n:Nat) (listed:Array Bool) (i:Nat),n<=i->unl n (listed.setIfInBounds i Α)=unl n listed
 | 0,_,_,_=>rfl
 | n+1,listed,i,h=>by rw[Fj,Fj,Tb n listed i (by omega),getD_set_ne Ε (by omega)]
theorem Iu:∀ (n:Nat) (listed:Array Bool) (i:Nat),i<n->i<listed.size->listed.getD i Ε=Ε->unl n (listed.setIfInBounds i Α)+1=unl n listed
 | 0,_,_,h,_,_=>by omega
 | n+1,listed,i,h,E,hu=>by
  rw[Fj,Fj];by_cases e:i=n
  ·subst e;rw[Tb _ _ _ (Υ _),hu];have:(listed.setIfInBounds i Α).getD i Ε=Α:=by simp[E]
   rw[this];simp
  have:=Iu n listed i (by omega) E hu;rw[getD_set_ne Ε e];omega
theorem Hl:∀ (n:Nat) (listed:Array Bool),unl n listed=0->∀ i,i<n->listed.getD i Ε=Α
 | 0,_,_,_,h=>by omega
 | n+1,listed,h,i,hi=>by
  rw[Fj] at h;by_cases e:i=n
  ·subst e;cases hb:listed.getD i Ε
   ·rw[hb] at h;simp at h
   rfl
  exact Hl n listed (by omega) i (by omega)
theorem Jg:∀ (n:Nat) (listed:Array Bool),unl n listed≠0->∃ k,k<n/\listed.getD k Ε=Ε/\∀ j,j<k->listed.getD j Ε=Α
 | 0,_,h=>absurd rfl h
 | n+1,listed,h=>by
  by_cases h0:unl n listed=0
  ·refine⟨n,by omega,?_,Hl n listed h0⟩;rw[Fj,h0] at h;cases hb:listed.getD n Ε
   ·rfl
   rw[hb] at h;simp at h
  obtain⟨k,h1,E,G⟩:=Jg n listed h0;exact⟨k,by omega,E,G⟩
theorem Yk {F:Nat->Δ->Γ->Prop} {Ne:Nat->Nat->Δ->Δ->Prop} (X:∀ i j v u,Ne i j v u->Ne j i u v) (hF:∀ i v w w',F i v w->Ext w w'->F i v w') {a0:ë} {w1:Γ} {sz g:Nat} (ab:a0.tmps.size=sz) (hd:Ey ops n sz=Α) (hs:Region.sinkB .any ops n=Α) (hc:Region.chainB .any ops n=Α) (hn:n<ops.size) (hE:Fg ops n=Α)
  (ag:∀ i,i<n->FOp P ops Q n F Ne a0 w1 i) (ah:∀ listed a w,HeadInv .any ops n listed->(∀ i,i<n->listed.getD i Ε=Α)->FInvR ops n F Ne a0 w1 listed a w->wpAny P .any ops Q g listed a w) :
  ∀ (f:Nat) (listed:Array Bool) (a:ë) (w:Γ),HeadInv .any ops n listed->FInvR ops n F Ne a0 w1 listed a w->unl n listed=f->wpAny P .any ops Q (f+g) listed a w
 | 0,listed,a,w,E,H,hu=>by rw[Ϣ];exact ah listed a w E (Hl n listed hu) H
 | f+1,listed,a,w,E,H,hu=>by
  obtain⟨k,hk,an,ao⟩:=Jg n listed (by omega);have T:=La hE E.size (by omega) k hk ao an;have aq:=(ý.1 T).1;rw[show f+1+g=(f+g)+1 by omega];refine⟨λh0=>(by rw[h0] at T;cases T),λi hi=>?_⟩;have G:i<n:=Nat.lt_of_not_le λh=>tail_waits hs hc hn E _ k rfl hk aq i h hi
  have aj:=(ý.1 hi).1;have ak:i<listed.size:=by rw[E.size];omega
  have ar:listed.getD i Ε=Ε:=by rw[Ϗ,ϗ ak] at aj ⊢;exact aj
  refine wpOp_mono (λa' w' h=>Yk X hF ab hd hs hc hn hE ag ah f _ a' w' (E.set hi G) h ?_) (Yp X hF ab hd H hi G (ag i G));have:=Iu n listed i G ak ar;omega
def Ep (m n:Nat):Array Bool:=((π m).map λi=>decide (i<n)).toArray
def Ni (ops:Array Ϭ) (n sz:Nat):Bool:=
 Ey ops n sz&&Region.sinkB .any ops n&&Region.chainB .any ops n&&decide (n<ops.size)&&Fg ops n&&Region.seqB .any ops (ops.size-n) n (Ep ops.size n)
theorem Hk {id:Nat} {l:List Ϭ} {a0:ë} {w:Γ} (n sz:Nat) (hm:P.follows .mixedOrders=Α) (T:Ni l.toArray n sz=Α) (X:a0.tmps.size=sz) (F:Nat->Δ->Γ->Prop) (Ne:Nat->Nat->Δ->Δ->Prop) (af:∀ i j v u,Ne i j v u->Ne j i u v) (hF:∀ i v w w',F i v w->Ext w w'->F i v w')
  (ah:∀ i,i<n->FOp P l.toArray Q n F Ne a0 w.drew i) (ai:∀ (vs:Nat->Δ) (w':Γ),Ext w.drew w'->(∀ i,i<n->F i (vs i) w')->(∀ i j,i<n->j<n->i≠j->Ne i j (vs i) (vs j))->wpList P l.toArray Q (l.drop n) (Bm l.toArray vs n a0) w'):(Code.region id l.toArray Α).wp P Q a0 w:=by
 simp only[Ni,ς,decide_eq_true_eq] at T;obtain⟨⟨⟨⟨⟨hd,hs⟩,hc⟩,hn⟩,hE⟩,ab⟩:=T;refine wp_region_any hm ?_;have an:HeadInv .any l.toArray n (ä l.toArray.size Ε):=
  ⟨by simp,λj oj _ E=>(by rw[ϛ] at E;cases E),λt _ ht=>getD_in (by simpa using ht) (ϛ _ _)⟩
 have aq:FInvR l.toArray n F Ne a0 w.drew (ä l.toArray.size Ε) a0 w.drew:=
  ⟨Κ _,rfl,rfl,λi o d _ _ _ E=>(by rw[ϛ] at E;cases E),λd _=>rfl,λi j _ _ _ _ _ _ _ _ _ _ _ E=>(by rw[ϛ] at E;cases E)⟩
 have hu:∀ m,unl m (ä l.toArray.size Ε)=m:=λm=>by
  induction m with
  | zero=>rfl
  | succ m ih=>rw[Fj,ih,ϛ];simp
 have H:=Yk (P:=P) (Q:=Q) (g:=(l.drop n).length) af hF X hd hs hc hn hE ah (λlisted a w' G ad hI=>by
  obtain⟨vs,rfl,hv,aw⟩:=Qz X hd hI ad;have hL:listed=Ep l.toArray.size n:=by
   apply Array.ext
   ·rw[G.size];simp[Ep]
   intro i h1 h2;have h3:(Ep l.toArray.size n)[i]=decide (i<n):=by simp[Ep]
   rw[h3];by_cases hi:i<n
   ·have:=ad i hi;rw[Ϗ,ϗ h1] at this;simp only[Ç] at this;rw[this];simp[hi]
   have:=G.tail i (by omega) (by rw[<-G.size];exact h1);rw[Ϗ,ϗ h1] at this;simp only[Ç] at this;rw[this];simp[hi]
  have az:l.toArray.size-n=(l.drop n).length:=by simp
  rw[az] at ab;exact wpAny_of_seq (l.drop n) n listed _ w' (λj=>by simp[List.getElem?_drop]) (by rw[hL];exact ab) (ai vs w' hI.ext hv aw)) n _ a0 w.drew an aq (hu n)
 have e:n+(l.drop n).length=l.toArray.size:=by
  have:n<l.length:=by simpa using hn
  simp;omega
 rw[e] at H;exact H
/-! ### As it is used -/
def M0 (ops:Array Ϭ) (n e:Nat):Bool:=(π n).all λj=>match ops[j]? with|none=>Α|some oj=>decide (oj.dst≠I e)
def Gj (ops:Array Ϭ) (n i j dj:Nat):Bool:=decide (j<n)&&(match ops[j]? with|some oj=>decide (oj.dst=I dj)|none=>Ε)&&ñ .any ops i j
theorem Av {F:Nat->Δ->Γ->Prop} {Ne:Nat->Nat->Δ->Δ->Prop} {a0:ë} {w1:Γ} {i:Nat} (o:Ϭ) (d:Tmp) (h0:ops.toList[i]? = I o) (hd:o.dst=I d) (hg:o.guard=J)
  (H:∀ a w,Ext w1 w->(∀ j dj,Gj ops n i j dj=Α->F j (a.tmps.getD dj δ) w)->(∀ e,M0 ops n e=Α->a.tmps.getD e δ=a0.tmps.getD e δ)->
   o.wp P a w (λa' w'=>∃ v,a'=a.put (I d) v/\Ext w w'/\F i v w'/\∀ j u,j<n->j≠i->F j u w->Ne i j v u) Q):FOp P ops Q n F Ne a0 w1 i:=by
 intro o' d' G T a w hE _ _ ae af;rw[<-Ϲ,h0] at G;injection G with G
 subst G;rw[hd] at T;injection T with T
 subst T;refine⟨by simp[Ϡ,hg],H a w hE (λj dj h=>?_) (λe h=>af e λj oj hj E=>?_)⟩
 ·unfold Gj at h;simp only[ς,decide_eq_true_eq] at h;obtain⟨⟨hj,h1⟩,h2⟩:=h;cases E:ops[j]? with
  | none=>rw[E] at h1;cases h1
  | some oj=>
   rw[E] at h1;obtain⟨oi,X,e,he,hb,ah⟩:=Region.waitsFor_spec h2;rw[<-Ϲ,h0] at X;injection X with X
   subst X;exact ae j oj dj hj E (of_decide_eq_true h1) ⟨e,he,hb,ah⟩
 unfold M0 at h;rw[Þ] at h;have:=h j (ώ.2 hj);rw[E] at this
 simpa using this
theorem Cy {o:Ϭ} {a:ë} {w w':Γ} {v:Δ} {next:ë->Γ->Prop} (h:(ö a.eval o).run P w=.ok (.value v) w') (E:next (a.put o.dst v) w'):o.wp P a w next Q:=by unfold Ϭ.wp;rw[h];exact E
end
open Go.RowKit Go.Shelf
def Ph (w0:Γ) (E:Nat) (G vb:Array Δ) (a b:Dfa):Nat->Δ->Γ->Prop
 | 0,v,_=>v=.agg G
 | 1,v,_=>∃ A,v=.agg A/\IsT w0 A (Ah a)
 | 2,v,_=>v=.agg vb
 | 3,v,_=>∃ B,v=.agg B/\IsT w0 B (Ah b)
 | _,v,W=>∃ g,v=η (I ⟨g,0,J⟩)/\W.heap[g]? = I (Β Ψ 84 (0,0))/\E<=g
def Pg (i j:Nat) (v u:Δ):Prop:=(i=4/\j=5\/i=5/\j=4)->v≠u
theorem IA (i j:Nat) (v u:Δ) (h:Pg i j v u):Pg j i u v:=λE=>(h (by omega)).symm
theorem IB (w0:Γ) (E:Nat) (G vb:Array Δ) (a b:Dfa):∀ (i:Nat) (v:Δ) (w w':Γ),Ph w0 E G vb a b i v w->Ext w w'->Ph w0 E G vb a b i v w'
 | 0,_,_,_,h,_=>h
 | 1,_,_,_,h,_=>h
 | 2,_,_,_,h,_=>h
 | 3,_,_,_,h,_=>h
 | _+4,_,_,_,⟨g,h1,H,T⟩,X=>⟨g,h1,X.heap H,T⟩
theorem Pm (x y:Tbl):∀ (w:List UInt8) (p q:Nat),Ap (pNx x y) ⟨p,q,0⟩ w=⟨x.run p w,y.run q w,0⟩
 | [],_,_=>rfl
 | b::w,p,q=>Pm x y w (x.stp p b.toNat) (y.stp q b.toNat)
theorem Ext.setRow_both {a b:Γ} (h:Ext a b) {g:Nat} {E:Array Δ} {e:TypeId} {fr:Nat × Nat} (hg:a.heap[g]? = I (Β E e fr)) (cs:Array Δ):Ext (a.setRow g cs) (b.setRow g cs):=by
 have hb:=h.heap hg;refine⟨⟨h.below.os,h.below.tape,h.below.output,by rw[ì,ì];exact h.size,λk H=>?_⟩⟩;rw[ì] at H;by_cases G:k=g
 ·subst G;rw[Φ b k E cs e fr hb,Φ a k E cs e fr hg]
 rw[setRow_other b g k cs G,setRow_other a g k cs G];exact h.block H
def N3 (n m:Nat):List Sta:=(box n m).map λp=>⟨p.1,p.2,0⟩
theorem AH (n m:Nat):(N3 n m).length=n*m:=by rw[N3,ι,Sa]
theorem Vq {x y:Tbl} (hx:TVal x) (E:TVal y) (w:List UInt8):Ap (pNx x y) ⟨0,0,0⟩ w∈N3 x.n.length y.n.length:=by rw[Pm];exact Ϫ.2 ⟨(x.run 0 w,y.run 0 w),R9 (hx.run_lt w hx.pos) (E.run_lt w E.pos),rfl⟩
theorem GZ {x y:Tbl} (hx:TVal x) (G:TVal y) {c:Nat->Nat} {bs:List Nat} (E:Joint x.cell y.cell c bs) {g:Bool->Bool->Bool} {l:List Sta} {t:Tbl} (h:Expl c bs ⟨0,0,0⟩ (pNx x y) (pAc x y g) l t) :
  TVal t/\t.n.length<=x.n.length*y.n.length/\∀ u,t.has u=g (x.has u) (y.has u):=by
 refine⟨h.tval E,?_,λu=>?_⟩
 ·rw[h.len,<-AH];refine D5 l _ h.nodup λs H=>?_
  obtain⟨i,hi⟩:=List.getElem?_of_mem H;obtain⟨w,rfl⟩:=h.reach i s hi;exact Vq hx G w
 rw[h.has E (λs k T=>?_) u,Pm]
 ·rfl
 obtain⟨_,h1,X⟩:=E.rep k T;unfold pNx Tbl.stp;rw[h1,X]
theorem Ve (a b:Dfa) (ha:Val a) (hb:Val b) (ek:a.n.length<=64) (en:b.n.length<=64) (gh:Nat) (g:Bool->Bool->Bool) (hg:It gh g) (eh:∀ args w,(callFunc gh args).run Ι w=.ok (.enter gh args) w) (va vb:Δ) (w:Γ) (hT:Tab w) (a6:0<w.heap.size) (bl:IsD w va a) (bm:IsD w vb b) :
  Ϟ Ι 66 #[va,vb,.func (.func gh) #[] #[]] w λe w'=>∃ A t,e=Ω (.agg A)/\IsT w' A t/\TVal t/\t.n.length<=4096/\(∀ u,t.has u=g (a.has u) (b.has u))/\Ext w w':=by
 have cy:=Z bl;have cz:=Z bm;have ab:=Z ha;have ad:=Z hb;have HG:=Z hg;obtain⟨ac,lc,cc,an,cn,aa,la,ca,rfl⟩:=bl.agg;obtain⟨e0,e1,e2,e3,e4,e5,e6,e7,rfl⟩:=bm.agg;have c3:=λW (E:Ext w W)=>Z (Kg a ha _ w W E (hT.below E.below a6) (Ξ a6 E.size) cy.o)
 have c4:=λW (E:Ext w W)=>Z (Kg b hb _ w W E (hT.below E.below a6) (Ξ a6 E.size) cz.o)
 obtain⟨G,a7⟩:=Xq (dA (U ac lc cc) (U an a.n.length cn) (U aa la ca));obtain⟨H,a8⟩:=Xq (dA (U e0 e1 e2) (U e3 b.n.length e4) (U e5 e6 e7));have e8:(Ι.info? 40).map (·.size)=I G.size:=by rw[<-a7];exact Ae
 have e9:(Ι.info? 40).map (·.size)=I H.size:=by rw[<-a8];exact Ae
 rw[a7] at c3 cy;rw[a8] at c4 cz;rw[a7,a8];have ba:=((((Κ w).alloc (Β G 40)).alloc (Β H 40)).alloc (Β #[.func (.func gh) #[] #[]] 88)).alloc (Β Ψ 84);have H3:=Ag (Ag (Ag (Ad w (Β G 40)) (Β H 40)) (Β #[.func (.func gh) #[] #[]] 88)) (Β Ψ 84);have H4:=Ag (Ag (ύ w (Β G 40) (Β H 40)) (Β #[.func (.func gh) #[] #[]] 88)) (Β Ψ 84);have H5:=Ag (Ad ((w.alloc (Β G 40)).alloc (Β H 40)) (Β #[.func (.func gh) #[] #[]] 88)) (Β Ψ 84);have H6:=Ad (((w.alloc (Β G 40)).alloc (Β H 40)).alloc (Β #[.func (.func gh) #[] #[]] 88)) (Β Ψ 84);rw[Ο,Ο] at H5;rw[Ο,Ο,Ο] at H6;clear bl bm ha hb hg hT a7 a8;go_enter Tryz.func66,Tryz.ntmps66;go_upto_region 1 with (fail)
 obtain⟨w1,bd⟩:=Xq ((((w.alloc (Β G 40)).alloc (Β H 40)).alloc (Β #[.func (.func gh) #[] #[]] 88)).alloc (Β Ψ 84));have gj:w.heap.size+1+1+1<w1.heap.size:=by rw[<-bd,Ο,Ο,Ο,Ο];omega
 rw[bd] at ba H3 H4 H5 H6;simp only[bd];clear bd;have fa:=Z H3;have fb:=Z H4;have fc:=Z H5;have fe:=Z H6;clear H3 H4 H5 H6;refine Hk 6 35 (by kernel_rfl) (by kernel_rfl) rfl (Ph w w1.heap.size G H a b) Pg IA (IB w w1.heap.size G H a b) (λi hi=>?_) (λvs w2 c5 hF hN=>?_)
 ·have ao:=(Κ w1).drew
  match i,hi with
  | 0,_=>
   refine Av _ _ rfl rfl rfl λc W E ah ai=>?_
   have h3:=ai 3 (by kernel_rfl);refine Cy (Ei 40 (ε 3) rfl w.heap.size h3 _ _ _ _ ((ao.t E).heap fa.o) Ρ rfl e8) ?_;exact⟨_,rfl,Κ W,rfl,λj u _ _ _ h=>by omega⟩
  | 2,_=>
   refine Av _ _ rfl rfl rfl λc W E ah ai=>?_
   have h3:=ai 4 (by kernel_rfl);refine Cy (Ei 40 (ε 4) rfl (w.heap.size+1) h3 _ _ _ _ ((ao.t E).heap fb.o) Ρ rfl e9) ?_;exact⟨_,rfl,Κ W,rfl,λj u _ _ _ h=>by omega⟩
  | 1,_=>
   refine Av _ _ rfl rfl rfl λc W E ah ai=>?_
   have gk:c.tmps.getD 14 δ=.agg G:=ah 0 14 (by kernel_rfl);go_simp
   (with_reducible refine (c3 W (ba.t (ao.t E))).o.mono ?_)
   rintro e W' ⟨A,rfl,hA,hE⟩;exact⟨_,rfl,hE,⟨A,rfl,hA⟩,λj u _ _ _ h=>by omega⟩
  | 3,_=>
   refine Av _ _ rfl rfl rfl λc W E ah ai=>?_
   have gl:c.tmps.getD 16 δ=.agg H:=ah 2 16 (by kernel_rfl);go_simp
   (with_reducible refine (c4 W (ba.t (ao.t E))).o.mono ?_)
   rintro e W' ⟨A,rfl,hA,hE⟩;exact⟨_,rfl,hE,⟨A,rfl,hA⟩,λj u _ _ _ h=>by omega⟩
  | 4,_=>
   refine Av _ _ rfl rfl rfl λc W E ah ai=>?_
   go_simp;refine⟨_,rfl,(Κ W).alloc _,⟨_,rfl,Ad W _,(ao.t E).size⟩,λj u _ _ hu h=>?_⟩;obtain rfl:j=5:=by omega
   obtain⟨g',rfl,br,-⟩:=hu;intro e;have:W.heap.size=g':=by simpa using e
   have:=Al br;omega
  | 5,_=>
   refine Av _ _ rfl rfl rfl λc W E ah ai=>?_
   go_simp;refine⟨_,rfl,(Κ W).alloc _,⟨_,rfl,Ad W _,(ao.t E).size⟩,λj u _ _ hu h=>?_⟩;obtain rfl:j=4:=by omega
   obtain⟨g',rfl,br,-⟩:=hu;intro e;have:W.heap.size=g':=by simpa using e
   have:=Al br;omega
 obtain⟨A,hA,bt⟩:=hF 1 (by omega);obtain⟨B,hB,bu⟩:=hF 3 (by omega);obtain⟨g7,h7,H7,ff⟩:=hF 4 (by omega);obtain⟨g8,h8,H8,fg⟩:=hF 5 (by omega);have c9:g7≠g8:=λe=>hN 4 5 (by omega) (by omega) (by omega) (by omega) (by rw[h7,h8,e])
 have da:=(Κ w1).drew.t c5;have db:vs 0=.agg G:=hF 0 (by omega);have dc:vs 2=.agg H:=hF 2 (by omega);simp only[Bm,ϸ,À,hA,hB,h7,h8,db,dc,Ϸ,Ϻ,ϻ,ò,θ,Η,Μ,Λ];clear hF hN hA hB h7 h8 db dc;obtain⟨_,_,_,_,_,_,b4,fh,_⟩:=bt.opened (Bt ab.o);obtain⟨_,_,_,_,_,_,b5,fj,_⟩:=bu.opened (Bt ad.o);have dd:(Ι.info? 84).map (·.size)=I A.size:=by rw[b4];exact Ce
 have hiB:(Ι.info? 84).map (·.size)=I B.size:=by rw[b5];exact Ce
 have de:Ψ.size=A.size:=by rw[C8,b4]
 have df:Ψ.size=B.size:=by rw[C8,b5]
 have b6:=Bk H8 (þ c9) A;have be:=((da.setRow ff A).setRow fg B);have G7:=Bk (Φ w2 g7 _ A _ _ H7) c9 B;have G8:=Φ (w2.setRow g7 A) g8 _ B _ _ b6;clear b4 b5;go_upto_region 2 with (first
  | (refine Sr 84 (ε 7) (ε 15) rfl H7 dd de fh ?_)
  | (refine Sr 84 (ε 8) (ε 17) rfl b6 hiB df fj ?_))
 obtain⟨w3,b9⟩:=Xq ((w2.setRow g7 A).setRow g8 B);rw[b9] at be G7 G8;simp only[b9];clear b9 da H7 H8 b6 de df c5;have cb:=ba.t be;have dg:=Z (bt.ext cb);have dh:=Z (bu.ext cb);have dk:=Z G7;have dm:=Z G8;have hJ:=Z (Qi (Ah a) (Ah b) (Bt ab.o) (Bt ad.o) A B w3 dg.o dh.o);have dp:∀ c,Ϝ.size=(B0 c).size:=λc=>by rw[J9,Ez,Ez]
 have dq:∀ c,(Ι.info? 82).map (·.size)=I (B0 c).size:=λc=>by rw[Ez];exact Le
 clear bt bu G7 G8;go_upto_region 3 with (first
  | (refine Lr 84 (ε 7) dk.o ϭ dd ?_)
  | (refine Lr 84 (ε 8) dm.o ϭ hiB ?_)
  | (go_at_call 42;(with_reducible refine hJ.o.mono ?_);rintro e X ⟨c,bs,vj,rfl,dt,du,dv⟩;have cd:=dp c;have cf:=dq c;have cg:=Nu c;obtain⟨A9,bf⟩:=Xq (B0 c);rw[bf] at cd cf cg;rw[bf])
  | (refine Sr 82 (ε 9) (ε 22) rfl (Ad X (Β Ϝ 82)) cf cd cg ?_))
 have af:=dv.t (((Κ X).alloc (Β Ϝ 82)).setRow (Υ _) A9);have H9:=Φ (X.alloc (Β Ϝ 82)) X.heap.size _ A9 _ _ (Ad X _);have ck:=du.ext (((Κ X).alloc (Β Ϝ 82)).setRow (Υ _) A9);obtain⟨w5,cl⟩:=Xq ((X.alloc (Β Ϝ 82)).setRow X.heap.size A9);rw[cl] at af H9 ck;simp only[cl];clear cl dv du dp dq hJ;have fl:=Z H9;have az:=Z dt;have fm:=Z bf;clear H9 dt bf cd cg;generalize X.heap.size=g9 at *;have fo:0<bs.length:=by have:=az.o.lt 0 (by omega);omega
 have fp:bs.length<=256:=by have:=I9 c 256 bs.length (λj hj=>⟨bs.getD j 0,(az.o.byte j hj).1,(az.o.byte j hj).2⟩);exact this
 have fq:=cb.t af;have dx:=Z (dg.o.ext af);have dy:=Z (dh.o.ext af);have cm:=af.heap dk.o;have cp:=af.heap dm.o;have dz:=(be.t af).heap fc.o;have fs:=Z (IF (Ah a) (Ah b) (Bt ab.o) (Bt ad.o) A B g7 g8 w5 dx.o dy.o cm cp);have ft:=Z (GY (Ah a) (Ah b) (Bt ab.o) (Bt ad.o) A B g7 g8 (w.heap.size+1+1) gh g HG.o eh w5 dx.o dy.o cm cp dz);have hX:=Z (Q5 c bs fo fp (λk hk=>(az.o.byte k hk).1) ⟨0,0,0⟩ (pNx (Ah a) (Ah b)) (pAc (Ah a) (Ah b) g) (Pl (Ah a) (Ah b))
  (λx hx=>⟨by have:=hx.1;have:x.p<a.n.length:=this;omega,by have:=hx.2.1;have:x.q<b.n.length:=this;omega,by rw[hx.2.2];omega⟩) ⟨ab.o.pos,ad.o.pos,rfl⟩
  (λx hx k hk=>⟨(Bt ab.o).stp_lt hx.1 hk,(Bt ad.o).stp_lt hx.2.1 hk,rfl⟩) 1073741824 (by omega) (by omega) 91 92 _ _ (enters_of Tryz.func91 (by kernel_rfl) rfl) (enters_of Tryz.func92 (by kernel_rfl) rfl) vj w5 ck fs.o ft.o)
 rw[fm.o] at hX;clear cm cp dz ck;have fu:Hid (Ϟ Ι 46 #[.agg A9,vj,.agg #[.int Χ 0,.int Χ 0,.int γ 0],.func (.func 91) #[] #[η (I ⟨g7,0,J⟩),η (I ⟨g8,0,J⟩)],.func (.func 92) #[] #[η (I ⟨w.heap.size+1+1,0,J⟩),η (I ⟨g7,0,J⟩),η (I ⟨g8,0,J⟩)],.int Χ 1073741824] w5 λe w'=>
   ∃ A t,e=Ω (ϙ #[.agg A,.bool Α])/\(IsT w' A t/\∀ g cs,g<w5.heap.size->IsT (w'.setRow g cs) A t)/\TVal t/\t.n.length<=4096/\(∀ u,t.has u=g (a.has u) (b.has u))/\Ext w5 w'):=Z (Ϟ.mono hX.o λe w' ⟨hE,h⟩=>by
  have fv:a.n.length*b.n.length<=4096:=Nat.mul_le_mul ek en;rcases h with⟨A,l,t,he,hT,hX,_,fw,_⟩|⟨hM,_⟩
  ·obtain⟨h1,h2,h3⟩:=GZ (Bt ab.o) (Bt ad.o) az.o hX;exact⟨A,t,he,⟨hT,fw⟩,h1,μ h2 fv,λu=>by rw[h3,Ec,Ec],hE⟩
  exact absurd hM (M4 (N3 a.n.length b.n.length) (λu=>Vq (Bt ab.o) (Bt ad.o) u) (by rw[AH];omega)))
 clear hX;have ea:Ι.built 103 []=I #[.int Χ 0,.int Χ 0,.int γ 0]:=by kernel_rfl
 have fy:=Z ea;clear ea;have eb:=Z ((be.t af).heap fe.o);have fz:(Ι.info? 82).map (·.size)=I A9.size:=cf;go_upto_region 5 with (first
  | (refine Lr 82 (ε 9) fl.o Tryz.underlying82 fz ?_)
  | (refine Bj rfl 103 _ rfl #[.int Χ 0,.int Χ 0,.int γ 0] ?_ ?_;(simp;with_reducible exact fy.o))
  | (go_at_call 46;(with_reducible refine fu.o.mono ?_);rintro e w6 ⟨T,t,rfl,⟨ec,ed⟩,ee,ga,gb,ef⟩;obtain⟨_,_,_,_,_,_,cq,eg,_⟩:=ec.opened ee;have bh:(Ι.info? 84).map (·.size)=I T.size:=(by rw[cq];exact Ce);have ei:Ψ.size=T.size:=(by rw[C8,cq]);clear cq)
  | (refine Sr 84 (ε 12) (ε 32) rfl (Ad w6 (Β Ψ 84)) bh ei eg ?_))
 have bj:=((Κ w6).alloc (Β Ψ 84)).setRow (Υ _) T;have ct:=Φ (w6.alloc (Β Ψ 84)) w6.heap.size _ T _ _ (Ad w6 _);obtain⟨w7,cu⟩:=Xq ((w6.alloc (Β Ψ 84)).setRow w6.heap.size T);rw[cu] at bj ct;simp only[cu];clear cu;have cv:=ef.heap eb.o;have gf:=(ed (w.heap.size+1+1+1) T (Al eb.o)).ext (bj.setRow_both cv T);have ej:=Z (bj.heap cv);have gg:=Z ct;have gi:=(((fq.t ef).trans bj)).setRow (show w.heap.size<=w.heap.size+1+1+1 by omega) T;clear ec ed cv ct;go_wp2_with (first
  | (refine Lr 84 (ε 12) gg.o ϭ bh ?_)
  | (refine Sr 84 (ε 6) (ε 34) rfl ej.o bh ei eg ?_))
 refine ω (v:=.agg T) (Æ rfl _ _ _ _ _ _ _ rfl (Φ w7 _ _ T 84 (0,0) ej.o) ϭ rfl bh) rfl ?_;exact⟨T,t,rfl,gf,ee,ga,gb,gi⟩
theorem El {P:Ö} {ops:Array Ϭ} {rest:List Ϭ} {o:Ϭ} {a:ë} {w:Γ} {Q:Exit->ë->Γ->Prop} (E:Ϡ o (ð ops a.tmps)=Α) (h:o.wp P a w (wpList P ops Q rest) Q):wpList P ops Q (o::rest) a w:=by
 show if _ then _ else _
 rw[if_pos E];exact .inl h
theorem ResOf.form {W:Γ} {e:Ending} {r:Option Dfa} (h:ResOf W e r):∃ ac E G H ln T X la ca k,e=Ω (ϙ #[.agg (dA (U ac E G) (U H ln T) (U X la ca)),.int Χ k]):=by
 cases r with
 | none=>exact⟨J,0,0,J,0,0,J,0,0,2,h⟩
 | some d=>obtain⟨v,he,hD⟩:=h;obtain⟨ac,E,G,H,T,X,la,ca,rfl⟩:=hD.agg;exact⟨_,_,_,_,_,_,_,_,_,_,he⟩
theorem ResOf.ext {W W':Γ} {e:Ending} {r:Option Dfa} (h:ResOf W e r) (E:Ext W W'):ResOf W' e r:=by
 cases r with
 | none=>exact h
 | some d=>obtain⟨v,he,G⟩:=h;exact⟨v,he,G.ext E⟩
theorem ResOf.setRow {W:Γ} {e:Ending} {r:Option Dfa} (h:ResOf W e r) (E:∀ d,r=I d->Val d) {g:Nat} {t:TypeId} {fr:Nat × Nat} (hg:W.heap[g]? = I (Β #[U J 0 0,U J 0 0,U J 0 0] t fr)) (cs:Array Δ):ResOf (W.setRow g cs) e r:=by
 cases r with
 | none=>exact h
 | some d=>obtain⟨v,he,G⟩:=h;exact⟨v,he,G.setRow (E d rfl) hg cs⟩
theorem Hb {L:List UInt8->Prop} {r:Option Dfa} (h:Lim L r) (d:Dfa) (hd:r=I d):Val d:=by subst hd;exact h.1.val
theorem Rk (a b:Dfa) (ha:Val a) (hb:Val b) (a7:a.n.length<=64) (a8:b.n.length<=64) (gh:Nat) (g:Bool->Bool->Bool) (hg:It gh g) (eh:∀ args w,(callFunc gh args).run Ι w=.ok (.enter gh args) w) (va vb:Δ) (w:Γ) (hT:Tab w) (bc:0<w.heap.size) (ao:IsD w va a) (aq:IsD w vb b) :
  Ϟ Ι 36 #[va,vb,.func (.func gh) #[] #[]] w λe w'=>∃ r,ResOf w' e r/\Lim (λu=>g (a.has u) (b.has u)=Α) r/\Ext w w':=by
 have ar:=Z ao;have au:=Z aq;obtain⟨ac,lc,cc,an,cn,aa,la,ca,rfl⟩:=ao.agg;obtain⟨cd,cf,cg,cj,ck,cl,cm,cp,rfl⟩:=aq.agg;have aw:=λW (E:Ext w W)=>Z (Fi a ha a7 _ W (ar.o.ext E))
 have ax:=λW (E:Ext w W)=>Z (Fi b hb a8 _ W (au.o.ext E))
 have f85:=λW (E:Ext w W)=>Z (Ve a b ha hb a7 a8 gh g hg eh _ _ W (hT.below E.below bc) (Ξ bc E.size) (ar.o.ext E) (au.o.ext E))
 obtain⟨H,ae⟩:=Xq (dA (U ac lc cc) (U an a.n.length cn) (U aa la ca));obtain⟨T,af⟩:=Xq (dA (U cd cf cg) (U cj b.n.length ck) (U cl cm cp));have bd:(Ι.info? 40).map (·.size)=I H.size:=by rw[<-ae];exact Ae
 have be:(Ι.info? 40).map (·.size)=I T.size:=by rw[<-af];exact Ae
 rw[ae] at aw f85 ar;rw[af] at ax f85 au;rw[ae,af];have ag:=(((Κ w).alloc (Β H 40)).alloc (Β T 40)).alloc (Β #[U J 0 0,U J 0 0,U J 0 0] 40);have H3:=Ag (Ag (Ad w (Β H 40)) (Β T 40)) (Β #[U J 0 0,U J 0 0,U J 0 0] 40);have H4:=Ag (ύ w (Β H 40) (Β T 40)) (Β #[U J 0 0,U J 0 0,U J 0 0] 40);have H6:=Ad ((w.alloc (Β H 40)).alloc (Β T 40)) (Β #[U J 0 0,U J 0 0,U J 0 0] 40);rw[Ο,Ο] at H6;clear ao aq ha hb hg hT ae af;go_enter Tryz.func36,Tryz.ntmps36;go_upto_region 1 with (fail)
 obtain⟨w1,ai⟩:=Xq (((w.alloc (Β H 40)).alloc (Β T 40)).alloc (Β #[U J 0 0,U J 0 0,U J 0 0] 40));have c3:w.heap.size+1+1<w1.heap.size:=by rw[<-ai,Ο,Ο,Ο];omega
 rw[ai] at ag H3 H4 H6;simp only[ai];clear ai;have aj:=Z H3;have X:=Z H4;have G:=Z H6;clear H3 H4 H6;go_upto_region 3 with (first
  | (refine Lr 40 (ε 3) aj.o Ρ bd ?_)
  | (refine El rfl (wp_load_row 40 (ε 4) rfl _ rfl _ _ _ _ X.o Ρ rfl be ?_))
  | (go_at_call 33;(with_reducible refine (aw _ ag).o.mono ?_);rintro e w2 ⟨rfl,ab⟩;have a1:=ag.t ab;have X:=Z (ab.heap X.o))
  | (go_at_call 33;(with_reducible refine (ax _ a1).o.mono ?_);rintro e w3 ⟨rfl,ad⟩;have bf:=a1.t ad))
 have aj:=Z ((ab.t ad).heap aj.o);have X:=Z (ad.heap X.o);have G:=Z ((ab.t ad).heap G.o);have bg:=Z bf;have c6:=bf.size;clear aw ax ag ab a1 ad;go_wp2_with (first
  | (refine Lr 40 (ε 3) aj.o Ρ bd ?_)
  | (refine Lr 40 (ε 4) X.o Ρ be ?_)
  | (go_at_call 66;(with_reducible refine (f85 _ bg.o).o.mono ?_);rintro e w4 ⟨A,t,rfl,ct,cu,c7,bh,bj⟩;have hL:=Z (P9 t cu (show t.n.length<=65536 by omega) A w4 ct);have HH:=Z bh;clear bh)
  | (go_at_call 49;(with_reducible refine hL.o.mono ?_);rintro e w5 ⟨r,a6,bk,bl⟩;obtain⟨bm,bn,bo,bp,bq,br,bt,bu,bw,k1,rfl⟩:=a6.form;have cz:=Z a6;have bz:=Z bk;clear a6 bk;have G:=Z ((bj.t bl).heap G.o))
  | (refine Sr 40 (ε 6) (ε 22) rfl G.o Ae rfl (Aw _ _ _ rfl rfl rfl) ?_))
 refine ω (v:=ϙ #[.agg (dA (U bm bn bo) (U bp bq br) (U bt bu bw)),.int Χ k1]) (Bi rfl _ _ _ _ _ _ _ rfl _ rfl (Φ w5 _ _ (dA (U bm bn bo) (U bp bq br) (U bt bu bw)) 40 (0,0) G.o) Ρ rfl Ae) rfl ?_;exact⟨r,cz.o.setRow (Hb bz.o) G.o _,Gc bz.o (λu=>by rw[HH.o]),((bg.o.t bj).trans bl).setRow (by omega) _⟩
theorem Pp (a b:Dfa) (ha:Val a) (hb:Val b) (bh:a.n.length<=64) (bj:b.n.length<=64) (va vb:Δ) (w:Γ) (hT:Tab w) (au:0<w.heap.size) (ae:IsD w va a) (af:IsD w vb b) :
  Ϟ Ι 74 #[va,vb] w λe w'=>∃ r,ResOf w' e r/\Lim (λu=>a.has u=Α\/b.has u=Α) r/\Ext w w':=by
 have aw:=Z ae;have ax:=Z af;obtain⟨ac,lc,cc,an,cn,aa,la,ca,rfl⟩:=ae.agg;obtain⟨br,bt,bu,bw,bz,b0,b4,b5,rfl⟩:=af.agg;have f78:=λW (T:Ext w W)=>Z (Rk a b ha hb bh bj 100 (λx y=>x||y) IY (enters_of Tryz.func100 (by kernel_rfl) rfl) _ _ W (hT.below T.below au) (Ξ au T.size) (aw.o.ext T) (ax.o.ext T))
 obtain⟨E,X⟩:=Xq (dA (U ac lc cc) (U an a.n.length cn) (U aa la ca));obtain⟨G,ab⟩:=Xq (dA (U br bt bu) (U bw b.n.length bz) (U b0 b4 b5));have b6:(Ι.info? 40).map (·.size)=I E.size:=by rw[<-X];exact Ae
 have b7:(Ι.info? 40).map (·.size)=I G.size:=by rw[<-ab];exact Ae
 rw[X] at f78 aw;rw[ab] at f78 ax;rw[X,ab];have ag:=(((Κ w).alloc (Β E 40)).alloc (Β G 40)).alloc (Β #[U J 0 0,U J 0 0,U J 0 0] 40);have H3:=Ag (Ag (Ad w (Β E 40)) (Β G 40)) (Β #[U J 0 0,U J 0 0,U J 0 0] 40);have H4:=Ag (ύ w (Β E 40) (Β G 40)) (Β #[U J 0 0,U J 0 0,U J 0 0] 40);have H6:=Ad ((w.alloc (Β E 40)).alloc (Β G 40)) (Β #[U J 0 0,U J 0 0,U J 0 0] 40);rw[Ο,Ο] at H6;clear ae af ha hb hT X ab;go_enter Tryz.func74,Tryz.ntmps74;go_upto_region 1 with (fail)
 obtain⟨w1,aj⟩:=Xq (((w.alloc (Β E 40)).alloc (Β G 40)).alloc (Β #[U J 0 0,U J 0 0,U J 0 0] 40));rw[aj] at ag H3 H4 H6;simp only[aj];clear aj;have b8:=Z H3;have b9:=Z H4;have H:=Z H6;have ay:=Z ag;clear H3 H4 H6 ag;go_wp2_with (first
  | (refine Lr 40 (ε 2) b8.o Ρ b6 ?_)
  | (refine Lr 40 (ε 3) b9.o Ρ b7 ?_)
  | (go_at_call 36;(with_reducible refine (f78 _ ay.o).o.mono ?_);rintro e w5 ⟨r,ak,az,a1⟩;obtain⟨a6,a7,a8,ba,bb,bc,bd,be,bf,k1,rfl⟩:=ak.form;have cd:=Z ak;have bg:=Z az;clear ak az;have H:=Z (a1.heap H.o))
  | (refine Sr 40 (ε 4) (ε 9) rfl H.o Ae rfl (Aw _ _ _ rfl rfl rfl) ?_))
 refine ω (v:=ϙ #[.agg (dA (U a6 a7 a8) (U ba bb bc) (U bd be bf)),.int Χ k1]) (Bi rfl _ _ _ _ _ _ _ rfl _ rfl (Φ w5 _ _ (dA (U a6 a7 a8) (U ba bb bc) (U bd be bf)) 40 (0,0) H.o) Ρ rfl Ae) rfl ?_;exact⟨r,cd.o.setRow (Hb bg.o) H.o _,Gc bg.o (λu=>by simp),(ay.o.t a1).setRow (by omega) _⟩
theorem WA (a b:Dfa) (ha:Val a) (hb:Val b) (bh:a.n.length<=64) (bj:b.n.length<=64) (va vb:Δ) (w:Γ) (hT:Tab w) (au:0<w.heap.size) (ae:IsD w va a) (af:IsD w vb b) :
  Ϟ Ι 13 #[va,vb] w λe w'=>∃ r,ResOf w' e r/\Lim (λu=>a.has u=Α/\b.has u=Α) r/\Ext w w':=by
 have aw:=Z ae;have ax:=Z af;obtain⟨ac,lc,cc,an,cn,aa,la,ca,rfl⟩:=ae.agg;obtain⟨br,bt,bu,bw,bz,b0,b4,b5,rfl⟩:=af.agg;have f78:=λW (T:Ext w W)=>Z (Rk a b ha hb bh bj 37 (λx y=>x&&y) VY (enters_of Tryz.func37 (by kernel_rfl) rfl) _ _ W (hT.below T.below au) (Ξ au T.size) (aw.o.ext T) (ax.o.ext T))
 obtain⟨E,X⟩:=Xq (dA (U ac lc cc) (U an a.n.length cn) (U aa la ca));obtain⟨G,ab⟩:=Xq (dA (U br bt bu) (U bw b.n.length bz) (U b0 b4 b5));have b6:(Ι.info? 40).map (·.size)=I E.size:=by rw[<-X];exact Ae
 have b7:(Ι.info? 40).map (·.size)=I G.size:=by rw[<-ab];exact Ae
 rw[X] at f78 aw;rw[ab] at f78 ax;rw[X,ab];have ag:=(((Κ w).alloc (Β E 40)).alloc (Β G 40)).alloc (Β #[U J 0 0,U J 0 0,U J 0 0] 40);have H3:=Ag (Ag (Ad w (Β E 40)) (Β G 40)) (Β #[U J 0 0,U J 0 0,U J 0 0] 40);have H4:=Ag (ύ w (Β E 40) (Β G 40)) (Β #[U J 0 0,U J 0 0,U J 0 0] 40);have H6:=Ad ((w.alloc (Β E 40)).alloc (Β G 40)) (Β #[U J 0 0,U J 0 0,U J 0 0] 40);rw[Ο,Ο] at H6;clear ae af ha hb hT X ab;go_enter Tryz.func13,Tryz.ntmps13;go_upto_region 1 with (fail)
 obtain⟨w1,aj⟩:=Xq (((w.alloc (Β E 40)).alloc (Β G 40)).alloc (Β #[U J 0 0,U J 0 0,U J 0 0] 40));rw[aj] at ag H3 H4 H6;simp only[aj];clear aj;have b8:=Z H3;have b9:=Z H4;have H:=Z H6;have ay:=Z ag;clear H3 H4 H6 ag;go_wp2_with (first
  | (refine Lr 40 (ε 2) b8.o Ρ b6 ?_)
  | (refine Lr 40 (ε 3) b9.o Ρ b7 ?_)
  | (go_at_call 36;(with_reducible refine (f78 _ ay.o).o.mono ?_);rintro e w5 ⟨r,ak,az,a1⟩;obtain⟨a6,a7,a8,ba,bb,bc,bd,be,bf,k1,rfl⟩:=ak.form;have cd:=Z ak;have bg:=Z az;clear ak az;have H:=Z (a1.heap H.o))
  | (refine Sr 40 (ε 4) (ε 9) rfl H.o Ae rfl (Aw _ _ _ rfl rfl rfl) ?_))
 refine ω (v:=ϙ #[.agg (dA (U a6 a7 a8) (U ba bb bc) (U bd be bf)),.int Χ k1]) (Bi rfl _ _ _ _ _ _ _ rfl _ rfl (Φ w5 _ _ (dA (U a6 a7 a8) (U ba bb bc) (U bd be bf)) 40 (0,0) H.o) Ρ rfl Ae) rfl ?_;exact⟨r,cd.o.setRow (Hb bg.o) H.o _,Gc bg.o (λu=>by simp),(ay.o.t a1).setRow (by omega) _⟩
theorem AL (S q:Nat) (E:S<18446744073709551616):(bits BinOp.and ϩ ((S:Int) / 2 ^ q) 1==1)=S.testBit q:=by
 have G:((S:Nat):Int) / 2 ^ q=((S / 2 ^ q:Nat):Int):=by rw[Int.natCast_ediv];simp
 have H:S / 2 ^ q<18446744073709551616:=Nat.lt_of_le_of_lt (Nat.div_le_self _ _) E;rw[G,show (1:Int)=((1:Nat):Int) from rfl,u64_and_nat _ _ H (by omega),Nat.testBit_eq_decide_div_mod_eq,Nat.and_one_is_mod];generalize S / 2 ^ q=m;rw[ϴ];simp;omega
theorem FG (t:Tbl) (S:Nat) (h:∀ q,q<t.n.length->(t.ok q&&S.testBit q)=Ε):Ct t S=Ε:=by rw[<-Bool.not_eq_true,Km];rintro⟨q,E,h1,G⟩;have:=h q E;rw[h1,G] at this;cases this
theorem FH (t:Tbl) (S q:Nat) (E:q<t.n.length) (h:(t.ok q&&S.testBit q)=Α):Ct t S=Α:=by rw[ς] at h;exact (Km t S).2 ⟨q,E,h.1,h.2⟩
theorem Oz (t:Tbl) (G:TVal t) (hn:t.n.length<=64) (A:Array Δ) (S:Nat) (hS:S<18446744073709551616) (w:Γ) (h:IsT w A t) :
  Ϟ Ι 48 #[.agg A,.agg #[.int γ (S:Int)]] w λe w'=>e=Ω (.bool (Ct t S))/\Ext w w':=by
 obtain⟨bn,on,cn,ba,oa,ca,aj,ak,_,_,_,X,_,aa⟩:=h.opened G;have a7:=G.pos;have an:=Z aa;have H:=((Κ w).alloc (Β A 84)).alloc (Β #[.int γ (S:Int)] 101);have H0:=Ag (Ad w (Β A 84)) (Β #[.int γ (S:Int)] 101);have H1:=ύ w (Β A 84) (Β #[.int γ (S:Int)] 101);clear aa G h;go_enter Tryz.func48,Tryz.ntmps48;go_upto_region 1 with (fail)
 generalize (w.alloc (Β A 84)).alloc (Β #[.int γ (S:Int)] 101)=w1 at *;have k8:=(Τ w1 w.heap.size 258 _ _ _ H0).trans X;have HK:=Z (λ(W:Γ) (hW:Ext w1 W)=>(Τ W (w.heap.size+1) 0 _ _ _ (hW.heap H1)).trans rfl);clear H0 H1 X ak aj;go_wp2_with (fail);clear k8;go_loopw [10] (λi W=>∃ k:Nat,k<=t.n.length/\i=.int Χ k/\Ext w1 W/\Hid (∀ q,q<k->(t.ok q&&S.testBit q)=Ε)) (λi _=>t.n.length-(intOf i).toNat)
 case atStart=>exact⟨0,by omega,rfl,Κ w1,Z (λq hq=>by omega)⟩
 obtain⟨k,hk,rfl,E,ae⟩:=hrel;by_cases af:k<t.n.length
 ·have ca:=(H.t E).cell (an.o k af);have cs:=HK.o wr E;have hb:=AL S k hS;have HH:=Z (FH t S k af);have ag:Hid ((t.ok k&&S.testBit k)=Ε->∀ q,q<k+1->(t.ok q&&S.testBit q)=Ε):=Z λh0 q hq=>by
   by_cases e:q=k
   ·subst e;exact h0
   exact ae.o q (by omega)
  generalize t.ok k=b1 at *;generalize S.testBit k=b2 at *;cases b1
  ·go_wp2;go_roundw
   case rel=>exact⟨k+1,by omega,by go_num,E,Z (ag.o rfl)⟩
   simp[intOf];omega
  ·cases b2
   ·go_wp2;go_roundw
    case rel=>exact⟨k+1,by omega,by go_num,E,Z (ag.o rfl)⟩
    simp[intOf];omega
   have T:=Z (HH.o rfl);go_wp2;go_ret;exact⟨Pd T.o.symm,H.t E⟩
 obtain rfl:k=t.n.length:=by omega
 have T:=Z (FG t S ae.o);go_wp2;go_ret;exact⟨Pd T.o.symm,H.t E⟩
theorem Iv {t:Tbl} (E:TVal t) (H:t.n.length<=64) (S c:Nat) (hc:c<256):∀ n,n<=t.n.length->A5 t S c n<18446744073709551616
 | 0,_=>by simp[A5]
 | n+1,h=>by
  have G:=Iv E H S c hc n (by omega);simp only[A5];split
  ·have h1:=E.stp_lt (s:=n) (by omega) hc;have T:2 ^ t.stp n c<2 ^ 64:=Nat.pow_lt_pow_right (by omega) (by omega);have:=Nat.or_lt_two_pow (x:=A5 t S c n) (y:=2 ^ t.stp n c) (n:=64) G T;exact this
  exact G
theorem Vy (x:Int):(#[ϲ γ x]).all (·.oneCell')=Α:=by simp[ξ]
theorem My (x r:Nat) (hx:x<18446744073709551616) (E:r<64):bits BinOp.or ϩ (x:Int) (ϩ.wrap (2 ^ r))=((x ||| 2 ^ r:Nat):Int):=by rw[Oh r E,u64_or_nat _ _ hx (Mv r E)]
theorem Tj (t:Tbl) (hv:TVal t) (hn:t.n.length<=64) (A:Array Δ) (S:Nat) (hS:S<18446744073709551616) (c:Nat) (hc:c<256) (w:Γ) (h:IsT w A t) :
  Ϟ Ι 45 #[.agg A,.agg #[.int γ (S:Int)],.int Χ (c:Int)] w λe w'=>e=Ω (.agg #[.int γ (A5 t S c t.n.length:Nat)])/\Ext w w':=by
 obtain⟨bn,on,cn,ba,oa,ca,bf,bg,ak,_,ae,_,hR,_⟩:=h.opened hv;have cd:=hv.pos;have HR:=Z hR;have HV:=Z hv;have bj:=((((Κ w).alloc (Β A 84)).alloc (Β #[.int γ (S:Int)] 101)).alloc (Β #[.int γ 0] 101)).alloc (Β #[.int γ 0] 101);have H0:=Ag (Ag (Ag (Ad w (Β A 84)) (Β #[.int γ (S:Int)] 101)) (Β #[.int γ 0] 101)) (Β #[.int γ 0] 101);have H1:=Ag (Ag (ύ w (Β A 84) (Β #[.int γ (S:Int)] 101)) (Β #[.int γ 0] 101)) (Β #[.int γ 0] 101);have H2:=Ag (Ad ((w.alloc (Β A 84)).alloc (Β #[.int γ (S:Int)] 101)) (Β #[.int γ 0] 101)) (Β #[.int γ 0] 101);have H3:=Ad (((w.alloc (Β A 84)).alloc (Β #[.int γ (S:Int)] 101)).alloc (Β #[.int γ 0] 101)) (Β #[.int γ 0] 101);rw[Ο,Ο] at H2;rw[Ο,Ο,Ο] at H3;clear hR hv h;go_enter Tryz.func45,Tryz.ntmps45;go_upto_region 2 with (fail)
 obtain⟨w2,aq⟩:=Xq ((((w.alloc (Β A 84)).alloc (Β #[.int γ (S:Int)] 101)).alloc (Β #[.int γ 0] 101)).alloc (Β #[.int γ 0] 101));simp only[aq] at *;clear aq;have bl:=Z ae;have bm:=Z ak;have k7:=(Τ w2 w.heap.size 257 _ _ _ H0).trans ae;have bo:=Z H0;have bp:=Z H1;have bq:=Z H2;have bt:=Z H3;clear H0 H1 H2 H3 ae ak bg bf;go_wp2_with (fail);clear k7;go_loopw [12] (λi W=>∃ k:Nat,k<=t.n.length/\i=.int Χ k/\Ext w W/\W.heap[w.heap.size]? = I (Β A 84 (0,0))/\W.heap[w.heap.size+1]? = I (Β #[.int γ (S:Int)] 101 (0,0))/\W.heap[w.heap.size+1+1]? = I (Β #[.int γ 0] 101 (0,0))/\W.heap[w.heap.size+1+1+1]? = I (Β #[.int γ (A5 t S c k:Nat)] 101 (0,0))) (λi _=>t.n.length-(intOf i).toNat)
 case atStart=>exact⟨0,by omega,rfl,bj,bo.o,bp.o,bq.o,bt.o⟩
 obtain⟨k,hk,rfl,hE,ar,au,aw,ax⟩:=hrel;have H:=Z ar;have ab:=Z au;have T:=Z aw;have E:=Z ax;clear ar au aw ax;by_cases ay:k<t.n.length
 ·have cS:=(Τ wr (w.heap.size+1) 0 _ _ _ ab.o).trans (show (#[ϲ γ (S:Int)])[0]? = I (.int γ (S:Int)) from rfl);have hb:=AL S k hS;have X:Hid (A5 t S c (k+1)=if S.testBit k then A5 t S c k ||| 2 ^ t.stp k c else A5 t S c k):=Z rfl;have az:=Iv HV.o hn S c hc k (by omega);have bw:t.stp k c<64:=by have:=HV.o.stp_lt ay hc;omega
  generalize S.testBit k=b at *;cases b
  ·have G:=X.o;simp only[Í,if_false] at G;have X:=Z G;clear G;go_wp2;go_roundw
   case rel=>exact⟨k+1,by omega,by go_num,hE,H.o,ab.o,T.o,by rw[X.o];exact E.o⟩
   simp[intOf];omega
  have G:=X.o;simp only[if_true] at G;have X:=Z G;have bz:=HV.o.cell_lt c hc;obtain⟨br,or',cr,a1,a6⟩:=HR.o k ay;have r1:=A4 (hE.cell a1);have r2:=A4 (hE.cell (a6 _ bz));have k7:=A4 ((Τ wr w.heap.size 257 _ _ _ H.o).trans bl.o);have kc:=A4 ((Τ wr w.heap.size c _ _ _ H.o).trans (bm.o c hc));have ko:=A4 ((Τ wr (w.heap.size+1+1+1) 0 _ _ _ E.o).trans (show (#[ϲ γ (A5 t S c k:Nat)])[0]? = I (.int γ (A5 t S c k:Nat)) from rfl));have bb:t.ent2 k (t.cell c)=t.stp k c:=rfl;rw[bb] at r2;have HO:=Z (My (A5 t S c k) (t.stp k c) az bw);clear bb a1 a6 az G;have cj:(c:Int)<256:=by omega
  generalize A5 t S c k=x at *;generalize t.stp k c=r at *;generalize t.cell c=q at *;go_upto_region 6 with (fail)
  refine I4 16 (by kernel_rfl) (by kernel_rfl) ?_;simp only[List.take_succ_cons,List.take_zero,ϸ,À];iterate 16 (with_reducible refine wpQuiet_step (λK hK=>?_);go_simp;(refine hK _ ?_;clear hK K))
  refine wpQuiet_nil ?_;rintro _ ⟨e,rfl⟩;have H:=Z (e.ext.heap H.o);have ab:=Z (e.ext.heap ab.o);have T:=Z (e.ext.heap T.o);have E:=Z (e.ext.heap E.o);have b5:=hE.t e.ext;have ck:=ko e;have fo:=Â e.W (w.heap.size+1+1+1) 0 _ _ E.o;clear r1 r2 k7 kc ko cS;generalize e.W=w5 at *;go_wp2;go_roundw
  case rel=>rw[ϧ w5 _ _ _ _ _ _ E.o,HO.o];refine⟨k+1,by omega,by go_num,b5.setRow (by omega) _,Bk H.o (by omega) _,Bk ab.o (by omega) _,Bk T.o (by omega) _,?_⟩;rw[X.o];exact Φ w5 _ _ _ _ _ E.o
  case measure=>simp[intOf];omega
 obtain rfl:k=t.n.length:=by omega
 have i114:(Ι.info? 101).map (·.size)=I 1:=by kernel_rfl
 go_wp2_with (first
  | (refine Lr 101 (ε 7) E.o Tryz.underlying101 i114 ?_)
  | (refine Sr 101 (ε 6) (ε 38) rfl T.o i114 rfl (Vy _) ?_))
 refine ω (v:=.agg #[.int γ (A5 t S c t.n.length:Nat)]) (Æ rfl _ _ _ _ _ _ _ rfl (Φ wr _ _ #[.int γ (A5 t S c t.n.length:Nat)] 101 (0,0) T.o) Tryz.underlying101 rfl i114) rfl ?_;exact⟨rfl,hE.setRow (by omega) _⟩
theorem AY {σ τ:Type} {nx:σ->Nat->σ} {E:τ->Nat->τ} (φ:σ->τ) (h:∀ s b,φ (nx s b)=E (φ s) b) (w:List UInt8):∀ s,φ (Ap nx s w)=Ap E (φ s) w:=by
 induction w with
 | nil=>exact λs=>rfl
 | cons x w G=>intro s;show φ (Ap nx (nx s x.toNat) w)=Ap E (E (φ s) x.toNat) w;rw[G,h]
theorem V9 {σ τ:Type} {nx:σ->Nat->σ} {st:σ} (φ:σ->τ) (hi:∀ w w',φ (Ap nx st w)=φ (Ap nx st w')->Ap nx st w=Ap nx st w') (l:List σ) (G:l.Nodup) (E:∀ s,s∈l->∃ w,Ap nx st w=s):(l.map φ).Nodup:=by rw[Ù,List.pairwise_map];refine List.Pairwise.imp_of_mem (λ{a b} H hb T e=>T ?_) (Ù.1 G);obtain⟨w,rfl⟩:=E a H;obtain⟨w',rfl⟩:=E b hb;exact hi w w' e
theorem Expl.conv {σ τ:Type} {c:Nat->Nat} {bs:List Nat} {st:σ} {nx:σ->Nat->σ} {ac:σ->Bool} {l:List σ} {t:Tbl} (h:Expl c bs st nx ac l t) (φ:σ->τ) {G:τ->Nat->τ} {H:τ->Bool} (T:∀ s b,φ (nx s b)=G (φ s) b) (X:∀ s,ac s=H (φ s))
  (hi:∀ w w',φ (Ap nx st w)=φ (Ap nx st w')->Ap nx st w=Ap nx st w'):Expl c bs (φ st) G H (l.map φ) t where
 cell:=h.cell
 cells:=h.cells
 len:=by rw[ι];exact h.len
 acl:=by rw[ι];exact h.acl
 pos:=by rw[ι];exact h.pos
 nodup:=V9 φ hi l h.nodup λs E=>by obtain⟨i,hi⟩:=List.getElem?_of_mem E;exact h.reach i s hi
 zero:=by rw[υ,h.zero];rfl
 row:=λi hl=>h.row i (by simpa using hl)
 tgt:=λi s E k hk=>by rw[υ] at E;obtain⟨x,hx,rfl⟩:=Option.map_eq_some_iff.1 E;obtain⟨h1,h2⟩:=h.tgt i x hx k hk;exact⟨by simpa using h1,by rw[υ,h2,<-T];rfl⟩
 acc:=λi s E=>by rw[υ] at E;obtain⟨x,hx,rfl⟩:=Option.map_eq_some_iff.1 E;rw[h.acc i x hx,X]
 reach:=λi s E=>by rw[υ] at E;obtain⟨x,hx,rfl⟩:=Option.map_eq_some_iff.1 E;obtain⟨w,rfl⟩:=h.reach i x hx;exact⟨w,(AY φ T w st).symm⟩
theorem Wr {σ τ:Type} {st:σ} {nx:σ->Nat->σ} {m:Nat} (h:Cr nx st m) (φ:σ->τ) {E:τ->Nat->τ} (H:∀ s b,φ (nx s b)=E (φ s) b) (hi:∀ w w',φ (Ap nx st w)=φ (Ap nx st w')->Ap nx st w=Ap nx st w'):Cr E (φ st) m:=by obtain⟨l,h1,G,T⟩:=h;refine⟨l.map φ,V9 φ hi l h1 G,λs X=>?_,by simpa using T⟩;obtain⟨x,hx,rfl⟩:=Ϫ.1 X;obtain⟨w,rfl⟩:=G x hx;exact⟨w,(AY φ H w st).symm⟩
theorem Yu {σ:Type} [DecidableEq σ] {c:Nat->Nat} {bs:List Nat} {st:σ} {nx:σ->Nat->σ} {ac:σ->Bool} {l:List σ} {t:Tbl} (h:Expl c bs st nx ac l t) {a b:Nat->Nat} (E:Joint a b c bs) (G:∀ s x,x<256->nx s (bs.getD (c x) 0)=nx s x) {m:Nat} (hm:l.length<=m):¬ Cr nx st m:=by
 refine M4 l (λw=>?_) hm;have:∀ (w:List UInt8) i s,l[i]? = I s->Ap nx s w∈l:=λw=>by
  induction w with
  | nil=>intro i s hi;exact List.mem_of_getElem? hi
  | cons x w H=>intro i s hi;have h1:=(h.tgt i s hi _ (E.lt _ x.toNat_lt)).2;rw[G s _ x.toNat_lt] at h1;exact H _ _ h1
 exact this w 0 st h.zero
def stP (s:Sta):Nat × Nat:=(s.p,s.s)
theorem Mf {s t:Sta} (E:s.q=0) (G:t.q=0) (h:stP s=stP t):s=t:=by
 cases s;cases t
 simp[stP] at h E G;simp[h,E,G]
def sNx (x:Tbl) (s:Sta) (b:Nat):Sta:=⟨0,0,if Ct x (A5 x s.s b x.n.length) then A5 x s.s b x.n.length ||| 1 else A5 x s.s b x.n.length⟩
def sAc (x:Tbl) (s:Sta):Bool:=s.p==1||Ct x s.s
def Mk (s:Sta):Prop:=s.p<2/\s.q=0/\s.s<18446744073709551616
theorem GB {x:Tbl} (hx:TVal x) (E:x.n.length<=64) (s:Sta) (b:Nat) (hb:b<256):Mk (sNx x s b):=by
 refine⟨by show 0<2;omega,rfl,?_⟩;have h:=Iv hx E s.s b hb _ (Υ _);unfold sNx;simp only;split
 ·exact Nat.or_lt_two_pow (n:=64) h (by omega)
 exact h
theorem Mj (x:Tbl) (w:List UInt8):(Ap (sNx x) ⟨1,0,1⟩ w).q=0:=by
 induction w using Gv with
 | h0=>rfl
 | h1 w y E=>rw[E1];rfl
theorem i114:(Ι.info? 101).map (·.size)=I 1:=by kernel_rfl
theorem UP (x:Int):Ι.built 103 [(2,.agg #[.int γ x])]=I #[.int Χ 0,.int Χ 0,.int γ x]:=by kernel_rfl
theorem Vu (x:Nat) (hx:x<18446744073709551616):bits BinOp.or ϩ (x:Int) 1=((x ||| 1:Nat):Int):=by rw[show (1:Int)=((1:Nat):Int) from rfl,u64_or_nat _ _ hx (by omega)]
theorem FI (x:Tbl) (hx:TVal x) (hn:x.n.length<=64) (A:Array Δ) (gx:Nat) (w:Γ) (hA:IsT w A x) (ab:w.heap[gx]? = I (Β A 84 (0,0))) :
  Ob w 115 #[η (I ⟨gx,0,J⟩)] (sNx x) Mk:=by
 intro W hW s hs b hb;obtain⟨-,-,bn⟩:=hs;have ad:=hA.ext hW;obtain⟨_,_,_,_,_,_,bp,b0,_⟩:=ad.opened hx;have bb:(Ι.info? 84).map (·.size)=I A.size:=by rw[bp];exact Ce
 have ab:=hW.heap ab;have f73:=λV (hV:Ext W V)=>Z (Tj x hx hn A s.s bn b hb V (ad.ext hV))
 have bc:=Iv hx hn s.s b hb _ (Υ _);have f76:=λV (hV:Ext W V)=>Z (Oz x hx hn A (A5 x s.s b x.n.length) bc V (ad.ext hV))
 show Ϟ _ _ _ _ λe w'=>e=Ω (.agg #[.int Χ ((0:Nat):Int),.int Χ ((0:Nat):Int),.int γ ((if Ct x (A5 x s.s b x.n.length) then A5 x s.s b x.n.length ||| 1 else A5 x s.s b x.n.length:Nat):Int)])/\Ext W w'
 have ae:=((Κ W).alloc (Β #[iv s.p,iv s.q,.int γ (s.s:Int)] 103)).alloc (Β #[.int Χ 0,.int Χ 0,.int γ 0] 103);have H3:=Ag (Ad W (Β #[iv s.p,iv s.q,.int γ (s.s:Int)] 103)) (Β #[.int Χ 0,.int Χ 0,.int γ 0] 103);have H5:=ύ W (Β #[iv s.p,iv s.q,.int γ (s.s:Int)] 103) (Β #[.int Χ 0,.int Χ 0,.int γ 0] 103);generalize A5 x s.s b x.n.length=T at *;generalize Ct x T=bo at *;have HO:=Z (Vu T bc);clear hA ad hW;go_enter Tryz.func115,Tryz.ntmps115;go_upto_region 1 with (fail)
 obtain⟨w1,af⟩:=Xq ((W.alloc (Β #[iv s.p,iv s.q,.int γ (s.s:Int)] 103)).alloc (Β #[.int Χ 0,.int Χ 0,.int γ 0] 103));have b4:W.heap.size+1<w1.heap.size:=by rw[<-af,Ο,Ο];omega
 rw[af] at ae H3 H5;simp only[af];clear af;have ag:=Z (ae.heap ab);have be:w1.rangeAt W.heap.size 2 [.int γ (s.s:Int)]:=λj v hv=>by
  obtain rfl:j=0:=by
   rcases j with _|j
   ·rfl
   simp at hv
  rw[Τ w1 W.heap.size _ _ _ _ H3];exact hv
 have E:=Z H5;have bg:=Z ae;clear H3 H5 ab ae;go_upto_region 2 with (first
  | (refine Lr 84 (ε 2) ag.o ϭ bb ?_)
  | (refine é rfl 101 (ε 8) rfl _ 2 rfl _ _ be Tryz.underlying101 rfl i114 ?_)
  | (go_at_call 45;(with_reducible refine (f73 _ bg.o).o.mono ?_);rintro e H ⟨rfl,ax⟩)
  | (refine Sr 101 (ε 6) (ε 11) rfl (Ad H (Β #[.int γ 0] 101)) i114 rfl (Vy _) ?_))
 have ay:=((Κ H).alloc (Β #[.int γ 0] 101)).setRow (Υ _) #[.int γ (T:Int)];have H6:=Φ (H.alloc (Β #[.int γ 0] 101)) H.heap.size _ #[.int γ (T:Int)] _ _ (Ad H _);obtain⟨w3,a1⟩:=Xq ((H.alloc (Β #[.int γ 0] 101)).setRow H.heap.size #[.int γ (T:Int)]);rw[a1] at ay H6;simp only[a1];clear a1;have ah:=ax.t ay;have b6:=ax.size;have E:=Z (ah.heap E.o);have ag:=Z (ah.heap ag.o);have G:=Z H6;have bh:=Z (bg.o.t ah);generalize H.heap.size=X at *;clear H6 ax ay ah be f73;go_upto_if 14 with (first
  | (refine Lr 84 (ε 2) ag.o ϭ bb ?_)
  | (refine Lr 101 (ε 6) G.o Tryz.underlying101 i114 ?_)
  | (go_at_call 48;(with_reducible refine (f76 _ bh.o).o.mono ?_);rintro e w5 ⟨rfl,a6⟩;have E:=Z (a6.heap E.o);have G:=Z (a6.heap G.o);have bj:=Z (bh.o.t a6)))
 have c6:=(Τ w5 X 0 _ _ _ G.o).trans (show (#[ϲ γ (T:Int)])[0]? = I (.int γ (T:Int)) from rfl);have f6:=Â w5 X 0 _ _ G.o;have bk:=λz=>Z (UP z)
 cases bo
 ·go_wp2_with (first
   | (refine Lr 101 (ε 6) G.o Tryz.underlying101 i114 ?_)
   | (refine Bj rfl 103 _ rfl #[.int Χ 0,.int Χ 0,.int γ (T:Int)] ?_ ?_;(simp[ß];with_reducible exact (bk _).o))
   | (refine Sr 103 (ε 5) (ε 20) rfl E.o D7 rfl (by simp[ξ]) ?_))
  refine ω (v:=.agg #[.int Χ 0,.int Χ 0,.int γ (T:Int)]) (Æ rfl _ _ _ _ _ _ _ rfl (Φ w5 _ _ _ 103 (0,0) E.o) È rfl D7) rfl ?_;exact⟨rfl,bj.o.setRow (by omega) _⟩
 go_upto_region 4 with (fail)
 have bl:w5.setCell ⟨X,0,J⟩ (.int γ (bits BinOp.or ϩ (T:Int) 1))=w5.setRow X #[.int γ ((T ||| 1:Nat):Int)]:=by rw[ϧ w5 _ _ _ _ _ _ G.o,HO.o];rfl
 have bt:W.heap.size+1≠X:=λe=>by
  have h1:=E.o;rw[e,G.o] at h1;injection h1 with h1
  injection h1 with h1 _
  simp at h1
 rw[bl];have ai:=Φ w5 X _ #[.int γ ((T ||| 1:Nat):Int)] _ _ G.o;have aj:=Bk E.o bt #[.int γ ((T ||| 1:Nat):Int)];have ak:=bj.o.setRow (show W.heap.size<=X by omega) #[.int γ ((T ||| 1:Nat):Int)];obtain⟨z,hz⟩:=Xq (((T ||| 1:Nat):Int):Int);rw[hz] at ai aj ak;rw[hz];obtain⟨w6,a7⟩:=Xq (w5.setRow X #[.int γ z]);rw[a7] at ai aj ak;rw[a7];have G:=Z ai;have E:=Z aj;have bw:=Z ak;have HZ:=Z hz;clear c6 f6 bl aj ai ak hz HO a7;go_wp2_with (first
  | (refine Lr 101 (ε 6) G.o Tryz.underlying101 i114 ?_)
  | (refine Bj rfl 103 _ rfl #[.int Χ 0,.int Χ 0,.int γ z] ?_ ?_;(simp[ß];with_reducible exact (bk _).o))
  | (refine Sr 103 (ε 5) (ε 20) rfl E.o D7 rfl (by simp[ξ]) ?_))
 refine ω (v:=.agg #[.int Χ 0,.int Χ 0,.int γ z]) (Æ rfl _ _ _ _ _ _ _ rfl (Φ w6 _ _ _ 103 (0,0) E.o) È rfl D7) rfl ?_;exact⟨by rw[<-HZ.o],bw.o.setRow (by omega) _⟩
theorem DY (x:Tbl) (hx:TVal x) (hn:x.n.length<=64) (A:Array Δ) (gx:Nat) (w:Γ) (hA:IsT w A x) (E:w.heap[gx]? = I (Β A 84 (0,0))) :
  N9 w 116 #[η (I ⟨gx,0,J⟩)] (sAc x) Mk:=by
 intro W T s hs;obtain⟨hp,-,ag⟩:=hs;have X:=hA.ext T;obtain⟨_,_,_,_,_,_,aw,a1,_⟩:=X.opened hx;have ah:(Ι.info? 84).map (·.size)=I A.size:=by rw[aw];exact Ce
 have E:=T.heap E;have f76:=λV (hV:Ext W V)=>Z (Oz x hx hn A s.s ag V (X.ext hV))
 show Ϟ _ _ _ _ λe w'=>e=Ω (.bool (s.p==1||Ct x s.s))/\Ext W w'
 have G:=(Κ W).alloc (Β #[iv s.p,iv s.q,.int γ (s.s:Int)] 103);have H:=Ad W (Β #[iv s.p,iv s.q,.int γ (s.s:Int)] 103);generalize Ct x s.s=bo at *;clear hA X T;go_enter Tryz.func116,Tryz.ntmps116;go_upto_region 1 with (fail)
 obtain⟨w1,aa⟩:=Xq (W.alloc (Β #[iv s.p,iv s.q,.int γ (s.s:Int)] 103));rw[aa] at G H;simp only[aa];clear aa;have ai:=Z (G.heap E);have aj:w1.rangeAt W.heap.size 2 [.int γ (s.s:Int)]:=λj v hv=>by
  obtain rfl:j=0:=by
   rcases j with _|j
   ·rfl
   simp at hv
  rw[Τ w1 W.heap.size _ _ _ _ H];exact hv
 have c0:=(Τ w1 W.heap.size 0 _ _ _ H).trans (show (#[iv s.p,iv s.q,.int γ (s.s:Int)]:Array Δ)[0]? = I (iv s.p) from rfl);have ab:=Z G;clear H E G;obtain⟨bp,ad⟩:=Xq ((s.p==1));have a7:((s.p:Int)==1)=bp:=by
  rw[<-ad,ϴ];simp
  omega
 have ao:=Z ad;clear ad hp ag;cases bp
 ·go_wp2_with (first
   | (refine El rfl (wp_load_row 84 (ε 1) rfl _ rfl _ _ _ _ ai.o ϭ rfl ah ?_))
   | (refine El rfl (wp_load_mid 101 (ε 9) rfl _ 2 rfl _ _ aj Tryz.underlying101 rfl i114 ?_))
   | (go_at_call 48;(with_reducible refine (f76 _ ab.o).o.mono ?_);rintro e w5 ⟨rfl,ay⟩;have az:=Z (ab.o.t ay)))
  go_ret;exact⟨by rw[ao.o];rfl,az.o⟩
 clear aj f76 ai ah;go_wp2_with (fail);go_ret;exact⟨by rw[ao.o];rfl,ab.o⟩
theorem AE (p s:Int):Ι.built 103 [(0,.int Χ p),(2,.agg #[.int γ s])]=I #[.int Χ p,.int Χ 0,.int γ s]:=by kernel_rfl
theorem UR:Ι.built 101 [(0,.int γ 1)]=I #[.int γ 1]:=by kernel_rfl
theorem Sv:Ψ.all (·.oneCell')=Α:=by kernel_rfl
theorem BX:∃ E G,Ψ=Ak (λ_=>0) 0 E G/\E=U J 0 0/\G=U J 0 0:=⟨_,_,(show Ψ=Ak (λ_=>0) 0 (U J 0 0) (U J 0 0) by kernel_rfl),rfl,rfl⟩
theorem Og (o:Nat) (x:Int):Ψ[o]?≠I (.int γ x):=by obtain⟨E,G,h,rfl,rfl⟩:=BX;rw[h];intro h;have:=Array.mem_of_getElem? h;simp only[Ak,En,List.mem_toArray,List.mem_append,Ϫ,List.mem_cons,List.not_mem_nil,or_false] at this;rcases this with⟨b,_,hb⟩|hb|hb|hb<;>simp at hb
theorem EG {x:Tbl} (hx:TVal x) {c:Nat->Nat} {bs:List Nat} (E:Joint x.cell x.cell c bs) {l:List Sta} {t:Tbl} (h:Expl c bs ⟨1,0,1⟩ (sNx x) (sAc x) l t) (G:l.length<=4096) :
  TVal t/\t.n.length<=4096/\¬ Cr (snx x) (1,1) 4096/\∀ u,t.has u=Α↔Star (λu=>x.has u=Α) u:=by
 have hc:Expl c bs (1,1) (snx x) (λs=>s.1==1||Ct x s.2) (l.map stP) t:=
  h.conv (st:=⟨1,0,1⟩) stP (λs b=>rfl) (λs=>rfl) (λw w' e=>Mf (Mj x w) (Mj x w') e)
 have H:∀ (s:Nat × Nat) b,b<256->snx x s (bs.getD (c b) 0)=snx x s b:=λs b hb=>by
  obtain⟨_,h1,_⟩:=E.rep b hb;have T:∀ n,A5 x s.2 (bs.getD (c b) 0) n=A5 x s.2 b n:=λn=>by
   induction n with
   | zero=>rfl
   | succ n X=>simp only[A5];rw[X];unfold Tbl.stp;rw[h1]
  unfold snx;rw[T]
 exact⟨h.tval E,by rw[h.len];exact G,Yu hc E H (by simpa using G),λu=>EE hx hc E u⟩
theorem EI (a:Dfa) (ha:Val a) (ei:a.n.length<=64) (va:Δ) (w:Γ) (hT:Tab w) (a8:0<w.heap.size) (bh:IsD w va a) :
  Ϟ Ι 102 #[va] w λe w'=>∃ r,ResOf w' e r/\Hi a r/\Ext w w':=by
 have bj:=Z bh;have cl:=Z ha;obtain⟨ac,lc,cc,an,cn,aa,la,ca,rfl⟩:=bh.agg;have f47:=λW (hW:Ext w W)=>Z (Fi a ha ei _ W (bj.o.ext hW))
 have bk:=λW (hW:Ext w W)=>Z (Iw a ha _ W (hT.below hW.below a8) (Ξ a8 hW.size) (bj.o.ext hW))
 have eu:=Z (λW (hW:Ext w W)=>hT.below hW.below a8);obtain⟨Va,ba⟩:=Xq (dA (U ac lc cc) (U an a.n.length cn) (U aa la ca));have cm:(Ι.info? 40).map (·.size)=I Va.size:=by rw[<-ba];exact Ae
 rw[ba] at f47 bk bj;rw[ba];have bl:=((Κ w).alloc (Β Va 40)).alloc (Β #[U J 0 0,U J 0 0,U J 0 0] 40);have H1:=Ag (Ad w (Β Va 40)) (Β #[U J 0 0,U J 0 0,U J 0 0] 40);have H2:=ύ w (Β Va 40) (Β #[U J 0 0,U J 0 0,U J 0 0] 40);clear bh ha hT ba;go_enter Tryz.func102,Tryz.ntmps102;go_upto_region 1 with (fail)
 obtain⟨w1,bb⟩:=Xq ((w.alloc (Β Va 40)).alloc (Β #[U J 0 0,U J 0 0,U J 0 0] 40));have fu:w.heap.size+1<w1.heap.size:=by rw[<-bb,Ο,Ο];omega
 rw[bb] at bl H1 H2;simp only[bb];clear bb;have ak:=Z H1;have E:=Z H2;have bp:=Z bl;clear H1 H2 bl;go_upto_region 3 with (first
  | (refine Lr 40 (ε 1) ak.o Ρ cm ?_)
  | (go_at_call 33;(with_reducible refine (f47 _ bp.o).o.mono ?_);rintro e w2 ⟨rfl,cp⟩;have bc:=Z cp;clear cp))
 have ao:=Z (bp.o.t bc.o);have ak:=Z (bc.o.heap ak.o);have E:=Z (bc.o.heap E.o);go_upto_region 4 with (first
  | (refine Lr 40 (ε 1) ak.o Ρ cm ?_)
  | (go_at_call 34;(with_reducible refine (bk _ ao.o).o.mono ?_);rintro e w3 ⟨A1,rfl,cq,ct⟩;have aq:=Z ct;clear ct;have hC:=Z (Ly (Ah a) (Bt cl.o) (show a.n.length<=65536 by omega) A1 w3 cq);clear cq)
  | (go_at_call 39;(with_reducible refine hC.o.mono ?_);rintro e w4 ⟨v,d,rfl,hd,cw,ar,cy⟩;have au:=Z cy;have H:=Z cw;have HH:=Z ar;clear cw ar cy hC;have cz:=Z (Iw d H.o.val v w4 (eu.o w4 ((ao.o.t aq.o).trans au.o)) (Ξ a8 ((ao.o.t aq.o).trans au.o).size) hd);obtain⟨fw,fx,fy,fz,ga,gb,gd,gf,rfl⟩:=hd.agg;clear hd)
  | (go_at_call 34;(with_reducible refine cz.o.mono ?_);rintro e T ⟨A,rfl,hA,c3⟩;have X:=Z hA;have br:=Z c3;obtain⟨_,_,_,_,_,_,bt,ey,_⟩:=hA.opened (Bt H.o.val);clear hA c3 cz;have c4:(Ι.info? 84).map (·.size)=I A.size:=(by rw[bt];exact Ce);have ez:Ψ.size=A.size:=(by rw[C8,bt]);clear bt)
  | (refine Sr 84 (ε 4) (ε 17) rfl (Ad T (Β Ψ 84)) c4 ez ey ?_))
 have aw:=((Κ T).alloc (Β Ψ 84)).setRow (Υ _) A;have H4:=Φ (T.alloc (Β Ψ 84)) T.heap.size _ A _ _ (Ad T _);obtain⟨w6,bw⟩:=Xq ((T.alloc (Β Ψ 84)).setRow T.heap.size A);rw[bw] at aw H4;simp only[bw];clear bw;have c5:=Z ((((ao.o.t aq.o).trans au.o).trans br.o).trans aw);have E:=Z ((((aq.o.t au.o).trans br.o).trans aw).heap E.o);have X:=Z (X.o.ext aw);have af:=Z H4;generalize T.heap.size=g4 at *;clear aw H4 bk f47 bp bc ao aq au br ak;have gg:d.n.length<=a.n.length:=Nw H.o cl.o (λu=>by rw[HH.o,Ec]);have c6:=Z (Qi (Ah d) (Ah d) (Bt H.o.val) (Bt H.o.val) A A w6 X.o X.o);have c7:∀ c,Ϝ.size=(B0 c).size:=λc=>by rw[J9,Ez,Ez]
 have c8:∀ c,(Ι.info? 82).map (·.size)=I (B0 c).size:=λc=>by rw[Ez];exact Le
 go_upto_region 5 with (first
  | (refine Lr 84 (ε 4) af.o ϭ c4 ?_)
  | (go_at_call 42;(with_reducible refine c6.o.mono ?_);rintro e G ⟨c,bs,vj,rfl,da,db,dc⟩;have bz:=c7 c;have b0:=c8 c;have b4:=Nu c;obtain⟨A9,bf⟩:=Xq (B0 c);rw[bf] at bz b0 b4;rw[bf])
  | (refine Sr 82 (ε 5) (ε 22) rfl (Ad G (Β Ϝ 82)) b0 bz b4 ?_))
 have ah:=dc.t (((Κ G).alloc (Β Ϝ 82)).setRow (Υ _) A9);have H5:=Φ (G.alloc (Β Ϝ 82)) G.heap.size _ A9 _ _ (Ad G _);have b6:=db.ext (((Κ G).alloc (Β Ϝ 82)).setRow (Υ _) A9);obtain⟨w8,b7⟩:=Xq ((G.alloc (Β Ϝ 82)).setRow G.heap.size A9);rw[b7] at ah H5 b6;simp only[b7];clear b7 dc db c7 c8 c6;have dd:=Z H5;have ay:=Z da;have e1:=Z bf;have E:=Z (ah.heap E.o);have af:=Z (ah.heap af.o);have X:=Z (X.o.ext ah);have e2:=Z (c5.o.t ah);clear H5 da bf bz b4 ah c5;generalize G.heap.size=g5 at *;have e3:0<bs.length:=by have:=ay.o.lt 0 (by omega);omega
 have e4:bs.length<=256:=by have:=I9 c 256 bs.length (λj hj=>⟨bs.getD j 0,(ay.o.byte j hj).1,(ay.o.byte j hj).2⟩);exact this
 have b8:(Ah d).n.length<=64:=by show d.n.length<=64;omega
 have bg:=Z (Bt H.o.val);have df:=Z (FI (Ah d) bg.o b8 A g4 w8 X.o af.o);have dg:=Z (DY (Ah d) bg.o b8 A g4 w8 X.o af.o);have hX:=Z (Q5 c bs e3 e4 (λk hk=>(ay.o.byte k hk).1) ⟨1,0,1⟩ (sNx (Ah d)) (sAc (Ah d)) Mk
  (λx hx=>⟨by have:=hx.1;omega,by have:=hx.2.1;omega,hx.2.2⟩) ⟨by show 1<2;omega,rfl,by show 1<18446744073709551616;omega⟩
  (λx hx k hk=>GB bg.o b8 x k hk) 4096 (by omega) (by omega) 115 116 _ _ (enters_of Tryz.func115 (by kernel_rfl) rfl) (enters_of Tryz.func116 (by kernel_rfl) rfl) vj w8 b6 df.o dg.o)
 rw[e1.o] at hX;have dh:Hid (Ϟ Ι 46 #[.agg A9,vj,.agg #[.int Χ 1,.int Χ 0,.int γ 1],.func (.func 115) #[] #[η (I ⟨g4,0,J⟩)],.func (.func 116) #[] #[η (I ⟨g4,0,J⟩)],.int Χ 4096] w8 λe w'=>
   ∃ A b,e=Ω (ϙ #[.agg A,.bool b])/\A.size=259/\A.all (·.oneCell')=Α/\(b=Ε->Cr (snx (Ah d)) (1,1) 4096)/\(b=Α->∃ t,IsT w' A t/\TVal t/\t.n.length<=4096/\¬ Cr (snx (Ah d)) (1,1) 4096/\(∀ u,t.has u=Α↔Star (λu=>d.has u=Α) u))/\Ext w8 w'):=Z (Ϟ.mono hX.o λe w' ⟨hE,h⟩=>by
  rcases h with⟨A,l,t,he,hT,hX,hl,gj⟩|⟨hM,he⟩
  ·obtain⟨h1,h2,h3,h4⟩:=EG bg.o ay.o hX hl;obtain⟨_,_,_,_,_,_,a1,cb,_⟩:=hT.opened h1;refine⟨A,Α,he,a1,cb,λh=>by simp at h,λ_=>⟨t,hT,h1,h2,h3,λu=>?_⟩,hE⟩;rw[h4];have:(λu=>(Ah d).has u=Α)=λu=>d.has u=Α:=funext λu=>by rw[Ec]
   rw[this]
  exact⟨Ψ,Ε,he,C8,Sv,λ_=>Wr hM stP (λs b=>rfl) (λw w' e=>Mf (Mj _ w) (Mj _ w') e),λh=>by simp at h,hE⟩)
 clear hX df dg b6;have e9:=Z (AE 1 1);have fa:=Z UR;have fb:(Ι.info? 82).map (·.size)=I A9.size:=b0;go_upto_region 7 with (first
  | (refine Lr 82 (ε 5) dd.o Tryz.underlying82 fb ?_)
  | (refine Bj rfl 101 _ rfl #[.int γ 1] ?_ ?_;(simp;with_reducible exact fa.o))
  | (refine Bj rfl 103 _ rfl #[.int Χ 1,.int Χ 0,.int γ 1] ?_ ?_;(simp[ß];with_reducible exact e9.o))
  | (go_at_call 46;(with_reducible refine dh.o.mono ?_);rintro e w9 ⟨AT,bo,rfl,a1,cb,dm,dn,cd⟩;have fe:=Z dm;have ff:=Z dn;clear dm dn;have dp:(Ι.info? 84).map (·.size)=I AT.size:=(by rw[a1];exact Ce);have fg:Ψ.size=AT.size:=(by rw[C8,a1]);clear a1)
  | (refine Sr 84 (ε 8) (ε 33) rfl (Ad w9 (Β Ψ 84)) dp fg cb ?_))
 have a6:=((Κ w9).alloc (Β Ψ 84)).setRow (Υ _) AT;have H8:=Φ (w9.alloc (Β Ψ 84)) w9.heap.size _ AT _ _ (Ad w9 _);obtain⟨dq,cg⟩:=Xq ((w9.alloc (Β Ψ 84)).setRow w9.heap.size AT);rw[cg] at a6 H8;simp only[cg];clear cg;have fh:=Z H8;have E:=Z ((cd.t a6).heap E.o);have dr:=Z ((e2.o.t cd).trans a6);have fj:=Z a6;clear cd a6 H8 af dd dh;generalize w9.heap.size=g8 at *;cases bo
 ·have fk:=Z F1;go_wp2_with (first
   | (refine Bj rfl 40 _ rfl #[U J 0 0,U J 0 0,U J 0 0] ?_ ?_;(simp;with_reducible exact fk.o))
   | (refine Sr 40 (ε 2) (ε 37) rfl E.o Ae rfl Fa ?_))
  refine ω (v:=ϙ #[zD,.int Χ 2]) (Bi rfl _ _ _ _ _ _ _ rfl _ rfl (Φ dq _ _ #[U J 0 0,U J 0 0,U J 0 0] 40 (0,0) E.o) Ρ rfl Ae) rfl ?_;exact⟨J,rfl,⟨d,H.o,λu=>by rw[HH.o,Ec],λ_=>rfl,λh=>absurd (fe.o (by simp)) h⟩,dr.o.setRow (by omega) _⟩
 obtain⟨t,dt,du,fl,dv,ar⟩:=ff.o rfl;have hL:=Z (P9 t du (show t.n.length<=65536 by omega) AT dq (dt.ext fj.o));have fo:=Z ar;have fp:=Z dv;clear dt du fl dv ar;go_wp2_with (first
  | (refine Lr 84 (ε 8) fh.o ϭ dp ?_)
  | (go_at_call 49;(with_reducible refine hL.o.mono ?_);rintro e fq ⟨r,cj,dw,dx⟩;obtain⟨dy,dz,ea,eb,ec,ed,ee,ef,eg,k2,rfl⟩:=cj.form;have ft:=Z cj;have eh:=Z dw;clear cj dw;have E:=Z (dx.heap E.o))
  | (refine Sr 40 (ε 2) (ε 40) rfl E.o Ae rfl (Aw _ _ _ rfl rfl rfl) ?_))
 refine ω (v:=ϙ #[.agg (dA (U dy dz ea) (U eb ec ed) (U ee ef eg)),.int Χ k2]) (Bi rfl _ _ _ _ _ _ _ rfl _ rfl (Φ fq _ _ (dA (U dy dz ea) (U eb ec ed) (U ee ef eg)) 40 (0,0) E.o) Ρ rfl Ae) rfl ?_;refine⟨r,ft.o.setRow (Hb eh.o) E.o _,⟨d,H.o,λu=>by rw[HH.o,Ec],λh=>absurd h fp.o,λ_=>Gc eh.o λu=>?_⟩,(dr.o.t dx).setRow (by omega) _⟩;rw[fo.o];have:(λu=>d.has u=Α)=λu=>a.has u=Α:=funext λu=>by rw[HH.o,Ec]
 rw[this]
theorem Cj {P:Ö} {op:Ϭ} {a:ë} {w:Γ} (ty:TypeId) (x:Operand) (E:op.op=.load ty x)
  (b o:Nat) (hx:a.eval x=η (I ⟨b,o,J⟩)) (cs:List Δ) (d:TypeDesc) (hc:w.rangeAt b o cs)
  (hu:P.underlying ty=I d) (hd:d.isRow=Α) (hi:(P.info? ty).map (·.size)=I cs.length):(ö a.eval op).run P w=.ok (.value (.agg cs.toArray)) w:=by
 unfold ö;simp only[E,hx,Instr.loadAt,Instr.sureAddr,Sem.run_bind,Sem.run_pure,Result.andThen_ok,run_loadVar_mid w b o ty cs d hc hu hd hi]
theorem U2 {w:Γ} {b o:Nat} {v:Δ} (h:w.cell? ⟨b,o,J⟩=I v):w.rangeAt b o [v]:=λj u hu=>by
 rcases j with _|j
 ·simp at hu;subst hu;exact h
 simp at hu
def cIn (x:Tbl) (s:Sta):Sta:=⟨s.p,s.q,if x.ok s.p then s.s ||| 1 else s.s⟩
def cNx (x y:Tbl) (s:Sta) (b:Nat):Sta:=cIn x ⟨x.stp s.p b,0,A5 y s.s b y.n.length⟩
def cAc (y:Tbl) (s:Sta):Bool:=Ct y s.s
def Lz (x:Tbl) (s:Sta):Prop:=s.p<x.n.length/\s.q=0/\s.s<18446744073709551616
def cSt (x:Tbl):Sta:=cIn x ⟨0,0,0⟩
theorem N1 (x y:Tbl) (w:List UInt8):(Ap (cNx x y) (cSt x) w).q=0:=by
 induction w using Gv with
 | h0=>rfl
 | h1 w z E=>rw[E1];rfl
theorem Z5 (x:Tbl) (s:Sta) (h:s.s<18446744073709551616):(cIn x s).s<18446744073709551616:=by
 unfold cIn;simp only;split
 ·exact Nat.or_lt_two_pow (n:=64) h (by omega)
 exact h
theorem TU {x y:Tbl} (hx:TVal x) (E:TVal y) (G:y.n.length<=64) (s:Sta) (H:Lz x s) (b:Nat) (hb:b<256):Lz x (cNx x y s b):=
 ⟨hx.stp_lt H.1 hb,rfl,Z5 _ _ (Iv E G s.s b hb _ (Υ _))⟩
theorem Z4 (x y:Tbl) (s:Sta) (b:Nat):stP (cNx x y s b)=cnx x y (stP s) b:=rfl
theorem TL {x y:Tbl} (hx:TVal x) (H:TVal y) {c:Nat->Nat} {bs:List Nat} (E:Joint x.cell y.cell c bs) {l:List Sta} {t:Tbl} (h:Expl c bs (cSt x) (cNx x y) (cAc y) l t) (G:l.length<=4096) :
  TVal t/\t.n.length<=4096/\¬ Cr (cnx x y) (cst x) 4096/\∀ u,t.has u=Α↔Cat (λu=>x.has u=Α) (λv=>y.has v=Α) u:=by
 have hc:Expl c bs (cst x) (cnx x y) (λs=>Ct y s.2) (l.map stP) t:=
  h.conv (st:=cSt x) stP (λs b=>Z4 x y s b) (λs=>rfl) (λw w' e=>Mf (N1 x y w) (N1 x y w') e)
 have T:∀ (s:Nat × Nat) b,b<256->cnx x y s (bs.getD (c b) 0)=cnx x y s b:=λs b hb=>by
  obtain⟨_,h1,X⟩:=E.rep b hb;have e1:∀ p,x.stp p (bs.getD (c b) 0)=x.stp p b:=λp=>by unfold Tbl.stp;rw[h1]
  have e2:∀ n,A5 y s.2 (bs.getD (c b) 0) n=A5 y s.2 b n:=λn=>by
   induction n with
   | zero=>rfl
   | succ n ih=>simp only[A5];rw[ih];unfold Tbl.stp;rw[X]
  unfold cnx;rw[e1,e2]
 exact⟨h.tval E,by rw[h.len];exact G,Yu hc E T (by simpa using G),λu=>TJ H hc E u⟩
theorem Zn (x:Tbl) (hx:TVal x) (A:Array Δ) (gx:Nat) (w:Γ) (hA:IsT w A x) (ab:w.heap[gx]? = I (Β A 84 (0,0))) (W:Γ) (hW:Ext w W) (p z:Nat) (hp:p<x.n.length) (hz:z<18446744073709551616) :
  Ϟ Ι 43 #[.agg #[iv p,(.int Χ 0),.int γ (z:Int)],η (I ⟨gx,0,J⟩)] W λe w'=>e=Ω (stV (cIn x ⟨p,0,z⟩))/\Ext W w':=by
 obtain⟨_,_,_,ba,oa,ca,_,_,_,_,_,au,_,aw⟩:=(hA.ext hW).opened hx;have ab:=hW.heap ab;have a8:=(Τ W gx 258 _ _ _ ab).trans au;have aa:=aw p hp;show Ϟ _ _ _ _ λe w'=>e=Ω (.agg #[iv p,(.int Χ 0),.int γ ((if x.ok p then z ||| 1 else z:Nat):Int)])/\Ext W w'
 have T:=((Κ W).alloc (Β #[iv p,(.int Χ 0),.int γ (z:Int)] 103)).alloc (Β #[.int Χ 0,.int Χ 0,.int γ 0] 103);have E:=Ag (Ad W (Β #[iv p,(.int Χ 0),.int γ (z:Int)] 103)) (Β #[.int Χ 0,.int Χ 0,.int γ 0] 103);have H3:=ύ W (Β #[iv p,(.int Χ 0),.int γ (z:Int)] 103) (Β #[.int Χ 0,.int Χ 0,.int γ 0] 103);have HO:=Z (Vu z hz);clear hA au aw ab;generalize x.n.length=nx at *;generalize x.ok p=bo at *;go_enter Tryz.func43,Tryz.ntmps43;go_upto_region 1 with (fail)
 obtain⟨w1,ad⟩:=Xq ((W.alloc (Β #[iv p,(.int Χ 0),.int γ (z:Int)] 103)).alloc (Β #[.int Χ 0,.int Χ 0,.int γ 0] 103));have bh:W.heap.size+1<w1.heap.size:=by rw[<-ad,Ο,Ο];omega
 rw[ad] at T E H3;simp only[ad];clear ad;have a8:=T.cell a8;have aa:=T.cell aa;have X:=Z E;have G:=Z H3;have ay:=Z T;have c0:=(Τ w1 W.heap.size 0 _ _ _ E).trans (show (#[iv p,(.int Χ 0),.int γ (z:Int)]:Array Δ)[0]? = I (iv p) from rfl);have c2:=(Τ w1 W.heap.size 2 _ _ _ E).trans (show (#[iv p,(.int Χ 0),.int γ (z:Int)]:Array Δ)[2]? = I (.int γ (z:Int)) from rfl);have f2:=Â w1 W.heap.size 2 _ _ E;clear E H3 T;have H:∀ z:Int,(Ι.info? 103).map (·.size)=I (#[iv p,(.int Χ 0),.int γ z]:Array Δ).size:=λ_=>D7
 cases bo
 ·go_wp2_with (first
   | (refine Lr 103 (ε 2) X.o È (H _) ?_)
   | (refine Sr 103 (ε 3) (ε 16) rfl G.o (H _) rfl (by simp[ξ]) ?_))
  refine ω (v:=.agg #[iv p,(.int Χ 0),.int γ (z:Int)]) (Æ rfl _ _ _ _ _ _ _ rfl (Φ w1 _ _ _ 103 (0,0) G.o) È rfl (H _)) rfl ?_;exact⟨rfl,ay.o.setRow (by omega) _⟩
 go_upto_region 3 with (fail)
 have az:w1.setCell ⟨W.heap.size,2,J⟩ (.int γ (bits BinOp.or ϩ (z:Int) 1))=w1.setRow W.heap.size #[iv p,(.int Χ 0),.int γ ((z ||| 1:Nat):Int)]:=by rw[ϧ w1 _ _ _ _ _ _ X.o,HO.o];rfl
 rw[az];have ae:=Φ w1 W.heap.size _ #[iv p,(.int Χ 0),.int γ ((z ||| 1:Nat):Int)] _ _ X.o;have af:=Bk G.o (show W.heap.size+1≠W.heap.size by omega) #[iv p,(.int Χ 0),.int γ ((z ||| 1:Nat):Int)];have ag:=ay.o.setRow (Υ _) #[iv p,(.int Χ 0),.int γ ((z ||| 1:Nat):Int)];obtain⟨y,hy⟩:=Xq (((z ||| 1:Nat):Int):Int);rw[hy] at ae af ag;rw[hy];obtain⟨w6,ao⟩:=Xq (w1.setRow W.heap.size #[iv p,(.int Χ 0),.int γ y]);rw[ao] at ae af ag;rw[ao];have X:=Z ae;have G:=Z af;have bc:=Z ag;have HY:=Z hy;clear c0 c2 f2 a8 aa az ae af ag hy HO ao;go_wp2_with (first
  | (refine Lr 103 (ε 2) X.o È (H _) ?_)
  | (refine Sr 103 (ε 3) (ε 16) rfl G.o (H _) rfl (by simp[ξ]) ?_))
 refine ω (v:=.agg #[iv p,(.int Χ 0),.int γ y]) (Æ rfl _ _ _ _ _ _ _ rfl (Φ w6 _ _ _ 103 (0,0) G.o) È rfl (H _)) rfl ?_;exact⟨by rw[<-HY.o],bc.o.setRow (by omega) _⟩
theorem SF (x y:Tbl) (hy:TVal y) (hn:y.n.length<=64) (B:Array Δ) (gy:Nat) (w:Γ) (hB:IsT w B y) (E:w.heap[gy]? = I (Β B 84 (0,0))) :
  N9 w 47 #[η (I ⟨gy,0,J⟩)] (cAc y) (Lz x):=by
 intro W H s hs;obtain⟨-,-,af⟩:=hs;have T:=hB.ext H;obtain⟨_,_,_,_,_,_,aj,au,_⟩:=T.opened hy;have hiB:(Ι.info? 84).map (·.size)=I B.size:=by rw[aj];exact Ce
 have E:=H.heap E;have f76:=λV (hV:Ext W V)=>Z (Oz y hy hn B s.s af V (T.ext hV))
 show Ϟ _ _ _ _ λe w'=>e=Ω (.bool (Ct y s.s))/\Ext W w'
 have G:=(Κ W).alloc (Β #[iv s.p,iv s.q,.int γ (s.s:Int)] 103);have X:=Ad W (Β #[iv s.p,iv s.q,.int γ (s.s:Int)] 103);generalize Ct y s.s=bo at *;clear hB T H;go_enter Tryz.func47,Tryz.ntmps47;go_upto_region 1 with (fail)
 obtain⟨w1,aa⟩:=Xq (W.alloc (Β #[iv s.p,iv s.q,.int γ (s.s:Int)] 103));rw[aa] at G X;simp only[aa];clear aa;have an:=Z (G.heap E);have ao:w1.rangeAt W.heap.size 2 [.int γ (s.s:Int)]:=U2 ((Τ w1 W.heap.size _ _ _ _ X).trans rfl);have ag:=Z G;clear X E G af;go_wp2_with (first
  | (refine Lr 84 (ε 1) an.o ϭ hiB ?_)
  | (refine é rfl 101 (ε 5) rfl _ 2 rfl _ _ ao Tryz.underlying101 rfl i114 ?_)
  | (go_at_call 48;(with_reducible refine (f76 _ ag.o).o.mono ?_);rintro e w5 ⟨rfl,aq⟩;have ar:=Z (ag.o.t aq)))
 go_ret;exact⟨rfl,ar.o⟩
theorem TA (x y:Tbl) (hx:TVal x) (hy:TVal y) (hn:y.n.length<=64) (A B:Array Δ) (G gy gf:Nat) (w:Γ) (hA:IsT w A x) (hB:IsT w B y) (aa:w.heap[G]? = I (Β A 84 (0,0))) (ah:w.heap[gy]? = I (Β B 84 (0,0)))
  (bb:w.heap[gf]? = I (Β #[.func (.func 43) #[] #[η (I ⟨G,0,J⟩)]] 104 (0,0))) :
  Ob w 44 #[η (I ⟨gf,0,J⟩),η (I ⟨G,0,J⟩),η (I ⟨gy,0,J⟩)] (cNx x y) (Lz x):=by
 intro W hW s hs b hb;obtain⟨hp,-,bd⟩:=hs;obtain⟨bn,on,cn,_,_,_,_,_,bg,_,bh,_,bj,_⟩:=(hA.ext hW).opened hx;have ax:=hB.ext hW;obtain⟨_,_,_,_,_,_,b5,cb,_⟩:=ax.opened hy;have hiB:(Ι.info? 84).map (·.size)=I B.size:=by rw[b5];exact Ce
 have f73:=λV (E:Ext W V)=>Z (Tj y hy hn B s.s bd b hb V (ax.ext E))
 have bk:=Iv hy hn s.s b hb _ (Υ _);have bl:=hx.stp_lt hp hb;have f71:=λV (E:Ext W V)=>Z (Zn x hx A G w hA aa V (hW.trans E) (x.stp s.p b) (A5 y s.s b y.n.length) bl bk)
 have aa:=hW.heap aa;have ah:=hW.heap ah;have a7:=(Τ W G 257 _ _ _ aa).trans bh;have ac:=(Τ W G b _ _ _ aa).trans (bg b hb);obtain⟨br,or',cr,aj,bo⟩:=bj s.p hp;have ae:=bo _ (hx.cell_lt b hb);have cc:=hx.cell_lt b hb;have bp:x.ent2 s.p (x.cell b)=x.stp s.p b:=rfl;rw[bp] at ae;have g0:=(Τ W gf 0 _ _ _ (hW.heap bb)).trans (show (#[Δ.func (.func 43) #[] #[η (I ⟨G,0,J⟩)]]:Array Δ)[0]? = I (.func (.func 43) #[] #[η (I ⟨G,0,J⟩)]) from rfl);have cd:=enters_of Tryz.func43 (by kernel_rfl) rfl;show Ϟ _ _ _ _ λe w'=>e=Ω (stV (cIn x ⟨x.stp s.p b,0,A5 y s.s b y.n.length⟩))/\Ext W w'
 have H:=((Κ W).alloc (Β #[iv s.p,iv s.q,.int γ (s.s:Int)] 103)).alloc (Β #[.int Χ 0,.int Χ 0,.int γ 0] 103);have H5:=Ag (Ad W (Β #[iv s.p,iv s.q,.int γ (s.s:Int)] 103)) (Β #[.int Χ 0,.int Χ 0,.int γ 0] 103);have H7:=ύ W (Β #[iv s.p,iv s.q,.int γ (s.s:Int)] 103) (Β #[.int Χ 0,.int Χ 0,.int γ 0] 103);clear hA hB ax bg bh bj bp bo bb aa bd bk bl;generalize A5 y s.s b y.n.length=T at *;generalize x.stp s.p b=p2 at *;obtain⟨R,hR⟩:=Xq (cIn x ⟨p2,0,T⟩);rw[hR] at f71;rw[hR];clear hR;generalize x.cell b=cx at *;have cf:(b:Int)<256:=by omega
 generalize x.cells=mx at *;generalize x.n.length=nx at *;clear hx hy hn;go_enter Tryz.func44,Tryz.ntmps44;go_upto_region 1 with (fail)
 obtain⟨w1,a1⟩:=Xq ((W.alloc (Β #[iv s.p,iv s.q,.int γ (s.s:Int)] 103)).alloc (Β #[.int Χ 0,.int Χ 0,.int γ 0] 103));rw[a1] at H H5 H7;simp only[a1];clear a1;have a7:=H.cell a7;have ac:=H.cell ac;have aj:=H.cell aj;have ae:=H.cell ae;have g0:=H.cell g0;have c0:=(Τ w1 W.heap.size 0 _ _ _ H5).trans (show (#[iv s.p,iv s.q,.int γ (s.s:Int)]:Array Δ)[0]? = I (iv s.p) from rfl);have c2:=(Τ w1 W.heap.size 2 _ _ _ H5).trans (show (#[iv s.p,iv s.q,.int γ (s.s:Int)]:Array Δ)[2]? = I (.int γ (s.s:Int)) from rfl);have bq:=Z (λV (E:Ext w1 V)=>E.heap (H.heap ah));have bt:=Z (λV (E:Ext w1 V)=>U2 (E.cell c2));have bu:∀ V,Ext w1 V->V.cell? ⟨G,257,J⟩=I (U (I ⟨bn,on,J⟩) nx cn)/\V.cell? ⟨G,b,J⟩=I (iv cx)/\V.cell? ⟨bn,on+s.p,J⟩=I (U (I ⟨br,or',J⟩) mx cr)/\V.cell? ⟨br,or'+cx,J⟩=I (iv p2)/\V.cell? ⟨W.heap.size,0,J⟩=I (iv s.p)/\V.cell? ⟨gf,0,J⟩=I (.func (.func 43) #[] #[η (I ⟨G,0,J⟩)]):=
  λV E=>⟨E.cell a7,E.cell ac,E.cell aj,E.cell ae,E.cell c0,E.cell g0⟩
 clear a7 ac aj ae c0 c2 g0 ah H5;have bw:=Z (AE (p2:Int) (T:Int));refine Bq 20 [(0,Α),(1,Α),(2,Α),(3,Α),(4,Α),(5,Α),(6,Α),(7,Α),(8,Α),(9,Α),(10,Α),(11,Α),(12,Α),(13,Α),(14,Α),(15,Α),(16,Α),(17,Ε),(18,Α),(19,Ε),(20,Ε)] (by kernel_rfl) (by kernel_rfl) (λ_ _ _ _ h=>h)
  (λV=>Ext w1 V) (Κ w1).drew ?_
 have ad:=(Κ w1).drew;have X:=ad.heap H7;obtain⟨w2,a6⟩:=Xq (w1.drew);rw[a6] at ad X;rw[a6];clear a6 H7;iterate 13
  refine Ai (v:=?_) rfl rfl (λV E=>?_) ?_
  rotate_left
  ·obtain⟨k0,k1,k2,k3,k4,k5⟩:=bu V E;clear E;go_simp;first|done|with_reducible rfl
  simp only[θ,Η,Μ,Λ]
 refine Ai (v:=.agg B) rfl rfl (λV E=>?_) ?_
 ·exact Ei 84 (ε 4) rfl gy rfl _ _ _ _ (bq.o V E) ϭ rfl hiB
 simp only[θ,Η,Μ,Λ];refine Ai (v:=?_) rfl rfl (λV E=>?_) ?_
 rotate_left
 ·clear E;go_simp;first|done|with_reducible rfl
 simp only[θ,Η,Μ,Λ];refine Ai (v:=.agg #[.int γ (s.s:Int)]) rfl rfl (λV E=>?_) ?_
 ·exact Cj 101 (ε 22) rfl W.heap.size 2 rfl _ _ (bt.o V E) Tryz.underlying101 rfl i114
 simp only[θ,Η,Μ,Λ];refine Ai (v:=?_) rfl rfl (λV E=>?_) ?_
 rotate_left
 ·clear E;go_simp;first|done|with_reducible rfl
 simp only[θ,Η,Μ,Λ];clear bu bq bt;refine Ao rfl (λK hK=>?_);go_simp
 (with_reducible refine (f73 w2 (H.t ad)).o.mono ?_)
 rintro e w3 ⟨rfl,aq⟩;refine hK _ _ (λ_=>ad.t aq) ?_;clear hK K;refine Ai (v:=.agg #[iv p2,.int Χ 0,.int γ (T:Int)]) rfl rfl (λV _=>?_) ?_
 ·exact Gi 103 _ rfl (by simpa [ß] using bw.o) V
 simp only[θ,Η,Μ,Λ];have X:=aq.heap X;have bz:=(H.t ad).trans aq;refine Ao rfl (λK hK=>?_);go_simp
 (with_reducible refine (f71 w3 bz).o.mono ?_)
 rintro e w4 ⟨rfl,a8⟩;refine hK _ _ (λ_=>(ad.t aq).trans a8) ?_;clear hK K;have X:=a8.heap X;refine Ao rfl (λK hK=>?_);refine Hu 103 (ε 7) (ε 27) rfl rfl _ (stA R) rfl rfl _ _ X D7 rfl (Tz R) ?_;refine hK _ _ (λh=>absurd h (by omega)) ?_;clear hK K;refine Bn ?_;have b9:=(bz.t a8).setRow (show W.heap.size<=W.heap.size+1 by omega) (stA R);have H8:=Φ w4 _ _ (stA R) 103 (0,0) X;clear f71 f73 bw;go_wp2;refine ω (v:=.agg (stA R)) (Æ rfl _ _ _ _ _ _ _ rfl H8 È rfl D7) rfl ?_;exact⟨rfl,b9⟩
section
variable {P:Program} {ops:Array Oper} {Q:Exit->Act->World->Prop} {n:Nat}
def Lb (ops:Array Ϭ) (n p:Nat):Bool:=
 (π n).all (λk=>decide (k=p)||ñ .any ops n k)&&(π ops.size).all (λt=>decide (t<=n)||ñ .any ops t (t-1))&&
 (match ops[p]? with|none=>Ε|some op=>op.after.all λe=>!Region.binds .any e||decide (e.on<p))&&
 (π ops.size).all λj=>decide (j=p)||ñ .any ops j p||ñ .any ops p j||match ops[p]?,ops[j]? with|some op,I oj=>op.apart ops oj|_,_=>Ε
theorem Mc {i j:Nat} {listed:Array Bool} (h:ñ .any ops i j=Α) (E:i∈Ϯ .any ops listed):listed.getD j Ε=Α:=by obtain⟨oi,G,e,he,hb,H⟩:=Region.waitsFor_spec h;obtain⟨_,o,T,X⟩:=ý.1 E;have:oi=o:=ϓ (G.symm.trans T);subst this;rw[<-H];exact X e he hb
theorem Qg {F:Nat->Δ->Γ->Prop} {Ne:Nat->Nat->Δ->Δ->Prop} (ae:∀ i j v u,Ne i j v u->Ne j i u v) (hF:∀ i v w w',F i v w->Ext w w'->F i v w') {a0:ë} {w1:Γ} {sz g p:Nat} (T:p<n) (ag:a0.tmps.size=sz) (hd:Ey ops n sz=Α) (hL:Lb ops n p=Α) (ao:Region.noSelect ops=Α) (hn:n<ops.size) (hE:Fg ops n=Α)
  (hQ:∀ c a tm w,Q (.panic c) { tmps:=tm,defers:=a.defers } w->Q (.panic c) a w)
  (au:∀ o (listed:Array Bool) a w,ops[p]? = I o->p∈Ϯ .any ops listed->FInvR ops n F Ne a0 w1 listed a w->∃ v,∀ W,(ö a.eval o).run P W=.ok (.value v) W)
  (ah:∀ i,i<n->FOp P ops Q n F Ne a0 w1 i) (aw:∀ listed a w,HeadInv .any ops n listed->(∀ i,i<n->listed.getD i Ε=Α)->FInvR ops n F Ne a0 w1 listed a w->wpAny P .any ops Q g listed a w) :
  ∀ (f:Nat) (listed:Array Bool) (a:ë) (w:Γ),HeadInv .any ops n listed->FInvR ops n F Ne a0 w1 listed a w->unl n listed=f->wpAny P .any ops Q (f+g) listed a w
 | 0,listed,a,w,X,hI,hu=>by rw[Ϣ];exact aw listed a w X (Hl n listed hu) hI
 | f+1,listed,a,w,X,hI,hu=>by
  obtain⟨k,hk,ax,bm⟩:=Jg n listed (by omega);have ay:=La hE X.size (by omega) k hk bm ax;rw[show f+1+g=(f+g)+1 by omega];have key:∀ i,i∈Ϯ .any ops listed->i<n->unl n (listed.setIfInBounds i Α)=f:=λi hi aa=>by
   have ba:=(ý.1 hi).1;have bb:i<listed.size:=by rw[X.size];omega
   have bn:listed.getD i Ε=Ε:=by rw[Ϗ,ϗ bb] at ba ⊢;exact ba
   have:=Iu n listed i aa bb bn;omega
  simp only[Lb,ς,Þ,ώ] at hL;obtain⟨⟨⟨l1,l2⟩,l3⟩,l4⟩:=hL;have be:Lb ops n p=Α:=by simp only[Lb,ς,Þ,ώ];exact⟨⟨⟨l1,l2⟩,l3⟩,l4⟩
  by_cases H:p∈Ϯ .any ops listed
  ·obtain⟨b8,o,G,bf⟩:=ý.1 H;obtain⟨o',d,aj,bp,_,_⟩:=Il hd p T;rw[G] at aj;injection aj with aj
   subst aj;obtain⟨v,hv⟩:=au o listed a w G H hI;obtain⟨o2,bq,hw,az⟩:=Yo ae hF ag hd hI H T (ah p T);have e2:o2=o:=ϓ (bq.symm.trans G);subst e2;have bu:FInvR ops n F Ne a0 w1 (listed.setIfInBounds p Α) (a.put o2.dst v) w:=by unfold Ϭ.wp at az;rw[hv w] at az;exact az
   refine wpAny_first G (Region.noSelect_spec ao) (v:=v) (λc a w hq=>?_) (f+g) listed a w (λj oj hj bw bz b0=>?_) H (.inl ⟨hw,hv⟩) (Qg ae hF T ag hd be ao hn hE hQ au ah aw f _ _ w (X.set H T) bu (key p H T))
   ·rw[bp] at hq;exact hQ c a _ w hq
   have E:=l4 j (Ϙ.1 hj).1;rw[G,hj] at E;simp only[Ô,decide_eq_true_eq] at E;rcases E with ((E|E)|E)|E
   ·exact absurd E bw
   ·obtain⟨ca,ak,e,he,hb,b4⟩:=Region.waitsFor_spec E;rw[hj] at ak;injection ak with ak
    subst ak;exact absurd b4 (b0 e he hb)
   ·have:=Mc E H;have h5:=getD_both bz;rw[this] at h5;cases h5
   exact E
  refine⟨λh0=>(by rw[h0] at ay;cases ay),λi hi=>?_⟩;have aa:i<n:=Nat.lt_of_not_le λh=>by
   by_cases b5:i=n
   ·subst b5;have bf:∀ k,k<i->k≠p->listed.getD k Ε=Α:=λk hk a6=>by
     have:=l1 k hk;simp only[Ô,decide_eq_true_eq] at this;rcases this with h|h
     ·exact absurd h a6
     exact Mc h hi
    have a6:k=p:=by apply Å;intro h';rw[bf k hk h'] at ax;cases ax
    subst a6;exact H ay
   have h2:=l2 i (by obtain⟨_,o,G,_⟩:=ý.1 hi;exact (Ϙ.1 G).1)
   simp only[Ô,decide_eq_true_eq] at h2;rcases h2 with h2|h2
   ·omega
   have h3:=Mc h2 hi;have h5:=X.tail (i-1) (by omega) (by obtain⟨_,o,G,_⟩:=ý.1 hi;have:=(Ϙ.1 G).1;omega)
   rw[getD_both h5] at h3;cases h3
  exact wpOp_mono (λa' w' h=>Qg ae hF T ag hd be ao hn hE hQ au ah aw f _ a' w' (X.set hi aa) h (key i hi aa)) (Yp ae hF ag hd hI hi aa (ah i aa))
def Xa (ops:Array Ϭ) (n sz p:Nat):Bool:=
 Ey ops n sz&&Lb ops n p&&Region.noSelect ops&&decide (p<n)&&decide (n<ops.size)&&Fg ops n&&Region.seqB .any ops (ops.size-n) n (Ep ops.size n)
theorem Sz {id:Nat} {l:List Ϭ} {a0:ë} {w:Γ} (n sz p:Nat) (hm:P.follows .mixedOrders=Α) (hB:Xa l.toArray n sz p=Α) (ae:a0.tmps.size=sz) (hQ:∀ c a tm w,Q (.panic c) { tmps:=tm,defers:=a.defers } w->Q (.panic c) a w)
  (F:Nat->Δ->Γ->Prop) (Ne:Nat->Nat->Δ->Δ->Prop) (aq:∀ i j v u,Ne i j v u->Ne j i u v) (hF:∀ i v w w',F i v w->Ext w w'->F i v w')
  (op:Ϭ) (au:l[p]? = I op) (aw:∀ (a:ë) (w:Γ),(∀ j dj,Gj l.toArray n p j dj=Α->F j (a.tmps.getD dj δ) w)->∃ v,∀ W,(ö a.eval op).run P W=.ok (.value v) W)
  (ax:∀ i,i<n->FOp P l.toArray Q n F Ne a0 w.drew i) (ay:∀ (vs:Nat->Δ) (w':Γ),Ext w.drew w'->(∀ i,i<n->F i (vs i) w')->(∀ i j,i<n->j<n->i≠j->Ne i j (vs i) (vs j))->wpList P l.toArray Q (l.drop n) (Bm l.toArray vs n a0) w'):(Code.region id l.toArray Α).wp P Q a0 w:=by
 simp only[Xa,ς,decide_eq_true_eq] at hB;obtain⟨⟨⟨⟨⟨⟨hd,T⟩,az⟩,hp⟩,hn⟩,hE⟩,ag⟩:=hB;refine wp_region_any hm ?_;have a7:HeadInv .any l.toArray n (ä l.toArray.size Ε):=
  ⟨by simp,λj oj _ E=>(by rw[ϛ] at E;cases E),λt _ ht=>getD_in (by simpa using ht) (ϛ _ _)⟩
 have ba:FInvR l.toArray n F Ne a0 w.drew (ä l.toArray.size Ε) a0 w.drew:=
  ⟨Κ _,rfl,rfl,λi o d _ _ _ E=>(by rw[ϛ] at E;cases E),λd _=>rfl,λi j _ _ _ _ _ _ _ _ _ _ _ E=>(by rw[ϛ] at E;cases E)⟩
 have hu:∀ m,unl m (ä l.toArray.size Ε)=m:=λm=>by
  induction m with
  | zero=>rfl
  | succ m ih=>rw[Fj,ih,ϛ];simp
 have H:=Qg (P:=P) (Q:=Q) (g:=(l.drop n).length) aq hF hp ae hd T az hn hE hQ (λo listed a w ho ai G=>by
  obtain⟨_,o',bc,X⟩:=ý.1 ai;have e1:o'=o:=ϓ (bc.symm.trans ho);subst e1;have e2:op=o':=by
   have:l.toArray[p]? = I op:=by rw[<-au];simp
   exact ϓ (this.symm.trans ho)
  subst e2;refine aw a w λj dj h=>?_
  unfold Gj at h;simp only[ς,decide_eq_true_eq] at h;obtain⟨⟨hj,h1⟩,h2⟩:=h;cases aa:l.toArray[j]? with
  | none=>rw[aa] at h1;cases h1
  | some oj=>rw[aa] at h1;exact G.done j oj dj hj aa (of_decide_eq_true h1) (Mc h2 ai)) ax (λlisted a w' ab X G=>by
  obtain⟨vs,rfl,hv,bh⟩:=Qz ae hd G X;have T:listed=Ep l.toArray.size n:=by
   apply Array.ext
   ·rw[ab.size];simp[Ep]
   intro i h1 h2;have h3:(Ep l.toArray.size n)[i]=decide (i<n):=by simp[Ep]
   rw[h3];by_cases hi:i<n
   ·have:=X i hi;rw[Ϗ,ϗ h1] at this;simp only[Ç] at this;rw[this];simp[hi]
   have:=ab.tail i (by omega) (by rw[<-ab.size];exact h1);rw[Ϗ,ϗ h1] at this;simp only[Ç] at this;rw[this];simp[hi]
  have bk:l.toArray.size-n=(l.drop n).length:=by simp
  rw[bk] at ag;exact wpAny_of_seq (l.drop n) n listed _ w' (λj=>by simp[List.getElem?_drop]) (by rw[T];exact ag) (ay vs w' G.ext hv bh)) n _ a0 w.drew a7 ba (hu n)
 have e:n+(l.drop n).length=l.toArray.size:=by
  have:n<l.length:=by simpa using hn
  simp;omega
 rw[e] at H;exact H
end
def CanT (a:Dfa) (A:Array Δ) (W:Γ):Prop:=∃ d,Cano d/\(∀ u,d.has u=a.has u)/\∀ W',Near W W'->IsT W' A (Ah d)
def PtrF (E:Nat) (v:Δ) (W:Γ):Prop:=∃ g,v=η (I ⟨g,0,J⟩)/\W.heap[g]? = I (Β Ψ 84 (0,0))/\E<=g
def Rw (w0:Γ) (E:Nat) (G vb:Array Δ) (a b:Dfa):Nat->Δ->Γ->Prop
 | 0,v,_=>v=.agg G
 | 1,v,_=>∃ A,v=.agg A/\IsT w0 A (Ah a)
 | 2,v,W=>∃ d,Cano d/\(∀ u,d.has u=a.has u)/\∀ W',Near W W'->IsD W' v d
 | 3,v,W=>∃ A,v=.agg A/\CanT a A W
 | 4,v,_=>v=.agg vb
 | 5,v,_=>∃ A,v=.agg A/\IsT w0 A (Ah b)
 | 6,v,W=>∃ d,Cano d/\(∀ u,d.has u=b.has u)/\∀ W',Near W W'->IsD W' v d
 | 7,v,W=>∃ A,v=.agg A/\CanT b A W
 | _,v,W=>PtrF E v W
def Rv (i j:Nat) (v u:Δ):Prop:=(i=8/\j=9\/i=9/\j=8)->v≠u
theorem TM (i j:Nat) (v u:Δ) (h:Rv i j v u):Rv j i u v:=λE=>(h (by omega)).symm
theorem CanT.ext {a:Dfa} {A:Array Δ} {W W':Γ} (h:CanT a A W) (E:Ext W W'):CanT a A W':=by obtain⟨d,h1,G,H⟩:=h;exact⟨d,h1,G,λT X=>H T (X.pre E)⟩
theorem PtrF.ext {E:Nat} {v:Δ} {W W':Γ} (h:PtrF E v W) (G:Ext W W'):PtrF E v W':=by obtain⟨g,h1,H,T⟩:=h;exact⟨g,h1,G.heap H,T⟩
theorem TN (w0:Γ) (n0:Nat) (va vb:Array Δ) (a b:Dfa):∀ (i:Nat) (v:Δ) (w w':Γ),Rw w0 n0 va vb a b i v w->Ext w w'->Rw w0 n0 va vb a b i v w'
 | 0,_,_,_,h,_=>h
 | 1,_,_,_,h,_=>h
 | 2,_,_,_,⟨d,h1,G,H⟩,E=>⟨d,h1,G,λT X=>H T (X.pre E)⟩
 | 3,_,_,_,⟨A,h1,G⟩,E=>⟨A,h1,G.ext E⟩
 | 4,_,_,_,h,_=>h
 | 5,_,_,_,h,_=>h
 | 6,_,_,_,⟨d,h1,G,H⟩,E=>⟨d,h1,G,λT X=>H T (X.pre E)⟩
 | 7,_,_,_,⟨A,h1,G⟩,E=>⟨A,h1,G.ext E⟩
 | _+8,_,_,_,h,E=>PtrF.ext h E
def TabF (E:Bool) (L:List UInt8->Prop) (A:Array Δ) (W:Γ):Prop:=A.size=259/\A.all (·.oneCell')=Α/\(E=Α->∃ t,TVal t/\t.n.length<=4096/\(∀ u,t.has u=Α↔L u)/\∀ W',Near W W'->IsT W' A t)
theorem TabF.ext {E:Bool} {L:List UInt8->Prop} {A:Array Δ} {W W':Γ} (h:TabF E L A W) (G:Ext W W'):TabF E L A W':=by obtain⟨h1,H,T⟩:=h;refine⟨h1,H,λhb=>?_⟩;obtain⟨t,t1,t2,t3,t4⟩:=T hb;exact⟨t,t1,t2,t3,λX hN=>t4 X (hN.pre G)⟩
def Q7 (G:Nat) (H:Array Δ) (T f1:Δ) (vs:Δ) (f2 f3:Δ) (E:Bool) (L:List UInt8->Prop):Nat->Δ->Γ->Prop
 | 0,v,_=>v=.agg H
 | 1,v,_=>v=T
 | 2,v,_=>v=f1
 | 3,v,_=>v=.agg #[.int Χ 0,.int Χ 0,.int γ 0]
 | 4,v,_=>v=vs
 | 5,v,_=>v=f2
 | 6,v,_=>v=f3
 | 7,v,W=>∃ A,v=ϙ #[.agg A,.bool E]/\TabF E L A W
 | 8,v,W=>∃ A,v=ϙ #[.agg A,.bool E]/\TabF E L A W
 | 9,v,W=>∃ A,v=.agg A/\TabF E L A W
 | 10,v,_=>v=.bool E
 | _,v,W=>PtrF G v W
def Q6 (_ _:Nat) (_ _:Δ):Prop:=True
theorem RJ (i j:Nat) (v u:Δ) (_:Q6 i j v u):Q6 j i u v:=trivial
theorem RK (H:Nat) (T:Array Δ) (X f1:Δ) (vs:Δ) (f2 f3:Δ) (bo:Bool) (L:List UInt8->Prop):∀ (i:Nat) (v:Δ) (w w':Γ),Q7 H T X f1 vs f2 f3 bo L i v w->Ext w w'->Q7 H T X f1 vs f2 f3 bo L i v w'
 | 0,_,_,_,h,_=>h
 | 1,_,_,_,h,_=>h
 | 2,_,_,_,h,_=>h
 | 3,_,_,_,h,_=>h
 | 4,_,_,_,h,_=>h
 | 5,_,_,_,h,_=>h
 | 6,_,_,_,h,_=>h
 | 7,_,_,_,⟨A,h1,G⟩,E=>⟨A,h1,G.ext E⟩
 | 8,_,_,_,⟨A,h1,G⟩,E=>⟨A,h1,G.ext E⟩
 | 9,_,_,_,⟨A,h1,G⟩,E=>⟨A,h1,G.ext E⟩
 | 10,_,_,_,h,_=>h
 | _+11,_,_,_,h,E=>PtrF.ext h E
theorem UO:Ι.built 103 []=I #[.int Χ 0,.int Χ 0,.int γ 0]:=by kernel_rfl
theorem Lp (a b:Dfa) (ha:Val a) (hb:Val b) (c8:a.n.length<=64) (c9:b.n.length<=64) (va vb:Δ) (w:Γ) (hT:Tab w) (bc:0<w.heap.size) (da:IsD w va a) (db:IsD w vb b) :
  Ϟ Ι 18 #[va,vb] w λe w'=>∃ r,ResOf w' e r/\Cx a b r/\Ext w w':=by
 have dc:=Z da;have dd:=Z db;have ez:=Z ha;have e0:=Z hb;obtain⟨ac,lc,cc,an,cn,aa,la,ca,rfl⟩:=da.agg;obtain⟨ig,ih,ij,ik,il,im,ir,iu,rfl⟩:=db.agg;have de:=λW (E:Ext w W)=>Z (Fi a ha c8 _ W (dc.o.ext E))
 have df:=λW (E:Ext w W)=>Z (Fi b hb c9 _ W (dd.o.ext E))
 have e3:=λW (E:Ext w W)=>Z (Kg a ha _ w W E (hT.below E.below bc) (Ξ bc E.size) dc.o)
 have e4:=λW (E:Ext w W)=>Z (Kg b hb _ w W E (hT.below E.below bc) (Ξ bc E.size) dd.o)
 have e5:=Z (λW (E:Ext w W)=>hT.below E.below bc);obtain⟨Va,cj⟩:=Xq (dA (U ac lc cc) (U an a.n.length cn) (U aa la ca));obtain⟨Vb,ck⟩:=Xq (dA (U ig ih ij) (U ik b.n.length il) (U im ir iu));have e6:(Ι.info? 40).map (·.size)=I Va.size:=by rw[<-cj];exact Ae
 have e7:(Ι.info? 40).map (·.size)=I Vb.size:=by rw[<-ck];exact Ae
 rw[cj] at de e3 dc;rw[ck] at df e4 dd;rw[cj,ck];have cl:=(((Κ w).alloc (Β Va 40)).alloc (Β Vb 40)).alloc (Β #[U J 0 0,U J 0 0,U J 0 0] 40);have H3:=Ag (Ag (Ad w (Β Va 40)) (Β Vb 40)) (Β #[U J 0 0,U J 0 0,U J 0 0] 40);have H4:=Ag (ύ w (Β Va 40) (Β Vb 40)) (Β #[U J 0 0,U J 0 0,U J 0 0] 40);have H6:=Ad ((w.alloc (Β Va 40)).alloc (Β Vb 40)) (Β #[U J 0 0,U J 0 0,U J 0 0] 40);rw[Ο,Ο] at H6;clear da db ha hb hT cj ck;go_enter Tryz.func18,Tryz.ntmps18;go_upto_region 1 with (fail)
 obtain⟨w1,cm⟩:=Xq (((w.alloc (Β Va 40)).alloc (Β Vb 40)).alloc (Β #[U J 0 0,U J 0 0,U J 0 0] 40));have e8:w.heap.size+1+1<w1.heap.size:=by rw[<-cm,Ο,Ο,Ο];omega
 rw[cm] at cl H3 H4 H6;simp only[cm];clear cm;have cp:=Z H3;have bl:=Z H4;have af:=Z H6;clear H3 H4 H6;go_upto_region 3 with (first
  | (refine Lr 40 (ε 2) cp.o Ρ e6 ?_)
  | (refine El rfl (wp_load_row 40 (ε 3) rfl _ rfl _ _ _ _ bl.o Ρ rfl e7 ?_))
  | (go_at_call 33;(with_reducible refine (de _ cl).o.mono ?_);rintro e w2 ⟨rfl,bm⟩;have dk:=cl.t bm;have bl:=Z (bm.heap bl.o))
  | (go_at_call 33;(with_reducible refine (df _ dk).o.mono ?_);rintro e w3 ⟨rfl,bn⟩;have a6:=dk.t bn))
 have cp:=Z ((bm.t bn).heap cp.o);have bl:=Z (bn.heap bl.o);have af:=Z ((bm.t bn).heap af.o);have j8:w.heap.size+1+1<w3.heap.size:=Ξ e8 (bm.t bn).size;clear de df cl bm dk bn e8;refine Hk 10 57 (by kernel_rfl) (by kernel_rfl) rfl (Rw w w3.heap.size Va Vb a b) Rv TM (TN w w3.heap.size Va Vb a b) (λi hi=>?_) (λvs w4 e9 X hN=>?_)
 ·have ag:=(Κ w3).drew
  match i,hi with
  | 0,_=>
   refine Av _ _ rfl rfl rfl λc W E G H=>?_
   have h3:=H 2 (by kernel_rfl);refine Cy (Ei 40 (ε 2) rfl w.heap.size h3 _ _ _ _ ((ag.t E).heap cp.o) Ρ rfl e6) ?_;exact⟨_,rfl,Κ W,rfl,λj u _ _ _ h=>by omega⟩
  | 4,_=>
   refine Av _ _ rfl rfl rfl λc W E G H=>?_
   have h3:=H 3 (by kernel_rfl);refine Cy (Ei 40 (ε 3) rfl (w.heap.size+1) h3 _ _ _ _ ((ag.t E).heap bl.o) Ρ rfl e7) ?_;exact⟨_,rfl,Κ W,rfl,λj u _ _ _ h=>by omega⟩
  | 1,_=>
   refine Av _ _ rfl rfl rfl λc W E G H=>?_
   have j9:c.tmps.getD 23 δ=.agg Va:=G 0 23 (by kernel_rfl);go_simp
   (with_reducible refine (e3 W (a6.t (ag.t E))).o.mono ?_)
   rintro e W' ⟨A,rfl,hA,hE⟩;exact⟨_,rfl,hE,⟨A,rfl,hA⟩,λj u _ _ _ h=>by omega⟩
  | 5,_=>
   refine Av _ _ rfl rfl rfl λc W E G H=>?_
   have ka:c.tmps.getD 27 δ=.agg Vb:=G 4 27 (by kernel_rfl);go_simp
   (with_reducible refine (e4 W (a6.t (ag.t E))).o.mono ?_)
   rintro e W' ⟨A,rfl,hA,hE⟩;exact⟨_,rfl,hE,⟨A,rfl,hA⟩,λj u _ _ _ h=>by omega⟩
  | 2,_=>
   refine Av _ _ rfl rfl rfl λc W E G H=>?_
   obtain⟨A,iw,bp⟩:∃ A,c.tmps.getD 24 δ=.agg A/\IsT w A (Ah a):=G 1 24 (by kernel_rfl);go_simp
   (with_reducible refine (Rx (Ah a) (Bt ez.o) (μ c8 (by omega)) A W (bp.ext (a6.t (ag.t E)))).mono ?_)
   rintro e W' ⟨v,d,rfl,hD,h1,h2,hE⟩;exact⟨_,rfl,hE,⟨d,h1,λu=>by rw[h2,Ec],hD⟩,λj u _ _ _ h=>by omega⟩
  | 6,_=>
   refine Av _ _ rfl rfl rfl λc W E G H=>?_
   obtain⟨A,iw,bp⟩:∃ A,c.tmps.getD 28 δ=.agg A/\IsT w A (Ah b):=G 5 28 (by kernel_rfl);go_simp
   (with_reducible refine (Rx (Ah b) (Bt e0.o) (μ c9 (by omega)) A W (bp.ext (a6.t (ag.t E)))).mono ?_)
   rintro e W' ⟨v,d,rfl,hD,h1,h2,hE⟩;exact⟨_,rfl,hE,⟨d,h1,λu=>by rw[h2,Ec],hD⟩,λj u _ _ _ h=>by omega⟩
  | 3,_=>
   refine Av _ _ rfl rfl rfl λc W E G H=>?_
   obtain⟨d,h1,h2,h3⟩:∃ d,Cano d/\(∀ u,d.has u=a.has u)/\∀ W',Near W W'->IsD W' (c.tmps.getD 25 δ) d:=G 2 25 (by kernel_rfl);obtain⟨v,hv⟩:=Xq (c.tmps.getD 25 δ);rw[hv] at h3;have bz:=a6.t (ag.t E);go_simp
   (with_reducible refine (Om d h1.val v W (e5.o W bz) (Ξ bc bz.size) (h3 W (Near.of_ext (Κ W)))).mono ?_)
   rintro e W' ⟨A,rfl,hA,hE⟩;exact⟨_,rfl,hE,⟨A,rfl,d,h1,h2,λW2 hN=>hA W2 (h3 W2 (hN.pre hE))⟩,λj u _ _ _ h=>by omega⟩
  | 7,_=>
   refine Av _ _ rfl rfl rfl λc W E G H=>?_
   obtain⟨d,h1,h2,h3⟩:∃ d,Cano d/\(∀ u,d.has u=b.has u)/\∀ W',Near W W'->IsD W' (c.tmps.getD 29 δ) d:=G 6 29 (by kernel_rfl);obtain⟨v,hv⟩:=Xq (c.tmps.getD 29 δ);rw[hv] at h3;have bz:=a6.t (ag.t E);go_simp
   (with_reducible refine (Om d h1.val v W (e5.o W bz) (Ξ bc bz.size) (h3 W (Near.of_ext (Κ W)))).mono ?_)
   rintro e W' ⟨A,rfl,hA,hE⟩;exact⟨_,rfl,hE,⟨A,rfl,d,h1,h2,λW2 hN=>hA W2 (h3 W2 (hN.pre hE))⟩,λj u _ _ _ h=>by omega⟩
  | 8,_=>
   refine Av _ _ rfl rfl rfl λc W E G H=>?_
   go_simp;refine⟨_,rfl,(Κ W).alloc _,⟨_,rfl,Ad W _,(ag.t E).size⟩,λj u _ _ hu h=>?_⟩;obtain rfl:j=9:=by omega
   obtain⟨g',rfl,dq,-⟩:=hu;intro e;have:W.heap.size=g':=by simpa using e
   have:=Al dq;omega
  | 9,_=>
   refine Av _ _ rfl rfl rfl λc W E G H=>?_
   go_simp;refine⟨_,rfl,(Κ W).alloc _,⟨_,rfl,Ad W _,(ag.t E).size⟩,λj u _ _ hu h=>?_⟩;obtain rfl:j=8:=by omega
   obtain⟨g',rfl,dq,-⟩:=hu;intro e;have:W.heap.size=g':=by simpa using e
   have:=Al dq;omega
 obtain⟨A1,fa,ix⟩:=X 1 (by omega);obtain⟨A,hA,x,dr,fb,bq⟩:=X 3 (by omega);obtain⟨B1,fc,iy⟩:=X 5 (by omega);obtain⟨B,hB,y,dt,ff,br⟩:=X 7 (by omega);obtain⟨g6,h6,H6,iz⟩:PtrF _ _ _:=X 8 (by omega);obtain⟨g7,h7,H7,ja⟩:PtrF _ _ _:=X 9 (by omega);have fh:g6≠g7:=λe=>hN 8 9 (by omega) (by omega) (by omega) (by omega) (by rw[h6,h7,e])
 have fj:=(Κ w3).drew.t e9;have b4:vs 0=.agg Va:=X 0 (by omega);have b5:vs 4=.agg Vb:=X 4 (by omega);obtain⟨v2,fk⟩:=Xq (vs 2);obtain⟨v6,fl⟩:=Xq (vs 6);simp only[Bm,ϸ,À,hA,hB,fa,fc,h6,h7,b4,b5,fk,fl,Ϸ,Ϻ,ϻ,ò,θ,Η,Μ,Λ];clear X hN hA hB h6 h7 b4 b5 fa fc fk fl ix iy;obtain⟨_,_,_,_,_,_,dw,fm,_⟩:=(bq w4 (Near.of_ext (Κ w4))).opened (Bt dr.val);obtain⟨_,_,_,_,_,_,dx,fo,_⟩:=(br w4 (Near.of_ext (Κ w4))).opened (Bt dt.val);have fp:(Ι.info? 84).map (·.size)=I A.size:=by rw[dw];exact Ce
 have hiB:(Ι.info? 84).map (·.size)=I B.size:=by rw[dx];exact Ce
 have fq:Ψ.size=A.size:=by rw[C8,dw]
 have fs:Ψ.size=B.size:=by rw[C8,dx]
 have cq:=Bk H7 (þ fh) A;have ct:=((fj.setRow iz A).setRow ja B);have G6:=Bk (Φ w4 g6 _ A _ _ H6) fh B;have G7:=Φ (w4.setRow g6 A) g7 _ B _ _ cq;have bd:Near w4 ((w4.setRow g6 A).setRow g7 B):=((Near.of_ext (Κ w4)).setRow H6 Og A).setRow cq Og B;have bq:=bq _ bd;have br:=br _ bd;clear dw dx bd;go_upto_region 4 with (first
  | (refine Sr 84 (ε 6) (ε 26) rfl H6 fp fq fm ?_)
  | (refine Sr 84 (ε 7) (ε 30) rfl cq hiB fs fo ?_))
 obtain⟨w5,ea⟩:=Xq ((w4.setRow g6 A).setRow g7 B);rw[ea] at ct G6 G7 bq br;simp only[ea];clear ea fj H6 H7 cq fq fs e9 fm fo;have b6:=a6.t ct;have af:=Z (ct.heap af.o);have bt:=Z dr;have b7:=Z dt;have cu:=Z fb;have cv:=Z ff;have be:=Z bq;have bf:=Z br;have bg:=Z G6;have bh:=Z G7;have hJ:=Z (Qi (Ah x) (Ah y) (Bt bt.o.val) (Bt b7.o.val) A B w5 be.o bf.o);have fu:∀ c,Ϝ.size=(B0 c).size:=λc=>by rw[J9,Ez,Ez]
 have fv:∀ c,(Ι.info? 82).map (·.size)=I (B0 c).size:=λc=>by rw[Ez];exact Le
 clear bq br G6 G7 dr dt fb ff a6 ct;go_upto_region 5 with (first
  | (refine Lr 84 (ε 6) bg.o ϭ fp ?_)
  | (refine Lr 84 (ε 7) bh.o ϭ hiB ?_)
  | (go_at_call 42;(with_reducible refine hJ.o.mono ?_);rintro e w6 ⟨c,bs,vj,rfl,fw,fx,bj⟩;have eb:=fu c;have ec:=fv c;have ed:=Nu c;obtain⟨A9,cw⟩:=Xq (B0 c);rw[cw] at eb ec ed;rw[cw])
  | (refine Sr 82 (ε 8) (ε 35) rfl (Ad w6 (Β Ϝ 82)) ec eb ed ?_))
 have aj:=bj.t (((Κ w6).alloc (Β Ϝ 82)).setRow (Υ _) A9);have H8:=Φ (w6.alloc (Β Ϝ 82)) w6.heap.size _ A9 _ _ (Ad w6 _);have ef:=fx.ext (((Κ w6).alloc (Β Ϝ 82)).setRow (Υ _) A9);obtain⟨w7,eg⟩:=Xq ((w6.alloc (Β Ϝ 82)).setRow w6.heap.size A9);rw[eg] at aj H8 ef;simp only[eg];clear eg bj fx fu fv hJ eb ed;have bg:=Z (aj.heap bg.o);have bh:=Z (aj.heap bh.o);have af:=Z (aj.heap af.o);have be:=Z (be.o.ext aj);have bf:=Z (bf.o.ext aj);have fy:=b6.t aj;have eh:=Z H8;have b9:=Z fw;have jc:=Z cw;clear H8 fw cw b6 aj;generalize w6.heap.size=g8 at *;have je:=(Τ (w7.alloc (Β #[.nilFunc] 104)) w7.heap.size 0 _ _ _ (Ad w7 (Β #[.nilFunc] 104))).trans (show (#[Δ.nilFunc]:Array Δ)[0]? = I .nilFunc from rfl);have jf:=Â (w7.alloc (Β #[.nilFunc] 104)) w7.heap.size 0 _ _ (Ad w7 (Β #[.nilFunc] 104));go_upto_region 7 with (fail)
 have aw:=(Κ w7).alloc (Β #[.func (.func 43) #[] #[η (I ⟨g6,0,J⟩)]] 104);have ei:=Ad w7 (Β #[.func (.func 43) #[] #[η (I ⟨g6,0,J⟩)]] 104);obtain⟨w8,ej⟩:=Xq (w7.alloc (Β #[.func (.func 43) #[] #[η (I ⟨g6,0,J⟩)]] 104));rw[ej] at aw ei;simp only[ej];clear ej je jf;generalize w7.heap.size=bk at *;have jg:=Z (fy.t aw);have bg:=Z (aw.heap bg.o);have bh:=Z (aw.heap bh.o);have eh:=Z (aw.heap eh.o);have af:=Z (aw.heap af.o);have be:=Z (be.o.ext aw);have bf:=Z (bf.o.ext aw);have jh:=Z (ef.ext aw);have fz:=Z ei;clear ei ef fy aw;have ji:0<bs.length:=by have:=b9.o.lt 0 (by omega);omega
 have jj:bs.length<=256:=by have:=I9 c 256 bs.length (λj hj=>⟨bs.getD j 0,(b9.o.byte j hj).1,(b9.o.byte j hj).2⟩);exact this
 have kf:(Ah x).n.length<=64:=μ (Nw bt.o ez.o cu.o) c8;have ek:(Ah y).n.length<=64:=μ (Nw b7.o e0.o cv.o) c9;have gb:0<(Ah x).n.length:=(Bt bt.o.val).pos;have cy:=Z (Bt bt.o.val);have cz:=Z (Bt b7.o.val);obtain⟨T,gd⟩:∃ T:Bool,T=Α↔¬ Cr (cnx (Ah x) (Ah y)) (cst (Ah x)) 4096:=by
  by_cases hM:Cr (cnx (Ah x) (Ah y)) (cst (Ah x)) 4096
  ·exact⟨Ε,by simp[hM]⟩
  exact⟨Α,by simp[hM]⟩
 have c3:=Z gd;clear gd;obtain⟨Lc,en⟩:=Xq (Cat (λu=>(Ah x).has u=Α) (λv=>(Ah y).has v=Α));have hX:=λW (E:Ext w8 W)=>Z (Ϟ.mono (Q5 c bs ji jj (λk hk=>(b9.o.byte k hk).1) (cSt (Ah x)) (cNx (Ah x) (Ah y)) (cAc (Ah y)) (Lz (Ah x))
  (λs hs=>⟨by have:=hs.1;omega,by have:=hs.2.1;omega,hs.2.2⟩) ⟨gb,rfl,Z5 _ _ (by show 0<_;omega)⟩
  (λs hs k hk=>TU cy.o cz.o ek s hs k hk) 4096 (by omega) (by omega) 44 47 _ _ (enters_of Tryz.func44 (by kernel_rfl) rfl) (enters_of Tryz.func47 (by kernel_rfl) rfl) vj W (jh.o.ext E)
  (TA (Ah x) (Ah y) cy.o cz.o ek A B g6 g7 bk W (be.o.ext E) (bf.o.ext E) (E.heap bg.o) (E.heap bh.o) (E.heap fz.o))
  (SF (Ah x) (Ah y) cz.o ek B g7 W (bf.o.ext E) (E.heap bh.o)))
  (R':=λe w'=>∃ A,e=Ω (ϙ #[.agg A,.bool T])/\TabF T Lc A w'/\Ext W w') λe w' ⟨hE,h⟩=>by
   rcases h with⟨A,l,t,he,hT,jk,hl,_,jm⟩|⟨hM,he⟩
   ·obtain⟨h1,h2,h3,h4⟩:=TL cy.o cz.o b9.o jk hl;obtain⟨_,_,_,_,_,_,cd,er,_⟩:=hT.opened h1;obtain rfl:T=Α:=c3.o.2 h3;exact⟨A,he,⟨cd,er,λ_=>⟨t,h1,h2,λu=>by rw[h4,en],jm⟩⟩,hE⟩
   have jo:=Wr hM stP (λs b=>Z4 _ _ s b) (λw w' e=>Mf (N1 _ _ w) (N1 _ _ w') e);have jq:T=Ε:=by
    cases T
    ·rfl
    exact absurd jo (c3.o.1 rfl)
   subst jq;exact⟨Ψ,he,⟨C8,Sv,λh=>by cases h⟩,hE⟩)
 rw[jc.o] at hX;have f71:∀ W,Ext w8 W->Hid (Ϟ Ι 43 #[.agg #[.int Χ 0,.int Χ 0,.int γ 0],η (I ⟨g6,0,J⟩)] W λe w'=>e=Ω (stV (cSt (Ah x)))/\Ext W w'):=λW E=>Z (Zn (Ah x) cy.o A g6 w8 be.o bg.o W E 0 0 gb (by omega))
 have jr:=Z en;clear en;have gf:(Ι.info? 82).map (·.size)=I A9.size:=ec;refine Sz 12 57 10 (by kernel_rfl) (by kernel_rfl) rfl (λ_ _ _ _ h=>h) (Q7 w8.heap.size A9 vj (.func (.func 43) #[] #[η (I ⟨g6,0,J⟩)]) (stV (cSt (Ah x)))
  (.func (.func 44) #[] #[η (I ⟨bk,0,J⟩),η (I ⟨g6,0,J⟩),η (I ⟨g7,0,J⟩)]) (.func (.func 47) #[] #[η (I ⟨g7,0,J⟩)]) T Lc) Q6 RJ (RK _ _ _ _ _ _ _ _ _) _ rfl (λc W G=>?_) (λi hi=>?_) (λvs w9 b6 X hN=>?_)
 ·obtain⟨AX,js,-⟩:∃ A,c.tmps.getD 39 δ=ϙ #[.agg A,.bool T]/\TabF T Lc A W:=G 8 39 (by kernel_rfl);exact⟨.bool T,λW=>by simp only[ö,ß,js];rfl⟩
 ·have ag:=(Κ w8).drew
  match i,hi with
  | 0,_=>
   refine Av _ _ rfl rfl rfl λc W E G H=>?_
   have h3:=H 8 (by kernel_rfl);refine Cy (Ei 82 (ε 8) rfl g8 h3 _ _ _ _ ((ag.t E).heap eh.o) Tryz.underlying82 rfl gf) ?_;exact⟨_,rfl,Κ W,rfl,λ_ _ _ _ _=>trivial⟩
  | 1,_=>
   refine Av _ _ rfl rfl rfl λc W E G H=>?_
   have h3:c.tmps.getD 9 δ=vj:=H 9 (by kernel_rfl);go_simp;exact⟨_,rfl,Κ W,rfl,λ_ _ _ _ _=>trivial⟩
  | 2,_=>
   refine Av _ _ rfl rfl rfl λc W E G H=>?_
   have h3:c.tmps.getD 10 δ=η (I ⟨bk,0,J⟩):=H 10 (by kernel_rfl);have kh:=(Τ W bk 0 _ _ _ ((ag.t E).heap fz.o)).trans (show (#[Δ.func (.func 43) #[] #[η (I ⟨g6,0,J⟩)]]:Array Δ)[0]? = I (.func (.func 43) #[] #[η (I ⟨g6,0,J⟩)]) from rfl);go_simp;exact⟨_,rfl,Κ W,rfl,λ_ _ _ _ _=>trivial⟩
  | 3,_=>
   refine Av _ _ rfl rfl rfl λc W E G H=>?_
   refine Cy (Gi 103 _ rfl (by simpa [ß] using UO) W) ?_;exact⟨_,rfl,Κ W,rfl,λ_ _ _ _ _=>trivial⟩
  | 4,_=>
   refine Av _ _ rfl rfl rfl λc W E G H=>?_
   have ki:c.tmps.getD 42 δ=.func (.func 43) #[] #[η (I ⟨g6,0,J⟩)]:=G 2 42 (by kernel_rfl);have kj:c.tmps.getD 43 δ=.agg #[.int Χ 0,.int Χ 0,.int γ 0]:=G 3 43 (by kernel_rfl);have kk:=enters_of Tryz.func43 (by kernel_rfl) rfl;go_simp
   (with_reducible refine (f71 W (ag.t E)).o.mono ?_)
   rintro e W' ⟨rfl,hE⟩;exact⟨_,rfl,hE,rfl,λ_ _ _ _ _=>trivial⟩
  | 5,_=>
   refine Av _ _ rfl rfl rfl λc W E G H=>?_
   have h3:=H 11 (by kernel_rfl);replace h3:c.tmps.getD 11 δ=.func (.func 44) #[] #[η (I ⟨bk,0,J⟩),η (I ⟨g6,0,J⟩),η (I ⟨g7,0,J⟩)]:=h3;go_simp;exact⟨_,rfl,Κ W,rfl,λ_ _ _ _ _=>trivial⟩
  | 6,_=>
   refine Av _ _ rfl rfl rfl λc W E G H=>?_
   have h3:c.tmps.getD 7 δ=η (I ⟨g7,0,J⟩):=H 7 (by kernel_rfl);go_simp;exact⟨_,rfl,Κ W,rfl,λ_ _ _ _ _=>trivial⟩
  | 7,_=>
   refine Av _ _ rfl rfl rfl λc W E G H=>?_
   have kl:c.tmps.getD 40 δ=.agg A9:=G 0 40 (by kernel_rfl);have km:c.tmps.getD 41 δ=vj:=G 1 41 (by kernel_rfl);have kn:c.tmps.getD 44 δ=stV (cSt (Ah x)):=G 4 44 (by kernel_rfl);have ko:c.tmps.getD 45 δ=.func (.func 44) #[] #[η (I ⟨bk,0,J⟩),η (I ⟨g6,0,J⟩),η (I ⟨g7,0,J⟩)]:=G 5 45 (by kernel_rfl);have kq:c.tmps.getD 46 δ=.func (.func 47) #[] #[η (I ⟨g7,0,J⟩)]:=G 6 46 (by kernel_rfl);go_simp;refine (hX W (ag.t E)).o.mono ?_;rintro e W' ⟨A',rfl,hT,hE⟩;exact⟨_,rfl,hE,⟨A',rfl,hT⟩,λ_ _ _ _ _=>trivial⟩
  | 8,_=>
   refine Av _ _ rfl rfl rfl λc W E G H=>?_
   obtain⟨AX,gg,hT⟩:∃ A,c.tmps.getD 47 δ=ϙ #[.agg A,.bool T]/\TabF T Lc A W:=G 7 47 (by kernel_rfl);go_simp;exact⟨_,rfl,Κ W,⟨AX,rfl,hT⟩,λ_ _ _ _ _=>trivial⟩
  | 9,_=>
   refine Av _ _ rfl rfl rfl λc W E G H=>?_
   obtain⟨AX,gg,hT⟩:∃ A,c.tmps.getD 39 δ=ϙ #[.agg A,.bool T]/\TabF T Lc A W:=G 8 39 (by kernel_rfl);go_simp;exact⟨_,rfl,Κ W,⟨AX,rfl,hT⟩,λ_ _ _ _ _=>trivial⟩
  | 10,_=>
   refine Av _ _ rfl rfl rfl λc W E G H=>?_
   obtain⟨AX,gg,hT⟩:∃ A,c.tmps.getD 39 δ=ϙ #[.agg A,.bool T]/\TabF T Lc A W:=G 8 39 (by kernel_rfl);go_simp;exact⟨_,rfl,Κ W,rfl,λ_ _ _ _ _=>trivial⟩
  | 11,_=>
   refine Av _ _ rfl rfl rfl λc W E G H=>?_
   go_simp;exact⟨_,rfl,(Κ W).alloc _,⟨_,rfl,Ad W _,(ag.t E).size⟩,λ_ _ _ _ _=>trivial⟩
 have b4:vs 0=.agg A9:=X 0 (by omega);have gi:vs 1=vj:=X 1 (by omega);have c4:=X 2 (by omega);have gj:vs 3=.agg #[.int Χ 0,.int Χ 0,.int γ 0]:=X 3 (by omega);have b5:vs 4=stV (cSt (Ah x)):=X 4 (by omega);have c5:=X 5 (by omega);have c6:=X 6 (by omega);replace c4:vs 2=.func (.func 43) #[] #[η (I ⟨g6,0,J⟩)]:=c4;replace c5:vs 5=.func (.func 44) #[] #[η (I ⟨bk,0,J⟩),η (I ⟨g6,0,J⟩),η (I ⟨g7,0,J⟩)]:=c5;replace c6:vs 6=.func (.func 47) #[] #[η (I ⟨g7,0,J⟩)]:=c6;obtain⟨A7,gk,-⟩:∃ A,vs 7=ϙ #[.agg A,.bool T]/\TabF T Lc A w9:=X 7 (by omega);obtain⟨A8,gl,-⟩:∃ A,vs 8=ϙ #[.agg A,.bool T]/\TabF T Lc A w9:=X 8 (by omega);obtain⟨AT,gm,cd,er,gn⟩:∃ A,vs 9=.agg A/\TabF T Lc A w9:=X 9 (by omega);have gp:vs 10=.bool T:=X 10 (by omega);obtain⟨et,gq,c7,ju⟩:PtrF _ _ _:=X 11 (by omega);simp only[Bm,ϸ,À,b4,gi,c4,gj,b5,c5,c6,gk,gl,gm,gp,gq,Ϸ,Ϻ,ϻ,ò,θ,Η,Μ,Λ];clear X hN b4 gi c4 gj b5 c5 c6 gk gl gm gp gq;have gu:(Ι.info? 84).map (·.size)=I AT.size:=by rw[cd];exact Ce
 have jv:Ψ.size=AT.size:=by rw[C8,cd]
 have bj:=((Κ w8).drew.t b6).setRow ju AT;have eu:=Φ w9 et _ AT _ _ c7;have bd:Near w9 (w9.setRow et AT):=(Near.of_ext (Κ w9)).setRow c7 Og AT;clear cd;go_upto_region 8 with (refine Sr 84 (ε 12) (ε 48) rfl c7 gu jv er ?_)
 obtain⟨gv,ev⟩:=Xq (w9.setRow et AT);rw[ev] at bj eu bd;simp only[ev];clear ev b6 c7;have jw:=Z eu;have af:=Z (bj.heap af.o);have gw:=Z (jg.o.t bj);clear bj eu hX f71 gf;cases T
 ·have jx:=Z F1;go_wp2_with (first
   | (refine Bj rfl 40 _ rfl #[U J 0 0,U J 0 0,U J 0 0] ?_ ?_;(simp;with_reducible exact jx.o))
   | (refine Sr 40 (ε 4) (ε 52) rfl af.o Ae rfl Fa ?_))
  refine ω (v:=ϙ #[zD,.int Χ 2]) (Bi rfl _ _ _ _ _ _ _ rfl _ rfl (Φ gv _ _ #[U J 0 0,U J 0 0,U J 0 0] 40 (0,0) af.o) Ρ rfl Ae) rfl ?_;exact⟨J,rfl,⟨x,y,bt.o,b7.o,cu.o,cv.o,λ_=>rfl,λh=>absurd (c3.o.2 h) (by simp)⟩,gw.o.setRow (by omega) _⟩
 obtain⟨t,gx,jy,gy,bp⟩:=gn rfl;have hL:=Z (P9 t gx (show t.n.length<=65536 by omega) AT gv (bp _ bd));have j0:=Z gy;have j1:=Z (c3.o.1 rfl);clear bp gx jy gy bd gn;go_wp2_with (first
  | (refine Lr 84 (ε 12) jw.o ϭ gu ?_)
  | (go_at_call 49;(with_reducible refine hL.o.mono ?_);rintro e j2 ⟨r,ew,gz,aj⟩;obtain⟨hf,hh,hn,ho,hp,hq,hr,ht,hy,k2,rfl⟩:=ew.form;have j4:=Z ew;have hz:=Z gz;clear ew gz;have af:=Z (aj.heap af.o))
  | (refine Sr 40 (ε 4) (ε 55) rfl af.o Ae rfl (Aw _ _ _ rfl rfl rfl) ?_))
 refine ω (v:=ϙ #[.agg (dA (U hf hh hn) (U ho hp hq) (U hr ht hy)),.int Χ k2]) (Bi rfl _ _ _ _ _ _ _ rfl _ rfl (Φ j2 _ _ (dA (U hf hh hn) (U ho hp hq) (U hr ht hy)) 40 (0,0) af.o) Ρ rfl Ae) rfl ?_;refine⟨r,j4.o.setRow (Hb hz.o) af.o _,⟨x,y,bt.o,b7.o,cu.o,cv.o,λh=>absurd h j1.o,λ_=>Gc hz.o λu=>?_⟩,(gw.o.t aj).setRow (by omega) _⟩;rw[j0.o,<-jr.o];have e1:(λu=>(Ah x).has u=Α)=λu=>a.has u=Α:=funext λu=>by rw[Ec,cu.o]
 have e2:(λu=>(Ah y).has u=Α)=λu=>b.has u=Α:=funext λu=>by rw[Ec,cv.o]
 rw[e1,e2]
end Go.Proofs.YtilncahcpjlfnaaGreatDoor
