import Derived.Test.YtaiogolidlamiaaGreatDoorM04
import Derived.Test.YtaiogolidlamiaaGreatDoorM06
set_option linter.unusedVariables false
set_option linter.unusedSimpArgs false
open Array renaming getD_eq_getD_getElem? → ϣ, getElem?_eq_none → ü, getElem?_eq_getElem → Ϡ, getElem?_toList → ë, getElem?_eq_some_iff → ϒ
open Bool renaming false → Τ, true → Ξ, and_eq_true → ϝ, or_eq_true → Æ, false_eq_true → â
open Go renaming Oper → ϸ, Value → Ρ, World → Κ, Act → õ, undef → ς, Program → é, getD_replicate_false → ϭ, execOp → Ú, TypeId → Á, Operand → ϻ
open Go.Act renaming put → Ϛ
open Go.IntKind renaming u64 → π, u64 → ϴ, i64 → ζ
open Go.Proofs.Tryz renaming prog → Η, underlying116 → Ë
open Go.Region renaming wanted → Ì, ready → Ê, waitsFor → ó
open Go.Value renaming pointer → γ
open List renaming range → ι, all_eq_true → Ù, mem_range → υ, getElem?_eq_some_iff → ό, getElem?_eq_getElem → Μ
open Nat renaming le_refl → θ
open Option renaming some → Δ, getD_some → à, none → Γ
open Option.some renaming inj → ω
namespace Go.Proofs.YtaiogolidlamiaaGreatDoor
set_option maxRecDepth 100000
open Go
section
variable {P:Program} {ops:Array Oper} {Q:Exit->Act->World->Prop} {n:Nat}
structure FInvR (ops:Array ϸ) (n:Nat) (F:Nat->Ρ->Κ->Prop) (Ne:Nat->Nat->Ρ->Ρ->Prop) (a0:õ) (w1:Κ) (listed:Array Bool) (a:õ) (w:Κ):Prop where
 ext:Ext w1 w
 defers:a.defers=a0.defers
 size:a.tmps.size=a0.tmps.size
 done:∀ i o d,i<n->ops[i]? = Δ o->o.dst=Δ d->listed.getD i Τ=Ξ->F i (a.tmps.getD d ς) w
 rest:∀ d,(∀ i o,i<n->ops[i]? = Δ o->listed.getD i Τ=Ξ->o.dst≠Δ d)->a.tmps.getD d ς=a0.tmps.getD d ς
 ne:∀ i j oi oj di dj,i<n->j<n->i≠j->ops[i]? = Δ oi->ops[j]? = Δ oj->oi.dst=Δ di->oj.dst=Δ dj->listed.getD i Τ=Ξ->listed.getD j Τ=Ξ->Ne i j (a.tmps.getD di ς) (a.tmps.getD dj ς)
theorem Ev (a:õ) (d e:Nat) (v:Ρ) (h:d<a.tmps.size):(a.put (Δ d) v).tmps.getD e ς=if e=d then v else a.tmps.getD e ς:=by
 simp only[Ϛ,ϣ,Array.getElem?_setIfInBounds];by_cases hd:d=e
 ·subst hd;simp[h]
 ·simp[hd,Ne.symm hd]
theorem Oh (a:õ) (d:Nat) (v:Ρ):(a.put (Δ d) v).tmps.size=a.tmps.size:=by simp[Ϛ]
def FOp (P:é) (ops:Array ϸ) (Q:Exit->õ->Κ->Prop) (n:Nat) (F:Nat->Ρ->Κ->Prop) (Ne:Nat->Nat->Ρ->Ρ->Prop) (a0:õ) (w1:Κ) (i:Nat):Prop:=
 ∀ o d,ops[i]? = Δ o->o.dst=Δ d->∀ a w,Ext w1 w->a.defers=a0.defers->a.tmps.size=a0.tmps.size->
  (∀ j oj dj,j<n->ops[j]? = Δ oj->oj.dst=Δ dj->(∃ e∈o.after,Region.binds .any e=Ξ/\e.on=j)->F j (a.tmps.getD dj ς) w)->
  (∀ e,(∀ j oj,j<n->ops[j]? = Δ oj->oj.dst≠Δ e)->a.tmps.getD e ς=a0.tmps.getD e ς)->
  Ì o (yielded ops a.tmps)=Ξ/\o.wp P a w (λD w'=>∃ v,D=a.put (Δ d) v/\Ext w w'/\F i v w'/\∀ j u,j<n->j≠i->F j u w->Ne i j v u) Q
def Fm (ops:Array ϸ) (n:Nat) (sz:Nat):Bool:=(ι n).all λi=>match ops[i]? with
 | none=>Τ
 | some o=>match o.dst with
  | none=>Τ
  | some d=>decide (d<sz)&&(ι n).all λj=>decide (j=i)||match ops[j]? with|none=>Τ|some oj=>decide (oj.dst≠Δ d)
theorem I8 {sz:Nat} (h:Fm ops n sz=Ξ) (i:Nat) (hi:i<n):∃ o d,ops[i]? = Δ o/\o.dst=Δ d/\d<sz/\∀ j oj,j<n->j≠i->ops[j]? = Δ oj->oj.dst≠Δ d:=by
 unfold Fm at h;rw[Ù] at h;have D:=h i (υ.2 hi);cases G:ops[i]? with
 | none=>rw[G] at D;cases D
 | some o=>
  rw[G] at D;simp only at D;cases hd:o.dst with
  | none=>rw[hd] at D;cases D
  | some d=>
   rw[hd] at D;simp only[ϝ,decide_eq_true_eq,Ù,Æ,υ] at D;refine⟨o,d,rfl,hd,D.1,λj oj H I J=>?_⟩;rcases D.2 j H with E|E
   ·exact absurd E I
   ·rw[J] at E
    simpa using E
theorem W6 {F:Nat->Ρ->Κ->Prop} {Ne:Nat->Nat->Ρ->Ρ->Prop} (ay:∀ i j v u,Ne i j v u->Ne j i u v) (hF:∀ i v w w',F i v w->Ext w w'->F i v w') {a0:õ} {w1:Κ} {sz:Nat} (a1:a0.tmps.size=sz) (hd:Fm ops n sz=Ξ) {listed:Array Bool} {a:õ} {w:Κ} (I:FInvR ops n F Ne a0 w1 listed a w)
  {i:Nat} (hi:i∈Ê .any ops listed) (aj:i<n) (H:FOp P ops Q n F Ne a0 w1 i):∃ o,ops[i]? = Δ o/\Ì o (yielded ops a.tmps)=Ξ/\o.wp P a w (λa' w'=>FInvR ops n F Ne a0 w1 (listed.setIfInBounds i Ξ) a' w') Q:=by
 obtain⟨o,d,M,ag,a6,al⟩:=I8 hd i aj;obtain⟨a7,o',ah,a8⟩:=mem_ready.1 hi;rw[M] at ah;injection ah with ah
 subst ah;have an:i<listed.size:=by
  rcases Nat.lt_or_ge i listed.size with h|h
  ·exact h
  ·simp[ü h] at a7
 have hg:∀ j,(listed.setIfInBounds i Ξ).getD j Τ=Ξ->j=i\/listed.getD j Τ=Ξ:=λj E=>by
  by_cases e:i=j
  ·exact .inl e.symm
  ·rw[getD_set_ne Τ e] at E;exact .inr E
 obtain⟨hw,bb⟩:=H o d M ag a w I.ext I.defers I.size (λj oj dj E D G ⟨e,he,hb,bd⟩=>I.done j oj dj E D G (by rw[<-bd];exact a8 e he hb)) (λe he=>I.rest e λj oj E D _=>he j oj E D);refine⟨o,M,hw,ϸ.wp_mono (λa' w' h=>?_) bb⟩;obtain⟨v,rfl,hE,hv,aq⟩:=h;have ai:d<a.tmps.size:=by rw[I.size,a1];exact a6
 refine⟨I.ext.trans hE,I.defers,by rw[Oh];exact I.size,λj oj dj E D G aa=>?_,λe he=>?_,λj k oj ok dj dk E T ar D ad G ae aa au=>?_⟩
 ·rw[Ev _ _ _ _ ai];by_cases e:j=i
  ·subst e;rw[M] at D;injection D with D
   subst D;rw[ag] at G;injection G with G
   rw[if_pos G.symm];exact hv
  ·rw[if_neg (λh=>al j oj E e D (by rw[G,h]))];rcases hg j aa with h|h
   ·exact absurd h e
   ·exact hF _ _ _ _ (I.done j oj dj E D G h) hE
 ·rw[Ev _ _ _ _ ai];have be:e≠d:=λh=>he i o aj M (by simp[an]) (by rw[ag,h])
  rw[if_neg be];refine I.rest e λj oj E D aa=>he j oj E D ?_
  by_cases e':i=j
  ·subst e';simp[an]
  ·rw[getD_set_ne Τ e'];exact aa
 ·rw[Ev _ _ _ _ ai,Ev _ _ _ _ ai];have af:∀ j oj dj,j<n->ops[j]? = Δ oj->oj.dst=Δ dj->(j=i->dj=d)/\(j≠i->dj≠d):=λj oj dj E D G=>by
   constructor
   ·rintro rfl;rw[M] at D;injection D with D
    subst D;rw[ag] at G;injection G with G
    exact G.symm
   ·intro e h;exact al j oj E e D (by rw[G,h])
  by_cases U:j=i
  ·have J:k≠i:=λh=>ar (by rw[U,h])
   rw[if_pos ((af j oj dj E D G).1 U),if_neg ((af k ok dk T ad ae).2 J)];rcases hg k au with h|h
   ·exact absurd h J
   ·rw[U];exact aq k _ T J (I.done k ok dk T ad ae h)
  ·rw[if_neg ((af j oj dj E D G).2 U)];rcases hg j aa with h|ax
   ·exact absurd h U
   ·by_cases J:k=i
    ·rw[if_pos ((af k ok dk T ad ae).1 J)];rw[J];exact ay _ _ _ _ (aq j _ E U (I.done j oj dj E D G ax))
    ·rw[if_neg ((af k ok dk T ad ae).2 J)];rcases hg k au with h|bf
     ·exact absurd h J
     ·exact I.ne j k oj ok dj dk E T ar D ad G ae ax bf
theorem W7 {F:Nat->Ρ->Κ->Prop} {Ne:Nat->Nat->Ρ->Ρ->Prop} (D:∀ i j v u,Ne i j v u->Ne j i u v) (E:∀ i v w w',F i v w->Ext w w'->F i v w') {a0:õ} {w1:Κ} {sz:Nat} (G:a0.tmps.size=sz) (hd:Fm ops n sz=Ξ) {listed:Array Bool} {a:õ} {w:Κ} (I:FInvR ops n F Ne a0 w1 listed a w)
  {i:Nat} (hi:i∈Ê .any ops listed) (J:i<n) (H:FOp P ops Q n F Ne a0 w1 i):wpOp P ops Q i (λM w'=>FInvR ops n F Ne a0 w1 (listed.setIfInBounds i Ξ) M w') a w:=by
 obtain⟨o,T,U,h⟩:=W6 D E G hd I hi J H;unfold wpOp;rw[T];simp only[U,if_true];exact .inl h
def Bq (ops:Array ϸ) (vs:Nat->Ρ):Nat->õ->õ
 | 0,a=>a
 | k+1,a=>(Bq ops vs k a).put ((ops[k]?).bind (·.dst)) (vs k)
theorem J2 (vs:Nat->Ρ) (a:õ):∀ k,(Bq ops vs k a).tmps.size=a.tmps.size/\(Bq ops vs k a).defers=a.defers
 | 0=>⟨rfl,rfl⟩
 | k+1=>by
  obtain⟨D,E⟩:=J2 vs a k;unfold Bq;cases (ops[k]?).bind (·.dst) with
  | none=>exact⟨D,E⟩
  | some d=>exact⟨by rw[Oh];exact D,E⟩
theorem T3 {sz:Nat} (hd:Fm ops n sz=Ξ) (a a0:õ) (M:a0.tmps.size=sz) (vs:Nat->Ρ) (T:∀ i o d,i<n->ops[i]? = Δ o->o.dst=Δ d->vs i=a.tmps.getD d ς) (U:∀ e,(∀ i o,i<n->ops[i]? = Δ o->o.dst≠Δ e)->a.tmps.getD e ς=a0.tmps.getD e ς) (e:Nat) :
  ∀ k,k<=n->((∃ i o,i<k/\ops[i]? = Δ o/\o.dst=Δ e)->(Bq ops vs k a0).tmps.getD e ς=a.tmps.getD e ς)/\((∀ i o,i<k->ops[i]? = Δ o->o.dst≠Δ e)->(Bq ops vs k a0).tmps.getD e ς=a0.tmps.getD e ς)
 | 0,_=>⟨fun⟨i,o,h,_⟩=>by omega,λ_=>rfl⟩
 | k+1,hk=>by
  obtain⟨h1,h2⟩:=T3 hd a a0 M vs T U e k (by omega);obtain⟨o,d,G,H,ad,aj⟩:=I8 hd k (by omega);have ae:Bq ops vs (k+1) a0=(Bq ops vs k a0).put (Δ d) (vs k):=by
   show (Bq ops vs k a0).put ((ops[k]?).bind (·.dst)) (vs k)=_;rw[G];show (Bq ops vs k a0).put o.dst (vs k)=_;rw[H]
  rw[ae,Ev _ _ _ _ (by rw[(J2 vs a0 k).1,M];exact ad)];constructor
  ·rintro⟨i,J,hi,D,E⟩;by_cases I:e=d
   ·rw[if_pos I,T k o d (by omega) G H,I]
   ·rw[if_neg I];refine h1 ⟨i,J,?_,D,E⟩;by_cases af:i=k
    ·subst af;rw[G] at D;injection D with D
     subst D;rw[H] at E;injection E with E
     exact absurd E.symm I
    ·omega
  ·intro h;have ag:e≠d:=λh'=>h k o (by omega) G (by rw[H,h'])
   rw[if_neg ag];exact h2 λi J hi=>h i J (by omega)
theorem Xa {F:Nat->Ρ->Κ->Prop} {Ne:Nat->Nat->Ρ->Ρ->Prop} {a0:õ} {w1:Κ} {sz:Nat} (af:a0.tmps.size=sz) (hd:Fm ops n sz=Ξ) {listed:Array Bool} {a:õ} {w:Κ} (G:FInvR ops n F Ne a0 w1 listed a w) (H:∀ i,i<n->listed.getD i Τ=Ξ) :
  ∃ vs:Nat->Ρ,a=Bq ops vs n a0/\(∀ i,i<n->F i (vs i) w)/\∀ i j,i<n->j<n->i≠j->Ne i j (vs i) (vs j):=by
 refine⟨λi=>a.tmps.getD (((ops[i]?).bind (·.dst)).getD 0) ς,?_,λi hi=>?_,λi j hi I ag=>?_⟩
 ·have M:∀ e,(∀ i o,i<n->ops[i]? = Δ o->o.dst≠Δ e)->a.tmps.getD e ς=a0.tmps.getD e ς:=λe he=>G.rest e λi o hi D _=>he i o hi D
  have hg:=λe=>T3 hd a a0 af (λi=>a.tmps.getD (((ops[i]?).bind (·.dst)).getD 0) ς) (λi o d hi D E=>by
   show a.tmps.getD (((ops[i]?).bind (·.dst)).getD 0) ς=_;rw[D];show a.tmps.getD (o.dst.getD 0) ς=_;rw[E];rfl) M e n (θ _)
  obtain⟨s1,s2⟩:=J2 (ops:=ops) (λi=>a.tmps.getD (((ops[i]?).bind (·.dst)).getD 0) ς) a0 n;have T:a.tmps=(Bq ops (λi=>a.tmps.getD (((ops[i]?).bind (·.dst)).getD 0) ς) n a0).tmps:=by
   apply Array.ext
   ·rw[s1,G.size]
   ·intro e h1 h2;have he:a.tmps.getD e ς=(Bq ops (λi=>a.tmps.getD (((ops[i]?).bind (·.dst)).getD 0) ς) n a0).tmps.getD e ς:=by
     obtain⟨g1,g2⟩:=hg e;by_cases U:∃ i o,i<n/\ops[i]? = Δ o/\o.dst=Δ e
     ·exact (g1 U).symm
     ·have aa:∀ i o,i<n->ops[i]? = Δ o->o.dst≠Δ e:=λi o hi D ao=>U ⟨i,o,hi,D,ao⟩
      rw[g2 aa];exact M e aa
    rw[ϣ,ϣ,Ϡ h1,Ϡ h2] at he;exact he
  have J:=G.defers;rw[<-s2] at J;generalize Bq ops (λi=>a.tmps.getD (((ops[i]?).bind (·.dst)).getD 0) ς) n a0=b at *;cases a;cases b
  simp only at T J;rw[T,J]
 ·obtain⟨o,d,D,E,_,_⟩:=I8 hd i hi;have:=G.done i o d hi D E (H i hi);show F i (a.tmps.getD (((ops[i]?).bind (·.dst)).getD 0) ς) w;rw[D];show F i (a.tmps.getD (o.dst.getD 0) ς) w;rw[E];exact this
 ·obtain⟨o,d,D,E,_,_⟩:=I8 hd i hi;obtain⟨o',d',ad,ae,_,_⟩:=I8 hd j I;have:=G.ne i j o o' d d' hi I ag D ad E ae (H i hi) (H j I);show Ne i j (a.tmps.getD (((ops[i]?).bind (·.dst)).getD 0) ς) (a.tmps.getD (((ops[j]?).bind (·.dst)).getD 0) ς);rw[D,ad];show Ne i j (a.tmps.getD (o.dst.getD 0) ς) (a.tmps.getD (o'.dst.getD 0) ς);rw[E,ae];exact this
def E8 (ops:Array ϸ) (n:Nat):Bool:=(ι n).all λi=>match ops[i]? with|none=>Τ|some o=>o.after.all λe=>!Region.binds .any e||decide (e.on<i)
def unl (n:Nat) (listed:Array Bool):Nat:=((ι n).filter λi=>!listed.getD i Τ).length
theorem Mi (E:E8 ops n=Ξ) {listed:Array Bool} (T:listed.size=ops.size) (hn:n<=ops.size):∀ k,k<n->(∀ j,j<k->listed.getD j Τ=Ξ)->listed.getD k Τ=Τ->k∈Ê .any ops listed:=by
 intro k I J H;unfold E8 at E;rw[Ù] at E;have D:=E k (υ.2 I);cases G:ops[k]? with
 | none=>rw[G] at D;cases D
 | some o=>
  rw[G] at D;refine mem_ready.2 ⟨?_,o,G,λe he M=>?_⟩
  ·have:k<listed.size:=by omega
   rw[ϣ,Ϡ this] at H ⊢;exact H
  ·have:=(Array.all_eq_true'.1 D) e he;rw[Æ] at this;rcases this with h|h
   ·rw[M] at h;cases h
   ·exact J _ (of_decide_eq_true h)
theorem Fh (n:Nat) (listed:Array Bool):unl (n+1) listed=unl n listed+if listed.getD n Τ then 0 else 1:=by
 unfold unl;rw[List.range_succ,List.filter_append,List.length_append];cases h:listed.getD n Τ
 ·simp only[List.filter_cons,List.filter_nil,h,Bool.not_false,if_true,â,if_false];rfl
 ·simp only[List.filter_cons,List.filter_nil,h,Bool.not_true,if_true,â,if_false];rfl
theorem Rz:∀ (n:Nat) (listed:Array Bool) (i:Nat),n<=i->unl n (listed.setIfInBounds i Ξ)=unl n listed
 | 0,_,_,_=>rfl
 | n+1,listed,i,h=>by
  rw[Fh,Fh,Rz n listed i (by omega),getD_set_ne Τ (by omega)]
theorem Jp:∀ (n:Nat) (listed:Array Bool) (i:Nat),i<n->i<listed.size->listed.getD i Τ=Τ->unl n (listed.setIfInBounds i Ξ)+1=unl n listed
 | 0,_,_,h,_,_=>by omega
 | n+1,listed,i,h,hs,hu=>by
  rw[Fh,Fh];by_cases e:i=n
  ·subst e;rw[Rz _ _ _ (θ _),hu];have:(listed.setIfInBounds i Ξ).getD i Τ=Ξ:=by simp[hs]
   rw[this];simp
  ·have:=Jp n listed i (by omega) hs hu;rw[getD_set_ne Τ e];omega
theorem Hv:∀ (n:Nat) (listed:Array Bool),unl n listed=0->∀ i,i<n->listed.getD i Τ=Ξ
 | 0,_,_,_,h=>by omega
 | n+1,listed,h,i,hi=>by
  rw[Fh] at h;by_cases e:i=n
  ·subst e;cases D:listed.getD i Τ
   ·rw[D] at h;simp at h
   ·rfl
  ·exact Hv n listed (by omega) i (by omega)
theorem Ka:∀ (n:Nat) (listed:Array Bool),unl n listed≠0->∃ k,k<n/\listed.getD k Τ=Τ/\∀ j,j<k->listed.getD j Τ=Ξ
 | 0,_,h=>absurd rfl h
 | n+1,listed,h=>by
  by_cases D:unl n listed=0
  ·refine⟨n,by omega,?_,Hv n listed D⟩;rw[Fh,D] at h;cases E:listed.getD n Τ
   ·rfl
   ·rw[E] at h;simp at h
  ·obtain⟨k,I,G,H⟩:=Ka n listed D;exact⟨k,by omega,G,H⟩
theorem Wx {F:Nat->Ρ->Κ->Prop} {Ne:Nat->Nat->Ρ->Ρ->Prop} (I:∀ i j v u,Ne i j v u->Ne j i u v) (J:∀ i v w w',F i v w->Ext w w'->F i v w') {a0:õ} {w1:Κ} {sz g:Nat} (M:a0.tmps.size=sz) (hd:Fm ops n sz=Ξ) (hs:Region.sinkB .any ops n=Ξ) (T:Region.chainB .any ops n=Ξ) (hn:n<ops.size) (U:E8 ops n=Ξ)
  (aa:∀ i,i<n->FOp P ops Q n F Ne a0 w1 i) (ab:∀ listed a w,HeadInv .any ops n listed->(∀ i,i<n->listed.getD i Τ=Ξ)->FInvR ops n F Ne a0 w1 listed a w->wpAny P .any ops Q g listed a w) :
  ∀ (f:Nat) (listed:Array Bool) (a:õ) (w:Κ),HeadInv .any ops n listed->FInvR ops n F Ne a0 w1 listed a w->unl n listed=f->wpAny P .any ops Q (f+g) listed a w
 | 0,listed,a,w,D,G,hu=>by
  rw[Nat.zero_add];exact ab listed a w D (Hv n listed hu) G
 | f+1,listed,a,w,D,G,hu=>by
  obtain⟨k,hk,ag,ah⟩:=Ka n listed (by omega);have H:=Mi U D.size (by omega) k hk ah ag;have ai:=(mem_ready.1 H).1;rw[show f+1+g=(f+g)+1 by omega];refine⟨λh0=>(by rw[h0] at H;cases H),λi hi=>?_⟩;have E:i<n:=Nat.lt_of_not_le λh=>tail_waits hs T hn D _ k rfl hk ai i h hi
  have ae:=(mem_ready.1 hi).1;have af:i<listed.size:=by rw[D.size];omega
  have ak:listed.getD i Τ=Τ:=by
   rw[ϣ,Ϡ af] at ae ⊢;exact ae
  refine wpOp_mono (λa' w' h=>Wx I J M hd hs T hn U aa ab f _ a' w' (D.set hi E) h ?_) (W7 I J M hd G hi E (aa i E));have:=Jp n listed i E af ak;omega
def Fo (m n:Nat):Array Bool:=((ι m).map λi=>decide (i<n)).toArray
def Wy (ops:Array ϸ) (n sz:Nat):Bool:=
 Fm ops n sz&&Region.sinkB .any ops n&&Region.chainB .any ops n&&decide (n<ops.size)&&E8 ops n&&Region.seqB .any ops (ops.size-n) n (Fo ops.size n)
theorem Ht {id:Nat} {l:List ϸ} {a0:õ} {w:Κ} (n sz:Nat) (hm:P.follows .mixedOrders=Ξ) (I:Wy l.toArray n sz=Ξ) (J:a0.tmps.size=sz) (F:Nat->Ρ->Κ->Prop) (Ne:Nat->Nat->Ρ->Ρ->Prop) (aa:∀ i j v u,Ne i j v u->Ne j i u v) (hF:∀ i v w w',F i v w->Ext w w'->F i v w')
  (ad:∀ i,i<n->FOp P l.toArray Q n F Ne a0 w.drew i) (ae:∀ (vs:Nat->Ρ) (w':Κ),Ext w.drew w'->(∀ i,i<n->F i (vs i) w')->(∀ i j,i<n->j<n->i≠j->Ne i j (vs i) (vs j))->wpList P l.toArray Q (l.drop n) (Bq l.toArray vs n a0) w'):(Code.region id l.toArray Ξ).wp P Q a0 w:=by
 simp only[Wy,ϝ,decide_eq_true_eq] at I;obtain⟨⟨⟨⟨⟨hd,hs⟩,hc⟩,hn⟩,hE⟩,M⟩:=I;refine wp_region_any hm ?_;have ah:HeadInv .any l.toArray n (Array.replicate l.toArray.size Τ):=
  ⟨by simp,λj oj _ D=>(by rw[ϭ] at D;cases D),λt _ ht=>getD_in (by simpa using ht) (ϭ _ _)⟩
 have aj:FInvR l.toArray n F Ne a0 w.drew (Array.replicate l.toArray.size Τ) a0 w.drew:=
  ⟨Ι _,rfl,rfl,λi o d _ _ _ D=>(by rw[ϭ] at D;cases D),λd _=>rfl,λi j _ _ _ _ _ _ _ _ _ _ _ D=>(by rw[ϭ] at D;cases D)⟩
 have hu:∀ m,unl m (Array.replicate l.toArray.size Τ)=m:=λm=>by
  induction m with
  | zero=>rfl
  | succ m ih=>rw[Fh,ih,ϭ];simp
 have H:=Wx (P:=P) (Q:=Q) (g:=(l.drop n).length) aa hF J hd hs hc hn hE ad (λlisted a w' E T U=>by
  obtain⟨vs,rfl,hv,al⟩:=Xa J hd U T;have hL:listed=Fo l.toArray.size n:=by
   apply Array.ext
   ·rw[E.size];simp[Fo]
   ·intro i G h2;have h3:(Fo l.toArray.size n)[i]=decide (i<n):=by simp[Fo]
    rw[h3];by_cases hi:i<n
    ·have:=T i hi;rw[ϣ,Ϡ G] at this;simp only[à] at this;rw[this];simp[hi]
    ·have:=E.tail i (by omega) (by rw[<-E.size];exact G);rw[ϣ,Ϡ G] at this;simp only[à] at this;rw[this];simp[hi]
  have aq:l.toArray.size-n=(l.drop n).length:=by simp
  rw[aq] at M;exact wpAny_of_seq (l.drop n) n listed _ w' (λj=>by simp[List.getElem?_drop]) (by rw[hL];exact M) (ae vs w' U.ext hv al)) n _ a0 w.drew ah aj (hu n)
 have e:n+(l.drop n).length=l.toArray.size:=by
  have:n<l.length:=by simpa using hn
  simp;omega
 rw[e] at H;exact H
/-! ### As it is used -/
def U6 (ops:Array ϸ) (n e:Nat):Bool:=(ι n).all λj=>match ops[j]? with|none=>Ξ|some oj=>decide (oj.dst≠Δ e)
def Mv (ops:Array ϸ) (n i j dj:Nat):Bool:=decide (j<n)&&(match ops[j]? with|some oj=>decide (oj.dst=Δ dj)|none=>Τ)&&ó .any ops i j
theorem Ar {F:Nat->Ρ->Κ->Prop} {Ne:Nat->Nat->Ρ->Ρ->Prop} {a0:õ} {w1:Κ} {i:Nat} (o:ϸ) (d:Tmp) (T:ops.toList[i]? = Δ o) (hd:o.dst=Δ d) (hg:o.guard=Γ)
  (H:∀ a w,Ext w1 w->(∀ j dj,Mv ops n i j dj=Ξ->F j (a.tmps.getD dj ς) w)->(∀ e,U6 ops n e=Ξ->a.tmps.getD e ς=a0.tmps.getD e ς)->
   o.wp P a w (λU w'=>∃ v,U=a.put (Δ d) v/\Ext w w'/\F i v w'/\∀ j u,j<n->j≠i->F j u w->Ne i j v u) Q):FOp P ops Q n F Ne a0 w1 i:=by
 intro o' d' E G a w hE _ _ ab ad;rw[<-ë,T] at E;injection E with E
 subst E;rw[hd] at G;injection G with G
 subst G;refine⟨by simp[Ì,hg],H a w hE (λj dj h=>?_) (λe h=>ad e λj oj M D=>?_)⟩
 ·unfold Mv at h;simp only[ϝ,decide_eq_true_eq] at h;obtain⟨⟨M,I⟩,h2⟩:=h;cases D:ops[j]? with
  | none=>rw[D] at I;cases I
  | some oj=>
   rw[D] at I;obtain⟨oi,J,e,he,hb,ag⟩:=Region.waitsFor_spec h2;rw[<-ë,T] at J;injection J with J
   subst J;exact ab j oj dj M D (of_decide_eq_true I) ⟨e,he,hb,ag⟩
 ·unfold U6 at h;rw[Ù] at h;have:=h j (υ.2 M);rw[D] at this
  simpa using this
theorem C4 {o:ϸ} {a:õ} {w w':Κ} {v:Ρ} {next:õ->Κ->Prop} (h:(Ú a.eval o).run P w=.ok (.value v) w') (D:next (a.put o.dst v) w'):o.wp P a w next Q:=by
 unfold ϸ.wp;rw[h];exact D
end
section
variable {P:Program} {ops:Array Oper} {Q:Exit->Act->World->Prop}
def Cz (o:ϸ) (a:õ):Ρ:=match o.dst with|some d=>a.tmps.getD d ς|none=>ς
structure FInvP (ops:Array ϸ) (R:Κ->Κ->Prop) (F:Nat->Ρ->Κ->Prop) (Ne:Nat->Nat->Ρ->Ρ->Prop) (a0:õ) (w1:Κ) (listed:Array Bool) (a:õ) (w:Κ):Prop where
 ext:R w1 w
 defers:a.defers=a0.defers
 size:a.tmps.size=a0.tmps.size
 done:∀ i o,ops[i]? = Δ o->listed.getD i Τ=Ξ->F i (Cz o a) w
 rest:∀ d,(∀ i o,ops[i]? = Δ o->listed.getD i Τ=Ξ->o.dst≠Δ d)->a.tmps.getD d ς=a0.tmps.getD d ς
 ne:∀ i j oi oj,i≠j->ops[i]? = Δ oi->ops[j]? = Δ oj->listed.getD i Τ=Ξ->listed.getD j Τ=Ξ->Ne i j (Cz oi a) (Cz oj a)
def POp (P:é) (ops:Array ϸ) (Q:Exit->õ->Κ->Prop) (R:Κ->Κ->Prop) (F:Nat->Ρ->Κ->Prop) (Ne:Nat->Nat->Ρ->Ρ->Prop) (a0:õ) (w1:Κ) (i:Nat):Prop:=
 ∀ o,ops[i]? = Δ o->∀ a w,R w1 w->
  (∀ j oj,ops[j]? = Δ oj->(∃ e∈o.after,Region.binds .any e=Ξ/\e.on=j)->F j (Cz oj a) w)->
  (∀ e,(∀ (j:Nat) (oj:ϸ),ops[j]? = Δ oj->oj.dst≠Δ e)->a.tmps.getD e ς=a0.tmps.getD e ς)->
  Ì o (yielded ops a.tmps)=Ξ/\o.wp P a w (λD w'=>∃ v,(o.dst=Γ->v=ς)/\D=a.put o.dst v/\R w w'/\F i v w'/\∀ j u,j≠i->F j u w->(∀ k ok,ops[k]? = Δ ok->(∃ e∈o.after,Region.binds .any e=Ξ/\e.on=k)->k≠j->Ne k j (Cz ok a) u)->Ne i j v u) Q
def E0 (ops:Array ϸ) (sz:Nat):Bool:=(ι ops.size).all λi=>match ops[i]? with
 | none=>Τ
 | some o=>match o.dst with
  | none=>Ξ
  | some d=>decide (d<sz)&&(ι ops.size).all λj=>decide (j=i)||match ops[j]? with|none=>Τ|some oj=>decide (oj.dst≠Δ d)
theorem Hi {sz:Nat} (h:E0 ops sz=Ξ) (i:Nat) (o:ϸ) (G:ops[i]? = Δ o):∀ d,o.dst=Δ d->d<sz/\∀ j oj,j≠i->ops[j]? = Δ oj->oj.dst≠Δ d:=by
 unfold E0 at h;rw[Ù] at h;have hi:=(ϒ.1 G).1;have D:=h i (υ.2 hi);rw[G] at D;simp only at D;intro d hd;rw[hd] at D;simp only[ϝ,decide_eq_true_eq,Ù,Æ,υ] at D;refine⟨D.1,λj oj I H=>?_⟩;rcases D.2 j (ϒ.1 H).1 with E|E
 ·exact absurd E I
 ·rw[H] at E
  simpa using E
theorem Ig (a:õ) (d:Option Tmp) (v:Ρ):(a.put d v).tmps.size=a.tmps.size/\(a.put d v).defers=a.defers:=by
 cases d with
 | none=>exact⟨rfl,rfl⟩
 | some d=>exact⟨Oh a d v,rfl⟩
theorem Li {sz:Nat} (hd:E0 ops sz=Ξ) {i:Nat} {o:ϸ} (G:ops[i]? = Δ o) {a:õ} (ha:a.tmps.size=sz) {v:Ρ} (hv:o.dst=Γ->v=ς) {j:Nat} {oj:ϸ} (D:ops[j]? = Δ oj) :
  Cz oj (a.put o.dst v)=if j=i then v else Cz oj a:=by
 by_cases e:j=i
 ·subst e;rw[G] at D;injection D with D
  subst D;rw[if_pos rfl];unfold Cz;cases E:o.dst with
  | none=>exact (hv E).symm
  | some d=>
   simp only;rw[Ev _ _ _ _ (by rw[ha];exact (Hi hd j o G d E).1),if_pos rfl]
 ·rw[if_neg e];unfold Cz;cases H:oj.dst with
  | none=>rfl
  | some dj=>
   simp only;cases E:o.dst with
   | none=>rfl
   | some d=>
    rw[Ev _ _ _ _ (by rw[ha];exact (Hi hd i o G d E).1)];rw[if_neg (λh=>(Hi hd i o G d E).2 j oj e D (by rw[H,h]))]
theorem Aj3 {R:Κ->Κ->Prop} (aw:∀ x y z,R x y->R y z->R x z) {F:Nat->Ρ->Κ->Prop} {Ne:Nat->Nat->Ρ->Ρ->Prop} (ax:∀ i j v u,Ne i j v u->Ne j i u v) (hF:∀ i v w w',F i v w->R w w'->F i v w') {a0:õ} {w1:Κ} {sz:Nat} (az:a0.tmps.size=sz) (hd:E0 ops sz=Ξ) {listed:Array Bool} {a:õ} {w:Κ} (D:FInvP ops R F Ne a0 w1 listed a w)
  {i:Nat} (hi:i∈Ê .any ops listed) (H:POp P ops Q R F Ne a0 w1 i):wpOp P ops Q i (λa' w'=>FInvP ops R F Ne a0 w1 (listed.setIfInBounds i Ξ) a' w') a w:=by
 obtain⟨a1,o,I,aa⟩:=mem_ready.1 hi;have aj:i<listed.size:=by
  rcases Nat.lt_or_ge i listed.size with h|h
  ·exact h
  ·simp[ü h] at a1
 have hg:∀ j,(listed.setIfInBounds i Ξ).getD j Τ=Ξ->j=i\/listed.getD j Τ=Ξ:=λj hj=>by
  by_cases e:i=j
  ·exact .inl e.symm
  ·rw[getD_set_ne Τ e] at hj;exact .inr hj
 obtain⟨hw,a7⟩:=H o I a w D.ext (λj oj E ⟨e,he,M,a8⟩=>D.done j oj E (by rw[<-a8];exact aa e he M)) (λe he=>D.rest e λj oj E _=>he j oj E);unfold wpOp;rw[I];simp only[hw,if_true];refine .inl (ϸ.wp_mono (λa' w' h=>?_) a7);obtain⟨v,ab,rfl,hE,hv,an⟩:=h;have has:a.tmps.size=sz:=by rw[D.size,az]
 refine⟨aw _ _ _ D.ext hE,by rw[(Ig a o.dst v).2];exact D.defers,by rw[(Ig a o.dst v).1];exact D.size,λj oj E T=>?_,λe he=>?_,λj k oj ok ao E U T aq=>?_⟩
 ·rw[Li hd I has ab E];by_cases e:j=i
  ·rw[if_pos e,e];exact hv
  ·rw[if_neg e];rcases hg j T with h|h
   ·exact absurd h e
   ·exact hF _ _ _ _ (D.done j oj E h) hE
 ·have h1:(a.put o.dst v).tmps.getD e ς=a.tmps.getD e ς:=by
   cases ar:o.dst with
   | none=>rfl
   | some d=>
    rw[Ev _ _ _ _ (by rw[has];exact (Hi hd i o I d ar).1),if_neg];exact λh=>he i o I (by simp[aj]) (by rw[ar,h])
  rw[h1];refine D.rest e λj oj E T=>he j oj E ?_
  by_cases e':i=j
  ·subst e';simp[aj]
  ·rw[getD_set_ne Τ e'];exact T
 ·rw[Li hd I has ab E,Li hd I has ab U];by_cases J:j=i
  ·have G:k≠i:=λh=>ao (by rw[J,h])
   rw[if_pos J,if_neg G,J];rcases hg k aq with h|h
   ·exact absurd h G
   ·exact an k _ G (D.done k ok U h) (λq oq ae ⟨e,he,M,af⟩ ag=>D.ne q k oq ok ag ae U (by rw[<-af];exact aa e he M) h)
  ·rw[if_neg J];rcases hg j T with h|ah
   ·exact absurd h J
   ·by_cases G:k=i
    ·rw[if_pos G,G];exact ax _ _ _ _ (an j _ J (D.done j oj E ah) (λq oq ae ⟨e,he,M,af⟩ ag=>D.ne q j oq oj ag ae E (by rw[<-af];exact aa e he M) ah))
    ·rw[if_neg G];rcases hg k aq with h|bb
     ·exact absurd h G
     ·exact D.ne j k oj ok ao E U ah bb
theorem T4 {sz:Nat} (hd:E0 ops sz=Ξ) (a a0:õ) (I:a0.tmps.size=sz) (vs:Nat->Ρ) (J:∀ i o,ops[i]? = Δ o->vs i=Cz o a) (e:Nat) :
  ∀ k,k<=ops.size->((∃ i o,i<k/\ops[i]? = Δ o/\o.dst=Δ e)->(Bq ops vs k a0).tmps.getD e ς=a.tmps.getD e ς)/\((∀ i o,i<k->ops[i]? = Δ o->o.dst≠Δ e)->(Bq ops vs k a0).tmps.getD e ς=a0.tmps.getD e ς)
 | 0,_=>⟨fun⟨i,o,h,_⟩=>by omega,λ_=>rfl⟩
 | k+1,hk=>by
  obtain⟨U,h2⟩:=T4 hd a a0 I vs J e k (by omega);obtain⟨o,E⟩:∃ o,ops[k]? = Δ o:=⟨_,Ϡ (by omega)⟩;have ab:Bq ops vs (k+1) a0=(Bq ops vs k a0).put o.dst (vs k):=by
   show (Bq ops vs k a0).put ((ops[k]?).bind (·.dst)) (vs k)=_;rw[E];rfl
  have hg:(Bq ops vs (k+1) a0).tmps.getD e ς=if o.dst=Δ e then a.tmps.getD e ς else (Bq ops vs k a0).tmps.getD e ς:=by
   rw[ab];cases M:o.dst with
   | none=>simp[Ϛ]
   | some d=>
    rw[Ev _ _ _ _ (by rw[(J2 vs a0 k).1,I];exact (Hi hd k o E d M).1)];by_cases D:e=d
    ·subst D;rw[if_pos rfl,if_pos rfl,J k o E];unfold Cz;rw[M]
    ·rw[if_neg D,if_neg (λh=>D (ω h).symm)]
  rw[hg];constructor
  ·rintro⟨i,H,hi,G,T⟩;by_cases D:o.dst=Δ e
   ·rw[if_pos D]
   ·rw[if_neg D];refine U ⟨i,H,?_,G,T⟩;by_cases ad:i=k
    ·subst ad;rw[E] at G;injection G with G
     subst G;exact absurd T D
    ·omega
  ·intro h;rw[if_neg (h k o (by omega) E)];exact h2 λi H hi=>h i H (by omega)
theorem Aj4 {R:Κ->Κ->Prop} {F:Nat->Ρ->Κ->Prop} {Ne:Nat->Nat->Ρ->Ρ->Prop} {a0:õ} {w1:Κ} {sz:Nat} (ad:a0.tmps.size=sz) (hd:E0 ops sz=Ξ) {listed:Array Bool} {a:õ} {w:Κ} (E:FInvP ops R F Ne a0 w1 listed a w) (H:∀ i,i<ops.size->listed.getD i Τ=Ξ) :
  ∃ vs:Nat->Ρ,a=Bq ops vs ops.size a0/\(∀ i,i<ops.size->F i (vs i) w)/\∀ i j,i<ops.size->j<ops.size->i≠j->Ne i j (vs i) (vs j):=by
 obtain⟨vs,G⟩:∃ vs:Nat->Ρ,∀ i o,ops[i]? = Δ o->vs i=Cz o a:=⟨λi=>match ops[i]? with|some o=>Cz o a|none=>ς,λi o D=>by simp only[D]⟩;have get:∀ i,i<ops.size->∃ o,ops[i]? = Δ o:=λi hi=>⟨_,Ϡ hi⟩
 refine⟨vs,?_,λi hi=>?_,λi j hi J ae=>?_⟩
 ·have hg:=λe=>T4 hd a a0 ad vs G e ops.size (θ _)
  obtain⟨s1,s2⟩:=J2 (ops:=ops) vs a0 ops.size;have M:a.tmps=(Bq ops vs ops.size a0).tmps:=by
   apply Array.ext
   ·rw[s1,E.size]
   ·intro e h1 h2;have he:a.tmps.getD e ς=(Bq ops vs ops.size a0).tmps.getD e ς:=by
     obtain⟨g1,g2⟩:=hg e;by_cases T:∃ i o,i<ops.size/\ops[i]? = Δ o/\o.dst=Δ e
     ·exact (g1 T).symm
     ·have U:∀ i o,i<ops.size->ops[i]? = Δ o->o.dst≠Δ e:=λi o hi D al=>T ⟨i,o,hi,D,al⟩
      rw[g2 U];exact E.rest e λi o D _=>U i o (ϒ.1 D).1 D
    rw[ϣ,ϣ,Ϡ h1,Ϡ h2] at he;exact he
  have I:=E.defers;rw[<-s2] at I;generalize Bq ops vs ops.size a0=b at *;cases a;cases b
  simp only at M I;rw[M,I]
 ·obtain⟨o,D⟩:=get i hi;rw[G i o D];exact E.done i o D (H i hi)
 ·obtain⟨o,D⟩:=get i hi;obtain⟨o',ab⟩:=get j J;rw[G i o D,G j o' ab];exact E.ne i j o o' ae D ab (H i hi) (H j J)
theorem T8 {R:Κ->Κ->Prop} (J:∀ x y z,R x y->R y z->R x z) {F:Nat->Ρ->Κ->Prop} {Ne:Nat->Nat->Ρ->Ρ->Prop} (M:∀ i j v u,Ne i j v u->Ne j i u v) (T:∀ i v w w',F i v w->R w w'->F i v w') {a0:õ} {w1:Κ} {sz:Nat} (H:a0.tmps.size=sz) (hd:E0 ops sz=Ξ) (U:E8 ops ops.size=Ξ)
  (aa:∀ i,i<ops.size->POp P ops Q R F Ne a0 w1 i) (ab:∀ (vs:Nat->Ρ) (w':Κ),R w1 w'->(∀ i,i<ops.size->F i (vs i) w')->(∀ i j,i<ops.size->j<ops.size->i≠j->Ne i j (vs i) (vs j))->Q .normal (Bq ops vs ops.size a0) w') :
  ∀ (f:Nat) (listed:Array Bool) (a:õ) (w:Κ),listed.size=ops.size->FInvP ops R F Ne a0 w1 listed a w->unl ops.size listed=f->wpAny P .any ops Q f listed a w
 | 0,listed,a,w,hs,D,hu=>by
  have ad:=Hv _ listed hu;obtain⟨vs,rfl,h1,h2⟩:=Aj4 H hd D ad;refine⟨?_,ab vs w D.ext h1 h2⟩;refine List.eq_nil_iff_forall_not_mem.2 λi hi=>?_
  obtain⟨E,o,I,_⟩:=mem_ready.1 hi;have aj:=(ϒ.1 I).1;have:=ad i aj;have G:i<listed.size:=by omega
  rw[ϣ,Ϡ G] at E this;rw[à] at E this;rw[this] at E;cases E
 | f+1,listed,a,w,hs,D,hu=>by
  obtain⟨k,hk,al,an⟩:=Ka ops.size listed (by omega);have ae:=Mi U hs (θ _) k hk an al;refine⟨λh0=>(by rw[h0] at ae;cases ae),λi hi=>?_⟩;obtain⟨af,o,I,_⟩:=mem_ready.1 hi;have ag:=(ϒ.1 I).1;have G:i<listed.size:=by omega
  have aq:listed.getD i Τ=Τ:=by
   rw[ϣ,Ϡ G] at af ⊢;exact af
  refine wpOp_mono (λa' w' h=>T8 J M T H hd U aa ab f _ a' w' (by rw[Array.size_setIfInBounds];exact hs) h ?_) (Aj3 J M T H hd D hi (aa i ag));have:=Jp _ listed i ag G aq;show unl ops.size (listed.setIfInBounds i Ξ)=f;omega
def Ih (ops:Array ϸ) (sz:Nat):Bool:=E0 ops sz&&E8 ops ops.size
theorem Ni {id:Nat} {a0:õ} {w:Κ} (n sz:Nat) (hn:ops.size=n) (hm:P.follows .mixedOrders=Ξ) (E:Ih ops sz=Ξ) (G:a0.tmps.size=sz) (R:Κ->Κ->Prop) (H:∀ x,R x x) (I:∀ x y z,R x y->R y z->R x z) (F:Nat->Ρ->Κ->Prop) (Ne:Nat->Nat->Ρ->Ρ->Prop) (J:∀ i j v u,Ne i j v u->Ne j i u v) (M:∀ i v w w',F i v w->R w w'->F i v w')
  (T:∀ i,i<n->POp P ops Q R F Ne a0 w.drew i) (U:∀ (vs:Nat->Ρ) (w':Κ),R w.drew w'->(∀ i,i<n->F i (vs i) w')->(∀ i j,i<n->j<n->i≠j->Ne i j (vs i) (vs j))->Q .normal (Bq ops vs n a0) w'):(Code.region id ops Ξ).wp P Q a0 w:=by
 subst hn;simp only[Ih,ϝ] at E;refine wp_region_any hm (T8 I J M G E.1 E.2 T U _ _ a0 w.drew (by simp) ⟨H _,rfl,rfl,λi o _ D=>(by rw[ϭ] at D;cases D),λd _=>rfl,λi j _ _ _ _ _ D=>(by rw[ϭ] at D;cases D)⟩ ?_);have hu:∀ m,unl m (Array.replicate ops.size Τ)=m:=λm=>by
  induction m with
  | zero=>rfl
  | succ m ih=>rw[Fh,ih,ϭ];simp
 exact hu _
def F2 (ops:Array ϸ) (i j dj:Nat):Bool:=(match ops[j]? with|some oj=>decide (oj.dst=Δ dj)|none=>Τ)&&ó .any ops i j
def Ko (ops:Array ϸ) (i j:Nat):Bool:=(match ops[j]? with|some oj=>decide (oj.dst=Γ)|none=>Τ)&&ó .any ops i j
def J6 (ops:Array ϸ) (e:Nat):Bool:=(ι ops.size).all λj=>match ops[j]? with|none=>Ξ|some oj=>decide (oj.dst≠Δ e)
theorem Ol {R:Κ->Κ->Prop} {F:Nat->Ρ->Κ->Prop} {Ne:Nat->Nat->Ρ->Ρ->Prop} {a0:õ} {w1:Κ} {i:Nat} (o:ϸ) (U:ops.toList[i]? = Δ o) (hg:o.guard=Γ)
  (H:∀ a w,R w1 w->(∀ j dj,F2 ops i j dj=Ξ->F j (a.tmps.getD dj ς) w)->(∀ j,Ko ops i j=Ξ->F j ς w)->(∀ e,J6 ops e=Ξ->a.tmps.getD e ς=a0.tmps.getD e ς)->
   o.wp P a w (λa' w'=>∃ v,(o.dst=Γ->v=ς)/\a'=a.put o.dst v/\R w w'/\F i v w'/\∀ j u,j≠i->F j u w->(∀ k J,F2 ops i k J=Ξ->k≠j->Ne k j (a.tmps.getD J ς) u)->Ne i j v u) Q):POp P ops Q R F Ne a0 w1 i:=by
 intro o' M a w hE ab ae;rw[<-ë,U] at M;injection M with M
 subst M;have ho:ops[i]? = Δ o:=by rw[<-ë];exact U
 have T:∀ j,ó .any ops i j=Ξ->∃ e∈o.after,Region.binds .any e=Ξ/\e.on=j:=λj h=>by
  obtain⟨oi,ag,e,he,hb,ai⟩:=Region.waitsFor_spec h;have:oi=o:=ω (ag.symm.trans ho);subst this;exact⟨e,he,hb,ai⟩
 have aj:∀ j dj,F2 ops i j dj=Ξ->∃ oj,ops[j]? = Δ oj/\(∃ e∈o.after,Region.binds .any e=Ξ/\e.on=j)/\Cz oj a=a.tmps.getD dj ς:=λj dj h=>by
  unfold F2 at h;simp only[ϝ] at h;obtain⟨D,G⟩:=h;cases E:ops[j]? with
  | none=>rw[E] at D;cases D
  | some oj=>
   rw[E] at D;have I:oj.dst=Δ dj:=of_decide_eq_true D;exact⟨oj,rfl,T j G,by unfold Cz;rw[I]⟩
 refine⟨by simp[Ì,hg],ϸ.wp_mono (λa' w' ⟨v,D,G,h3,h4,h5⟩=>⟨v,D,G,h3,h4,λj u ao hF hd=>h5 j u ao hF λk J hk au=>by
  obtain⟨oj,e1,e2,e3⟩:=aj k J hk;have:=hd k oj e1 e2 au;rw[e3] at this;exact this⟩) (H a w hE (λj dj h=>?_) (λj h=>?_) (λe h=>ae e λj oj E=>?_))⟩
 ·unfold F2 at h;simp only[ϝ] at h;obtain⟨D,G⟩:=h;cases E:ops[j]? with
  | none=>rw[E] at D;cases D
  | some oj=>
   rw[E] at D;have I:oj.dst=Δ dj:=of_decide_eq_true D;have:=ab j oj E (T j G);unfold Cz at this;rw[I] at this;exact this
 ·unfold Ko at h;simp only[ϝ] at h;obtain⟨D,G⟩:=h;cases E:ops[j]? with
  | none=>rw[E] at D;cases D
  | some oj=>
   rw[E] at D;have I:oj.dst=Γ:=of_decide_eq_true D;have:=ab j oj E (T j G);unfold Cz at this;rw[I] at this;exact this
 ·unfold J6 at h;rw[Ù] at h;have:=h j (υ.2 (ϒ.1 E).1);rw[E] at this;exact of_decide_eq_true this
theorem Bi {R:Κ->Κ->Prop} {F:Nat->Ρ->Κ->Prop} {Ne:Nat->Nat->Ρ->Ρ->Prop} {a0:õ} {w1:Κ} {i:Nat} (o:ϸ) (d:Tmp) (G:ops.toList[i]? = Δ o) (hd:o.dst=Δ d) (hg:o.guard=Γ)
  (H:∀ a w,R w1 w->(∀ j dj,F2 ops i j dj=Ξ->F j (a.tmps.getD dj ς) w)->(∀ j,Ko ops i j=Ξ->F j ς w)->(∀ e,J6 ops e=Ξ->a.tmps.getD e ς=a0.tmps.getD e ς)->
   o.wp P a w (λD w'=>∃ v,D=a.put (Δ d) v/\R w w'/\F i v w'/\∀ j u,j≠i->F j u w->Ne i j v u) Q):POp P ops Q R F Ne a0 w1 i:=
 Ol o G hg λa w I J M T=>ϸ.wp_mono (λD w' ⟨v,e,h⟩=>⟨v,λE=>(by rw[hd] at E;cases E),by rw[hd];exact e,h.1,h.2.1,λj u a b _=>h.2.2 j u a b⟩) (H a w I J M T)
theorem Uc {R:Κ->Κ->Prop} {F:Nat->Ρ->Κ->Prop} {Ne:Nat->Nat->Ρ->Ρ->Prop} {a0:õ} {w1:Κ} {i:Nat} (o:ϸ) (d:Tmp) (I:ops.toList[i]? = Δ o) (hd:o.dst=Δ d) (hg:o.guard=Γ)
  (H:∀ a w,R w1 w->(∀ j dj,F2 ops i j dj=Ξ->F j (a.tmps.getD dj ς) w)->(∀ j,Ko ops i j=Ξ->F j ς w)->(∀ e,J6 ops e=Ξ->a.tmps.getD e ς=a0.tmps.getD e ς)->
   o.wp P a w (λD w'=>∃ v,D=a.put (Δ d) v/\R w w'/\F i v w'/\∀ j u,j≠i->F j u w->(∀ k E,F2 ops i k E=Ξ->k≠j->Ne k j (a.tmps.getD E ς) u)->Ne i j v u) Q):POp P ops Q R F Ne a0 w1 i:=
 Ol o I hg λa w J M T U=>ϸ.wp_mono (λD w' ⟨v,e,h⟩=>⟨v,λG=>(by rw[hd] at G;cases G),by rw[hd];exact e,h⟩) (H a w J M T U)
theorem L6 {R:Κ->Κ->Prop} {F:Nat->Ρ->Κ->Prop} {Ne:Nat->Nat->Ρ->Ρ->Prop} {a0:õ} {w1:Κ} {i:Nat} (o:ϸ) (E:ops.toList[i]? = Δ o) (hd:o.dst=Γ) (hg:o.guard=Γ)
  (H:∀ a w,R w1 w->(∀ j dj,F2 ops i j dj=Ξ->F j (a.tmps.getD dj ς) w)->(∀ j,Ko ops i j=Ξ->F j ς w)->(∀ e,J6 ops e=Ξ->a.tmps.getD e ς=a0.tmps.getD e ς)->
   o.wp P a w (λD w'=>D=a/\R w w'/\F i ς w'/\∀ j u,j≠i->F j u w->Ne i j ς u) Q):POp P ops Q R F Ne a0 w1 i:=
 Ol o E hg λa w G I J M=>ϸ.wp_mono (λD w' ⟨e,h⟩=>⟨ς,λ_=>rfl,by rw[hd];exact e,h.1,h.2.1,λj u a b _=>h.2.2 j u a b⟩) (H a w G I J M)
end
theorem Akl {P:é} {o:ϸ} {a:õ} {w:Κ} (ty:Á) (x:ϻ) (D:o.op=.load ty x) (g:Nat) (E:a.eval x=γ (Δ ⟨g,0,Γ⟩)) (t:Á) (cs:Array Ρ) (fr:Nat × Nat) (d:TypeDesc) (hg:w.heap[g]? = Δ (.cells cs t fr))
  (hu:P.underlying ty=Δ d) (hd:(match d with|.struct _|.array _ _=>Ξ|_=>Τ)=Ξ) (hi:(P.info? ty).map (·.size)=Δ cs.size):(Ú a.eval o).run P w=.ok (.value (.agg cs)) w:=by
 unfold Ú;simp only[D,E,Instr.loadAt,Instr.sureAddr,Sem.run_bind,Sem.run_pure,Result.andThen_ok,run_loadVar_row w g t ty cs fr d hg hu hd hi]
inductive AV where
 | c (v:Ρ)
 | r (R:Κ->Ρ->Prop)
def AV.holds (x:AV) (W:Κ) (v:Ρ):Prop:=match x with
 | .c u=>v=u
 | .r R=>R W v
def AV.val:AV->Ρ
 | .c u=>u
 | .r _=>ς
def AV.Mono (x:AV):Prop:=∀ W W' v,x.holds W v->Ext W W'->x.holds W' v
theorem AV.mono_c (v:Ρ):(AV.c v).Mono:=λ_ _ _ h _=>h
def Ey (W:Κ):List AV->List Ρ->Prop
 | [],[]=>True
 | x::xs,v::vs=>x.holds W v/\Ey W xs vs
 | _,_=>False
theorem Kf {W:Κ}:∀ {us vs:List Ρ},Ey W (us.map AV.c) vs->vs=us
 | [],[],_=>rfl
 | [],_::_,h=>h.elim
 | _::_,[],h=>h.elim
 | u::us,v::vs,h=>by
  have D:v=u:=h.1;rw[D,Kf h.2]
inductive Sc (P:é) (w:Κ) where
 | pure
 | skip
 | skipu
 | keep
 | load (ty:Á) (g:Nat) (cs:Array Ρ) (t:Á) (fr:Nat × Nat) (d:TypeDesc) (hg:∀ W,Ext w W->W.heap[g]? = Δ (.cells cs t fr)) (hu:P.underlying ty=Δ d) (hd:(match d with|.struct _|.array _ _=>Ξ|_=>Τ)=Ξ) (hi:(P.info? ty).map (·.size)=Δ cs.size)
 | call (f:FuncId) (he:∀ args W,(callFunc f args).run P W=.ok (.enter f args) W) (args:List AV) (res:AV) (hm:res.Mono) (h:∀ W vs,Ext w W->Ey W args vs->Calls P f vs.toArray W λe w'=>∃ v,e=.returned v/\res.holds w' v/\Ext W w')
 | gen (op:Op) (args:List AV) (res:AV) (hm:res.Mono) (h:∀ (ρ:ϻ->Ρ) (o:ϸ) W,o.op=op->Ext w W->Ey W args (op.operands.toList.map ρ)->∃ v,(Ú ρ o).run P W=.ok (.value v) W/\res.holds W v)
def upd (E:Nat->AV) (d:Nat) (x:AV):Nat->AV:=λn=>if n=d then x else E n
def oev (E:Nat->AV):ϻ->AV
 | .tmp t=>E t
 | .const v=>.c v
 | .global g=>.c (γ (Δ ⟨g,0,Γ⟩))
 | .func f=>.c (.func (.func f) #[] #[])
section
variable {P:Program} {w:World}
def pvX:Result Next->Ρ
 | .ok (.value v) _=>v
 | _=>ς
def pv (P:é) (w:Κ) (E:Nat->AV) (o:ϸ):Ρ:=pvX ((Ú (λx=>(oev E x).val) o).run P w)
def moved (E:Nat->AV):Op->AV
 | .move x=>oev E x
 | .assign x=>oev E x
 | _=>.c ς
def Id (P:é) (w:Κ) (E:Nat->AV) (o:ϸ):Sc P w->AV
 | .pure=>.c (pv P w E o)
 | .skip=>.c ς
 | .skipu=>.c ς
 | .keep=>moved E o.op
 | .load _ _ cs _ _ _ _ _ _ _=>.c (.agg cs)
 | .call _ _ _ res _ _=>res
 | .gen _ _ res _ _=>res
def scE (P:é) (w:Κ):List ϸ->List (Sc P w)->(Nat->AV)->(Nat->AV)
 | o::l,s::D,E=>scE P w l D (match o.dst with|some d=>upd E d (Id P w E o s)|none=>E)
 | _,_,E=>E
inductive XX where
 | av (a:AV)
 | res (r:Result Next)
 | ty (t:Á)
 | op (o:Op)
 | fn (f:FuncId)
 | no
def I9 (l:List ϸ) (k:Nat):Nat:=match l[k]? with
 | some o=>o.dst.getD 0
 | none=>0
def scL (l:List ϸ) (E:Nat->AV) (o:ϸ) (W:Κ) (s:Sc P w):List XX:=
 XX.av (E (o.dst.getD 0))::(match o.guard with|none=>[]|some (k,_)=>[XX.av (E (I9 l k))])++
 match s with
 | .pure=>XX.res ((Ú (λx=>(oev E x).val) o).run P W)::o.op.operands.toList.map λx=>XX.av (oev E x)
 | .skip=>[]
 | .skipu=>[]
 | .keep=>match o.op with|.move x=>[XX.op (.move x)]|.assign x=>[XX.op (.move x)]|_=>[XX.no]
 | .load ty _ _ _ _ _ _ _ _ _=>match o.op with|.load t x=>[XX.ty t,XX.av (oev E x)]|_=>[XX.no]
 | .call f _ _ _ _ _=>match o.op with|.call c=>(match c.callee with|.value (.func f)=>XX.fn f::c.args.toList.map λx=>XX.av (oev E x)|_=>[XX.no])|_=>[XX.no]
 | .gen _ _ _ _ _=>XX.op o.op::o.op.operands.toList.map λx=>XX.av (oev E x)
def scR (l:List ϸ) (E:Nat->AV) (o:ϸ) (W:Κ) (s:Sc P w):List XX:=
 XX.av (Id P w E o s)::(match o.guard with|none=>[]|some (_,b)=>[XX.av (.c (match s with|.skip=>.bool (!b)|.skipu=>ς|_=>.bool b))])++
 match s with
 | .pure=>XX.res (.ok (.value (pv P w E o)) W)::o.op.operands.toList.map λx=>XX.av (.c (oev E x).val)
 | .skip=>(match o.guard with|none=>[XX.no]|some _=>[])
 | .skipu=>(match o.guard with|none=>[XX.no]|some _=>[])
 | .keep=>match o.op with|.move x=>[XX.op (.move x)]|.assign x=>[XX.op (.move x)]|_=>[]
 | .load ty g _ _ _ _ _ _ _ _=>[XX.ty ty,XX.av (.c (γ (Δ ⟨g,0,Γ⟩)))]
 | .call f _ args _ _ _=>XX.fn f::args.map XX.av
 | .gen op args _ _ _=>XX.op op::args.map XX.av
def Jj (l:List ϸ) (E:Nat->AV) (W:Κ):List ϸ->List (Sc P w)->List (List XX)
 | o::os,s::D=>scL l E o W s::Jj l E W os D
 | _,_=>[]
def Ji (l:List ϸ) (E:Nat->AV) (W:Κ):List ϸ->List (Sc P w)->List (List XX)
 | o::os,s::D=>scR l E o W s::Ji l E W os D
 | _,_=>[]
def S3 (l:List ϸ) (i:Nat) (t:Nat):Bool:=(ι l.length).all λj=>match l[j]? with
 | none=>Τ
 | some oj=>if oj.dst=Δ t then ó .any l.toArray i j else Ξ
def Oy (l:List ϸ) (i:Nat) (o:ϸ):Bool:=
 (match o.op with|.select _ _=>Τ|_=>Ξ)&&o.dst.isSome&&(o.op.operands.toList.all λx=>match x with|.tmp t=>S3 l i t|_=>Ξ)&&
 (match o.guard with|none=>Ξ|some (k,_)=>(match l[k]? with|some ok=>ok.dst.isSome|none=>Τ)&&ó .any l.toArray i k)
def scB (l:List ϸ) (sz:Nat):Bool:=Ih l.toArray sz&&(ι l.length).all λi=>match l[i]? with
 | none=>Τ
 | some o=>Oy l i o
def ROp (P:é) (ops:Array ϸ) (Q:Exit->õ->Κ->Prop) (F:Nat->Ρ->Κ->Prop) (a0:õ) (w1:Κ) (i:Nat):Prop:=
 ∀ o,ops[i]? = Δ o->∀ a w,Ext w1 w->
  (∀ j oj,ops[j]? = Δ oj->ó .any ops i j=Ξ->F j (Cz oj a) w)->
  (∀ e,(∀ (j:Nat) (oj:ϸ),ops[j]? = Δ oj->oj.dst≠Δ e)->a.tmps.getD e ς=a0.tmps.getD e ς)->
  (Ì o (yielded ops a.tmps)=Ξ/\o.wp P a w (λD w'=>∃ v,(o.dst=Γ->v=ς)/\D=a.put o.dst v/\Ext w w'/\F i v w') Q)\/
  (Ì o (yielded ops a.tmps)=Τ/\F i ς w)
structure RegI (ops:Array ϸ) (F:Nat->Ρ->Κ->Prop) (a0:õ) (w1:Κ) (listed:Nat->Bool) (a:õ) (w:Κ):Prop where
 ext:Ext w1 w
 defers:a.defers=a0.defers
 size:a.tmps.size=a0.tmps.size
 done:∀ i o,ops[i]? = Δ o->listed i=Ξ->F i (Cz o a) w
 rest:∀ d,(∀ i o,ops[i]? = Δ o->listed i=Ξ->o.dst≠Δ d)->a.tmps.getD d ς=a0.tmps.getD d ς
theorem L1 {ops:Array ϸ} {F:Nat->Ρ->Κ->Prop} (M:∀ i v w w',F i v w->Ext w w'->F i v w') {a0:õ} {w1:Κ} {sz:Nat} (T:a0.tmps.size=sz) (hd:E0 ops sz=Ξ) {listed:Nat->Bool} {a:õ} {w w':Κ} (D:RegI ops F a0 w1 listed a w)
  {i:Nat} {o:ϸ} (H:ops[i]? = Δ o) {v:Ρ} (U:o.dst=Γ->v=ς) (I:Ext w w') (hv:F i v w'):RegI ops F a0 w1 (λj=>decide (j=i)||listed j) (a.put o.dst v) w':=by
 have has:a.tmps.size=sz:=by rw[D.size,T]
 refine⟨D.ext.trans I,by rw[(Ig a o.dst v).2];exact D.defers,by rw[(Ig a o.dst v).1];exact D.size,λj oj G E=>?_,λe he=>?_⟩
 ·rw[Li hd H has U G];by_cases e:j=i
  ·rw[if_pos e,e];exact hv
  ·rw[if_neg e];have E:listed j=Ξ:=by simpa [e] using E
   exact M _ _ _ _ (D.done j oj G E) I
 ·have h1:(a.put o.dst v).tmps.getD e ς=a.tmps.getD e ς:=by
   cases J:o.dst with
   | none=>rfl
   | some d=>
    rw[Ev _ _ _ _ (by rw[has];exact (Hi hd i o H d J).1),if_neg];exact λh=>he i o H (by simp) (by rw[J,h])
  rw[h1];exact D.rest e λj oj G E=>he j oj G (by simp[E])
theorem RegI.congr {ops:Array ϸ} {F:Nat->Ρ->Κ->Prop} {a0:õ} {w1:Κ} {l H:Nat->Bool} {a:õ} {w:Κ} (D:RegI ops F a0 w1 l a w) (h:∀ j,j<ops.size->l j=H j):RegI ops F a0 w1 H a w where
 ext:=D.ext
 defers:=D.defers
 size:=D.size
 done:=λi o E G=>D.done i o E (by rw[h i (ϒ.1 E).1];exact G)
 rest:=λd hd=>D.rest d λi o E G=>hd i o E (by rw[<-h i (ϒ.1 E).1];exact G)
theorem Ry {ops:Array ϸ} {i j:Nat} {o:ϸ} (D:ops[i]? = Δ o) (h:ó .any ops i j=Ξ):∃ e∈o.after,Region.binds .any e=Ξ/\e.on=j:=by
 obtain⟨oi,E,e,he,G,H⟩:=Region.waitsFor_spec h;obtain rfl:oi=o:=ω (E.symm.trans D);exact⟨e,he,G,H⟩
theorem Adz {ops:Array ϸ} {Q:Exit->õ->Κ->Prop} {F:Nat->Ρ->Κ->Prop} (M:∀ i v w w',F i v w->Ext w w'->F i v w') {a0:õ} {w1:Κ} {sz:Nat} (T:a0.tmps.size=sz) (hd:E0 ops sz=Ξ) {listed:Array Bool} (aa:listed.size=ops.size) {a:õ} {w:Κ} (E:RegI ops F a0 w1 (λj=>listed.getD j Τ) a w)
  {i:Nat} (hi:i∈Ê .any ops listed) (H:ROp P ops Q F a0 w1 i):wpOp P ops Q i (λG w'=>RegI ops F a0 w1 (λj=>(listed.setIfInBounds i Ξ).getD j Τ) G w') a w:=by
 obtain⟨aj,o,D,ab⟩:=mem_ready.1 hi;have ad:=(ϒ.1 D).1;have U:∀ {G w'},RegI ops F a0 w1 (λj=>decide (j=i)||listed.getD j Τ) G w'->RegI ops F a0 w1 (λj=>(listed.setIfInBounds i Ξ).getD j Τ) G w':=λh=>h.congr λj hj=>by
  by_cases e:i=j
  ·subst e;simp[aa▸ad]
  ·rw[getD_set_ne Τ e];simp[Ne.symm e]
 have:=H o D a w E.ext (λj oj J I=>by
  obtain⟨e,he,hb,af⟩:=Ry D I;exact E.done j oj J (by rw[<-af];exact ab e he hb)) (λe he=>E.rest e λj oj J _=>he j oj J)
 unfold wpOp;rw[D];rcases this with⟨I,ag⟩|⟨I,hv⟩
 ·simp only[I,if_true];refine .inl (ϸ.wp_mono (λG w' h=>?_) ag);obtain⟨v,ah,rfl,hE,hv⟩:=h;exact U (L1 M T hd E D ah hE hv)
 ·simp only[I];exact U (L1 M T hd E D (λ_=>rfl) (Ι w) hv)
theorem Th {ops:Array ϸ} {Q:Exit->õ->Κ->Prop} {F:Nat->Ρ->Κ->Prop} (I:∀ i v w w',F i v w->Ext w w'->F i v w') {a0:õ} {w1:Κ} {sz:Nat} (J:a0.tmps.size=sz) (hd:E0 ops sz=Ξ) (M:E8 ops ops.size=Ξ)
  (T:∀ i,i<ops.size->ROp P ops Q F a0 w1 i) (U:∀ a w,RegI ops F a0 w1 (λ_=>Ξ) a w->Q .normal a w) :
  ∀ (f:Nat) (listed:Array Bool) (a:õ) (w:Κ),listed.size=ops.size->RegI ops F a0 w1 (λj=>listed.getD j Τ) a w->unl ops.size listed=f->wpAny P .any ops Q f listed a w
 | 0,listed,a,w,hs,G,hu=>by
  have aa:=Hv _ listed hu;refine⟨?_,U a w (G.congr λj hj=>aa j hj)⟩;refine List.eq_nil_iff_forall_not_mem.2 λi hi=>?_
  obtain⟨D,o,H,_⟩:=mem_ready.1 hi;have ag:=(ϒ.1 H).1;have:=aa i ag;have E:i<listed.size:=by omega
  rw[ϣ,Ϡ E] at D this;rw[à] at D this;rw[this] at D;cases D
 | f+1,listed,a,w,hs,G,hu=>by
  obtain⟨k,hk,ai,aj⟩:=Ka ops.size listed (by omega);have ab:=Mi M hs (θ _) k hk aj ai;refine⟨λh0=>(by rw[h0] at ab;cases ab),λi hi=>?_⟩;obtain⟨ad,o,H,_⟩:=mem_ready.1 hi;have ae:=(ϒ.1 H).1;have E:i<listed.size:=by omega
  have al:listed.getD i Τ=Τ:=by
   rw[ϣ,Ϡ E] at ad ⊢;exact ad
  refine wpOp_mono (λa' w' h=>Th I J hd M T U f _ a' w' (by rw[Array.size_setIfInBounds];exact hs) h ?_) (Adz I J hd hs G hi (T i ae));have:=Jp _ listed i ae E al;show unl ops.size (listed.setIfInBounds i Ξ)=f;omega
theorem Tg {ops:Array ϸ} {Q:Exit->õ->Κ->Prop} {F:Nat->Ρ->Κ->Prop} (I:∀ i v w w',F i v w->Ext w w'->F i v w') {a0:õ} {w1:Κ} {sz:Nat} (J:a0.tmps.size=sz) (hd:E0 ops sz=Ξ) (hE:E8 ops ops.size=Ξ)
  (ad:∀ i,i<ops.size->ROp P ops Q F a0 w1 i) (ae:∀ a w,RegI ops F a0 w1 (λ_=>Ξ) a w->Q .normal a w) :
  ∀ (l:List ϸ) (k:Nat) (a:õ) (w:Κ),(∀ j,l[j]? = ops[k+j]?)->RegI ops F a0 w1 (λj=>decide (j<k)) a w->wpList P ops Q l a w
 | [],k,a,w,H,D=>ae a w (D.congr λj hj=>by
   have:ops[k]? = Γ:=by simpa using (H 0).symm
   have:=Array.getElem?_eq_none_iff.1 this;simp;omega)
 | o::l,k,a,w,H,D=>by
  have E:ops[k]? = Δ o:=by simpa using (H 0).symm
  have hk:=(ϒ.1 E).1;have ag:∀ {M w'},RegI ops F a0 w1 (λj=>decide (j=k)||decide (j<k)) M w'->wpList P ops Q l M w':=λh=>Tg I J hd hE ad ae l (k+1) _ _ (λj=>by have:=H (j+1);simpa [Nat.add_assoc,Nat.add_comm 1 j] using this) (h.congr λj _=>by rw[Bool.eq_iff_iff];simp only[Æ,decide_eq_true_eq];omega)
  have:=ad k hk o E a w D.ext (λj oj T G=>D.done j oj T (by
   obtain⟨e,he,hb,ao⟩:=Ry E G;have U:=hE;unfold E8 at U;rw[Ù] at U;have h3:=U k (υ.2 hk);rw[E] at h3;simp only[Array.all_eq_true'] at h3;have h4:=h3 e he;simp only[hb,Bool.not_true,Bool.false_or,decide_eq_true_eq] at h4;simp;omega)) (λe he=>D.rest e λj oj T _=>he j oj T)
  show if _ then _ else _
  rcases this with⟨G,aj⟩|⟨G,hv⟩
  ·rw[if_pos G];refine .inl (ϸ.wp_mono (λM w' h=>?_) aj);obtain⟨v,ak,rfl,al,hv⟩:=h;exact ag (L1 I J hd D E ak al hv)
  ·rw[if_neg (by rw[G];exact Bool.false_ne_true)];exact ag (L1 I J hd D E (λ_=>rfl) (Ι w) hv)
theorem Pa {α:Type} {l:List α} {i:Nat} {x:α} (h:l.toArray[i]? = Δ x):l[i]? = Δ x:=by simpa using h
theorem Q5 {l:List ϸ} {E:Nat->AV} {W:Κ}:∀ (os:List ϸ) (D:List (Sc P w)) (i:Nat) (o:ϸ),Jj l E W os D=Ji l E W os D->os.length=D.length->os[i]? = Δ o->∃ s,D[i]? = Δ s/\scL l E o W s=scR l E o W s
 | [],_,i,o,_,_,h=>by simp at h
 | o'::os,[],i,o,_,G,_=>by simp at G
 | o'::os,s::D,0,o,h,_,H=>by
  obtain rfl:o'=o:=by simpa using H
  exact⟨s,by simp,(List.cons.inj h).1⟩
 | o'::os,s::D,i+1,o,h,G,H=>by
  obtain⟨s',I,J⟩:=Q5 os D i o (List.cons.inj h).2 (by simpa using G) (by simpa using H);exact⟨s',by simpa using I,J⟩
theorem Lf:∀ {xs D:List AV},xs.map XX.av=D.map XX.av->xs=D
 | [],[],_=>rfl
 | [],_::_,h=>by cases h
 | _::_,[],h=>by cases h
 | x::xs,y::D,h=>by
  simp only[List.map_cons,List.cons.injEq,XX.av.injEq] at h;rw[h.1,Lf h.2]
theorem Pw {W:Κ} {E:Nat->AV} {ρ:ϻ->Ρ}:∀ (xs:List ϻ),(∀ x∈xs,(oev E x).holds W (ρ x))->Ey W (xs.map (oev E)) (xs.map ρ)
 | [],_=>trivial
 | x::xs,h=>⟨h x List.mem_cons_self,Pw xs λy D=>h y (List.mem_cons_of_mem _ D)⟩
theorem Add {l:List ϸ} {Q:Exit->õ->Κ->Prop} {E:Nat->AV} {a0:õ} {sz:Nat} (hB:scB l sz=Ξ) {i:Nat} {o:ϸ} (ho:l[i]? = Δ o) {s:Sc P w}
  (hs:∀ W,scL l E o W s=scR l E o W s) (h0:∀ e,(∀ (j:Nat) (oj:ϸ),l[j]? = Δ oj->oj.dst≠Δ e)->E e=.c (a0.tmps.getD e ς)) :
  ROp P l.toArray Q (λi v W=>match l[i]? with|some o=>(E (o.dst.getD 0)).holds W v|none=>True) a0 w i:=by
 intro o' bg a W hE bh bj;obtain rfl:o=o':=ω (ho.symm.trans (Pa bg));simp only[scB,ϝ,Ù,υ] at hB;have bk:i<l.length:=(ό.1 ho).1;have D:=hB.2 i bk;rw[ho] at D;simp only[Oy,ϝ] at D;obtain⟨⟨⟨a6,bl⟩,bm⟩,H⟩:=D;have bn:∀ cs b,o.op≠.select cs b:=λcs b e=>by rw[e] at a6;cases a6
 obtain⟨d,hd⟩:=Option.isSome_iff_exists.1 bl;have au:∀ (j:Nat) (oj:ϸ) (dj:Nat),l[j]? = Δ oj->oj.dst=Δ dj->ó .any l.toArray i j=Ξ->(E dj).holds W (a.tmps.getD dj ς):=λj oj dj M ah hw=>by
  have:=bh j oj (by simpa using M) hw;simp only[M] at this;unfold Cz at this;rw[ah] at this;exact this
 have hx:∀ x∈o.op.operands,(oev E x).holds W (a.eval x):=λx hx=>by
  have I:=(Ù.1 bm) x (by simpa using hx);cases x with
  | const v=>rfl
  | global g=>rfl
  | func f=>rfl
  | tmp t=>
   simp only[S3,Ù,υ] at I;by_cases a7:∃ (j:Nat) (oj:ϸ),l[j]? = Δ oj/\oj.dst=Δ t
   ·obtain⟨j,oj,M,ah⟩:=a7;have:=I j (ό.1 M).1;rw[M] at this;simp only[ah,if_true] at this;exact au j oj t M ah this
   ·have a8:∀ (j:Nat) (oj:ϸ),l[j]? = Δ oj->oj.dst≠Δ t:=λj oj M ah=>a7 ⟨j,oj,M,ah⟩
    show (E t).holds W (a.tmps.getD t ς);rw[h0 t a8,bj t λj oj M=>a8 j oj (Pa M)];rfl
 have ba:=hs W;have bq:E d=Id P w E o s:=by
  have:=(List.cons.inj ba).1;rw[hd] at this;exact XX.av.inj this
 have hF:∀ v W',(match l[i]? with|some o=>(E (o.dst.getD 0)).holds W' v|none=>True)=(Id P w E o s).holds W' v:=λv W'=>by
  rw[ho];show (E (o.dst.getD 0)).holds W' v=_;rw[hd];show (E d).holds W' v=_;rw[bq]
 have br:=(List.cons.inj ba).2;have bt:∀ (k:Nat) (b x:Bool),o.guard=Δ (k,b)->E (I9 l k)=.c (.bool x)->yielded l.toArray a.tmps k=Δ x:=λk b x hg he=>by
  rw[hg] at H;simp only[ϝ] at H;cases J:l[k]? with
  | none=>rw[J] at H;exact absurd H.1 (by simp)
  | some ok=>
   rw[J] at H;obtain⟨T,ae⟩:=Option.isSome_iff_exists.1 H.1;have h1:=au k ok T J ae H.2;have h2:I9 l k=T:=by simp[I9,J,ae]
   rw[h2] at he;rw[he] at h1;have U:a.tmps.getD T ς=.bool x:=h1;have h4:a.tmps[T]? = Δ (.bool x):=by
    rw[ϣ] at U;cases hh:a.tmps[T]? with
    | none=>rw[hh] at U;cases U
    | some u=>rw[hh] at U;exact congrArg Δ U
   unfold yielded;have h5:l.toArray[k]? = Δ ok:=by simpa using J
   rw[h5];simp only[Option.bind_some,ae,h4]
 have ai:∀ b,(∀ k b',o.guard=Δ (k,b')->yielded l.toArray a.tmps k=Δ (if b then b' else !b'))->(b=Τ->o.guard≠Γ)->Ì o (yielded l.toArray a.tmps)=b:=λb h1 h2=>by
  unfold Ì;cases hg:o.guard with
  | none=>cases b with
   | false=>exact absurd hg (h2 rfl)
   | true=>rfl
  | some p=>
   obtain⟨k,b'⟩:=p;simp only[h1 k b' hg];cases b<;>cases b'<;>rfl
 obtain⟨hG,G⟩:=List.append_inj br (by cases o.guard<;>rfl);have aj:∀ b':Bool,(match s with|.skip=>Δ Τ|.skipu=>Γ|_=>Δ Ξ)=Δ b'->∀ k b,o.guard=Δ (k,b)->yielded l.toArray a.tmps k=Δ (if b' then b else !b):=λb' bb k b hg=>by
  rw[hg] at hG;simp only[List.cons.injEq,XX.av.injEq,and_true] at hG;refine bt k b _ hg (hG.trans ?_);cases s<;>first|(cases bb;rfl)|(cases bb)
 have ak:∀ v:Ρ,o.dst=Γ->v=ς:=λv h=>by rw[hd] at h;cases h
 have hρ:(∀ x∈o.op.operands,oev E x=.c (oev E x).val)->Ú a.eval o=Ú (λx=>(oev E x).val) o:=λh=>execOp_congr o bn λx I=>by
  have:=hx x I;rw[h x I] at this;exact this
 cases s with
 | skip=>
  refine .inr ⟨ai Τ (aj Τ rfl) (λ_ hg=>?_),?_⟩
  ·rw[hg] at G;exact absurd G (by simp)
  ·simp only[hF];rfl
 | skipu=>
  cases hg:o.guard with
  | none=>rw[hg] at G;exact absurd G (by simp)
  | some p=>
   obtain⟨k,b⟩:=p;rw[hg] at hG H;simp only[List.cons.injEq,XX.av.injEq,and_true] at hG;simp only[ϝ] at H;have hy:yielded l.toArray a.tmps k=Γ:=by
    cases J:l[k]? with
    | none=>rw[J] at H;exact absurd H.1 (by simp)
    | some ok=>
     rw[J] at H;obtain⟨T,ae⟩:=Option.isSome_iff_exists.1 H.1;have h1:=au k ok T J ae H.2;have h2:I9 l k=T:=by simp[I9,J,ae]
     rw[h2] at hG;rw[hG] at h1;have U:a.tmps.getD T ς=ς:=h1;unfold yielded;have h5:l.toArray[k]? = Δ ok:=by simpa using J
     rw[h5];simp only[Option.bind_some,ae];rw[ϣ] at U;cases hh:a.tmps[T]? with
     | none=>rfl
     | some u=>
      rw[hh] at U;have h4:u=ς:=U;rw[h4];rfl
   refine .inr ⟨?_,?_⟩
   ·unfold Ì;simp only[hg,hy];rfl
   ·simp only[hF];rfl
 | pure=>
  refine .inl ⟨ai Ξ (aj Ξ rfl) (λh=>by cases h),?_⟩;obtain⟨hr,ay⟩:=List.cons.inj G;have hr:=XX.res.inj hr;have bx:∀ x∈o.op.operands,oev E x=.c (oev E x).val:=λx I=>by
   have e:(o.op.operands.toList.map (oev E)).map XX.av=(o.op.operands.toList.map λx=>AV.c (oev E x).val).map XX.av:=by
    rw[List.map_map,List.map_map];exact ay
   exact List.map_inj_left.1 (Lf e) x (by simpa using I)
  refine C4 (v:=pv P w E o) (w':=W) (by rw[hρ bx];exact hr) ?_;exact⟨_,ak _,rfl,Ι W,by simp only[hF];rfl⟩
 | keep=>
  refine .inl ⟨ai Ξ (aj Ξ rfl) (λh=>by cases h),?_⟩;cases D:o.op with
  | move x=>
   refine C4 (v:=a.eval x) (w':=W) (BigFrame.run_move x D W) ⟨_,ak _,rfl,Ι W,?_⟩;simp only[hF,Id,moved,D];exact hx x (by rw[D];simp[Op.operands])
  | assign x=>
   refine C4 (v:=a.eval x) (w':=W) (BigFrame.run_assign x D W) ⟨_,ak _,rfl,Ι W,?_⟩;simp only[hF,Id,moved,D];exact hx x (by rw[D];simp[Op.operands])
  | _=>simp[D] at G
 | load ty g cs t fr dd hg hu b0 hi=>
  refine .inl ⟨ai Ξ (aj Ξ rfl) (λh=>by cases h),?_⟩;have G:(match o.op with|.load t x=>[XX.ty t,XX.av (oev E x)]|_=>[XX.no])=[XX.ty ty,XX.av (.c (γ (Δ ⟨g,0,Γ⟩)))]:=G;cases D:o.op with
  | load t' x=>
   simp only[D,List.cons.injEq,XX.ty.injEq,XX.av.injEq,and_true] at G;obtain⟨rfl,az⟩:=G;have bc:=hx x (by rw[D];simp[Op.operands]);rw[az] at bc;refine C4 (v:=.agg cs) (w':=W) (Akl t' x D g bc t cs fr dd (hg W hE) hu b0 hi) ⟨_,ak _,rfl,Ι W,?_⟩;simp only[hF];rfl
  | _=>simp[D] at G
 | call f he args res hm h=>
  refine .inl ⟨ai Ξ (aj Ξ rfl) (λh=>by cases h),?_⟩;have G:(match o.op with|.call c=>(match c.callee with|.value (.func f)=>XX.fn f::c.args.toList.map λx=>XX.av (oev E x)|_=>[XX.no])|_=>[XX.no])=XX.fn f::args.map XX.av:=G;cases D:o.op with
  | call c=>
   simp only[D] at G;cases hc:c.callee with
   | value fx=>
    cases fx with
    | func f'=>
     simp only[hc,List.cons.injEq,XX.fn.injEq] at G;obtain⟨rfl,az⟩:=G;have e:(c.args.toList.map (oev E)).map XX.av=args.map XX.av:=by rw[List.map_map];exact az
     have b6:=Lf e;have hh:Ey W args (c.args.toList.map a.eval):=by
      rw[<-b6];exact Pw _ λx I=>hx x (by rw[D];simp[Op.operands,Call.operands,hc];exact .inr (by simpa using I))
     have hC:=h W _ hE hh;have b8:(Ú a.eval o).run P W=.ok (.enter f' (c.args.toList.map a.eval).toArray) W:=by
      have e1:Ú a.eval o=callFunc f' (c.args.toList.map a.eval).toArray:=by
       obtain⟨cj,op,ck,pos,cl,guard⟩:=o;simp only at D;subst D;obtain⟨cm,cn,cp⟩:=c;simp only at hc;subst hc;rw[execOp_call_go]
       congr 1
       apply Array.toList_inj.1;simp
      rw[e1];exact he _ W
     unfold ϸ.wp;rw[b8,ϸ.upon_enter];refine hC.mono λe W' ⟨v,ca,hv,cb⟩=>?_
     subst ca;exact⟨v,ak _,rfl,cb,by simp only[hF];exact hv⟩
    | _=>simp[hc] at G
   | _=>simp[hc] at G
  | _=>simp[D] at G
 | gen op args res hm h=>
  refine .inl ⟨ai Ξ (aj Ξ rfl) (λh=>by cases h),?_⟩;obtain⟨D,ay⟩:=List.cons.inj G;have D:=XX.op.inj D;have e:(o.op.operands.toList.map (oev E)).map XX.av=args.map XX.av:=by rw[List.map_map];exact ay
  have hh:Ey W args (op.operands.toList.map a.eval):=by
   rw[<-Lf e,<-D];exact Pw _ λx I=>hx x (by simpa using I)
  obtain⟨v,hr,hv⟩:=h a.eval o W D hE hh;exact C4 hr ⟨v,ak _,rfl,Ι W,by simp only[hF];exact hv⟩
theorem Td:∀ (l:List ϸ) (D:List (Sc P w)) (E:Nat->AV),(∀ e,(E e).Mono)->∀ e,(scE P w l D E e).Mono
 | [],_,E,h,e=>by unfold scE;exact h e
 | _::_,[],E,h,e=>by unfold scE;exact h e
 | o::l,s::D,E,h,e=>by
  have H:∀ x,(oev E x).Mono:=λx=>by
   cases x with
   | tmp t=>exact h t
   | _=>exact AV.mono_c _
  unfold scE;refine Td l D _ (λG=>?_) e;cases o.dst with
  | none=>exact h G
  | some d=>
   show (upd E d _ G).Mono;unfold upd;split
   ·cases s with
    | keep=>
     show (moved E o.op).Mono;unfold moved;split
     ·exact H _
     ·exact H _
     ·exact AV.mono_c _
    | call f he args res hm I=>exact hm
    | gen op args res hm I=>exact hm
    | _=>exact AV.mono_c _
   ·exact h G
theorem N3:∀ (l:List ϸ) (D:List (Sc P w)) (E:Nat->AV) (e:Nat),(∀ (j:Nat) (oj:ϸ),l[j]? = Δ oj->oj.dst≠Δ e)->scE P w l D E e=E e
 | [],_,E,e,_=>by unfold scE;rfl
 | _::_,[],E,e,_=>by unfold scE;rfl
 | o::l,s::D,E,e,h=>by
  unfold scE;rw[N3 l D _ e λj oj G=>h (j+1) oj (by simpa using G)];cases hd:o.dst with
  | none=>rfl
  | some d=>
   show upd E d _ e=E e;unfold upd;rw[if_neg λhe=>h 0 o rfl (by rw[hd,he])]
def ev0 (a:õ):Nat->AV:=λn=>.c (a.tmps.getD n ς)
theorem Rf {id:Nat} {l:List ϸ} {Q:Exit->õ->Κ->Prop} {a0:õ} (sz:Nat) (U:Bool) (D:List (Sc P w)) (hm:U=Ξ->P.follows .mixedOrders=Ξ) (hB:scB l sz=Ξ) (aa:a0.tmps.size=sz) (H:l.length=D.length)
  (hs:∀ W,Jj l (scE P w l D (ev0 a0)) W l D=Ji l (scE P w l D (ev0 a0)) W l D)
  (ah:∀ T W,Ext w W->T.defers=a0.defers->T.tmps.size=sz->(∀ e,(scE P w l D (ev0 a0) e).holds W (T.tmps.getD e ς))->Q .normal T W):(Code.region id l.toArray U).wp P Q a0 w:=by
 have J:Ih l.toArray sz=Ξ:=by
  have:=hB;simp only[scB,ϝ] at this;exact this.1
 simp only[Ih,ϝ] at J;obtain⟨E,hE⟩:∃ E,scE P w l D (ev0 a0)=E:=⟨_,rfl⟩;have au:∀ e,(E e).Mono:=λe=>by rw[<-hE];exact Td l D _ (λe=>AV.mono_c _) e
 have h0:∀ e,(∀ (j:Nat) (oj:ϸ),l[j]? = Δ oj->oj.dst≠Δ e)->E e=.c (a0.tmps.getD e ς):=λe he=>by rw[<-hE];exact N3 l D _ e he
 rw[hE] at hs ah;have hF:∀ (i:Nat) v W W',(match l[i]? with|some o=>(E (o.dst.getD 0)).holds W v|none=>True)->Ext W W'->(match l[i]? with|some o=>(E (o.dst.getD 0)).holds W' v|none=>True):=λi v W W' h hx=>by
  cases H:l[i]? with
  | none=>trivial
  | some o=>rw[H] at h;exact au _ W W' v h hx
 have ak:∀ i,i<l.toArray.size->ROp P l.toArray Q (λi v W=>match l[i]? with|some o=>(E (o.dst.getD 0)).holds W v|none=>True) a0 w i:=λi hi=>by
  have M:l[i]? = Δ (l[i]'(by simpa using hi)):=Μ _;have:∃ s,D[i]? = Δ s/\∀ W,scL l E (l[i]'(by simpa using hi)) W s=scR l E (l[i]'(by simpa using hi)) W s:=by
   obtain⟨s,h1,_⟩:=Q5 l D i _ (hs w) H M;refine⟨s,h1,λW=>?_⟩;obtain⟨s',an,h2⟩:=Q5 l D i _ (hs W) H M;rw[h1] at an;rw[ω an];exact h2
  obtain⟨s,_,h2⟩:=this;exact Add hB M h2 h0
 have ao:∀ a W,RegI l.toArray (λi v W=>match l[i]? with|some o=>(E (o.dst.getD 0)).holds W v|none=>True) a0 w (λ_=>Ξ) a W->Q .normal a W:=λa W G=>by
  refine ah a W G.ext G.defers (G.size.trans aa) λe=>?_
  by_cases aq:∃ (j:Nat) (oj:ϸ),l[j]? = Δ oj/\oj.dst=Δ e
  ·obtain⟨j,oj,I,af⟩:=aq;have:=G.done j oj (by simpa using I) rfl;rw[I] at this;simp only[af,Cz] at this;exact this
  ·have ar:∀ (j:Nat) (oj:ϸ),l[j]? = Δ oj->oj.dst≠Δ e:=λj oj I af=>aq ⟨j,oj,I,af⟩
   rw[h0 e ar,G.rest e λj oj I _=>ar j oj (Pa I)];rfl
 cases U with
 | false=>exact wp_region_lit (Tg hF aa J.1 J.2 ak ao l 0 a0 w (λj=>by simp) ⟨Ι w,rfl,rfl,λi o _ h=>by simp at h,λd _=>rfl⟩)
 | true=>
  have aw:∀ i,i<l.toArray.size->ROp P l.toArray Q (λi v W=>match l[i]? with|some o=>(E (o.dst.getD 0)).holds W v|none=>True) a0 w.drew i:=λi hi o M a W hx=>ak i hi o M a W ((Ι w).drew.trans hx)
  refine wp_region_any (hm rfl) (Th hF aa J.1 J.2 aw (λa W G=>ao a W ⟨(Ι w).drew.trans G.ext,G.defers,G.size,G.done,G.rest⟩) _ _ a0 w.drew (by simp) ⟨Ι _,rfl,rfl,λi o _ H=>(by rw[ϭ] at H;cases H),λd _=>rfl⟩ ?_);have hu:∀ m,unl m (Array.replicate l.toArray.size Τ)=m:=λm=>by
   induction m with
   | zero=>rfl
   | succ m ih=>rw[Fh,ih,ϭ];simp
  exact hu _
theorem Z3 {id:Nat} {l:List ϸ} {Q:Exit->õ->Κ->Prop} {a0:õ} (sz:Nat) (G:Bool) (t:Nat) (v:Ρ) (D:List (Sc P w)) (hm:G=Ξ->P.follows .mixedOrders=Ξ) (H:scB l sz=Ξ) (I:a0.tmps.size=sz) (J:l.length=D.length)
  (hs:∀ W,Jj l (scE P w l D (ev0 a0)) W l D=Ji l (scE P w l D (ev0 a0)) W l D) (hv:scE P w l D (ev0 a0) t=.c v)
  (M:∀ E W,Ext w W->E.defers=a0.defers->E.tmps.getD t ς=v->Q .normal E W):(Code.region id l.toArray G).wp P Q a0 w:=
 Rf sz G D hm H I J hs λE W T U _ h4=>M E W T U (by
  have:=h4 t;rw[hv] at this;exact this)
def Bz:List ϸ->List Ρ->õ->õ
 | o::l,v::vs,a=>Bz l vs (a.put o.dst v)
 | _,_,a=>a
theorem Og:∀ (l:List ϸ) (vs:List Ρ) (a:õ),(Bz l vs a).tmps.size=a.tmps.size/\(Bz l vs a).defers=a.defers
 | [],_,a=>by unfold Bz;exact⟨rfl,rfl⟩
 | _::_,[],a=>by unfold Bz;exact⟨rfl,rfl⟩
 | o::l,v::vs,a=>by
  unfold Bz;rw[(Og l vs _).1,(Og l vs _).2];exact Ig a o.dst v
theorem T5 (e:Nat):∀ (l:List ϸ) (vs:List Ρ) (a:õ),(∀ o∈l,∃ d,o.dst=Δ d/\d<a.tmps.size)->l.length=vs.length->
  (Bz l vs a).tmps.getD e ς=a.tmps.getD e ς/\(∀ o∈l,o.dst≠Δ e)\/∃ (i:Nat) (o:ϸ) (v:Ρ),l[i]? = Δ o/\vs[i]? = Δ v/\o.dst=Δ e/\(Bz l vs a).tmps.getD e ς=v
 | [],_,a,_,_=>by unfold Bz;exact .inl ⟨rfl,λo h=>by simp at h⟩
 | _::_,[],a,_,h=>by simp at h
 | o::l,v::vs,a,h,J=>by
  obtain⟨d,hd,I⟩:=h o List.mem_cons_self;have M:=T5 e l vs (a.put o.dst v) (λD E=>by rw[(Ig a o.dst v).1];exact h D (List.mem_cons_of_mem _ E)) (by simpa using J);unfold Bz;rcases M with⟨G,H⟩|⟨i,D,v',G,H,T,U⟩
  ·by_cases he:e=d
   ·subst he;refine .inr ⟨0,o,v,rfl,rfl,hd,?_⟩;rw[G,hd,Ev _ _ _ _ I,if_pos rfl]
   ·refine .inl ⟨?_,λD E=>?_⟩
    ·rw[G,hd,Ev _ _ _ _ I,if_neg he]
    ·rcases List.mem_cons.1 E with rfl|E
     ·rw[hd];exact λh=>he (ω h).symm
     ·exact H D E
  ·exact .inr ⟨i+1,D,v',by simpa using G,by simpa using H,T,U⟩
theorem Zz {id:Nat} {l:List ϸ} {Q:Exit->õ->Κ->Prop} {a0:õ} (sz:Nat) (G:Bool) (H:List AV) (D:List (Sc P w)) (hm:G=Ξ->P.follows .mixedOrders=Ξ) (hB:scB l sz=Ξ) (I:a0.tmps.size=sz) (hl:l.length=D.length)
  (hs:∀ W,Jj l (scE P w l D (ev0 a0)) W l D=Ji l (scE P w l D (ev0 a0)) W l D) (hv:(l.map λo=>scE P w l D (ev0 a0) (o.dst.getD 0))=H)
  (ah:∀ W vs,Ext w W->Ey W H vs->Q .normal (Bz l vs a0) W):(Code.region id l.toArray G).wp P Q a0 w:=by
 refine Rf sz G D hm hB I hl hs λE W h1 h2 h3 h4=>?_
 obtain⟨vs,J⟩:∃ vs,(l.map λo=>E.tmps.getD (o.dst.getD 0) ς)=vs:=⟨_,rfl⟩;have al:l.length=vs.length:=by simpa using congrArg List.length J
 have hh:Ey W H vs:=by
  rw[<-hv,<-J];have:∀ k:List ϸ,Ey W (k.map λo=>scE P w l D (ev0 a0) (o.dst.getD 0)) (k.map λo=>E.tmps.getD (o.dst.getD 0) ς):=λk=>by
   induction k with
   | nil=>trivial
   | cons o k ih=>exact⟨h4 _,ih⟩
  exact this l
 have M:=hB;simp only[scB,Ih,ϝ,Ù,υ] at M;have aq:∀ o∈l,∃ d,o.dst=Δ d/\d<a0.tmps.size:=λo ho=>by
  obtain⟨i,hi,rfl⟩:=List.getElem_of_mem ho;have T:=M.2 i hi;rw[Μ hi] at T;simp only[Oy,ϝ] at T;obtain⟨d,hd⟩:=Option.isSome_iff_exists.1 T.1.1.2;refine⟨d,hd,?_⟩;rw[I];exact (Hi M.1.1 i l[i] (by simp) d hd).1
 have he:E=Bz l vs a0:=by
  obtain⟨s1,s2⟩:=Og l vs a0;have ht:E.tmps=(Bz l vs a0).tmps:=by
   apply Array.ext
   ·rw[s1,h3,I]
   ·intro e g1 g2;have hg:E.tmps.getD e ς=(Bz l vs a0).tmps.getD e ς:=by
     rcases T5 e l vs a0 aq al with⟨k1,U⟩|⟨i,o,v,k1,U,k3,k4⟩
     ·have:=h4 e;rw[N3 l D _ e (λj oj hj=>U oj (List.mem_of_getElem? hj))] at this;rw[k1];exact this
     ·have af:=congrArg (λx=>x[i]?) J;simp only[List.getElem?_map,k1,U,Option.map_some,k3,à] at af;rw[k4];exact ω af
    rw[ϣ,ϣ,Ϡ g1,Ϡ g2] at hg;exact hg
  have aa:=h2;rw[<-s2] at aa;generalize Bz l vs a0=b at *;cases E;cases b
  simp only at ht aa;rw[ht,aa]
 rw[he];exact ah W vs h1 hh
theorem Dv {id:Nat} {l:List ϸ} {Q:Exit->õ->Κ->Prop} {a0:õ} (sz:Nat) (E:Bool) (vs:List Ρ) (D:List (Sc P w)) (hm:E=Ξ->P.follows .mixedOrders=Ξ) (G:scB l sz=Ξ) (H:a0.tmps.size=sz) (I:l.length=D.length)
  (hs:∀ W,Jj l (scE P w l D (ev0 a0)) W l D=Ji l (scE P w l D (ev0 a0)) W l D) (hv:(l.map λo=>scE P w l D (ev0 a0) (o.dst.getD 0))=vs.map AV.c)
  (J:∀ W,Ext w W->Q .normal (Bz l vs a0) W):(Code.region id l.toArray E).wp P Q a0 w:=
 Zz sz E _ D hm G H I hs hv λW U M T=>by
  rw[Kf T];exact J W M
end
open Go.RowKit Go.Shelf Go.WideMaps
open Go.Maps (Keyed)
structure Sta where
 p:Nat
 q:Nat
 s:Nat
deriving DecidableEq
def stL (x:Sta):List Ρ:=[iv x.p,iv x.q,.int π (x.s:Int)]
def stA (x:Sta):Array Ρ:=#[iv x.p,iv x.q,.int π (x.s:Int)]
def stV (x:Sta):Ρ:=.agg (stA x)
theorem Su (x y:Sta) (h:stV x=stV y):x=y:=by
 cases x;cases y
 simp[stV,stA] at h;simp;omega
def Sta.ok (x:Sta):Prop:=x.p<9223372036854775808/\x.q<9223372036854775808/\x.s<18446744073709551616
theorem Aah (i:Nat) (hi:i<18446744073709551616):(Lit.int π (i:Int)).wf=Ξ:=by
 have D:ϴ.min=0:=rfl;have E:ϴ.max=18446744073709551615:=rfl;simp[Lit.wf,IntKind.wrap,IntKind.signed,IntKind.bits,D,E];omega
theorem Mk:Keyed Η 116:=Keyed.of_law (deep_law_laid Pn (m:=3) (by omega) (of_decide_eq_true (by kernel_rfl)) (by kernel_rfl) (by rw[Ë]))
theorem S5:∃ m,Η.types.size=m+3:=⟨Η.types.size-3,by have:3<=Η.types.size:=of_decide_eq_true (by kernel_rfl);omega⟩
theorem Aii:Η.keyType 116=Ξ:=by kernel_rfl
theorem Xv:Η.cellsOf 116=3:=by kernel_rfl
theorem Xw:Η.cellsOf 114=1:=by kernel_rfl
theorem co3:Η.cellsOf 3=1:=by kernel_rfl
theorem Ak8:Η.cellsOf 60=1:=by kernel_rfl
theorem kl3 (d i:Nat) (h:i<9223372036854775808):Η.keyLits (d+1) 3 [iv i]=Δ [.int ζ i]:=by
 unfold é.keyLits;simp only[Tryz.underlying3];rw[if_pos ⟨trivial,Jo _ h⟩]
theorem Aij (d i:Nat) (h:i<18446744073709551616):Η.keyLits (d+1) 60 [.int π (i:Int)]=Δ [.int π i]:=by
 unfold é.keyLits;simp only[Tryz.underlying60];rw[if_pos ⟨trivial,Aah _ h⟩]
theorem Aik (d i:Nat) (h:i<18446744073709551616):Η.keyLits (d+2) 114 [.int π (i:Int)]=Δ [.int π i]:=by
 show é.keyLits Η ((d+1)+1) 114 _=_;unfold é.keyLits;simp only[Tryz.underlying114];rw[if_pos (by rw[Xw];rfl),show ι 1=[0] from rfl,List.mapM_cons,List.mapM_nil,Ak8];simp only[Nat.zero_mul,List.drop_zero,List.take_succ_cons,List.take_zero];rw[Aij _ _ h];rfl
theorem St (x:Sta) (h:x.ok):∃ l,keyOf Η 116 (stV x)=Δ l:=by
 obtain⟨D,E,G⟩:=h;obtain⟨m,hm⟩:=S5;refine⟨.string (keyBytes [.int ζ x.p,.int ζ x.q,.int π x.s]),?_⟩;unfold keyOf;simp only[Ë];rw[if_pos (by simp[Aii,Ρ.formed,stV,stA,Ë,Xv]),hm];have e:(stV x).cells.toList=[iv x.p,iv x.q,.int π (x.s:Int)]:=rfl;rw[e];have:Η.keyLits (m+3+1) 116 [iv x.p,iv x.q,.int π (x.s:Int)]=Δ [.int ζ x.p,.int ζ x.q,.int π x.s]:=by
  show é.keyLits Η ((m+3)+1) 116 _=_;unfold é.keyLits;simp only[Ë];rw[if_pos (by rw[Xv];exact⟨rfl,by kernel_rfl⟩)];rw[List.mapM_cons,List.mapM_cons,List.mapM_cons,List.mapM_nil];simp only[co3,Xw,List.drop_zero,List.drop_succ_cons,List.take_succ_cons,List.take_zero];rw[show m+3=(m+2)+1 by omega,kl3 _ _ D,kl3 _ _ E,show m+2+1=(m+1)+2 by omega,Aik _ _ G];rfl
 rw[this];rfl
theorem D0:(Η.info? 116).map (·.size)=Δ 3:=by kernel_rfl
theorem Ai1:(Η.info? 116).map (λi=>(i.zero,i.size,i.bytes))=Δ (Δ (.agg #[.int ζ 0,.int ζ 0,.int π 0]),3,24):=by kernel_rfl
theorem Sv (x:Sta):(stA x).all (·.oneCell')=Ξ:=by simp[stA,Ρ.oneCell']
end Go.Proofs.YtaiogolidlamiaaGreatDoor
