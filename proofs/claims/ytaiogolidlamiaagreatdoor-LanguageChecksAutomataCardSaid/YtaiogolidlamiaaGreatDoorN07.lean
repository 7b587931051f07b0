import Derived.Test.YtaiogolidlamiaaGreatDoorN04
import Derived.Test.YtaiogolidlamiaaGreatDoorN06
set_option linter.unusedVariables false
set_option linter.unusedSimpArgs false
open Array renaming getD_eq_getD_getElem? → ϡ, getElem?_eq_none → ÿ, getElem?_eq_getElem → ϟ, getElem?_toList → æ, getElem?_eq_some_iff → ϐ
open Bool renaming false → Τ, true → Ξ, and_eq_true → Ϝ, or_eq_true → Å, false_eq_true → Þ
open Go renaming Oper → ϳ, Value → Ν, World → Λ, Act → ú, undef → ς, Program → ã, getD_replicate_false → ϫ, execOp → Ù, TypeId → Á, Operand → ϵ
open Go.Act renaming put → Ϛ
open Go.IntKind renaming u64 → π, u64 → ϱ, i64 → ε
open Go.Proofs.Tryz renaming prog → Ζ, underlying116 → Ê
open Go.Region renaming wanted → Ë, ready → É, waitsFor → ø
open Go.Value renaming pointer → Ω
open List renaming range → ι, all_eq_true → Ø, mem_range → υ, getElem?_eq_some_iff → ϊ, getElem?_eq_getElem → Μ
open Nat renaming le_refl → ν
open Option renaming some → Δ, getD_some → ì, none → Γ
open Option.some renaming inj → ύ
namespace Go.Proofs.YtaiogolidlamiaaGreatDoor
set_option maxRecDepth 100000
open Go
section
variable {P:Program} {ops:Array Oper} {Q:Exit->Act->World->Prop} {n:Nat}
structure FInvR (ops:Array ϳ) (n:Nat) (F:Nat->Ν->Λ->Prop) (Ne:Nat->Nat->Ν->Ν->Prop) (a0:ú) (w1:Λ) (listed:Array Bool) (a:ú) (w:Λ):Prop where
 ext:Ext w1 w
 defers:a.defers=a0.defers
 size:a.tmps.size=a0.tmps.size
 done:∀ i o d,i<n->ops[i]? = Δ o->o.dst=Δ d->listed.getD i Τ=Ξ->F i (a.tmps.getD d ς) w
 rest:∀ d,(∀ i o,i<n->ops[i]? = Δ o->listed.getD i Τ=Ξ->o.dst≠Δ d)->a.tmps.getD d ς=a0.tmps.getD d ς
 ne:∀ i j oi oj di dj,i<n->j<n->i≠j->ops[i]? = Δ oi->ops[j]? = Δ oj->oi.dst=Δ di->oj.dst=Δ dj->listed.getD i Τ=Ξ->listed.getD j Τ=Ξ->Ne i j (a.tmps.getD di ς) (a.tmps.getD dj ς)
theorem Ev (a:ú) (d e:Nat) (v:Ν) (h:d<a.tmps.size):(a.put (Δ d) v).tmps.getD e ς=if e=d then v else a.tmps.getD e ς:=by
 simp only[Ϛ,ϡ,Array.getElem?_setIfInBounds];by_cases hd:d=e
 ·subst hd;simp[h]
 ·simp[hd,Ne.symm hd]
theorem O3 (a:ú) (d:Nat) (v:Ν):(a.put (Δ d) v).tmps.size=a.tmps.size:=by simp[Ϛ]
def FOp (P:ã) (ops:Array ϳ) (Q:Exit->ú->Λ->Prop) (n:Nat) (F:Nat->Ν->Λ->Prop) (Ne:Nat->Nat->Ν->Ν->Prop) (a0:ú) (w1:Λ) (i:Nat):Prop:=
 ∀ o d,ops[i]? = Δ o->o.dst=Δ d->∀ a w,Ext w1 w->a.defers=a0.defers->a.tmps.size=a0.tmps.size->
  (∀ j oj dj,j<n->ops[j]? = Δ oj->oj.dst=Δ dj->(∃ e∈o.after,Region.binds .any e=Ξ/\e.on=j)->F j (a.tmps.getD dj ς) w)->
  (∀ e,(∀ j oj,j<n->ops[j]? = Δ oj->oj.dst≠Δ e)->a.tmps.getD e ς=a0.tmps.getD e ς)->
  Ë o (yielded ops a.tmps)=Ξ/\o.wp P a w (λD w'=>∃ v,D=a.put (Δ d) v/\Ext w w'/\F i v w'/\∀ j u,j<n->j≠i->F j u w->Ne i j v u) Q
def Fm (ops:Array ϳ) (n:Nat) (sz:Nat):Bool:=(ι n).all λi=>match ops[i]? with
 | none=>Τ
 | some o=>match o.dst with
  | none=>Τ
  | some d=>decide (d<sz)&&(ι n).all λj=>decide (j=i)||match ops[j]? with|none=>Τ|some oj=>decide (oj.dst≠Δ d)
theorem Jg {sz:Nat} (h:Fm ops n sz=Ξ) (i:Nat) (hi:i<n):∃ o d,ops[i]? = Δ o/\o.dst=Δ d/\d<sz/\∀ j oj,j<n->j≠i->ops[j]? = Δ oj->oj.dst≠Δ d:=by
 unfold Fm at h;rw[Ø] at h;have D:=h i (υ.2 hi);cases G:ops[i]? with
 | none=>rw[G] at D;cases D
 | some o=>
  rw[G] at D;simp only at D;cases hd:o.dst with
  | none=>rw[hd] at D;cases D
  | some d=>
   rw[hd] at D;simp only[Ϝ,decide_eq_true_eq,Ø,Å,υ] at D;refine⟨o,d,rfl,hd,D.1,λj oj I J M=>?_⟩;rcases D.2 j I with E|E
   ·exact absurd E J
   ·rw[M] at E
    simpa using E
theorem Xc {F:Nat->Ν->Λ->Prop} {Ne:Nat->Nat->Ν->Ν->Prop} (ay:∀ i j v u,Ne i j v u->Ne j i u v) (hF:∀ i v w w',F i v w->Ext w w'->F i v w') {a0:ú} {w1:Λ} {sz:Nat} (a1:a0.tmps.size=sz) (hd:Fm ops n sz=Ξ) {listed:Array Bool} {a:ú} {w:Λ} (I:FInvR ops n F Ne a0 w1 listed a w)
  {i:Nat} (hi:i∈É .any ops listed) (aj:i<n) (H:FOp P ops Q n F Ne a0 w1 i):∃ o,ops[i]? = Δ o/\Ë o (yielded ops a.tmps)=Ξ/\o.wp P a w (λa' w'=>FInvR ops n F Ne a0 w1 (listed.setIfInBounds i Ξ) a' w') Q:=by
 obtain⟨o,d,M,ag,a6,al⟩:=Jg hd i aj;obtain⟨a7,o',ah,a8⟩:=mem_ready.1 hi;rw[M] at ah;injection ah with ah
 subst ah;have an:i<listed.size:=by
  rcases Nat.lt_or_ge i listed.size with h|h
  ·exact h
  ·simp[ÿ h] at a7
 have hg:∀ j,(listed.setIfInBounds i Ξ).getD j Τ=Ξ->j=i\/listed.getD j Τ=Ξ:=λj E=>by
  by_cases e:i=j
  ·exact .inl e.symm
  ·rw[getD_set_ne Τ e] at E;exact .inr E
 obtain⟨hw,bb⟩:=H o d M ag a w I.ext I.defers I.size (λj oj dj E D G ⟨e,he,hb,bd⟩=>I.done j oj dj E D G (by rw[<-bd];exact a8 e he hb)) (λe he=>I.rest e λj oj E D _=>he j oj E D);refine⟨o,M,hw,ϳ.wp_mono (λa' w' h=>?_) bb⟩;obtain⟨v,rfl,hE,hv,aq⟩:=h;have ai:d<a.tmps.size:=by rw[I.size,a1];exact a6
 refine⟨I.ext.trans hE,I.defers,by rw[O3];exact I.size,λj oj dj E D G aa=>?_,λe he=>?_,λj k oj ok dj dk E T ar D ad G ae aa au=>?_⟩
 ·rw[Ev _ _ _ _ ai];by_cases e:j=i
  ·subst e;rw[M] at D;injection D with D
   subst D;rw[ag] at G;injection G with G
   rw[if_pos G.symm];exact hv
  ·rw[if_neg (λh=>al j oj E e D (by rw[G,h]))];rcases hg j aa with h|h
   ·exact absurd h e
   ·exact hF _ _ _ _ (I.done j oj dj E D G h) hE
 ·rw[Ev _ _ _ _ ai];have be:e≠d:=λh=>he i o aj M (by simp[an]) (by rw[ag,h])
  rw[if_neg be];refine I.rest e λj oj E D aa=>he j oj E D ?_
  by_cases e':i=j
  ·subst e';simp[an]
  ·rw[getD_set_ne Τ e'];exact aa
 ·rw[Ev _ _ _ _ ai,Ev _ _ _ _ ai];have af:∀ j oj dj,j<n->ops[j]? = Δ oj->oj.dst=Δ dj->(j=i->dj=d)/\(j≠i->dj≠d):=λj oj dj E D G=>by
   constructor
   ·rintro rfl;rw[M] at D;injection D with D
    subst D;rw[ag] at G;injection G with G
    exact G.symm
   ·intro e h;exact al j oj E e D (by rw[G,h])
  by_cases U:j=i
  ·have J:k≠i:=λh=>ar (by rw[U,h])
   rw[if_pos ((af j oj dj E D G).1 U),if_neg ((af k ok dk T ad ae).2 J)];rcases hg k au with h|h
   ·exact absurd h J
   ·rw[U];exact aq k _ T J (I.done k ok dk T ad ae h)
  ·rw[if_neg ((af j oj dj E D G).2 U)];rcases hg j aa with h|ax
   ·exact absurd h U
   ·by_cases J:k=i
    ·rw[if_pos ((af k ok dk T ad ae).1 J)];rw[J];exact ay _ _ _ _ (aq j _ E U (I.done j oj dj E D G ax))
    ·rw[if_neg ((af k ok dk T ad ae).2 J)];rcases hg k au with h|bf
     ·exact absurd h J
     ·exact I.ne j k oj ok dj dk E T ar D ad G ae ax bf
theorem Xd {F:Nat->Ν->Λ->Prop} {Ne:Nat->Nat->Ν->Ν->Prop} (D:∀ i j v u,Ne i j v u->Ne j i u v) (E:∀ i v w w',F i v w->Ext w w'->F i v w') {a0:ú} {w1:Λ} {sz:Nat} (G:a0.tmps.size=sz) (hd:Fm ops n sz=Ξ) {listed:Array Bool} {a:ú} {w:Λ} (I:FInvR ops n F Ne a0 w1 listed a w)
  {i:Nat} (hi:i∈É .any ops listed) (J:i<n) (H:FOp P ops Q n F Ne a0 w1 i):wpOp P ops Q i (λM w'=>FInvR ops n F Ne a0 w1 (listed.setIfInBounds i Ξ) M w') a w:=by
 obtain⟨o,T,U,h⟩:=Xc D E G hd I hi J H;unfold wpOp;rw[T];simp only[U,if_true];exact .inl h
def Bq (ops:Array ϳ) (vs:Nat->Ν):Nat->ú->ú
 | 0,a=>a
 | k+1,a=>(Bq ops vs k a).put ((ops[k]?).bind (·.dst)) (vs k)
theorem Kd (vs:Nat->Ν) (a:ú):∀ k,(Bq ops vs k a).tmps.size=a.tmps.size/\(Bq ops vs k a).defers=a.defers
 | 0=>⟨rfl,rfl⟩
 | k+1=>by
  obtain⟨D,E⟩:=Kd vs a k;unfold Bq;cases (ops[k]?).bind (·.dst) with
  | none=>exact⟨D,E⟩
  | some d=>exact⟨by rw[O3];exact D,E⟩
theorem Ui {sz:Nat} (hd:Fm ops n sz=Ξ) (a a0:ú) (T:a0.tmps.size=sz) (vs:Nat->Ν) (U:∀ i o d,i<n->ops[i]? = Δ o->o.dst=Δ d->vs i=a.tmps.getD d ς) (hr:∀ e,(∀ i o,i<n->ops[i]? = Δ o->o.dst≠Δ e)->a.tmps.getD e ς=a0.tmps.getD e ς) (e:Nat) :
  ∀ k,k<=n->((∃ i o,i<k/\ops[i]? = Δ o/\o.dst=Δ e)->(Bq ops vs k a0).tmps.getD e ς=a.tmps.getD e ς)/\((∀ i o,i<k->ops[i]? = Δ o->o.dst≠Δ e)->(Bq ops vs k a0).tmps.getD e ς=a0.tmps.getD e ς)
 | 0,_=>⟨fun⟨i,o,h,_⟩=>by omega,λ_=>rfl⟩
 | k+1,hk=>by
  obtain⟨h1,h2⟩:=Ui hd a a0 T vs U hr e k (by omega);obtain⟨o,d,G,I,ae,ak⟩:=Jg hd k (by omega);have af:Bq ops vs (k+1) a0=(Bq ops vs k a0).put (Δ d) (vs k):=by
   show (Bq ops vs k a0).put ((ops[k]?).bind (·.dst)) (vs k)=_;rw[G];show (Bq ops vs k a0).put o.dst (vs k)=_;rw[I]
  rw[af,Ev _ _ _ _ (by rw[(Kd vs a0 k).1,T];exact ae)];constructor
  ·rintro⟨i,M,hi,D,E⟩;by_cases J:e=d
   ·rw[if_pos J,U k o d (by omega) G I,J]
   ·rw[if_neg J];refine h1 ⟨i,M,?_,D,E⟩;by_cases ag:i=k
    ·subst ag;rw[G] at D;injection D with D
     subst D;rw[I] at E;injection E with E
     exact absurd E.symm J
    ·omega
  ·intro h;have ah:e≠d:=λh'=>h k o (by omega) G (by rw[I,h'])
   rw[if_neg ah];exact h2 λi M hi=>h i M (by omega)
theorem Xg {F:Nat->Ν->Λ->Prop} {Ne:Nat->Nat->Ν->Ν->Prop} {a0:ú} {w1:Λ} {sz:Nat} (ag:a0.tmps.size=sz) (hd:Fm ops n sz=Ξ) {listed:Array Bool} {a:ú} {w:Λ} (G:FInvR ops n F Ne a0 w1 listed a w) (I:∀ i,i<n->listed.getD i Τ=Ξ) :
  ∃ vs:Nat->Ν,a=Bq ops vs n a0/\(∀ i,i<n->F i (vs i) w)/\∀ i j,i<n->j<n->i≠j->Ne i j (vs i) (vs j):=by
 refine⟨λi=>a.tmps.getD (((ops[i]?).bind (·.dst)).getD 0) ς,?_,λi hi=>?_,λi j hi J ah=>?_⟩
 ·have T:∀ e,(∀ i o,i<n->ops[i]? = Δ o->o.dst≠Δ e)->a.tmps.getD e ς=a0.tmps.getD e ς:=λe he=>G.rest e λi o hi D _=>he i o hi D
  have hg:=λe=>Ui hd a a0 ag (λi=>a.tmps.getD (((ops[i]?).bind (·.dst)).getD 0) ς) (λi o d hi D E=>by
   show a.tmps.getD (((ops[i]?).bind (·.dst)).getD 0) ς=_;rw[D];show a.tmps.getD (o.dst.getD 0) ς=_;rw[E];rfl) T e n (ν _)
  obtain⟨s1,s2⟩:=Kd (ops:=ops) (λi=>a.tmps.getD (((ops[i]?).bind (·.dst)).getD 0) ς) a0 n;have U:a.tmps=(Bq ops (λi=>a.tmps.getD (((ops[i]?).bind (·.dst)).getD 0) ς) n a0).tmps:=by
   apply Array.ext
   ·rw[s1,G.size]
   ·intro e h1 h2;have he:a.tmps.getD e ς=(Bq ops (λi=>a.tmps.getD (((ops[i]?).bind (·.dst)).getD 0) ς) n a0).tmps.getD e ς:=by
     obtain⟨g1,g2⟩:=hg e;by_cases aa:∃ i o,i<n/\ops[i]? = Δ o/\o.dst=Δ e
     ·exact (g1 aa).symm
     ·have ab:∀ i o,i<n->ops[i]? = Δ o->o.dst≠Δ e:=λi o hi D aq=>aa ⟨i,o,hi,D,aq⟩
      rw[g2 ab];exact T e ab
    rw[ϡ,ϡ,ϟ h1,ϟ h2] at he;exact he
  have M:=G.defers;rw[<-s2] at M;generalize Bq ops (λi=>a.tmps.getD (((ops[i]?).bind (·.dst)).getD 0) ς) n a0=b at *;cases a;cases b
  simp only at U M;rw[U,M]
 ·obtain⟨o,d,D,E,_,_⟩:=Jg hd i hi;have:=G.done i o d hi D E (I i hi);show F i (a.tmps.getD (((ops[i]?).bind (·.dst)).getD 0) ς) w;rw[D];show F i (a.tmps.getD (o.dst.getD 0) ς) w;rw[E];exact this
 ·obtain⟨o,d,D,E,_,_⟩:=Jg hd i hi;obtain⟨o',d',ae,af,_,_⟩:=Jg hd j J;have:=G.ne i j o o' d d' hi J ah D ae E af (I i hi) (I j J);show Ne i j (a.tmps.getD (((ops[i]?).bind (·.dst)).getD 0) ς) (a.tmps.getD (((ops[j]?).bind (·.dst)).getD 0) ς);rw[D,ae];show Ne i j (a.tmps.getD (o.dst.getD 0) ς) (a.tmps.getD (o'.dst.getD 0) ς);rw[E,af];exact this
def E5 (ops:Array ϳ) (n:Nat):Bool:=(ι n).all λi=>match ops[i]? with|none=>Τ|some o=>o.after.all λe=>!Region.binds .any e||decide (e.on<i)
def unl (n:Nat) (listed:Array Bool):Nat:=((ι n).filter λi=>!listed.getD i Τ).length
theorem Mu (E:E5 ops n=Ξ) {listed:Array Bool} (U:listed.size=ops.size) (hn:n<=ops.size):∀ k,k<n->(∀ j,j<k->listed.getD j Τ=Ξ)->listed.getD k Τ=Τ->k∈É .any ops listed:=by
 intro k J M I;unfold E5 at E;rw[Ø] at E;have D:=E k (υ.2 J);cases G:ops[k]? with
 | none=>rw[G] at D;cases D
 | some o=>
  rw[G] at D;refine mem_ready.2 ⟨?_,o,G,λe he T=>?_⟩
  ·have:k<listed.size:=by omega
   rw[ϡ,ϟ this] at I ⊢;exact I
  ·have:=(Array.all_eq_true'.1 D) e he;rw[Å] at this;rcases this with h|h
   ·rw[T] at h;cases h
   ·exact M _ (of_decide_eq_true h)
theorem Fe (n:Nat) (listed:Array Bool):unl (n+1) listed=unl n listed+if listed.getD n Τ then 0 else 1:=by
 unfold unl;rw[List.range_succ,List.filter_append,List.length_append];cases h:listed.getD n Τ
 ·simp only[List.filter_cons,List.filter_nil,h,Bool.not_false,if_true,Þ,if_false];rfl
 ·simp only[List.filter_cons,List.filter_nil,h,Bool.not_true,if_true,Þ,if_false];rfl
theorem Sk:∀ (n:Nat) (listed:Array Bool) (i:Nat),n<=i->unl n (listed.setIfInBounds i Ξ)=unl n listed
 | 0,_,_,_=>rfl
 | n+1,listed,i,h=>by
  rw[Fe,Fe,Sk n listed i (by omega),getD_set_ne Τ (by omega)]
theorem J1:∀ (n:Nat) (listed:Array Bool) (i:Nat),i<n->i<listed.size->listed.getD i Τ=Τ->unl n (listed.setIfInBounds i Ξ)+1=unl n listed
 | 0,_,_,h,_,_=>by omega
 | n+1,listed,i,h,hs,hu=>by
  rw[Fe,Fe];by_cases e:i=n
  ·subst e;rw[Sk _ _ _ (ν _),hu];have:(listed.setIfInBounds i Ξ).getD i Τ=Ξ:=by simp[hs]
   rw[this];simp
  ·have:=J1 n listed i (by omega) hs hu;rw[getD_set_ne Τ e];omega
theorem Ig:∀ (n:Nat) (listed:Array Bool),unl n listed=0->∀ i,i<n->listed.getD i Τ=Ξ
 | 0,_,_,_,h=>by omega
 | n+1,listed,h,i,hi=>by
  rw[Fe] at h;by_cases e:i=n
  ·subst e;cases D:listed.getD i Τ
   ·rw[D] at h;simp at h
   ·rfl
  ·exact Ig n listed (by omega) i (by omega)
theorem Ko:∀ (n:Nat) (listed:Array Bool),unl n listed≠0->∃ k,k<n/\listed.getD k Τ=Τ/\∀ j,j<k->listed.getD j Τ=Ξ
 | 0,_,h=>absurd rfl h
 | n+1,listed,h=>by
  by_cases D:unl n listed=0
  ·refine⟨n,by omega,?_,Ig n listed D⟩;rw[Fe,D] at h;cases E:listed.getD n Τ
   ·rfl
   ·rw[E] at h;simp at h
  ·obtain⟨k,J,G,I⟩:=Ko n listed D;exact⟨k,by omega,G,I⟩
theorem W7 {F:Nat->Ν->Λ->Prop} {Ne:Nat->Nat->Ν->Ν->Prop} (J:∀ i j v u,Ne i j v u->Ne j i u v) (M:∀ i v w w',F i v w->Ext w w'->F i v w') {a0:ú} {w1:Λ} {sz g:Nat} (T:a0.tmps.size=sz) (hd:Fm ops n sz=Ξ) (hs:Region.sinkB .any ops n=Ξ) (U:Region.chainB .any ops n=Ξ) (hn:n<ops.size) (hE:E5 ops n=Ξ)
  (ab:∀ i,i<n->FOp P ops Q n F Ne a0 w1 i) (ad:∀ listed a w,HeadInv .any ops n listed->(∀ i,i<n->listed.getD i Τ=Ξ)->FInvR ops n F Ne a0 w1 listed a w->wpAny P .any ops Q g listed a w) :
  ∀ (f:Nat) (listed:Array Bool) (a:ú) (w:Λ),HeadInv .any ops n listed->FInvR ops n F Ne a0 w1 listed a w->unl n listed=f->wpAny P .any ops Q (f+g) listed a w
 | 0,listed,a,w,D,G,hu=>by
  rw[Nat.zero_add];exact ad listed a w D (Ig n listed hu) G
 | f+1,listed,a,w,D,G,hu=>by
  obtain⟨k,hk,ah,ai⟩:=Ko n listed (by omega);have I:=Mu hE D.size (by omega) k hk ai ah;have aj:=(mem_ready.1 I).1;rw[show f+1+g=(f+g)+1 by omega];refine⟨λh0=>(by rw[h0] at I;cases I),λi hi=>?_⟩;have E:i<n:=Nat.lt_of_not_le λh=>tail_waits hs U hn D _ k rfl hk aj i h hi
  have af:=(mem_ready.1 hi).1;have ag:i<listed.size:=by rw[D.size];omega
  have al:listed.getD i Τ=Τ:=by
   rw[ϡ,ϟ ag] at af ⊢;exact af
  refine wpOp_mono (λa' w' h=>W7 J M T hd hs U hn hE ab ad f _ a' w' (D.set hi E) h ?_) (Xd J M T hd G hi E (ab i E));have:=J1 n listed i E ag al;omega
def Fo (m n:Nat):Array Bool:=((ι m).map λi=>decide (i<n)).toArray
def W8 (ops:Array ϳ) (n sz:Nat):Bool:=
 Fm ops n sz&&Region.sinkB .any ops n&&Region.chainB .any ops n&&decide (n<ops.size)&&E5 ops n&&Region.seqB .any ops (ops.size-n) n (Fo ops.size n)
theorem Ic {id:Nat} {l:List ϳ} {a0:ú} {w:Λ} (n sz:Nat) (hm:P.follows .mixedOrders=Ξ) (I:W8 l.toArray n sz=Ξ) (J:a0.tmps.size=sz) (F:Nat->Ν->Λ->Prop) (Ne:Nat->Nat->Ν->Ν->Prop) (aa:∀ i j v u,Ne i j v u->Ne j i u v) (hF:∀ i v w w',F i v w->Ext w w'->F i v w')
  (ad:∀ i,i<n->FOp P l.toArray Q n F Ne a0 w.drew i) (ae:∀ (vs:Nat->Ν) (w':Λ),Ext w.drew w'->(∀ i,i<n->F i (vs i) w')->(∀ i j,i<n->j<n->i≠j->Ne i j (vs i) (vs j))->wpList P l.toArray Q (l.drop n) (Bq l.toArray vs n a0) w'):(Code.region id l.toArray Ξ).wp P Q a0 w:=by
 simp only[W8,Ϝ,decide_eq_true_eq] at I;obtain⟨⟨⟨⟨⟨hd,hs⟩,hc⟩,hn⟩,hE⟩,M⟩:=I;refine wp_region_any hm ?_;have ah:HeadInv .any l.toArray n (Array.replicate l.toArray.size Τ):=
  ⟨by simp,λj oj _ D=>(by rw[ϫ] at D;cases D),λt _ ht=>getD_in (by simpa using ht) (ϫ _ _)⟩
 have aj:FInvR l.toArray n F Ne a0 w.drew (Array.replicate l.toArray.size Τ) a0 w.drew:=
  ⟨Θ _,rfl,rfl,λi o d _ _ _ D=>(by rw[ϫ] at D;cases D),λd _=>rfl,λi j _ _ _ _ _ _ _ _ _ _ _ D=>(by rw[ϫ] at D;cases D)⟩
 have hu:∀ m,unl m (Array.replicate l.toArray.size Τ)=m:=λm=>by
  induction m with
  | zero=>rfl
  | succ m ih=>rw[Fe,ih,ϫ];simp
 have H:=W7 (P:=P) (Q:=Q) (g:=(l.drop n).length) aa hF J hd hs hc hn hE ad (λlisted a w' E T U=>by
  obtain⟨vs,rfl,hv,al⟩:=Xg J hd U T;have hL:listed=Fo l.toArray.size n:=by
   apply Array.ext
   ·rw[E.size];simp[Fo]
   ·intro i G h2;have h3:(Fo l.toArray.size n)[i]=decide (i<n):=by simp[Fo]
    rw[h3];by_cases hi:i<n
    ·have:=T i hi;rw[ϡ,ϟ G] at this;simp only[ì] at this;rw[this];simp[hi]
    ·have:=E.tail i (by omega) (by rw[<-E.size];exact G);rw[ϡ,ϟ G] at this;simp only[ì] at this;rw[this];simp[hi]
  have aq:l.toArray.size-n=(l.drop n).length:=by simp
  rw[aq] at M;exact wpAny_of_seq (l.drop n) n listed _ w' (λj=>by simp[List.getElem?_drop]) (by rw[hL];exact M) (ae vs w' U.ext hv al)) n _ a0 w.drew ah aj (hu n)
 have e:n+(l.drop n).length=l.toArray.size:=by
  have:n<l.length:=by simpa using hn
  simp;omega
 rw[e] at H;exact H
/-! ### As it is used -/
def Vj (ops:Array ϳ) (n e:Nat):Bool:=(ι n).all λj=>match ops[j]? with|none=>Ξ|some oj=>decide (oj.dst≠Δ e)
def M9 (ops:Array ϳ) (n i j dj:Nat):Bool:=decide (j<n)&&(match ops[j]? with|some oj=>decide (oj.dst=Δ dj)|none=>Τ)&&ø .any ops i j
theorem Ap {F:Nat->Ν->Λ->Prop} {Ne:Nat->Nat->Ν->Ν->Prop} {a0:ú} {w1:Λ} {i:Nat} (o:ϳ) (d:Tmp) (T:ops.toList[i]? = Δ o) (hd:o.dst=Δ d) (hg:o.guard=Γ)
  (H:∀ a w,Ext w1 w->(∀ j dj,M9 ops n i j dj=Ξ->F j (a.tmps.getD dj ς) w)->(∀ e,Vj ops n e=Ξ->a.tmps.getD e ς=a0.tmps.getD e ς)->
   o.wp P a w (λU w'=>∃ v,U=a.put (Δ d) v/\Ext w w'/\F i v w'/\∀ j u,j<n->j≠i->F j u w->Ne i j v u) Q):FOp P ops Q n F Ne a0 w1 i:=by
 intro o' d' E G a w hE _ _ ab ad;rw[<-æ,T] at E;injection E with E
 subst E;rw[hd] at G;injection G with G
 subst G;refine⟨by simp[Ë,hg],H a w hE (λj dj h=>?_) (λe h=>ad e λj oj M D=>?_)⟩
 ·unfold M9 at h;simp only[Ϝ,decide_eq_true_eq] at h;obtain⟨⟨M,I⟩,h2⟩:=h;cases D:ops[j]? with
  | none=>rw[D] at I;cases I
  | some oj=>
   rw[D] at I;obtain⟨oi,J,e,he,hb,ag⟩:=Region.waitsFor_spec h2;rw[<-æ,T] at J;injection J with J
   subst J;exact ab j oj dj M D (of_decide_eq_true I) ⟨e,he,hb,ag⟩
 ·unfold Vj at h;rw[Ø] at h;have:=h j (υ.2 M);rw[D] at this
  simpa using this
theorem C4 {o:ϳ} {a:ú} {w w':Λ} {v:Ν} {next:ú->Λ->Prop} (h:(Ù a.eval o).run P w=.ok (.value v) w') (D:next (a.put o.dst v) w'):o.wp P a w next Q:=by
 unfold ϳ.wp;rw[h];exact D
end
section
variable {P:Program} {ops:Array Oper} {Q:Exit->Act->World->Prop}
def Cz (o:ϳ) (a:ú):Ν:=match o.dst with|some d=>a.tmps.getD d ς|none=>ς
structure FInvP (ops:Array ϳ) (R:Λ->Λ->Prop) (F:Nat->Ν->Λ->Prop) (Ne:Nat->Nat->Ν->Ν->Prop) (a0:ú) (w1:Λ) (listed:Array Bool) (a:ú) (w:Λ):Prop where
 ext:R w1 w
 defers:a.defers=a0.defers
 size:a.tmps.size=a0.tmps.size
 done:∀ i o,ops[i]? = Δ o->listed.getD i Τ=Ξ->F i (Cz o a) w
 rest:∀ d,(∀ i o,ops[i]? = Δ o->listed.getD i Τ=Ξ->o.dst≠Δ d)->a.tmps.getD d ς=a0.tmps.getD d ς
 ne:∀ i j oi oj,i≠j->ops[i]? = Δ oi->ops[j]? = Δ oj->listed.getD i Τ=Ξ->listed.getD j Τ=Ξ->Ne i j (Cz oi a) (Cz oj a)
def POp (P:ã) (ops:Array ϳ) (Q:Exit->ú->Λ->Prop) (R:Λ->Λ->Prop) (F:Nat->Ν->Λ->Prop) (Ne:Nat->Nat->Ν->Ν->Prop) (a0:ú) (w1:Λ) (i:Nat):Prop:=
 ∀ o,ops[i]? = Δ o->∀ a w,R w1 w->
  (∀ j oj,ops[j]? = Δ oj->(∃ e∈o.after,Region.binds .any e=Ξ/\e.on=j)->F j (Cz oj a) w)->
  (∀ e,(∀ (j:Nat) (oj:ϳ),ops[j]? = Δ oj->oj.dst≠Δ e)->a.tmps.getD e ς=a0.tmps.getD e ς)->
  Ë o (yielded ops a.tmps)=Ξ/\o.wp P a w (λD w'=>∃ v,(o.dst=Γ->v=ς)/\D=a.put o.dst v/\R w w'/\F i v w'/\∀ j u,j≠i->F j u w->(∀ k ok,ops[k]? = Δ ok->(∃ e∈o.after,Region.binds .any e=Ξ/\e.on=k)->k≠j->Ne k j (Cz ok a) u)->Ne i j v u) Q
def Ez (ops:Array ϳ) (sz:Nat):Bool:=(ι ops.size).all λi=>match ops[i]? with
 | none=>Τ
 | some o=>match o.dst with
  | none=>Ξ
  | some d=>decide (d<sz)&&(ι ops.size).all λj=>decide (j=i)||match ops[j]? with|none=>Τ|some oj=>decide (oj.dst≠Δ d)
theorem Ho {sz:Nat} (h:Ez ops sz=Ξ) (i:Nat) (o:ϳ) (G:ops[i]? = Δ o):∀ d,o.dst=Δ d->d<sz/\∀ j oj,j≠i->ops[j]? = Δ oj->oj.dst≠Δ d:=by
 unfold Ez at h;rw[Ø] at h;have hi:=(ϐ.1 G).1;have D:=h i (υ.2 hi);rw[G] at D;simp only at D;intro d hd;rw[hd] at D;simp only[Ϝ,decide_eq_true_eq,Ø,Å,υ] at D;refine⟨D.1,λj oj J I=>?_⟩;rcases D.2 j (ϐ.1 I).1 with E|E
 ·exact absurd E J
 ·rw[I] at E
  simpa using E
theorem Ip (a:ú) (d:Option Tmp) (v:Ν):(a.put d v).tmps.size=a.tmps.size/\(a.put d v).defers=a.defers:=by
 cases d with
 | none=>exact⟨rfl,rfl⟩
 | some d=>exact⟨O3 a d v,rfl⟩
theorem Lt {sz:Nat} (hd:Ez ops sz=Ξ) {i:Nat} {o:ϳ} (G:ops[i]? = Δ o) {a:ú} (ha:a.tmps.size=sz) {v:Ν} (hv:o.dst=Γ->v=ς) {j:Nat} {oj:ϳ} (D:ops[j]? = Δ oj) :
  Cz oj (a.put o.dst v)=if j=i then v else Cz oj a:=by
 by_cases e:j=i
 ·subst e;rw[G] at D;injection D with D
  subst D;rw[if_pos rfl];unfold Cz;cases E:o.dst with
  | none=>exact (hv E).symm
  | some d=>
   simp only;rw[Ev _ _ _ _ (by rw[ha];exact (Ho hd j o G d E).1),if_pos rfl]
 ·rw[if_neg e];unfold Cz;cases I:oj.dst with
  | none=>rfl
  | some dj=>
   simp only;cases E:o.dst with
   | none=>rfl
   | some d=>
    rw[Ev _ _ _ _ (by rw[ha];exact (Ho hd i o G d E).1)];rw[if_neg (λh=>(Ho hd i o G d E).2 j oj e D (by rw[I,h]))]
theorem Akk {R:Λ->Λ->Prop} (aw:∀ x y z,R x y->R y z->R x z) {F:Nat->Ν->Λ->Prop} {Ne:Nat->Nat->Ν->Ν->Prop} (ax:∀ i j v u,Ne i j v u->Ne j i u v) (hF:∀ i v w w',F i v w->R w w'->F i v w') {a0:ú} {w1:Λ} {sz:Nat} (az:a0.tmps.size=sz) (hd:Ez ops sz=Ξ) {listed:Array Bool} {a:ú} {w:Λ} (D:FInvP ops R F Ne a0 w1 listed a w)
  {i:Nat} (hi:i∈É .any ops listed) (H:POp P ops Q R F Ne a0 w1 i):wpOp P ops Q i (λa' w'=>FInvP ops R F Ne a0 w1 (listed.setIfInBounds i Ξ) a' w') a w:=by
 obtain⟨a1,o,I,aa⟩:=mem_ready.1 hi;have aj:i<listed.size:=by
  rcases Nat.lt_or_ge i listed.size with h|h
  ·exact h
  ·simp[ÿ h] at a1
 have hg:∀ j,(listed.setIfInBounds i Ξ).getD j Τ=Ξ->j=i\/listed.getD j Τ=Ξ:=λj hj=>by
  by_cases e:i=j
  ·exact .inl e.symm
  ·rw[getD_set_ne Τ e] at hj;exact .inr hj
 obtain⟨hw,a7⟩:=H o I a w D.ext (λj oj E ⟨e,he,M,a8⟩=>D.done j oj E (by rw[<-a8];exact aa e he M)) (λe he=>D.rest e λj oj E _=>he j oj E);unfold wpOp;rw[I];simp only[hw,if_true];refine .inl (ϳ.wp_mono (λa' w' h=>?_) a7);obtain⟨v,ab,rfl,hE,hv,an⟩:=h;have has:a.tmps.size=sz:=by rw[D.size,az]
 refine⟨aw _ _ _ D.ext hE,by rw[(Ip a o.dst v).2];exact D.defers,by rw[(Ip a o.dst v).1];exact D.size,λj oj E T=>?_,λe he=>?_,λj k oj ok ao E U T aq=>?_⟩
 ·rw[Lt hd I has ab E];by_cases e:j=i
  ·rw[if_pos e,e];exact hv
  ·rw[if_neg e];rcases hg j T with h|h
   ·exact absurd h e
   ·exact hF _ _ _ _ (D.done j oj E h) hE
 ·have h1:(a.put o.dst v).tmps.getD e ς=a.tmps.getD e ς:=by
   cases ar:o.dst with
   | none=>rfl
   | some d=>
    rw[Ev _ _ _ _ (by rw[has];exact (Ho hd i o I d ar).1),if_neg];exact λh=>he i o I (by simp[aj]) (by rw[ar,h])
  rw[h1];refine D.rest e λj oj E T=>he j oj E ?_
  by_cases e':i=j
  ·subst e';simp[aj]
  ·rw[getD_set_ne Τ e'];exact T
 ·rw[Lt hd I has ab E,Lt hd I has ab U];by_cases J:j=i
  ·have G:k≠i:=λh=>ao (by rw[J,h])
   rw[if_pos J,if_neg G,J];rcases hg k aq with h|h
   ·exact absurd h G
   ·exact an k _ G (D.done k ok U h) (λq oq ae ⟨e,he,M,af⟩ ag=>D.ne q k oq ok ag ae U (by rw[<-af];exact aa e he M) h)
  ·rw[if_neg J];rcases hg j T with h|ah
   ·exact absurd h J
   ·by_cases G:k=i
    ·rw[if_pos G,G];exact ax _ _ _ _ (an j _ J (D.done j oj E ah) (λq oq ae ⟨e,he,M,af⟩ ag=>D.ne q j oq oj ag ae E (by rw[<-af];exact aa e he M) ah))
    ·rw[if_neg G];rcases hg k aq with h|bb
     ·exact absurd h G
     ·exact D.ne j k oj ok ao E U ah bb
theorem Uj {sz:Nat} (hd:Ez ops sz=Ξ) (a a0:ú) (J:a0.tmps.size=sz) (vs:Nat->Ν) (M:∀ i o,ops[i]? = Δ o->vs i=Cz o a) (e:Nat) :
  ∀ k,k<=ops.size->((∃ i o,i<k/\ops[i]? = Δ o/\o.dst=Δ e)->(Bq ops vs k a0).tmps.getD e ς=a.tmps.getD e ς)/\((∀ i o,i<k->ops[i]? = Δ o->o.dst≠Δ e)->(Bq ops vs k a0).tmps.getD e ς=a0.tmps.getD e ς)
 | 0,_=>⟨fun⟨i,o,h,_⟩=>by omega,λ_=>rfl⟩
 | k+1,hk=>by
  obtain⟨h1,h2⟩:=Uj hd a a0 J vs M e k (by omega);obtain⟨o,E⟩:∃ o,ops[k]? = Δ o:=⟨_,ϟ (by omega)⟩;have ad:Bq ops vs (k+1) a0=(Bq ops vs k a0).put o.dst (vs k):=by
   show (Bq ops vs k a0).put ((ops[k]?).bind (·.dst)) (vs k)=_;rw[E];rfl
  have hg:(Bq ops vs (k+1) a0).tmps.getD e ς=if o.dst=Δ e then a.tmps.getD e ς else (Bq ops vs k a0).tmps.getD e ς:=by
   rw[ad];cases T:o.dst with
   | none=>simp[Ϛ]
   | some d=>
    rw[Ev _ _ _ _ (by rw[(Kd vs a0 k).1,J];exact (Ho hd k o E d T).1)];by_cases D:e=d
    ·subst D;rw[if_pos rfl,if_pos rfl,M k o E];unfold Cz;rw[T]
    ·rw[if_neg D,if_neg (λh=>D (ύ h).symm)]
  rw[hg];constructor
  ·rintro⟨i,I,hi,G,U⟩;by_cases D:o.dst=Δ e
   ·rw[if_pos D]
   ·rw[if_neg D];refine h1 ⟨i,I,?_,G,U⟩;by_cases ae:i=k
    ·subst ae;rw[E] at G;injection G with G
     subst G;exact absurd U D
    ·omega
  ·intro h;rw[if_neg (h k o (by omega) E)];exact h2 λi I hi=>h i I (by omega)
theorem Akl {R:Λ->Λ->Prop} {F:Nat->Ν->Λ->Prop} {Ne:Nat->Nat->Ν->Ν->Prop} {a0:ú} {w1:Λ} {sz:Nat} (ae:a0.tmps.size=sz) (hd:Ez ops sz=Ξ) {listed:Array Bool} {a:ú} {w:Λ} (E:FInvP ops R F Ne a0 w1 listed a w) (I:∀ i,i<ops.size->listed.getD i Τ=Ξ) :
  ∃ vs:Nat->Ν,a=Bq ops vs ops.size a0/\(∀ i,i<ops.size->F i (vs i) w)/\∀ i j,i<ops.size->j<ops.size->i≠j->Ne i j (vs i) (vs j):=by
 obtain⟨vs,G⟩:∃ vs:Nat->Ν,∀ i o,ops[i]? = Δ o->vs i=Cz o a:=⟨λi=>match ops[i]? with|some o=>Cz o a|none=>ς,λi o D=>by simp only[D]⟩;have get:∀ i,i<ops.size->∃ o,ops[i]? = Δ o:=λi hi=>⟨_,ϟ hi⟩
 refine⟨vs,?_,λi hi=>?_,λi j hi M af=>?_⟩
 ·have hg:=λe=>Uj hd a a0 ae vs G e ops.size (ν _)
  obtain⟨s1,s2⟩:=Kd (ops:=ops) vs a0 ops.size;have T:a.tmps=(Bq ops vs ops.size a0).tmps:=by
   apply Array.ext
   ·rw[s1,E.size]
   ·intro e h1 h2;have he:a.tmps.getD e ς=(Bq ops vs ops.size a0).tmps.getD e ς:=by
     obtain⟨g1,g2⟩:=hg e;by_cases U:∃ i o,i<ops.size/\ops[i]? = Δ o/\o.dst=Δ e
     ·exact (g1 U).symm
     ·have aa:∀ i o,i<ops.size->ops[i]? = Δ o->o.dst≠Δ e:=λi o hi D an=>U ⟨i,o,hi,D,an⟩
      rw[g2 aa];exact E.rest e λi o D _=>aa i o (ϐ.1 D).1 D
    rw[ϡ,ϡ,ϟ h1,ϟ h2] at he;exact he
  have J:=E.defers;rw[<-s2] at J;generalize Bq ops vs ops.size a0=b at *;cases a;cases b
  simp only at T J;rw[T,J]
 ·obtain⟨o,D⟩:=get i hi;rw[G i o D];exact E.done i o D (I i hi)
 ·obtain⟨o,D⟩:=get i hi;obtain⟨o',ad⟩:=get j M;rw[G i o D,G j o' ad];exact E.ne i j o o' af D ad (I i hi) (I j M)
theorem Un {R:Λ->Λ->Prop} (M:∀ x y z,R x y->R y z->R x z) {F:Nat->Ν->Λ->Prop} {Ne:Nat->Nat->Ν->Ν->Prop} (T:∀ i j v u,Ne i j v u->Ne j i u v) (U:∀ i v w w',F i v w->R w w'->F i v w') {a0:ú} {w1:Λ} {sz:Nat} (I:a0.tmps.size=sz) (hd:Ez ops sz=Ξ) (hE:E5 ops ops.size=Ξ)
  (ab:∀ i,i<ops.size->POp P ops Q R F Ne a0 w1 i) (ad:∀ (vs:Nat->Ν) (w':Λ),R w1 w'->(∀ i,i<ops.size->F i (vs i) w')->(∀ i j,i<ops.size->j<ops.size->i≠j->Ne i j (vs i) (vs j))->Q .normal (Bq ops vs ops.size a0) w') :
  ∀ (f:Nat) (listed:Array Bool) (a:ú) (w:Λ),listed.size=ops.size->FInvP ops R F Ne a0 w1 listed a w->unl ops.size listed=f->wpAny P .any ops Q f listed a w
 | 0,listed,a,w,hs,D,hu=>by
  have ae:=Ig _ listed hu;obtain⟨vs,rfl,h1,h2⟩:=Akl I hd D ae;refine⟨?_,ad vs w D.ext h1 h2⟩;refine List.eq_nil_iff_forall_not_mem.2 λi hi=>?_
  obtain⟨E,o,J,_⟩:=mem_ready.1 hi;have ak:=(ϐ.1 J).1;have:=ae i ak;have G:i<listed.size:=by omega
  rw[ϡ,ϟ G] at E this;rw[ì] at E this;rw[this] at E;cases E
 | f+1,listed,a,w,hs,D,hu=>by
  obtain⟨k,hk,an,ao⟩:=Ko ops.size listed (by omega);have af:=Mu hE hs (ν _) k hk ao an;refine⟨λh0=>(by rw[h0] at af;cases af),λi hi=>?_⟩;obtain⟨ag,o,J,_⟩:=mem_ready.1 hi;have ah:=(ϐ.1 J).1;have G:i<listed.size:=by omega
  have ar:listed.getD i Τ=Τ:=by
   rw[ϡ,ϟ G] at ag ⊢;exact ag
  refine wpOp_mono (λa' w' h=>Un M T U I hd hE ab ad f _ a' w' (by rw[Array.size_setIfInBounds];exact hs) h ?_) (Akk M T U I hd D hi (ab i ah));have:=J1 _ listed i ah G ar;show unl ops.size (listed.setIfInBounds i Ξ)=f;omega
def Iq (ops:Array ϳ) (sz:Nat):Bool:=Ez ops sz&&E5 ops ops.size
theorem N0 {id:Nat} {a0:ú} {w:Λ} (n sz:Nat) (hn:ops.size=n) (hm:P.follows .mixedOrders=Ξ) (E:Iq ops sz=Ξ) (G:a0.tmps.size=sz) (R:Λ->Λ->Prop) (I:∀ x,R x x) (J:∀ x y z,R x y->R y z->R x z) (F:Nat->Ν->Λ->Prop) (Ne:Nat->Nat->Ν->Ν->Prop) (M:∀ i j v u,Ne i j v u->Ne j i u v) (T:∀ i v w w',F i v w->R w w'->F i v w')
  (U:∀ i,i<n->POp P ops Q R F Ne a0 w.drew i) (aa:∀ (vs:Nat->Ν) (w':Λ),R w.drew w'->(∀ i,i<n->F i (vs i) w')->(∀ i j,i<n->j<n->i≠j->Ne i j (vs i) (vs j))->Q .normal (Bq ops vs n a0) w'):(Code.region id ops Ξ).wp P Q a0 w:=by
 subst hn;simp only[Iq,Ϝ] at E;refine wp_region_any hm (Un J M T G E.1 E.2 U aa _ _ a0 w.drew (by simp) ⟨I _,rfl,rfl,λi o _ D=>(by rw[ϫ] at D;cases D),λd _=>rfl,λi j _ _ _ _ _ D=>(by rw[ϫ] at D;cases D)⟩ ?_);have hu:∀ m,unl m (Array.replicate ops.size Τ)=m:=λm=>by
  induction m with
  | zero=>rfl
  | succ m ih=>rw[Fe,ih,ϫ];simp
 exact hu _
def F4 (ops:Array ϳ) (i j dj:Nat):Bool:=(match ops[j]? with|some oj=>decide (oj.dst=Δ dj)|none=>Τ)&&ø .any ops i j
def K0 (ops:Array ϳ) (i j:Nat):Bool:=(match ops[j]? with|some oj=>decide (oj.dst=Γ)|none=>Τ)&&ø .any ops i j
def Kh (ops:Array ϳ) (e:Nat):Bool:=(ι ops.size).all λj=>match ops[j]? with|none=>Ξ|some oj=>decide (oj.dst≠Δ e)
theorem O7 {R:Λ->Λ->Prop} {F:Nat->Ν->Λ->Prop} {Ne:Nat->Nat->Ν->Ν->Prop} {a0:ú} {w1:Λ} {i:Nat} (o:ϳ) (U:ops.toList[i]? = Δ o) (hg:o.guard=Γ)
  (H:∀ a w,R w1 w->(∀ j dj,F4 ops i j dj=Ξ->F j (a.tmps.getD dj ς) w)->(∀ j,K0 ops i j=Ξ->F j ς w)->(∀ e,Kh ops e=Ξ->a.tmps.getD e ς=a0.tmps.getD e ς)->
   o.wp P a w (λa' w'=>∃ v,(o.dst=Γ->v=ς)/\a'=a.put o.dst v/\R w w'/\F i v w'/\∀ j u,j≠i->F j u w->(∀ k J,F4 ops i k J=Ξ->k≠j->Ne k j (a.tmps.getD J ς) u)->Ne i j v u) Q):POp P ops Q R F Ne a0 w1 i:=by
 intro o' M a w hE ab ae;rw[<-æ,U] at M;injection M with M
 subst M;have ho:ops[i]? = Δ o:=by rw[<-æ];exact U
 have T:∀ j,ø .any ops i j=Ξ->∃ e∈o.after,Region.binds .any e=Ξ/\e.on=j:=λj h=>by
  obtain⟨oi,ag,e,he,hb,ai⟩:=Region.waitsFor_spec h;have:oi=o:=ύ (ag.symm.trans ho);subst this;exact⟨e,he,hb,ai⟩
 have aj:∀ j dj,F4 ops i j dj=Ξ->∃ oj,ops[j]? = Δ oj/\(∃ e∈o.after,Region.binds .any e=Ξ/\e.on=j)/\Cz oj a=a.tmps.getD dj ς:=λj dj h=>by
  unfold F4 at h;simp only[Ϝ] at h;obtain⟨D,G⟩:=h;cases E:ops[j]? with
  | none=>rw[E] at D;cases D
  | some oj=>
   rw[E] at D;have I:oj.dst=Δ dj:=of_decide_eq_true D;exact⟨oj,rfl,T j G,by unfold Cz;rw[I]⟩
 refine⟨by simp[Ë,hg],ϳ.wp_mono (λa' w' ⟨v,D,G,h3,h4,h5⟩=>⟨v,D,G,h3,h4,λj u ao hF hd=>h5 j u ao hF λk J hk au=>by
  obtain⟨oj,e1,e2,e3⟩:=aj k J hk;have:=hd k oj e1 e2 au;rw[e3] at this;exact this⟩) (H a w hE (λj dj h=>?_) (λj h=>?_) (λe h=>ae e λj oj E=>?_))⟩
 ·unfold F4 at h;simp only[Ϝ] at h;obtain⟨D,G⟩:=h;cases E:ops[j]? with
  | none=>rw[E] at D;cases D
  | some oj=>
   rw[E] at D;have I:oj.dst=Δ dj:=of_decide_eq_true D;have:=ab j oj E (T j G);unfold Cz at this;rw[I] at this;exact this
 ·unfold K0 at h;simp only[Ϝ] at h;obtain⟨D,G⟩:=h;cases E:ops[j]? with
  | none=>rw[E] at D;cases D
  | some oj=>
   rw[E] at D;have I:oj.dst=Γ:=of_decide_eq_true D;have:=ab j oj E (T j G);unfold Cz at this;rw[I] at this;exact this
 ·unfold Kh at h;rw[Ø] at h;have:=h j (υ.2 (ϐ.1 E).1);rw[E] at this;exact of_decide_eq_true this
theorem Bh {R:Λ->Λ->Prop} {F:Nat->Ν->Λ->Prop} {Ne:Nat->Nat->Ν->Ν->Prop} {a0:ú} {w1:Λ} {i:Nat} (o:ϳ) (d:Tmp) (G:ops.toList[i]? = Δ o) (hd:o.dst=Δ d) (hg:o.guard=Γ)
  (H:∀ a w,R w1 w->(∀ j dj,F4 ops i j dj=Ξ->F j (a.tmps.getD dj ς) w)->(∀ j,K0 ops i j=Ξ->F j ς w)->(∀ e,Kh ops e=Ξ->a.tmps.getD e ς=a0.tmps.getD e ς)->
   o.wp P a w (λD w'=>∃ v,D=a.put (Δ d) v/\R w w'/\F i v w'/\∀ j u,j≠i->F j u w->Ne i j v u) Q):POp P ops Q R F Ne a0 w1 i:=
 O7 o G hg λa w I J M T=>ϳ.wp_mono (λD w' ⟨v,e,h⟩=>⟨v,λE=>(by rw[hd] at E;cases E),by rw[hd];exact e,h.1,h.2.1,λj u a b _=>h.2.2 j u a b⟩) (H a w I J M T)
theorem Ur {R:Λ->Λ->Prop} {F:Nat->Ν->Λ->Prop} {Ne:Nat->Nat->Ν->Ν->Prop} {a0:ú} {w1:Λ} {i:Nat} (o:ϳ) (d:Tmp) (I:ops.toList[i]? = Δ o) (hd:o.dst=Δ d) (hg:o.guard=Γ)
  (H:∀ a w,R w1 w->(∀ j dj,F4 ops i j dj=Ξ->F j (a.tmps.getD dj ς) w)->(∀ j,K0 ops i j=Ξ->F j ς w)->(∀ e,Kh ops e=Ξ->a.tmps.getD e ς=a0.tmps.getD e ς)->
   o.wp P a w (λD w'=>∃ v,D=a.put (Δ d) v/\R w w'/\F i v w'/\∀ j u,j≠i->F j u w->(∀ k E,F4 ops i k E=Ξ->k≠j->Ne k j (a.tmps.getD E ς) u)->Ne i j v u) Q):POp P ops Q R F Ne a0 w1 i:=
 O7 o I hg λa w J M T U=>ϳ.wp_mono (λD w' ⟨v,e,h⟩=>⟨v,λG=>(by rw[hd] at G;cases G),by rw[hd];exact e,h⟩) (H a w J M T U)
theorem Mh {R:Λ->Λ->Prop} {F:Nat->Ν->Λ->Prop} {Ne:Nat->Nat->Ν->Ν->Prop} {a0:ú} {w1:Λ} {i:Nat} (o:ϳ) (E:ops.toList[i]? = Δ o) (hd:o.dst=Γ) (hg:o.guard=Γ)
  (H:∀ a w,R w1 w->(∀ j dj,F4 ops i j dj=Ξ->F j (a.tmps.getD dj ς) w)->(∀ j,K0 ops i j=Ξ->F j ς w)->(∀ e,Kh ops e=Ξ->a.tmps.getD e ς=a0.tmps.getD e ς)->
   o.wp P a w (λD w'=>D=a/\R w w'/\F i ς w'/\∀ j u,j≠i->F j u w->Ne i j ς u) Q):POp P ops Q R F Ne a0 w1 i:=
 O7 o E hg λa w G I J M=>ϳ.wp_mono (λD w' ⟨e,h⟩=>⟨ς,λ_=>rfl,by rw[hd];exact e,h.1,h.2.1,λj u a b _=>h.2.2 j u a b⟩) (H a w G I J M)
end
theorem Ak2 {P:ã} {o:ϳ} {a:ú} {w:Λ} (ty:Á) (x:ϵ) (D:o.op=.load ty x) (g:Nat) (E:a.eval x=Ω (Δ ⟨g,0,Γ⟩)) (t:Á) (cs:Array Ν) (fr:Nat × Nat) (d:TypeDesc) (hg:w.heap[g]? = Δ (.cells cs t fr))
  (hu:P.underlying ty=Δ d) (hd:(match d with|.struct _|.array _ _=>Ξ|_=>Τ)=Ξ) (hi:(P.info? ty).map (·.size)=Δ cs.size):(Ù a.eval o).run P w=.ok (.value (.agg cs)) w:=by
 unfold Ù;simp only[D,E,Instr.loadAt,Instr.sureAddr,Sem.run_bind,Sem.run_pure,Result.andThen_ok,run_loadVar_row w g t ty cs fr d hg hu hd hi]
inductive AV where
 | c (v:Ν)
 | r (R:Λ->Ν->Prop)
def AV.holds (x:AV) (W:Λ) (v:Ν):Prop:=match x with
 | .c u=>v=u
 | .r R=>R W v
def AV.val:AV->Ν
 | .c u=>u
 | .r _=>ς
def AV.Mono (x:AV):Prop:=∀ W W' v,x.holds W v->Ext W W'->x.holds W' v
theorem AV.mono_c (v:Ν):(AV.c v).Mono:=λ_ _ _ h _=>h
def Ex (W:Λ):List AV->List Ν->Prop
 | [],[]=>True
 | x::xs,v::vs=>x.holds W v/\Ex W xs vs
 | _,_=>False
theorem Ku {W:Λ}:∀ {us vs:List Ν},Ex W (us.map AV.c) vs->vs=us
 | [],[],_=>rfl
 | [],_::_,h=>h.elim
 | _::_,[],h=>h.elim
 | u::us,v::vs,h=>by
  have D:v=u:=h.1;rw[D,Ku h.2]
inductive Sc (P:ã) (w:Λ) where
 | pure
 | skip
 | skipu
 | keep
 | load (ty:Á) (g:Nat) (cs:Array Ν) (t:Á) (fr:Nat × Nat) (d:TypeDesc) (hg:∀ W,Ext w W->W.heap[g]? = Δ (.cells cs t fr)) (hu:P.underlying ty=Δ d) (hd:(match d with|.struct _|.array _ _=>Ξ|_=>Τ)=Ξ) (hi:(P.info? ty).map (·.size)=Δ cs.size)
 | call (f:FuncId) (he:∀ args W,(callFunc f args).run P W=.ok (.enter f args) W) (args:List AV) (res:AV) (hm:res.Mono) (h:∀ W vs,Ext w W->Ex W args vs->Calls P f vs.toArray W λe w'=>∃ v,e=.returned v/\res.holds w' v/\Ext W w')
 | gen (op:Op) (args:List AV) (res:AV) (hm:res.Mono) (h:∀ (ρ:ϵ->Ν) (o:ϳ) W,o.op=op->Ext w W->Ex W args (op.operands.toList.map ρ)->∃ v,(Ù ρ o).run P W=.ok (.value v) W/\res.holds W v)
def upd (E:Nat->AV) (d:Nat) (x:AV):Nat->AV:=λn=>if n=d then x else E n
def oev (E:Nat->AV):ϵ->AV
 | .tmp t=>E t
 | .const v=>.c v
 | .global g=>.c (Ω (Δ ⟨g,0,Γ⟩))
 | .func f=>.c (.func (.func f) #[] #[])
section
variable {P:Program} {w:World}
def pvX:Result Next->Ν
 | .ok (.value v) _=>v
 | _=>ς
def pv (P:ã) (w:Λ) (E:Nat->AV) (o:ϳ):Ν:=pvX ((Ù (λx=>(oev E x).val) o).run P w)
def moved (E:Nat->AV):Op->AV
 | .move x=>oev E x
 | .assign x=>oev E x
 | _=>.c ς
def Im (P:ã) (w:Λ) (E:Nat->AV) (o:ϳ):Sc P w->AV
 | .pure=>.c (pv P w E o)
 | .skip=>.c ς
 | .skipu=>.c ς
 | .keep=>moved E o.op
 | .load _ _ cs _ _ _ _ _ _ _=>.c (.agg cs)
 | .call _ _ _ res _ _=>res
 | .gen _ _ res _ _=>res
def scE (P:ã) (w:Λ):List ϳ->List (Sc P w)->(Nat->AV)->(Nat->AV)
 | o::l,s::D,E=>scE P w l D (match o.dst with|some d=>upd E d (Im P w E o s)|none=>E)
 | _,_,E=>E
inductive XX where
 | av (a:AV)
 | res (r:Result Next)
 | ty (t:Á)
 | op (o:Op)
 | fn (f:FuncId)
 | no
def Jh (l:List ϳ) (k:Nat):Nat:=match l[k]? with
 | some o=>o.dst.getD 0
 | none=>0
def scL (l:List ϳ) (E:Nat->AV) (o:ϳ) (W:Λ) (s:Sc P w):List XX:=
 XX.av (E (o.dst.getD 0))::(match o.guard with|none=>[]|some (k,_)=>[XX.av (E (Jh l k))])++
 match s with
 | .pure=>XX.res ((Ù (λx=>(oev E x).val) o).run P W)::o.op.operands.toList.map λx=>XX.av (oev E x)
 | .skip=>[]
 | .skipu=>[]
 | .keep=>match o.op with|.move x=>[XX.op (.move x)]|.assign x=>[XX.op (.move x)]|_=>[XX.no]
 | .load ty _ _ _ _ _ _ _ _ _=>match o.op with|.load t x=>[XX.ty t,XX.av (oev E x)]|_=>[XX.no]
 | .call f _ _ _ _ _=>match o.op with|.call c=>(match c.callee with|.value (.func f)=>XX.fn f::c.args.toList.map λx=>XX.av (oev E x)|_=>[XX.no])|_=>[XX.no]
 | .gen _ _ _ _ _=>XX.op o.op::o.op.operands.toList.map λx=>XX.av (oev E x)
def scR (l:List ϳ) (E:Nat->AV) (o:ϳ) (W:Λ) (s:Sc P w):List XX:=
 XX.av (Im P w E o s)::(match o.guard with|none=>[]|some (_,b)=>[XX.av (.c (match s with|.skip=>.bool (!b)|.skipu=>ς|_=>.bool b))])++
 match s with
 | .pure=>XX.res (.ok (.value (pv P w E o)) W)::o.op.operands.toList.map λx=>XX.av (.c (oev E x).val)
 | .skip=>(match o.guard with|none=>[XX.no]|some _=>[])
 | .skipu=>(match o.guard with|none=>[XX.no]|some _=>[])
 | .keep=>match o.op with|.move x=>[XX.op (.move x)]|.assign x=>[XX.op (.move x)]|_=>[]
 | .load ty g _ _ _ _ _ _ _ _=>[XX.ty ty,XX.av (.c (Ω (Δ ⟨g,0,Γ⟩)))]
 | .call f _ args _ _ _=>XX.fn f::args.map XX.av
 | .gen op args _ _ _=>XX.op op::args.map XX.av
def Js (l:List ϳ) (E:Nat->AV) (W:Λ):List ϳ->List (Sc P w)->List (List XX)
 | o::os,s::D=>scL l E o W s::Js l E W os D
 | _,_=>[]
def Jr (l:List ϳ) (E:Nat->AV) (W:Λ):List ϳ->List (Sc P w)->List (List XX)
 | o::os,s::D=>scR l E o W s::Jr l E W os D
 | _,_=>[]
def Ti (l:List ϳ) (i:Nat) (t:Nat):Bool:=(ι l.length).all λj=>match l[j]? with
 | none=>Τ
 | some oj=>if oj.dst=Δ t then ø .any l.toArray i j else Ξ
def Pf (l:List ϳ) (i:Nat) (o:ϳ):Bool:=
 (match o.op with|.select _ _=>Τ|_=>Ξ)&&o.dst.isSome&&(o.op.operands.toList.all λx=>match x with|.tmp t=>Ti l i t|_=>Ξ)&&
 (match o.guard with|none=>Ξ|some (k,_)=>(match l[k]? with|some ok=>ok.dst.isSome|none=>Τ)&&ø .any l.toArray i k)
def scB (l:List ϳ) (sz:Nat):Bool:=Iq l.toArray sz&&(ι l.length).all λi=>match l[i]? with
 | none=>Τ
 | some o=>Pf l i o
def ROp (P:ã) (ops:Array ϳ) (Q:Exit->ú->Λ->Prop) (F:Nat->Ν->Λ->Prop) (a0:ú) (w1:Λ) (i:Nat):Prop:=
 ∀ o,ops[i]? = Δ o->∀ a w,Ext w1 w->
  (∀ j oj,ops[j]? = Δ oj->ø .any ops i j=Ξ->F j (Cz oj a) w)->
  (∀ e,(∀ (j:Nat) (oj:ϳ),ops[j]? = Δ oj->oj.dst≠Δ e)->a.tmps.getD e ς=a0.tmps.getD e ς)->
  (Ë o (yielded ops a.tmps)=Ξ/\o.wp P a w (λD w'=>∃ v,(o.dst=Γ->v=ς)/\D=a.put o.dst v/\Ext w w'/\F i v w') Q)\/
  (Ë o (yielded ops a.tmps)=Τ/\F i ς w)
structure RegI (ops:Array ϳ) (F:Nat->Ν->Λ->Prop) (a0:ú) (w1:Λ) (listed:Nat->Bool) (a:ú) (w:Λ):Prop where
 ext:Ext w1 w
 defers:a.defers=a0.defers
 size:a.tmps.size=a0.tmps.size
 done:∀ i o,ops[i]? = Δ o->listed i=Ξ->F i (Cz o a) w
 rest:∀ d,(∀ i o,ops[i]? = Δ o->listed i=Ξ->o.dst≠Δ d)->a.tmps.getD d ς=a0.tmps.getD d ς
theorem Mc {ops:Array ϳ} {F:Nat->Ν->Λ->Prop} (T:∀ i v w w',F i v w->Ext w w'->F i v w') {a0:ú} {w1:Λ} {sz:Nat} (U:a0.tmps.size=sz) (hd:Ez ops sz=Ξ) {listed:Nat->Bool} {a:ú} {w w':Λ} (D:RegI ops F a0 w1 listed a w)
  {i:Nat} {o:ϳ} (I:ops[i]? = Δ o) {v:Ν} (aa:o.dst=Γ->v=ς) (J:Ext w w') (hv:F i v w'):RegI ops F a0 w1 (λj=>decide (j=i)||listed j) (a.put o.dst v) w':=by
 have has:a.tmps.size=sz:=by rw[D.size,U]
 refine⟨D.ext.trans J,by rw[(Ip a o.dst v).2];exact D.defers,by rw[(Ip a o.dst v).1];exact D.size,λj oj G E=>?_,λe he=>?_⟩
 ·rw[Lt hd I has aa G];by_cases e:j=i
  ·rw[if_pos e,e];exact hv
  ·rw[if_neg e];have E:listed j=Ξ:=by simpa [e] using E
   exact T _ _ _ _ (D.done j oj G E) J
 ·have h1:(a.put o.dst v).tmps.getD e ς=a.tmps.getD e ς:=by
   cases M:o.dst with
   | none=>rfl
   | some d=>
    rw[Ev _ _ _ _ (by rw[has];exact (Ho hd i o I d M).1),if_neg];exact λh=>he i o I (by simp) (by rw[M,h])
  rw[h1];exact D.rest e λj oj G E=>he j oj G (by simp[E])
theorem RegI.congr {ops:Array ϳ} {F:Nat->Ν->Λ->Prop} {a0:ú} {w1:Λ} {l I:Nat->Bool} {a:ú} {w:Λ} (D:RegI ops F a0 w1 l a w) (h:∀ j,j<ops.size->l j=I j):RegI ops F a0 w1 I a w where
 ext:=D.ext
 defers:=D.defers
 size:=D.size
 done:=λi o E G=>D.done i o E (by rw[h i (ϐ.1 E).1];exact G)
 rest:=λd hd=>D.rest d λi o E G=>hd i o E (by rw[<-h i (ϐ.1 E).1];exact G)
theorem Sj {ops:Array ϳ} {i j:Nat} {o:ϳ} (D:ops[i]? = Δ o) (h:ø .any ops i j=Ξ):∃ e∈o.after,Region.binds .any e=Ξ/\e.on=j:=by
 obtain⟨oi,E,e,he,G,I⟩:=Region.waitsFor_spec h;obtain rfl:oi=o:=ύ (E.symm.trans D);exact⟨e,he,G,I⟩
theorem Ad4 {ops:Array ϳ} {Q:Exit->ú->Λ->Prop} {F:Nat->Ν->Λ->Prop} (M:∀ i v w w',F i v w->Ext w w'->F i v w') {a0:ú} {w1:Λ} {sz:Nat} (T:a0.tmps.size=sz) (hd:Ez ops sz=Ξ) {listed:Array Bool} (aa:listed.size=ops.size) {a:ú} {w:Λ} (E:RegI ops F a0 w1 (λj=>listed.getD j Τ) a w)
  {i:Nat} (hi:i∈É .any ops listed) (H:ROp P ops Q F a0 w1 i):wpOp P ops Q i (λG w'=>RegI ops F a0 w1 (λj=>(listed.setIfInBounds i Ξ).getD j Τ) G w') a w:=by
 obtain⟨aj,o,D,ab⟩:=mem_ready.1 hi;have ad:=(ϐ.1 D).1;have U:∀ {G w'},RegI ops F a0 w1 (λj=>decide (j=i)||listed.getD j Τ) G w'->RegI ops F a0 w1 (λj=>(listed.setIfInBounds i Ξ).getD j Τ) G w':=λh=>h.congr λj hj=>by
  by_cases e:i=j
  ·subst e;simp[aa▸ad]
  ·rw[getD_set_ne Τ e];simp[Ne.symm e]
 have:=H o D a w E.ext (λj oj J I=>by
  obtain⟨e,he,hb,af⟩:=Sj D I;exact E.done j oj J (by rw[<-af];exact ab e he hb)) (λe he=>E.rest e λj oj J _=>he j oj J)
 unfold wpOp;rw[D];rcases this with⟨I,ag⟩|⟨I,hv⟩
 ·simp only[I,if_true];refine .inl (ϳ.wp_mono (λG w' h=>?_) ag);obtain⟨v,ah,rfl,hE,hv⟩:=h;exact U (Mc M T hd E D ah hE hv)
 ·simp only[I];exact U (Mc M T hd E D (λ_=>rfl) (Θ w) hv)
theorem Tw {ops:Array ϳ} {Q:Exit->ú->Λ->Prop} {F:Nat->Ν->Λ->Prop} (J:∀ i v w w',F i v w->Ext w w'->F i v w') {a0:ú} {w1:Λ} {sz:Nat} (M:a0.tmps.size=sz) (hd:Ez ops sz=Ξ) (T:E5 ops ops.size=Ξ)
  (U:∀ i,i<ops.size->ROp P ops Q F a0 w1 i) (aa:∀ a w,RegI ops F a0 w1 (λ_=>Ξ) a w->Q .normal a w) :
  ∀ (f:Nat) (listed:Array Bool) (a:ú) (w:Λ),listed.size=ops.size->RegI ops F a0 w1 (λj=>listed.getD j Τ) a w->unl ops.size listed=f->wpAny P .any ops Q f listed a w
 | 0,listed,a,w,hs,G,hu=>by
  have ab:=Ig _ listed hu;refine⟨?_,aa a w (G.congr λj hj=>ab j hj)⟩;refine List.eq_nil_iff_forall_not_mem.2 λi hi=>?_
  obtain⟨D,o,I,_⟩:=mem_ready.1 hi;have ah:=(ϐ.1 I).1;have:=ab i ah;have E:i<listed.size:=by omega
  rw[ϡ,ϟ E] at D this;rw[ì] at D this;rw[this] at D;cases D
 | f+1,listed,a,w,hs,G,hu=>by
  obtain⟨k,hk,aj,ak⟩:=Ko ops.size listed (by omega);have ad:=Mu T hs (ν _) k hk ak aj;refine⟨λh0=>(by rw[h0] at ad;cases ad),λi hi=>?_⟩;obtain⟨ae,o,I,_⟩:=mem_ready.1 hi;have af:=(ϐ.1 I).1;have E:i<listed.size:=by omega
  have an:listed.getD i Τ=Τ:=by
   rw[ϡ,ϟ E] at ae ⊢;exact ae
  refine wpOp_mono (λa' w' h=>Tw J M hd T U aa f _ a' w' (by rw[Array.size_setIfInBounds];exact hs) h ?_) (Ad4 J M hd hs G hi (U i af));have:=J1 _ listed i af E an;show unl ops.size (listed.setIfInBounds i Ξ)=f;omega
theorem Tv {ops:Array ϳ} {Q:Exit->ú->Λ->Prop} {F:Nat->Ν->Λ->Prop} (J:∀ i v w w',F i v w->Ext w w'->F i v w') {a0:ú} {w1:Λ} {sz:Nat} (M:a0.tmps.size=sz) (hd:Ez ops sz=Ξ) (hE:E5 ops ops.size=Ξ)
  (ae:∀ i,i<ops.size->ROp P ops Q F a0 w1 i) (af:∀ a w,RegI ops F a0 w1 (λ_=>Ξ) a w->Q .normal a w) :
  ∀ (l:List ϳ) (k:Nat) (a:ú) (w:Λ),(∀ j,l[j]? = ops[k+j]?)->RegI ops F a0 w1 (λj=>decide (j<k)) a w->wpList P ops Q l a w
 | [],k,a,w,I,D=>af a w (D.congr λj hj=>by
   have:ops[k]? = Γ:=by simpa using (I 0).symm
   have:=Array.getElem?_eq_none_iff.1 this;simp;omega)
 | o::l,k,a,w,I,D=>by
  have E:ops[k]? = Δ o:=by simpa using (I 0).symm
  have hk:=(ϐ.1 E).1;have ah:∀ {T w'},RegI ops F a0 w1 (λj=>decide (j=k)||decide (j<k)) T w'->wpList P ops Q l T w':=λh=>Tv J M hd hE ae af l (k+1) _ _ (λj=>by have:=I (j+1);simpa [Nat.add_assoc,Nat.add_comm 1 j] using this) (h.congr λj _=>by rw[Bool.eq_iff_iff];simp only[Å,decide_eq_true_eq];omega)
  have:=ae k hk o E a w D.ext (λj oj U G=>D.done j oj U (by
   obtain⟨e,he,hb,aq⟩:=Sj E G;have h2:=hE;unfold E5 at h2;rw[Ø] at h2;have h3:=h2 k (υ.2 hk);rw[E] at h3;simp only[Array.all_eq_true'] at h3;have h4:=h3 e he;simp only[hb,Bool.not_true,Bool.false_or,decide_eq_true_eq] at h4;simp;omega)) (λe he=>D.rest e λj oj U _=>he j oj U)
  show if _ then _ else _
  rcases this with⟨G,ak⟩|⟨G,hv⟩
  ·rw[if_pos G];refine .inl (ϳ.wp_mono (λT w' h=>?_) ak);obtain⟨v,al,rfl,an,hv⟩:=h;exact ah (Mc J M hd D E al an hv)
  ·rw[if_neg (by rw[G];exact Bool.false_ne_true)];exact ah (Mc J M hd D E (λ_=>rfl) (Θ w) hv)
theorem Ps {α:Type} {l:List α} {i:Nat} {x:α} (h:l.toArray[i]? = Δ x):l[i]? = Δ x:=by simpa using h
theorem Ri {l:List ϳ} {E:Nat->AV} {W:Λ}:∀ (os:List ϳ) (D:List (Sc P w)) (i:Nat) (o:ϳ),Js l E W os D=Jr l E W os D->os.length=D.length->os[i]? = Δ o->∃ s,D[i]? = Δ s/\scL l E o W s=scR l E o W s
 | [],_,i,o,_,_,h=>by simp at h
 | o'::os,[],i,o,_,G,_=>by simp at G
 | o'::os,s::D,0,o,h,_,I=>by
  obtain rfl:o'=o:=by simpa using I
  exact⟨s,by simp,(List.cons.inj h).1⟩
 | o'::os,s::D,i+1,o,h,G,I=>by
  obtain⟨s',J,M⟩:=Ri os D i o (List.cons.inj h).2 (by simpa using G) (by simpa using I);exact⟨s',by simpa using J,M⟩
theorem Lo:∀ {xs D:List AV},xs.map XX.av=D.map XX.av->xs=D
 | [],[],_=>rfl
 | [],_::_,h=>by cases h
 | _::_,[],h=>by cases h
 | x::xs,y::D,h=>by
  simp only[List.map_cons,List.cons.injEq,XX.av.injEq] at h;rw[h.1,Lo h.2]
theorem Qg {W:Λ} {E:Nat->AV} {ρ:ϵ->Ν}:∀ (xs:List ϵ),(∀ x∈xs,(oev E x).holds W (ρ x))->Ex W (xs.map (oev E)) (xs.map ρ)
 | [],_=>trivial
 | x::xs,h=>⟨h x List.mem_cons_self,Qg xs λy D=>h y (List.mem_cons_of_mem _ D)⟩
theorem Add {l:List ϳ} {Q:Exit->ú->Λ->Prop} {E:Nat->AV} {a0:ú} {sz:Nat} (hB:scB l sz=Ξ) {i:Nat} {o:ϳ} (ho:l[i]? = Δ o) {s:Sc P w}
  (hs:∀ W,scL l E o W s=scR l E o W s) (h0:∀ e,(∀ (j:Nat) (oj:ϳ),l[j]? = Δ oj->oj.dst≠Δ e)->E e=.c (a0.tmps.getD e ς)) :
  ROp P l.toArray Q (λi v W=>match l[i]? with|some o=>(E (o.dst.getD 0)).holds W v|none=>True) a0 w i:=by
 intro o' bh a W hE bj bk;obtain rfl:o=o':=ύ (ho.symm.trans (Ps bh));simp only[scB,Ϝ,Ø,υ] at hB;have bl:i<l.length:=(ϊ.1 ho).1;have D:=hB.2 i bl;rw[ho] at D;simp only[Pf,Ϝ] at D;obtain⟨⟨⟨a7,bm⟩,bn⟩,I⟩:=D;have bo:∀ cs b,o.op≠.select cs b:=λcs b e=>by rw[e] at a7;cases a7
 obtain⟨d,hd⟩:=Option.isSome_iff_exists.1 bm;have aw:∀ (j:Nat) (oj:ϳ) (dj:Nat),l[j]? = Δ oj->oj.dst=Δ dj->ø .any l.toArray i j=Ξ->(E dj).holds W (a.tmps.getD dj ς):=λj oj dj T ai hw=>by
  have:=bj j oj (by simpa using T) hw;simp only[T] at this;unfold Cz at this;rw[ai] at this;exact this
 have hx:∀ x∈o.op.operands,(oev E x).holds W (a.eval x):=λx hx=>by
  have J:=(Ø.1 bn) x (by simpa using hx);cases x with
  | const v=>rfl
  | global g=>rfl
  | func f=>rfl
  | tmp t=>
   simp only[Ti,Ø,υ] at J;by_cases a8:∃ (j:Nat) (oj:ϳ),l[j]? = Δ oj/\oj.dst=Δ t
   ·obtain⟨j,oj,T,ai⟩:=a8;have:=J j (ϊ.1 T).1;rw[T] at this;simp only[ai,if_true] at this;exact aw j oj t T ai this
   ·have ba:∀ (j:Nat) (oj:ϳ),l[j]? = Δ oj->oj.dst≠Δ t:=λj oj T ai=>a8 ⟨j,oj,T,ai⟩
    show (E t).holds W (a.tmps.getD t ς);rw[h0 t ba,bk t λj oj T=>ba j oj (Ps T)];rfl
 have bb:=hs W;have br:E d=Im P w E o s:=by
  have:=(List.cons.inj bb).1;rw[hd] at this;exact XX.av.inj this
 have hF:∀ v W',(match l[i]? with|some o=>(E (o.dst.getD 0)).holds W' v|none=>True)=(Im P w E o s).holds W' v:=λv W'=>by
  rw[ho];show (E (o.dst.getD 0)).holds W' v=_;rw[hd];show (E d).holds W' v=_;rw[br]
 have bt:=(List.cons.inj bb).2;have bu:∀ (k:Nat) (b x:Bool),o.guard=Δ (k,b)->E (Jh l k)=.c (.bool x)->yielded l.toArray a.tmps k=Δ x:=λk b x hg he=>by
  rw[hg] at I;simp only[Ϝ] at I;cases M:l[k]? with
  | none=>rw[M] at I;exact absurd I.1 (by simp)
  | some ok=>
   rw[M] at I;obtain⟨U,af⟩:=Option.isSome_iff_exists.1 I.1;have h1:=aw k ok U M af I.2;have h2:Jh l k=U:=by simp[Jh,M,af]
   rw[h2] at he;rw[he] at h1;have h3:a.tmps.getD U ς=.bool x:=h1;have h4:a.tmps[U]? = Δ (.bool x):=by
    rw[ϡ] at h3;cases hh:a.tmps[U]? with
    | none=>rw[hh] at h3;cases h3
    | some u=>rw[hh] at h3;exact congrArg Δ h3
   unfold yielded;have h5:l.toArray[k]? = Δ ok:=by simpa using M
   rw[h5];simp only[Option.bind_some,af,h4]
 have aj:∀ b,(∀ k b',o.guard=Δ (k,b')->yielded l.toArray a.tmps k=Δ (if b then b' else !b'))->(b=Τ->o.guard≠Γ)->Ë o (yielded l.toArray a.tmps)=b:=λb h1 h2=>by
  unfold Ë;cases hg:o.guard with
  | none=>cases b with
   | false=>exact absurd hg (h2 rfl)
   | true=>rfl
  | some p=>
   obtain⟨k,b'⟩:=p;simp only[h1 k b' hg];cases b<;>cases b'<;>rfl
 obtain⟨hG,G⟩:=List.append_inj bt (by cases o.guard<;>rfl);have ak:∀ b':Bool,(match s with|.skip=>Δ Τ|.skipu=>Γ|_=>Δ Ξ)=Δ b'->∀ k b,o.guard=Δ (k,b)->yielded l.toArray a.tmps k=Δ (if b' then b else !b):=λb' bc k b hg=>by
  rw[hg] at hG;simp only[List.cons.injEq,XX.av.injEq,and_true] at hG;refine bu k b _ hg (hG.trans ?_);cases s<;>first|(cases bc;rfl)|(cases bc)
 have al:∀ v:Ν,o.dst=Γ->v=ς:=λv h=>by rw[hd] at h;cases h
 have hρ:(∀ x∈o.op.operands,oev E x=.c (oev E x).val)->Ù a.eval o=Ù (λx=>(oev E x).val) o:=λh=>execOp_congr o bo λx J=>by
  have:=hx x J;rw[h x J] at this;exact this
 cases s with
 | skip=>
  refine .inr ⟨aj Τ (ak Τ rfl) (λ_ hg=>?_),?_⟩
  ·rw[hg] at G;exact absurd G (by simp)
  ·simp only[hF];rfl
 | skipu=>
  cases hg:o.guard with
  | none=>rw[hg] at G;exact absurd G (by simp)
  | some p=>
   obtain⟨k,b⟩:=p;rw[hg] at hG I;simp only[List.cons.injEq,XX.av.injEq,and_true] at hG;simp only[Ϝ] at I;have hy:yielded l.toArray a.tmps k=Γ:=by
    cases M:l[k]? with
    | none=>rw[M] at I;exact absurd I.1 (by simp)
    | some ok=>
     rw[M] at I;obtain⟨U,af⟩:=Option.isSome_iff_exists.1 I.1;have h1:=aw k ok U M af I.2;have h2:Jh l k=U:=by simp[Jh,M,af]
     rw[h2] at hG;rw[hG] at h1;have h3:a.tmps.getD U ς=ς:=h1;unfold yielded;have h5:l.toArray[k]? = Δ ok:=by simpa using M
     rw[h5];simp only[Option.bind_some,af];rw[ϡ] at h3;cases hh:a.tmps[U]? with
     | none=>rfl
     | some u=>
      rw[hh] at h3;have h4:u=ς:=h3;rw[h4];rfl
   refine .inr ⟨?_,?_⟩
   ·unfold Ë;simp only[hg,hy];rfl
   ·simp only[hF];rfl
 | pure=>
  refine .inl ⟨aj Ξ (ak Ξ rfl) (λh=>by cases h),?_⟩;obtain⟨hr,az⟩:=List.cons.inj G;have hr:=XX.res.inj hr;have bz:∀ x∈o.op.operands,oev E x=.c (oev E x).val:=λx J=>by
   have e:(o.op.operands.toList.map (oev E)).map XX.av=(o.op.operands.toList.map λx=>AV.c (oev E x).val).map XX.av:=by
    rw[List.map_map,List.map_map];exact az
   exact List.map_inj_left.1 (Lo e) x (by simpa using J)
  refine C4 (v:=pv P w E o) (w':=W) (by rw[hρ bz];exact hr) ?_;exact⟨_,al _,rfl,Θ W,by simp only[hF];rfl⟩
 | keep=>
  refine .inl ⟨aj Ξ (ak Ξ rfl) (λh=>by cases h),?_⟩;cases D:o.op with
  | move x=>
   refine C4 (v:=a.eval x) (w':=W) (BigFrame.run_move x D W) ⟨_,al _,rfl,Θ W,?_⟩;simp only[hF,Im,moved,D];exact hx x (by rw[D];simp[Op.operands])
  | assign x=>
   refine C4 (v:=a.eval x) (w':=W) (BigFrame.run_assign x D W) ⟨_,al _,rfl,Θ W,?_⟩;simp only[hF,Im,moved,D];exact hx x (by rw[D];simp[Op.operands])
  | _=>simp[D] at G
 | load ty g cs t fr dd hg hu b4 hi=>
  refine .inl ⟨aj Ξ (ak Ξ rfl) (λh=>by cases h),?_⟩;have G:(match o.op with|.load t x=>[XX.ty t,XX.av (oev E x)]|_=>[XX.no])=[XX.ty ty,XX.av (.c (Ω (Δ ⟨g,0,Γ⟩)))]:=G;cases D:o.op with
  | load t' x=>
   simp only[D,List.cons.injEq,XX.ty.injEq,XX.av.injEq,and_true] at G;obtain⟨rfl,a1⟩:=G;have bd:=hx x (by rw[D];simp[Op.operands]);rw[a1] at bd;refine C4 (v:=.agg cs) (w':=W) (Ak2 t' x D g bd t cs fr dd (hg W hE) hu b4 hi) ⟨_,al _,rfl,Θ W,?_⟩;simp only[hF];rfl
  | _=>simp[D] at G
 | call f he args res hm h=>
  refine .inl ⟨aj Ξ (ak Ξ rfl) (λh=>by cases h),?_⟩;have G:(match o.op with|.call c=>(match c.callee with|.value (.func f)=>XX.fn f::c.args.toList.map λx=>XX.av (oev E x)|_=>[XX.no])|_=>[XX.no])=XX.fn f::args.map XX.av:=G;cases D:o.op with
  | call c=>
   simp only[D] at G;cases hc:c.callee with
   | value fx=>
    cases fx with
    | func f'=>
     simp only[hc,List.cons.injEq,XX.fn.injEq] at G;obtain⟨rfl,a1⟩:=G;have e:(c.args.toList.map (oev E)).map XX.av=args.map XX.av:=by rw[List.map_map];exact a1
     have b7:=Lo e;have hh:Ex W args (c.args.toList.map a.eval):=by
      rw[<-b7];exact Qg _ λx J=>hx x (by rw[D];simp[Op.operands,Call.operands,hc];exact .inr (by simpa using J))
     have hC:=h W _ hE hh;have b9:(Ù a.eval o).run P W=.ok (.enter f' (c.args.toList.map a.eval).toArray) W:=by
      have e1:Ù a.eval o=callFunc f' (c.args.toList.map a.eval).toArray:=by
       obtain⟨ck,op,cl,pos,cm,guard⟩:=o;simp only at D;subst D;obtain⟨cn,cp,cq⟩:=c;simp only at hc;subst hc;rw[execOp_call_go]
       congr 1
       apply Array.toList_inj.1;simp
      rw[e1];exact he _ W
     unfold ϳ.wp;rw[b9,ϳ.upon_enter];refine hC.mono λe W' ⟨v,cb,hv,cd⟩=>?_
     subst cb;exact⟨v,al _,rfl,cd,by simp only[hF];exact hv⟩
    | _=>simp[hc] at G
   | _=>simp[hc] at G
  | _=>simp[D] at G
 | gen op args res hm h=>
  refine .inl ⟨aj Ξ (ak Ξ rfl) (λh=>by cases h),?_⟩;obtain⟨D,az⟩:=List.cons.inj G;have D:=XX.op.inj D;have e:(o.op.operands.toList.map (oev E)).map XX.av=args.map XX.av:=by rw[List.map_map];exact az
  have hh:Ex W args (op.operands.toList.map a.eval):=by
   rw[<-Lo e,<-D];exact Qg _ λx J=>hx x (by simpa using J)
  obtain⟨v,hr,hv⟩:=h a.eval o W D hE hh;exact C4 hr ⟨v,al _,rfl,Θ W,by simp only[hF];exact hv⟩
theorem Ts:∀ (l:List ϳ) (D:List (Sc P w)) (E:Nat->AV),(∀ e,(E e).Mono)->∀ e,(scE P w l D E e).Mono
 | [],_,E,h,e=>by unfold scE;exact h e
 | _::_,[],E,h,e=>by unfold scE;exact h e
 | o::l,s::D,E,h,e=>by
  have I:∀ x,(oev E x).Mono:=λx=>by
   cases x with
   | tmp t=>exact h t
   | _=>exact AV.mono_c _
  unfold scE;refine Ts l D _ (λG=>?_) e;cases o.dst with
  | none=>exact h G
  | some d=>
   show (upd E d _ G).Mono;unfold upd;split
   ·cases s with
    | keep=>
     show (moved E o.op).Mono;unfold moved;split
     ·exact I _
     ·exact I _
     ·exact AV.mono_c _
    | call f he args res hm J=>exact hm
    | gen op args res hm J=>exact hm
    | _=>exact AV.mono_c _
   ·exact h G
theorem Ol:∀ (l:List ϳ) (D:List (Sc P w)) (E:Nat->AV) (e:Nat),(∀ (j:Nat) (oj:ϳ),l[j]? = Δ oj->oj.dst≠Δ e)->scE P w l D E e=E e
 | [],_,E,e,_=>by unfold scE;rfl
 | _::_,[],E,e,_=>by unfold scE;rfl
 | o::l,s::D,E,e,h=>by
  unfold scE;rw[Ol l D _ e λj oj G=>h (j+1) oj (by simpa using G)];cases hd:o.dst with
  | none=>rfl
  | some d=>
   show upd E d _ e=E e;unfold upd;rw[if_neg λhe=>h 0 o rfl (by rw[hd,he])]
def ev0 (a:ú):Nat->AV:=λn=>.c (a.tmps.getD n ς)
theorem Rw {id:Nat} {l:List ϳ} {Q:Exit->ú->Λ->Prop} {a0:ú} (sz:Nat) (dr:Bool) (D:List (Sc P w)) (hm:dr=Ξ->P.follows .mixedOrders=Ξ) (hB:scB l sz=Ξ) (ab:a0.tmps.size=sz) (I:l.length=D.length)
  (hs:∀ W,Js l (scE P w l D (ev0 a0)) W l D=Jr l (scE P w l D (ev0 a0)) W l D)
  (ai:∀ U W,Ext w W->U.defers=a0.defers->U.tmps.size=sz->(∀ e,(scE P w l D (ev0 a0) e).holds W (U.tmps.getD e ς))->Q .normal U W):(Code.region id l.toArray dr).wp P Q a0 w:=by
 have M:Iq l.toArray sz=Ξ:=by
  have:=hB;simp only[scB,Ϝ] at this;exact this.1
 simp only[Iq,Ϝ] at M;obtain⟨E,hE⟩:∃ E,scE P w l D (ev0 a0)=E:=⟨_,rfl⟩;have aw:∀ e,(E e).Mono:=λe=>by rw[<-hE];exact Ts l D _ (λe=>AV.mono_c _) e
 have h0:∀ e,(∀ (j:Nat) (oj:ϳ),l[j]? = Δ oj->oj.dst≠Δ e)->E e=.c (a0.tmps.getD e ς):=λe he=>by rw[<-hE];exact Ol l D _ e he
 rw[hE] at hs ai;have hF:∀ (i:Nat) v W W',(match l[i]? with|some o=>(E (o.dst.getD 0)).holds W v|none=>True)->Ext W W'->(match l[i]? with|some o=>(E (o.dst.getD 0)).holds W' v|none=>True):=λi v W W' h hx=>by
  cases I:l[i]? with
  | none=>trivial
  | some o=>rw[I] at h;exact aw _ W W' v h hx
 have al:∀ i,i<l.toArray.size->ROp P l.toArray Q (λi v W=>match l[i]? with|some o=>(E (o.dst.getD 0)).holds W v|none=>True) a0 w i:=λi hi=>by
  have T:l[i]? = Δ (l[i]'(by simpa using hi)):=Μ _;have:∃ s,D[i]? = Δ s/\∀ W,scL l E (l[i]'(by simpa using hi)) W s=scR l E (l[i]'(by simpa using hi)) W s:=by
   obtain⟨s,h1,_⟩:=Ri l D i _ (hs w) I T;refine⟨s,h1,λW=>?_⟩;obtain⟨s',ao,h2⟩:=Ri l D i _ (hs W) I T;rw[h1] at ao;rw[ύ ao];exact h2
  obtain⟨s,_,h2⟩:=this;exact Add hB T h2 h0
 have aq:∀ a W,RegI l.toArray (λi v W=>match l[i]? with|some o=>(E (o.dst.getD 0)).holds W v|none=>True) a0 w (λ_=>Ξ) a W->Q .normal a W:=λa W G=>by
  refine ai a W G.ext G.defers (G.size.trans ab) λe=>?_
  by_cases ar:∃ (j:Nat) (oj:ϳ),l[j]? = Δ oj/\oj.dst=Δ e
  ·obtain⟨j,oj,J,ag⟩:=ar;have:=G.done j oj (by simpa using J) rfl;rw[J] at this;simp only[ag,Cz] at this;exact this
  ·have au:∀ (j:Nat) (oj:ϳ),l[j]? = Δ oj->oj.dst≠Δ e:=λj oj J ag=>ar ⟨j,oj,J,ag⟩
   rw[h0 e au,G.rest e λj oj J _=>au j oj (Ps J)];rfl
 cases dr with
 | false=>exact wp_region_lit (Tv hF ab M.1 M.2 al aq l 0 a0 w (λj=>by simp) ⟨Θ w,rfl,rfl,λi o _ h=>by simp at h,λd _=>rfl⟩)
 | true=>
  have ax:∀ i,i<l.toArray.size->ROp P l.toArray Q (λi v W=>match l[i]? with|some o=>(E (o.dst.getD 0)).holds W v|none=>True) a0 w.drew i:=λi hi o T a W hx=>al i hi o T a W ((Θ w).drew.trans hx)
  refine wp_region_any (hm rfl) (Tw hF ab M.1 M.2 ax (λa W G=>aq a W ⟨(Θ w).drew.trans G.ext,G.defers,G.size,G.done,G.rest⟩) _ _ a0 w.drew (by simp) ⟨Θ _,rfl,rfl,λi o _ I=>(by rw[ϫ] at I;cases I),λd _=>rfl⟩ ?_);have hu:∀ m,unl m (Array.replicate l.toArray.size Τ)=m:=λm=>by
   induction m with
   | zero=>rfl
   | succ m ih=>rw[Fe,ih,ϫ];simp
  exact hu _
theorem Z6 {id:Nat} {l:List ϳ} {Q:Exit->ú->Λ->Prop} {a0:ú} (sz:Nat) (G:Bool) (t:Nat) (v:Ν) (D:List (Sc P w)) (hm:G=Ξ->P.follows .mixedOrders=Ξ) (I:scB l sz=Ξ) (J:a0.tmps.size=sz) (M:l.length=D.length)
  (hs:∀ W,Js l (scE P w l D (ev0 a0)) W l D=Jr l (scE P w l D (ev0 a0)) W l D) (hv:scE P w l D (ev0 a0) t=.c v)
  (T:∀ E W,Ext w W->E.defers=a0.defers->E.tmps.getD t ς=v->Q .normal E W):(Code.region id l.toArray G).wp P Q a0 w:=
 Rw sz G D hm I J M hs λE W U h2 _ h4=>T E W U h2 (by
  have:=h4 t;rw[hv] at this;exact this)
def Bz:List ϳ->List Ν->ú->ú
 | o::l,v::vs,a=>Bz l vs (a.put o.dst v)
 | _,_,a=>a
theorem O1:∀ (l:List ϳ) (vs:List Ν) (a:ú),(Bz l vs a).tmps.size=a.tmps.size/\(Bz l vs a).defers=a.defers
 | [],_,a=>by unfold Bz;exact⟨rfl,rfl⟩
 | _::_,[],a=>by unfold Bz;exact⟨rfl,rfl⟩
 | o::l,v::vs,a=>by
  unfold Bz;rw[(O1 l vs _).1,(O1 l vs _).2];exact Ip a o.dst v
theorem Uk (e:Nat):∀ (l:List ϳ) (vs:List Ν) (a:ú),(∀ o∈l,∃ d,o.dst=Δ d/\d<a.tmps.size)->l.length=vs.length->
  (Bz l vs a).tmps.getD e ς=a.tmps.getD e ς/\(∀ o∈l,o.dst≠Δ e)\/∃ (i:Nat) (o:ϳ) (v:Ν),l[i]? = Δ o/\vs[i]? = Δ v/\o.dst=Δ e/\(Bz l vs a).tmps.getD e ς=v
 | [],_,a,_,_=>by unfold Bz;exact .inl ⟨rfl,λo h=>by simp at h⟩
 | _::_,[],a,_,h=>by simp at h
 | o::l,v::vs,a,h,M=>by
  obtain⟨d,hd,J⟩:=h o List.mem_cons_self;have T:=Uk e l vs (a.put o.dst v) (λD E=>by rw[(Ip a o.dst v).1];exact h D (List.mem_cons_of_mem _ E)) (by simpa using M);unfold Bz;rcases T with⟨G,I⟩|⟨i,D,v',G,I,U,h4⟩
  ·by_cases he:e=d
   ·subst he;refine .inr ⟨0,o,v,rfl,rfl,hd,?_⟩;rw[G,hd,Ev _ _ _ _ J,if_pos rfl]
   ·refine .inl ⟨?_,λD E=>?_⟩
    ·rw[G,hd,Ev _ _ _ _ J,if_neg he]
    ·rcases List.mem_cons.1 E with rfl|E
     ·rw[hd];exact λh=>he (ύ h).symm
     ·exact I D E
  ·exact .inr ⟨i+1,D,v',by simpa using G,by simpa using I,U,h4⟩
theorem Z2 {id:Nat} {l:List ϳ} {Q:Exit->ú->Λ->Prop} {a0:ú} (sz:Nat) (G:Bool) (I:List AV) (D:List (Sc P w)) (hm:G=Ξ->P.follows .mixedOrders=Ξ) (hB:scB l sz=Ξ) (J:a0.tmps.size=sz) (hl:l.length=D.length)
  (hs:∀ W,Js l (scE P w l D (ev0 a0)) W l D=Jr l (scE P w l D (ev0 a0)) W l D) (hv:(l.map λo=>scE P w l D (ev0 a0) (o.dst.getD 0))=I)
  (ai:∀ W vs,Ext w W->Ex W I vs->Q .normal (Bz l vs a0) W):(Code.region id l.toArray G).wp P Q a0 w:=by
 refine Rw sz G D hm hB J hl hs λE W h1 h2 h3 h4=>?_
 obtain⟨vs,M⟩:∃ vs,(l.map λo=>E.tmps.getD (o.dst.getD 0) ς)=vs:=⟨_,rfl⟩;have an:l.length=vs.length:=by simpa using congrArg List.length M
 have hh:Ex W I vs:=by
  rw[<-hv,<-M];have:∀ k:List ϳ,Ex W (k.map λo=>scE P w l D (ev0 a0) (o.dst.getD 0)) (k.map λo=>E.tmps.getD (o.dst.getD 0) ς):=λk=>by
   induction k with
   | nil=>trivial
   | cons o k ih=>exact⟨h4 _,ih⟩
  exact this l
 have T:=hB;simp only[scB,Iq,Ϝ,Ø,υ] at T;have ar:∀ o∈l,∃ d,o.dst=Δ d/\d<a0.tmps.size:=λo ho=>by
  obtain⟨i,hi,rfl⟩:=List.getElem_of_mem ho;have U:=T.2 i hi;rw[Μ hi] at U;simp only[Pf,Ϝ] at U;obtain⟨d,hd⟩:=Option.isSome_iff_exists.1 U.1.1.2;refine⟨d,hd,?_⟩;rw[J];exact (Ho T.1.1 i l[i] (by simp) d hd).1
 have he:E=Bz l vs a0:=by
  obtain⟨s1,s2⟩:=O1 l vs a0;have ht:E.tmps=(Bz l vs a0).tmps:=by
   apply Array.ext
   ·rw[s1,h3,J]
   ·intro e g1 g2;have hg:E.tmps.getD e ς=(Bz l vs a0).tmps.getD e ς:=by
     rcases Uk e l vs a0 ar an with⟨k1,k2⟩|⟨i,o,v,k1,k2,k3,k4⟩
     ·have:=h4 e;rw[Ol l D _ e (λj oj hj=>k2 oj (List.mem_of_getElem? hj))] at this;rw[k1];exact this
     ·have ag:=congrArg (λx=>x[i]?) M;simp only[List.getElem?_map,k1,k2,Option.map_some,k3,ì] at ag;rw[k4];exact ύ ag
    rw[ϡ,ϡ,ϟ g1,ϟ g2] at hg;exact hg
  have ab:=h2;rw[<-s2] at ab;generalize Bz l vs a0=b at *;cases E;cases b
  simp only at ht ab;rw[ht,ab]
 rw[he];exact ai W vs h1 hh
theorem Dv {id:Nat} {l:List ϳ} {Q:Exit->ú->Λ->Prop} {a0:ú} (sz:Nat) (E:Bool) (vs:List Ν) (D:List (Sc P w)) (hm:E=Ξ->P.follows .mixedOrders=Ξ) (G:scB l sz=Ξ) (I:a0.tmps.size=sz) (J:l.length=D.length)
  (hs:∀ W,Js l (scE P w l D (ev0 a0)) W l D=Jr l (scE P w l D (ev0 a0)) W l D) (hv:(l.map λo=>scE P w l D (ev0 a0) (o.dst.getD 0))=vs.map AV.c)
  (M:∀ W,Ext w W->Q .normal (Bz l vs a0) W):(Code.region id l.toArray E).wp P Q a0 w:=
 Z2 sz E _ D hm G I J hs hv λW aa T U=>by
  rw[Ku U];exact M W T
end
open Go.RowKit Go.Shelf Go.WideMaps
open Go.Maps (Keyed)
structure Sta where
 p:Nat
 q:Nat
 s:Nat
deriving DecidableEq
def stL (x:Sta):List Ν:=[iv x.p,iv x.q,.int π (x.s:Int)]
def stA (x:Sta):Array Ν:=#[iv x.p,iv x.q,.int π (x.s:Int)]
def stV (x:Sta):Ν:=.agg (stA x)
theorem Tb (x y:Sta) (h:stV x=stV y):x=y:=by
 cases x;cases y
 simp[stV,stA] at h;simp;omega
def Sta.ok (x:Sta):Prop:=x.p<9223372036854775808/\x.q<9223372036854775808/\x.s<18446744073709551616
theorem Aal (i:Nat) (hi:i<18446744073709551616):(Lit.int π (i:Int)).wf=Ξ:=by
 have D:ϱ.min=0:=rfl;have E:ϱ.max=18446744073709551615:=rfl;simp[Lit.wf,IntKind.wrap,IntKind.signed,IntKind.bits,D,E];omega
theorem Mw:Keyed Ζ 116:=Keyed.of_law (deep_law_laid P6 (m:=3) (by omega) (of_decide_eq_true (by kernel_rfl)) (by kernel_rfl) (by rw[Ê]))
theorem Tk:∃ m,Ζ.types.size=m+3:=⟨Ζ.types.size-3,by have:3<=Ζ.types.size:=of_decide_eq_true (by kernel_rfl);omega⟩
theorem Aix:Ζ.keyType 116=Ξ:=by kernel_rfl
theorem X2:Ζ.cellsOf 116=3:=by kernel_rfl
theorem X3:Ζ.cellsOf 114=1:=by kernel_rfl
theorem co3:Ζ.cellsOf 3=1:=by kernel_rfl
theorem Alu:Ζ.cellsOf 60=1:=by kernel_rfl
theorem kl3 (d i:Nat) (h:i<9223372036854775808):Ζ.keyLits (d+1) 3 [iv i]=Δ [.int ε i]:=by
 unfold ã.keyLits;simp only[Tryz.underlying3];rw[if_pos ⟨trivial,Jz _ h⟩]
theorem Aiy (d i:Nat) (h:i<18446744073709551616):Ζ.keyLits (d+1) 60 [.int π (i:Int)]=Δ [.int π i]:=by
 unfold ã.keyLits;simp only[Tryz.underlying60];rw[if_pos ⟨trivial,Aal _ h⟩]
theorem Aiz (d i:Nat) (h:i<18446744073709551616):Ζ.keyLits (d+2) 114 [.int π (i:Int)]=Δ [.int π i]:=by
 show ã.keyLits Ζ ((d+1)+1) 114 _=_;unfold ã.keyLits;simp only[Tryz.underlying114];rw[if_pos (by rw[X3];rfl),show ι 1=[0] from rfl,List.mapM_cons,List.mapM_nil,Alu];simp only[Nat.zero_mul,List.drop_zero,List.take_succ_cons,List.take_zero];rw[Aiy _ _ h];rfl
theorem Ta (x:Sta) (h:x.ok):∃ l,keyOf Ζ 116 (stV x)=Δ l:=by
 obtain⟨D,E,G⟩:=h;obtain⟨m,hm⟩:=Tk;refine⟨.string (keyBytes [.int ε x.p,.int ε x.q,.int π x.s]),?_⟩;unfold keyOf;simp only[Ê];rw[if_pos (by simp[Aix,Ν.formed,stV,stA,Ê,X2]),hm];have e:(stV x).cells.toList=[iv x.p,iv x.q,.int π (x.s:Int)]:=rfl;rw[e];have:Ζ.keyLits (m+3+1) 116 [iv x.p,iv x.q,.int π (x.s:Int)]=Δ [.int ε x.p,.int ε x.q,.int π x.s]:=by
  show ã.keyLits Ζ ((m+3)+1) 116 _=_;unfold ã.keyLits;simp only[Ê];rw[if_pos (by rw[X2];exact⟨rfl,by kernel_rfl⟩)];rw[List.mapM_cons,List.mapM_cons,List.mapM_cons,List.mapM_nil];simp only[co3,X3,List.drop_zero,List.drop_succ_cons,List.take_succ_cons,List.take_zero];rw[show m+3=(m+2)+1 by omega,kl3 _ _ D,kl3 _ _ E,show m+2+1=(m+1)+2 by omega,Aiz _ _ G];rfl
 rw[this];rfl
theorem D0:(Ζ.info? 116).map (·.size)=Δ 3:=by kernel_rfl
theorem Ajf:(Ζ.info? 116).map (λi=>(i.zero,i.size,i.bytes))=Δ (Δ (.agg #[.int ε 0,.int ε 0,.int π 0]),3,24):=by kernel_rfl
theorem Tc (x:Sta):(stA x).all (·.oneCell')=Ξ:=by simp[stA,Ν.oneCell']
end Go.Proofs.YtaiogolidlamiaaGreatDoor
