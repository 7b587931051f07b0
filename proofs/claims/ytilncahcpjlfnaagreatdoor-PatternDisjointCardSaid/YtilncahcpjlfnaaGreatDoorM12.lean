import Derived.Test.YtilncahcpjlfnaaGreatDoorM09
import Derived.Test.YtilncahcpjlfnaaGreatDoorM10
import Derived.Test.YtilncahcpjlfnaaGreatDoorM11
import Derived.Test.YtilncahcpjlfnaaGreatDoorM06
set_option linter.unusedVariables false
set_option linter.unusedSimpArgs false
set_option maxRecDepth 100000
set_option maxHeartbeats 8000000
open Bool renaming true → Α, false → Ε
open Go renaming World → Γ, Value → Δ, Oper → ϳ, undef → Ω, info_parts → ϓ, wpList_append_lies → Ϙ
open Go.Act renaming put → η, eval → á
open Go.Ending renaming returned → Ψ
open Go.IntKind renaming i64 → Ü, i64 → Φ
open Go.Lib renaming hid → Z
open Go.Obj renaming cells → Β
open Go.Operand renaming tmp → δ
open Go.Proofs.Tryz renaming prog → Η, underlying40 → Ο
open Go.Region renaming wanted → ϧ
open Go.RowKit renaming Hid → ϟ
open Go.Value renaming tuple → ϗ, slice → U, slice → Ϗ, bool → ϊ, pointer → ε, oneCell' → ξ
open Go.World renaming ownsRow_nil → À
open List renaming length_append → Ν, length_singleton → Ϩ, getD_eq_getElem?_getD → Ζ, length_set → υ, length_cons → ϑ, getElem?_eq_getElem → Ι, getElem?_eq_some_iff → ο, replicate → θ, setIfInBounds_toArray → Θ, set_cons_zero → Μ, set_cons_succ → Λ, getElem?_map → ν
open Nat renaming lt_of_lt_of_le → Ξ, le_refl → Υ
open Option renaming some → J, none → I, isSome → ñ
namespace Go.Proofs.YtilncahcpjlfnaaGreatDoor
open Go.RowKit Go.Shelf
theorem N7:Go.Maps.Keyed Η 3:=Go.Maps.int_keyed Tryz.underlying3
theorem Rn (x:Nat) (hx:x<9223372036854775808):∃ l,keyOf Η 3 (iv x)=J l:=by refine⟨_,Go.Maps.keyOf_int_mk Tryz.underlying3 ?_⟩;have E:Ü.min=-9223372036854775808:=rfl;simp[Lit.wf,IntKind.wrap,IntKind.signed,IntKind.bits,E];omega
theorem T9 (W:Γ):(zeroValue 40).run Η W=.ok zD W:=by kernel_rfl
theorem Uc {κ:Type} {W:Γ} {k:TypeId} {key:κ->Δ} {b n:Nat} {f:κ->Option Δ} {ops:Array ϳ} {rest:List ϳ} {o:ϳ} {a:Act} {Q:Exit->Act->Γ->Prop} (hg:o.guard=I) (m x:Operand) (t:TypeId) (G:o.op=Op.lookup t m x Α) {e:TypeId} {E:Δ} (H:∀ W,(zeroValue e).run Η W=.ok E W)
  (T:Go.Maps.Keyed Η k) (X:Η.underlying t=J (.map k e)) (hm:a.eval m=.map (J b)) (h:IsMv W k key b n f) (y:κ) (hx:a.eval x=key y) (hl:∃ l,keyOf Η k (key y)=J l)
  (hK:wpList Η ops Q rest (a.put o.dst (ϗ #[(f y).getD E,.bool (f y).isSome])) W):wpList Η ops Q (o::rest) a W:=
 wpList_plain hg λ_ ab=>NE G H T X hm h y hx hl (ab _ _ hK)
theorem Hj {W:Γ} {base e size n:Nat} {a:Option Addr} {c:Nat} {xs:List Δ} (h:W.ownsRow base e size (U a n c) n xs) (h0:0<n):∃ g,a=J ⟨g,0,I⟩:=by
 rcases h.2 with⟨_,h1⟩|⟨g,G,cur,E,_⟩
 ·omega
 injection E with E _ _
 exact⟨g,E⟩
theorem RE:(Η.info? 141).map (λi=>(i.zero,i.size,i.bytes))=J (J (.agg #[U I 0 0,U I 0 0,U I 0 0,U I 0 0,U I 0 0,U I 0 0,U I 0 0]),7,168):=by kernel_rfl
theorem XH (r1 E G:Δ) (A:Array Δ) (H:A=#[r1,E,G]) (T X a3:Option Addr) (n1 n2 n3 c1 c2 c3:Nat) (h1:r1=U T n1 c1) (h2:E=U X n2 c2) (h3:G=U a3 n3 c3) :
  Η.built 141 [(1,.agg A)]=J #[U I 0 0,U I 0 0,U I 0 0,r1,E,G,U I 0 0]:=by subst H h1 h2 h3;kernel_rfl
def RstR (w:Γ) (xs:List Δ) (rs:List Dfa):Prop:=∀ i,i<rs.length->∃ r1 E G,IsD w (.agg #[r1,E,G]) (rs.getD i dN)/\∀ j,j<7->xs.getD (i*7+j) Ω=[Ϗ I 0 0,U I 0 0,U I 0 0,r1,E,G,U I 0 0].getD j Ω
theorem RstR.snoc {w:Γ} {xs:List Δ} {rs:List Dfa} (hx:xs.length=rs.length*7) (h:RstR w xs rs) {r1 E G:Δ} {d:Dfa} (hd:IsD w (.agg #[r1,E,G]) d):RstR w (xs++[U I 0 0,U I 0 0,U I 0 0,r1,E,G,U I 0 0]) (rs++[d]):=λi hi=>by
 rw[Ν,Ϩ] at hi;by_cases e:i<rs.length
 ·obtain⟨T,X,s3,h1,h2⟩:=h i e;refine⟨T,X,s3,by rw[Fw _ _ _ e];exact h1,λj H=>?_⟩;rw[Ζ,List.getElem?_append_left (by omega),<-Ζ];exact h2 j H
 obtain rfl:i=rs.length:=by omega
 refine⟨r1,E,G,by rw[Fl];exact hd,λj H=>?_⟩;rw[Ζ,List.getElem?_append_right (by omega),hx,Nat.add_sub_cancel_left,<-Ζ]
structure MbrR (W:Γ) (B n:Nat) (ms:List Δ) (mb:List (List Bool)):Prop where
 row:∀ i,i<mb.length->∃ g,ms.getD i Ω=U (J ⟨g,0,I⟩) n n/\W.ownsRow B 4 1 (U (J ⟨g,0,I⟩) n n) n ((mb.getD i []).map ϊ)
 dif:∀ i j,i<mb.length->j<mb.length->i≠j->ms.getD i Ω≠ms.getD j Ω
theorem MbrR.ext {W W':Γ} {B n:Nat} {ms:List Δ} {mb:List (List Bool)} (h:MbrR W B n ms mb) (E:Ext W W'):MbrR W' B n ms mb:=⟨λi hi=>by obtain⟨g,h1,G⟩:=h.row i hi;exact⟨g,h1,Aa G E⟩,h.dif⟩
theorem MbrR.kept {W W':Γ} {B n:Nat} {ms:List Δ} {mb:List (List Bool)} (h:MbrR W B n ms mb) {base e s k:Nat} {v:Δ} {ys:List Δ} (G:W.ownsRow base e s v k ys) (he:e≠4) (hg:W.grownBy W' v.ownBlock):MbrR W' B n ms mb:=⟨λi hi=>by obtain⟨g,h1,E⟩:=h.row i hi;exact⟨g,h1,E.kept hg (Aj E G (Ne.symm he))⟩,h.dif⟩
theorem MbrR.store {W:Γ} {B n:Nat} {ms:List Δ} {mb:List (List Bool)} (h:MbrR W B n ms mb) {a g s:Nat} (E:a<mb.length) (hg:ms.getD a Ω=U (J ⟨g,0,I⟩) n n) :
  MbrR (W.setCell ⟨g,s,I⟩ (.bool Α)) B n ms (mb.set a ((mb.getD a []).set s Α))/\W.grownBy (W.setCell ⟨g,s,I⟩ (.bool Α)) (J g)/\B<=g:=by
 obtain⟨g',h1,G⟩:=h.row a E;rw[hg] at h1;injection h1 with h1 _ _
 injection h1 with h1
 injection h1 with h1 _ _
 subst h1;obtain⟨h3,H⟩:=Ba (f:=ϊ) G s Α;refine⟨⟨λi hi=>?_,λi j hi T=>?_⟩,H,(G.lt g rfl).1⟩
 ·rw[υ] at hi;by_cases e:i=a
  ·subst e;exact⟨g,hg,by rw[B7 hi];exact h3⟩
  obtain⟨gi,X,h6⟩:=h.row i hi;refine⟨gi,X,?_⟩;rw[Be e];refine h6.kept H (Cd h6 λe'=>?_);exact h.dif i a hi E e (by rw[X,hg,e'])
 rw[υ] at hi T;exact h.dif i j hi T
theorem MbrR.snoc {W:Γ} {B n:Nat} {ms:List Δ} {mb:List (List Bool)} (E:ms.length=mb.length) (h:MbrR W B n ms mb) {g:Nat} {l:List Bool} (T:W.ownsRow B 4 1 (U (J ⟨g,0,I⟩) n n) n (l.map ϊ)) (H:∀ i,i<mb.length->ms.getD i Ω≠U (J ⟨g,0,I⟩) n n):MbrR W B n (ms++[U (J ⟨g,0,I⟩) n n]) (mb++[l]):=by
 refine⟨λi hi=>?_,λi j hi X aa=>?_⟩
 ·rw[Ν,Ϩ] at hi;by_cases e:i<mb.length
  ·obtain⟨g',h1,h2⟩:=h.row i e;exact⟨g',by rw[Fw _ _ _ (by rw[E];exact e)];exact h1,by rw[Fw _ _ _ e];exact h2⟩
  obtain rfl:i=mb.length:=by omega
  exact⟨g,by rw[<-E,Fl],by rw[Fl];exact T⟩
 rw[Ν,Ϩ] at hi X;by_cases e:i<mb.length
 ·rw[Fw ms _ _ (by rw[E];exact e)];by_cases G:j<mb.length
  ·rw[Fw ms _ _ (by rw[E];exact G)];exact h.dif i j e G aa
  obtain rfl:j=ms.length:=by omega
  rw[Fl];exact H i e
 obtain rfl:i=ms.length:=by omega
 rw[Fl,Fw ms _ _ (by omega)];exact λG=>H j (by omega) G.symm
theorem LeastF.form0 {L:List UInt8->Bool} {W:Γ} {e:Ending} (h:LeastF L W e):∃ v b,e=Ψ (ϗ #[v,.bool b]):=by
 rcases h with⟨_,v,h,_⟩|⟨h,_⟩
 ·exact⟨_,_,h⟩
 exact⟨_,_,h⟩
theorem LeastF.yes {L:List UInt8->Bool} {W:Γ} {v:Δ} (h:LeastF L W (Ψ (ϗ #[v,.bool Α]))):∃ u,By W v u/\L u=Α:=by
 rcases h with⟨u,G,h,h1,E,_⟩|⟨h,_⟩
 ·injection h with h
  injection h with h
  simp at h;subst h;exact⟨u,h1,E⟩
 injection h with h
 injection h with h
 simp at h
theorem LeastF.no {L:List UInt8->Bool} {W:Γ} {v:Δ} (h:LeastF L W (Ψ (ϗ #[v,.bool Ε]))):∀ u,L u=Ε:=by
 rcases h with⟨u,E,h,h1,G,_⟩|⟨h,h1⟩
 ·injection h with h
  injection h with h
  simp at h
 exact h1
theorem F5 {P:Program} {ops:Array ϳ} {Q:Exit->Act->Γ->Prop} {C:Γ->Prop} {n i:Nat} {is:List (Nat × Bool)} {o:ϳ} {a:Act} {w:Γ} (h0:ops.toList[i]? = J o) (E:ϧ o (yielded ops a.tmps)=Ε)
  (h:Df P ops Q C n is (a.put o.dst Ω) w):Df P ops Q C n ((i,Α)::is) a w:=⟨o,Ω,by rw[<-Array.getElem?_toList];exact h0,.inr ⟨E,rfl⟩,h⟩
theorem Ii {P:Program} {ops:Array ϳ} {Q:Exit->Act->Γ->Prop} {C:Γ->Prop} {n i:Nat} {is:List (Nat × Bool)} {o:ϳ} {a:Act} {w:Γ} (h0:ops.toList[i]? = J o) (E:ϧ o (yielded ops a.tmps)=Ε)
  (G:i<n->C w) (h:Df P ops Q C n is (a.put o.dst Ω) w):Df P ops Q C n ((i,Ε)::is) a w:=
 Ao h0 λK hK=>by rw[if_neg (by rw[E];simp)];exact hK _ _ G h
noncomputable def L0 (L:Ag):Option Dfa:=@dite _ (∃ r,Dc L r) (Classical.propDecidable _) (λh=>h.choose) (λ_=>I)
theorem PD {L:Ag} {r:Option Dfa} (h:Dc L r):L0 L=r:=by unfold L0;rw[dif_pos ⟨r,h⟩];exact PE (Classical.choose_spec (⟨r,h⟩:∃ r,Dc L r)) h
def kOf:Option Dfa->Int
 | some _=>0
 | none=>2
def ColV (Pr:Prop) (r0:Option Dfa) (v:Δ) (W:Γ):Prop:=∃ ac E G H T X aa la ca,v=ϗ #[.agg (dA (U ac E G) (U H T X) (U aa la ca)),.int Φ (kOf r0)]/\(∀ d,r0=J d->IsD W (.agg (dA (U ac E G) (U H T X) (U aa la ca))) d)/\Pr
def S5 (E:Prop) (n0:Nat) (A:Array Δ) (v7:Δ) (gM j:Nat) (mj:Δ) (r0:Option Dfa):Nat->Δ->Γ->Prop
 | 0,v,_=>v=.agg A
 | 1,v,_=>v=v7
 | 2,v,_=>v=iv j
 | 3,v,_=>v=ε (J ⟨gM,j,I⟩)
 | 4,v,_=>v=mj
 | 5,v,W=>ColV E r0 v W
 | 6,v,W=>ColV E r0 v W
 | 7,v,W=>∃ ac G H T X cn aa la ca,v=.agg (dA (U ac G H) (U T X cn) (U aa la ca))/\(∀ d,r0=J d->IsD W (.agg (dA (U ac G H) (U T X cn) (U aa la ca))) d)/\E
 | 8,v,_=>v=.int Φ (kOf r0)
 | _,v,W=>∃ g,v=ε (J ⟨g,0,I⟩)/\W.heap[g]? = J (Β #[U I 0 0,U I 0 0,U I 0 0] 40 (0,0))/\n0<=g
theorem ColV.ext {E:Prop} {r0:Option Dfa} {v:Δ} {W W':Γ} (h:ColV E r0 v W) (G:Ext W W'):ColV E r0 v W':=by obtain⟨ac,H,T,X,ln,cn,aa,la,ca,h1,h2,h3⟩:=h;exact⟨ac,H,T,X,ln,cn,aa,la,ca,h1,λd hd=>(h2 d hd).ext G,h3⟩
theorem VQ (T:Prop) (X:Nat) (A:Array Δ) (v7:Δ) (gM j:Nat) (mj:Δ) (r0:Option Dfa):∀ (i:Nat) (v:Δ) (w w':Γ),S5 T X A v7 gM j mj r0 i v w->Ext w w'->S5 T X A v7 gM j mj r0 i v w'
 | 0,_,_,_,h,_=>h
 | 1,_,_,_,h,_=>h
 | 2,_,_,_,h,_=>h
 | 3,_,_,_,h,_=>h
 | 4,_,_,_,h,_=>h
 | 5,_,_,_,h,E=>ColV.ext h E
 | 6,_,_,_,h,E=>ColV.ext h E
 | 7,_,_,_,⟨ac,lc,cc,an,ln,cn,aa,la,ca,h1,G,H⟩,E=>⟨ac,lc,cc,an,ln,cn,aa,la,ca,h1,λd hd=>(G d hd).ext E,H⟩
 | 8,_,_,_,h,_=>h
 | _+9,_,_,_,⟨g,h1,G,H⟩,E=>⟨g,h1,E.heap G,H⟩
theorem VN {W:Γ} {e:Ending} {r:Option Dfa} {L:Ag} (h:ResOf W e r) (E:Dc L r):∃ v,e=Ψ v/\ColV (Dc L (L0 L)) (L0 L) v W:=by
 rw[PD E];cases r with
 | none=>exact⟨_,h,I,0,0,I,0,0,I,0,0,rfl,λd hd=>(by cases hd),E⟩
 | some d=>obtain⟨v,he,G⟩:=h;obtain⟨ac,H,T,X,cn,aa,la,ca,rfl⟩:=G.agg;exact⟨_,he,ac,H,T,X,_,cn,aa,la,ca,rfl,λd' hd=>(by injection hd with hd;rw[<-hd];exact G),E⟩
theorem LeastF.form1 {L:List UInt8->Bool} {W:Γ} {e:Ending} (h:LeastF L W e):∃ a n c b,e=Ψ (ϗ #[U a n c,.bool b])/\∃ u,By W (U a n c) u:=by
 rcases h with⟨u,v,h,h1,_⟩|⟨h,_⟩
 ·obtain⟨a,c,rfl⟩:=Sl.len h1;exact⟨_,_,_,_,h,u,h1⟩
 exact⟨_,_,_,_,h,[],Sl.nil _ _ _⟩
theorem Qy {W:Γ} {base e g n G size o:Nat} {xs:List Δ} {a b c:Δ} (E:W.ownsRow base e size (U (J ⟨g,0,I⟩) n G) n xs) (he:e≠162) (h:∀ j,j<3->W.cell? ⟨g,o+j,I⟩=J (U I 0 0)) (hl:o+2<xs.length):NilX W (W.setCells g o [a,b,c]):=by
 rw[P6];have hx:xs.length=n*size:=E.1;have c0:W.cell? ⟨g,o,I⟩=J (U I 0 0):=h 0 (by omega);have c1:=h 1 (by omega);have c2:=h 2 (by omega);have H:xs[o+1]? = J (U I 0 0):=by rw[<-E.cellAt (o+1) (by omega)];exact c1
 have T:xs[o+1+1]? = J (U I 0 0):=by rw[<-E.cellAt (o+1+1) (by omega)];exact c2
 have h0:=E.stored o a;have h1:=h0.1.stored (o+1) b;have X:=(NilX.refl W).set (v:=a) E he c0 (.inl rfl);have k1:(W.setCell ⟨g,o,I⟩ a).cell? ⟨g,o+1,I⟩=J (U I 0 0):=by rw[h0.1.cellAt (o+1) (by omega),List.getElem?_set_ne (by omega)];exact H
 have s2:=X.set (v:=b) h0.1 he k1 (.inl rfl);have k2:((W.setCell ⟨g,o,I⟩ a).setCell ⟨g,o+1,I⟩ b).cell? ⟨g,o+1+1,I⟩=J (U I 0 0):=by rw[h1.1.cellAt (o+1+1) (by omega),List.getElem?_set_ne (by omega),List.getElem?_set_ne (by omega)];exact T
 exact s2.set (v:=c) h1.1 he k2 (.inl rfl)
theorem Qq {W:Γ} {base e g n E size:Nat} {xs:List Δ} (h:W.ownsRow base e size (U (J ⟨g,0,I⟩) n E) n xs) (o:Nat) (a b c:Δ) :
  (W.setCells g o [a,b,c]).ownsRow base e size (U (J ⟨g,0,I⟩) n E) n (((xs.set o a).set (o+1) b).set (o+1+1) c)/\W.grownBy (W.setCells g o [a,b,c]) (J g):=by
 have h0:=h.stored o a;have h1:=h0.1.stored (o+1) b;have G:=h1.1.stored (o+1+1) c;rw[P6];exact⟨G.1,h0.2.trans (h1.2.trans G.2)⟩
def GrpR (w W:Γ) (xs:List Δ) (rs H:List Dfa) (j:Nat):Prop:=∀ i,i<rs.length->∃ h1 E G r1 T X l,(∀ o,o<7->xs.getD (i*7+o) Ω=[h1,E,G,r1,T,X,l].getD o Ω)/\IsD w (.agg #[r1,T,X]) (rs.getD i dN)/\(i<j->Val (H.getD i dN)/\IsD W (.agg #[h1,E,G]) (H.getD i dN)/\∃ u,By W l u)/\(j<=i->h1=U I 0 0/\E=U I 0 0/\G=U I 0 0/\l=U I 0 0)
theorem GrpR.start {w W:Γ} {xs:List Δ} {rs:List Dfa} (h:RstR w xs rs):GrpR w W xs rs [] 0:=λi hi=>by obtain⟨r1,E,G,h1,H⟩:=h i hi;exact⟨_,_,_,r1,E,G,_,H,h1,λh=>absurd h (by omega),λ_=>⟨rfl,rfl,rfl,rfl⟩⟩
theorem GrpR.nilx {w W W':Γ} {xs:List Δ} {rs E:List Dfa} {j:Nat} (h:GrpR w W xs rs E j) (G:NilX W W'):GrpR w W' xs rs E j:=λi hi=>by obtain⟨h1,T,X,r1,r2,r3,l,hc,hr,hh,hn⟩:=h i hi;refine⟨h1,T,X,r1,r2,r3,l,hc,hr,λhj=>?_,hn⟩;obtain⟨H,hd,u,hu⟩:=hh hj;exact⟨H,hd.nilx H G,u,Sl.nilx hu G (λi _=>⟨λe=>(by cases e),λe=>(by cases e)⟩)⟩
theorem GrpR.put {w W:Γ} {xs:List Δ} {rs E:List Dfa} {j:Nat} (hx:xs.length=rs.length*7) (hj:j<rs.length) (hl:E.length=j) (h:GrpR w W xs rs E j) {h1 G H l:Δ} {d:Dfa} (hv:Val d) (hd:IsD W (.agg #[h1,G,H]) d) (hu:∃ u,By W l u) :
  GrpR w W ((((xs.set (j*7) h1).set (j*7+1) G).set (j*7+1+1) H).set (j*7+6) l) rs (E++[d]) (j+1):=λi hi=>by
 obtain⟨g1,g2,g3,r1,r2,r3,l',hc,hr,hh,hn⟩:=h i hi;by_cases e:i=j
 ·subst e;refine⟨h1,G,H,r1,r2,r3,l,λo T=>?_,hr,λ_=>?_,λao=>by omega⟩
  ·have X:o=0\/o=1\/o=2\/o=6\/o=3\/o=4\/o=5:=by omega
   rcases X with rfl|rfl|rfl|rfl|X
   ·rw[Be (by omega),Be (by omega),Be (by omega),Nat.add_zero,B7 (by omega)];rfl
   ·rw[Be (by omega),Be (by omega),B7 (by rw[υ];omega)];rfl
   ·rw[Be (by omega),show i*7+2=i*7+1+1 by omega,B7 (by rw[υ,υ];omega)];rfl
   ·rw[B7 (by rw[υ,υ,υ];omega)];rfl
   rw[Be (by omega),Be (by omega),Be (by omega),Be (by omega),hc o T];rcases X with rfl|rfl|rfl<;>rfl
  rw[show i=E.length from hl.symm,Fl];exact⟨hv,hd,hu⟩
 refine⟨g1,g2,g3,r1,r2,r3,l',λo T=>?_,hr,λar=>?_,λao=>hn (by omega)⟩
 ·rw[Be (by omega),Be (by omega),Be (by omega),Be (by omega)];exact hc o T
 rw[Fw _ _ _ (by omega)];exact hh (by omega)
def OpsV (W:Γ) (v:Δ) (os:List Opt):Prop:=∃ a c,v=U a os.length c/\∀ i (hi:i<os.length),∃ g h1 E G r1 H T X ln lc,a=J ⟨g,0,I⟩/\W.rangeAt g (i*7) [h1,E,G,r1,H,T,U X ln lc]/\IsD W (.agg #[h1,E,G]) os[i].head/\IsD W (.agg #[r1,H,T]) os[i].rest
theorem OpsV.ext {W W':Γ} {v:Δ} {os:List Opt} (h:OpsV W v os) (E:Ext W W'):OpsV W' v os:=by obtain⟨a,c,G,h⟩:=h;refine⟨a,c,G,λi hi=>?_⟩;obtain⟨g,h1,H,T,r1,X,r3,la,ln,lc,ha,hr,ah,ai⟩:=h i hi;exact⟨g,h1,H,T,r1,X,r3,la,ln,lc,ha,λj v hj=>E.cell (hr j v hj),ah.ext E,ai.ext E⟩
def ColOut (W:Γ) (e:Ending) (L:List Cls) (E:List (List Nat)) (ρ:Nat->Option Dfa):Prop:=
 (∃ os v,e=Ψ (ϗ #[v,.int Φ 0])/\CollR (Az L E []).stp ρ os/\(os.length<=65536/\∀ o∈os,o.head.n.length<=64/\o.rest.n.length<=64)/\OpsV W v os)\/
 (e=Ψ (ϗ #[U I 0 0,.int Φ 2])/\∃ d,Big λu=>ρ ((Az L E []).run 0 u)=J d)
def Dt:List Δ->Nat->List Δ->List Δ
 | xs,_,[]=>xs
 | xs,o,c::cs=>Dt (xs.set o c) (o+1) cs
theorem Jf:∀ (cs xs:List Δ) (o:Nat),(Dt xs o cs).length=xs.length
 | [],_,_=>rfl
 | c::cs,xs,o=>by rw[Dt,Jf cs,υ]
theorem Jg:∀ (cs xs:List Δ) (o i:Nat),o+cs.length<=xs.length->(Dt xs o cs).getD i Ω=if o<=i/\i<o+cs.length then cs.getD (i-o) Ω else xs.getD i Ω
 | [],xs,o,i,_=>by rw[if_neg (by rw[List.length_nil];omega)];rfl
 | c::cs,xs,o,i,h=>by
  rw[ϑ] at h;rw[Dt,Jg cs (xs.set o c) (o+1) i (by rw[υ];omega),ϑ];by_cases e:i=o
  ·subst e;rw[if_neg (by omega),if_pos (by omega),B7 (by omega),Nat.sub_self];rfl
  rw[Be e];by_cases E:o+1<=i/\i<o+1+cs.length
  ·rw[if_pos E,if_pos (by omega),show i-o=(i-(o+1))+1 by omega];rfl
  rw[if_neg E,if_neg (by omega)]
theorem Il {base e g n E size:Nat}:∀ (cs:List Δ) (W:Γ) (xs:List Δ) (o:Nat),W.ownsRow base e size (U (J ⟨g,0,I⟩) n E) n xs->(W.setCells g o cs).ownsRow base e size (U (J ⟨g,0,I⟩) n E) n (Dt xs o cs)/\W.grownBy (W.setCells g o cs) (J g)
 | [],W,_,_,h=>⟨h,Γ.grownBy.refl _ _⟩
 | c::cs,W,xs,o,h=>by have h0:=h.stored o c;have h1:=Il cs (W.setCell ⟨g,o,I⟩ c) (xs.set o c) (o+1) h0.1;exact⟨h1.1,h0.2.trans h1.2⟩
theorem LN {W:Γ} {xs:List Δ} {os:List Opt} (h:OpR W xs os) {k:Nat} (h0:0<k) (hk:k<os.length) {cs cs':List Δ} (hl:cs.length=7) (ah:cs'.length=7) (hc:∀ o,o<7->xs.getD ((k-1)*7+o) Ω=cs.getD o Ω) (ai:∀ o,o<7->xs.getD (k*7+o) Ω=cs'.getD o Ω) :
  OpR W (Dt (Dt xs (k*7) cs) ((k-1)*7) cs') ((os.set k (os[k-1]'(by omega))).set (k-1) os[k]):=by
 have hx:=h.1;refine⟨by rw[Jf,Jf,υ,υ];exact hx,λi hi=>?_⟩;rw[υ,υ] at hi;have key:∀ o,o<7->(Dt (Dt xs (k*7) cs) ((k-1)*7) cs').getD (i*7+o) Ω=if i=k-1 then cs'.getD o Ω else if i=k then cs.getD o Ω else xs.getD (i*7+o) Ω:=λo H=>by
  rw[Jg _ _ _ _ (by rw[Jf];omega),Jg _ _ _ _ (by omega),hl,ah];by_cases E:i=k-1
  ·subst E;rw[if_pos (by omega),if_pos rfl,show (k-1)*7+o-(k-1)*7=o by omega]
  rw[if_neg (by omega),if_neg E];by_cases G:i=k
  ·subst G;rw[if_pos (by omega),if_pos rfl,show i*7+o-i*7=o by omega]
  rw[if_neg (by omega),if_neg G]
 have aj:((os.set k (os[k-1]'(by omega))).set (k-1) os[k])[i]'(by rw[υ,υ];exact hi)=if i=k-1 then os[k] else if i=k then os[k-1]'(by omega) else os[i]:=by
  rw[List.getElem_set,List.getElem_set];by_cases E:k-1=i
  ·rw[if_pos E,if_pos E.symm]
  rw[if_neg E,if_neg (Ne.symm E)];by_cases G:k=i
  ·rw[if_pos G,if_pos G.symm]
  rw[if_neg G,if_neg (Ne.symm G)]
 rw[aj];by_cases E:i=k-1
 ·rw[if_pos E];obtain⟨h1,T,X,r1,r2,r3,l,ad,ae⟩:=h.2 k hk;exact⟨h1,T,X,r1,r2,r3,l,λo H=>by rw[key o H,if_pos E,<-ai o H];exact ad o H,ae⟩
 rw[if_neg E];by_cases G:i=k
 ·rw[if_pos G];obtain⟨h1,T,X,r1,r2,r3,l,ad,ae⟩:=h.2 (k-1) (by omega);exact⟨h1,T,X,r1,r2,r3,l,λo H=>by rw[key o H,if_neg E,if_pos G,<-hc o H];exact ad o H,ae⟩
 rw[if_neg G];obtain⟨h1,T,X,r1,r2,r3,l,ad,ae⟩:=h.2 i hi;exact⟨h1,T,X,r1,r2,r3,l,λo H=>by rw[key o H,if_neg E,if_neg G];exact ad o H,ae⟩
theorem LO {w W:Γ} {xs:List Δ} {rs E:List Dfa} (hx:xs.length=rs.length*7) (hl:E.length=rs.length) (h:GrpR w W xs rs E rs.length) (hE:Ext w W) (hv:∀ i,i<rs.length->Val (rs.getD i dN)):OpR W xs (List.zipWith Opt.mk E rs):=by
 refine⟨by rw[List.length_zipWith,hl,Nat.min_self];exact hx,λi hi=>?_⟩;rw[List.length_zipWith] at hi;have h1:i<E.length:=by omega
 have G:i<rs.length:=by omega
 obtain⟨g1,g2,g3,r1,r2,r3,l,hc,H,hh,_⟩:=h i G;obtain⟨k1,T,k3⟩:=hh G;have e1:E.getD i dN=E[i]:=by rw[Ζ,Ι h1];rfl
 have e2:rs.getD i dN=rs[i]:=by rw[Ζ,Ι G];rfl
 have X:=hv i G;rw[e1] at k1 T;rw[e2] at H X;rw[List.getElem_zipWith];exact⟨g1,g2,g3,r1,r2,r3,l,hc,k1,X,T,H.ext hE,k3⟩
theorem Qu {we V:Γ} {B c g k:Nat} {xs:List Δ} {os:List Opt} (h:OpR we xs os) (G:V.ownsRow B 141 7 (U (J ⟨g,0,I⟩) k c) k xs) (H:os.length=k) {i:Nat} (hi:i<k) {cs:List Δ} (T:cs.length=7) (hc:∀ o,o<7->xs.getD (i*7+o) Ω=cs.getD o Ω):V.rangeAt g (i*7) cs:=λo v E=>by
 have X:o<7:=by rw[<-T];exact (ο.1 E).1
 have hx:=h.1;rw[H] at hx;rw[G.cellAt (i*7+o) (by omega),Ι (by omega)];have:=hc o X;rw[Ζ,Ι (by omega),Ζ,E] at this;exact congrArg J this
theorem AS (L:List Cls) (H:List (List Nat)) (hw:WVal L H (θ H.length Ε)) (mg:H.length<=65536) (A:Array Δ) (bm nm:Nat) (f:Nat->Option Δ) (ρ:Nat->Option Dfa) (hρ:∀ s d,ρ s=J d->s<H.length/\Cano d/\d.n.length<=64) (ml:∀ s,s<H.length->∃ u,(Az L H []).run 0 u=s)
  (w:Γ) (hT:Tab w) (hl:0<w.heap.size) (h:IsW w A L H) (hm:IsMv w 3 iv bm nm f) (hf:∀ s,s<H.length->(ρ s=I->f s=I)/\∀ d,ρ s=J d->∃ v,f s=J v/\IsD w v d) :
  Calls Η 57 #[.agg A,.map (J bm)] w λe w'=>ColOut w' e L H ρ/\Ext w w':=by
 obtain⟨t,ht⟩:=Xq (Az L H (θ H.length Ε));have hv:TVal t:=ht▸hw.tval;have kf:t.n=H:=by rw[<-ht];rfl
 have iy:=Z (λW (hW:Ext w W)=>hT.below hW.below hl);have e0:=Z hw;have p9:=Z h;have qa:=Z hm;have e7:=Z hρ;have HF:=Z hf;have mr:=Z ml;rw[<-kf] at h;obtain⟨bn,on,cn,qb,s9,ja,hR⟩:=h.opened hv;rw[kf] at ja hR;obtain⟨n,fw⟩:=Xq (H.length);have HN:=Z fw;have qc:=hw.pos;rw[fw] at mg ja e7 HF mr qc;have qd:(Η.info? 128).map (·.size)=J A.size:=by rw[qb];exact Fv
 obtain⟨iB,hiB,qf,qg,kg⟩:=ϓ (show (Η.info? 4).map (λi=>(i.zero,i.size,i.bytes))=J (J (.bool Ε),1,1) by kernel_rfl);obtain⟨iO,qi,qj,qk,ql⟩:=ϓ RE;obtain⟨iL,qo,qp,qq,qs⟩:=ϓ (show (Η.info? 38).map (λi=>(i.zero,i.size,i.bytes))=J (J (U I 0 0),1,24) by kernel_rfl);have kh:=(Κ w).alloc (Β A 128);have H2:=Ad w (Β A 128);clear h hm hρ hf ml hw hT hv hR kf ht t fw;go_enter Tryz.func57,Tryz.ntmps57;go_upto_region 1 with (fail)
 obtain⟨w1,ki⟩:=Xq (w.alloc (Β A 128));rw[ki] at kh H2;simp only[ki];clear ki;have aw:=Z kh;have H2:=Z H2;have mv:=Z (λV (G:Ext w1 V)=>(cell_of_row V w.heap.size 1 _ _ _ (G.heap H2.o)).trans ja);have k1:=mv.o w1 (Κ w1);clear kh ja;have ta:w.heap.size<w1.heap.size:=Al H2.o;go_wp2_with (fail);clear k1;go_loopw [6,7,23] (λv6 v7 vi W=>∃ (s:Nat) (rs:List Dfa) (mb:List (List Bool)) (xs ms:List Δ) (a6 a7:Option Addr) (c6 c7:Nat),s<=n/\vi=iv s/\v6=U a6 rs.length c6/\v7=U a7 rs.length c7/\Ext w1 W/\W.ownsRow w1.heap.size 141 7 v6 rs.length xs/\W.ownsRow w1.heap.size 38 1 v7 rs.length ms/\ϟ (RstR w xs rs)/\ϟ (MbrR W w1.heap.size n ms mb)/\ϟ (GInv ρ n s rs mb))
  (λ_ _ vi _=>n-(intOf vi).toNat)
 case atStart=>exact⟨0,[],[],[],[],I,I,0,0,by omega,rfl,rfl,rfl,Κ w1,À _ _ _ _,À _ _ _ _,Z (λi hi=>absurd hi (by simp)),Z ⟨λi hi=>absurd hi (by simp),λi j hi=>absurd hi (by simp)⟩,Z (SO ρ n)⟩
 obtain⟨s,rs,mb,xs,ms,a6,a7,c6,c7,hs,rfl,rfl,rfl,hE,X,hM,HX,HM,HG⟩:=hrel;have kj:=HG.o.le;obtain⟨k,hk⟩:=Xq (rs.length);have T:=Z hk;rw[hk] at X hM kj;simp only[hk];clear hk;by_cases bf:s<n
 ·obtain⟨kl,km⟩:=HF.o s bf;have qt:=aw.o.t hE;have mw:=Rn s (by omega);have jd:=qa.o.ext qt;have tb:(s:Int)<(n:Int):=by omega
  cases hr:ρ s with
  | none=>
   have fz:=kl hr;have fa:=Z (HG.o.skip (λd hd=>by rw[hr] at hd;cases hd));clear kl km hr;go_upto_region 7 with (first
    | (at_lookup;refine Uc rfl _ _ 126 rfl T9 N7 Tryz.underlying126 rfl jd s rfl mw ?_;rw[fz];dsimp only [ñ,Option.getD])
    | (refine Sr 40 (δ 9) (δ 30) rfl (Ad wr (Β #[U I 0 0,U I 0 0,U I 0 0] 40)) Ae rfl Fg ?_))
   obtain⟨bk,hn⟩:=Dv wr #[U I 0 0,U I 0 0,U I 0 0];have ej:=hE.t bk;have ga:=Aa X bk;have gb:=Aa hM bk;have gd:=Z (HM.o.ext bk);clear hn jd fz hE X hM HM HG;obtain⟨w6,fb⟩:=Xq ((wr.alloc (Β #[U I 0 0,U I 0 0,U I 0 0] 40)).setRow wr.heap.size #[U I 0 0,U I 0 0,U I 0 0]);rw[fb] at bk ej ga gb gd;simp only[fb];clear fb bk;go_wp2_with (fail);go_roundw
   case rel=>exact⟨s+1,rs,mb,xs,ms,a6,a7,c6,c7,by omega,by go_num,by rw[T.o],by rw[T.o],ej,by rw[T.o];exact ga,by rw[T.o];exact gb,HX,gd,fa⟩
   simp[intOf]<;>omega
  | some d=>
   obtain⟨v,fz,ko⟩:=km d hr;obtain⟨_,fc,hp⟩:=e7.o s d hr;have HR:=Z hr;have fe:=Z fc;have hq:=Z hp;have je:=Z ko;clear kl km hr fc hp;obtain⟨ff,fg,fh,fj,fk,fl,fm,fo,rfl⟩:=ko.agg;obtain⟨D1,gf⟩:=Xq (dA (U ff fg fh) (U fj d.n.length fk) (U fl fm fo));have my:=Z gf;have jf:(Η.info? 40).map (·.size)=J D1.size:=by rw[<-gf];exact Ae
   have qu:D1.all (·.oneCell')=Α:=by rw[<-gf];exact Av _ _ _ rfl rfl rfl
   have qv:ϟ (D1.size=3):=Z (by rw[<-gf];rfl);rw[gf] at fz je;clear ko gf;go_upto_region 8 with (first
    | (at_lookup;refine Uc rfl _ _ 126 rfl T9 N7 Tryz.underlying126 rfl jd s rfl mw ?_;rw[fz];dsimp only [ñ,Option.getD])
    | (refine Sr 40 (δ 9) (δ 30) rfl (Ad wr (Β #[U I 0 0,U I 0 0,U I 0 0] 40)) jf qv.o.symm qu ?_))
   obtain⟨bk,hn⟩:=Dv wr D1;have ej:=hE.t bk;have ga:=Aa X bk;have gb:=Aa hM bk;have gd:=Z (HM.o.ext bk);obtain⟨w6,fb⟩:=Xq ((wr.alloc (Β #[U I 0 0,U I 0 0,U I 0 0] 40)).setRow wr.heap.size D1);rw[fb] at bk hn ej ga gb gd;simp only[fb];have jg:=Z hn;obtain⟨g9,kr⟩:=Xq (wr.heap.size);rw[kr] at jg;simp only[kr];clear fb bk hn kr jd fz hE X hM HM;have fL:=Z (Rf d fe.o.val hq.o (.agg D1) w6 (iy.o w6 (aw.o.t ej)) (Ξ hl (aw.o.t ej).size) (je.o.ext (aw.o.t ej)));go_upto_region 9 with (first
    | (refine Lr 40 (δ 9) jg.o Ο jf ?_)
    | (go_at_call 12;(with_reducible refine fL.o.mono ?_);rintro e w7 ⟨gg,ek⟩;obtain⟨vl,bl,rfl⟩:=gg.form0;have na:=Z gg;have hy:=Z ek;clear gg ek))
   have ek:=ej.t hy.o;have e2:=Aa ga hy.o;have hz:=Aa gb hy.o;have h5:=Z (gd.o.ext hy.o);have ks:=Z (hy.o.heap jg.o);clear fL ej ga gb gd jg;cases bl with
   | false=>
    have fa:=Z (HG.o.skip (λd' hd=>by rw[HR.o] at hd;injection hd with hd;rw[<-hd];exact na.o.no));go_wp2_with (fail);go_roundw
    case rel=>exact⟨s+1,rs,mb,xs,ms,a6,a7,c6,c7,by omega,by go_num,by rw[T.o],by rw[T.o],ek,by rw[T.o];exact e2,by rw[T.o];exact hz,HX,h5,fa⟩
    simp[intOf]<;>omega
   | true=>
    have qx:ϟ (∃ v,d.has v=Α):=Z (by obtain⟨u,_,h⟩:=na.o.yes;exact⟨u,h⟩);go_wp2_with (fail);go_loopw [13] (λkt W=>∃ a:Nat,a<=k/\kt=iv a/\Ext w7 W/\ϟ (∀ i,i<a->rs.getD i dN≠d))
     (λkt _=>k-(intOf kt).toNat)
    case atStart=>exact⟨0,by omega,rfl,Κ w7,Z λi hi=>by omega⟩
    obtain⟨a,te,rfl,fp,HA⟩:=hrel;have gk:=ek.t fp;by_cases ji:a<k
    ·obtain⟨E,rfl⟩:=Hj e2 (by omega);obtain⟨r1,r2,r3,nc,nd⟩:=HX.o a (by rw[T.o];exact ji);have h6:xs.length=k*7:=e2.1;have nf:∀ V,Ext wr V->V.rangeAt E (a*7+3) [r1,r2,r3]:=λV G j v hj=>by
      have qy:=Aa e2 (fp.t G);have tf:j<3:=by have:=(ο.1 hj).1;exact this
      have h1:=nd (3+j) (by omega);rw[show a*7+3+j=a*7+(3+j) by omega,qy.cellAt (a*7+(3+j)) (by omega),Ι (by omega)];rw[Ζ,Ι (by omega)] at h1;have h1:xs[a*7+(3+j)]'(by omega)=_:=h1;rw[h1];rcases j with _|_|_|j
      ·simpa using hj
      ·simpa using hj
      ·simpa using hj
      omega
     have ng:=Z nf;have ku:=(e7.o _ _ ((HG.o.from_ _ (Ip (d:=dN) (by rw[T.o];exact ji))).1.choose_spec.2)).2;have nh:=Z (λV (G:Ext wr V)=>UF (rs.getD a dN) d ku.1 fe.o ku.2 hq.o (.agg #[r1,r2,r3]) (.agg D1) V (iy.o V ((aw.o.t gk).trans G)) (Ξ hl ((aw.o.t gk).trans G).size) (nc.ext ((aw.o.t gk).trans G)) (je.o.ext ((aw.o.t gk).trans G)));have ni:=Z (λV (G:Ext wr V)=>(fp.t G).heap ks.o);have tg:(a:Int)<(k:Int):=by omega
     clear nf nd nc ku h6;go_upto_region 11 with (fail)
     refine Bl 13 [(0,Α),(1,Α),(2,Α),(3,Α),(4,Α),(5,Α),(6,Α),(7,Α),(8,Α),(9,Α),(10,Α),(11,Ε),(12,Α),(13,Ε)] (by kernel_rfl) (by kernel_rfl) (λ_ _ _ _ h=>h) (λV=>Ext wr V) (Κ wr).drew ?_;have aq:=(Κ wr).drew;obtain⟨wy,ba⟩:=Xq (wr.drew);rw[ba] at aq;rw[ba];clear ba;iterate 9
      refine Af (v:=?_) rfl rfl (λV G=>?_) ?_
      rotate_left
      ·clear G;go_simp;first|done|with_reducible rfl
      simp only[η,Θ,Μ,Λ]
     refine Af (v:=.agg #[r1,r2,r3]) rfl rfl (λV G=>?_) ?_
     ·exact Cg 40 (δ 49) rfl E (a*7+3) rfl _ _ (ng.o V G) Ο rfl (Dk _ _ _)
     simp only[η,Θ,Μ,Λ];refine Af (v:=.agg D1) rfl rfl (λV G=>?_) ?_
     ·exact Em 40 (δ 9) rfl g9 rfl 40 D1 (0,0) _ (ni.o V G) Ο rfl jf
     simp only[η,Θ,Μ,Λ];refine Ao rfl (λKk hK=>?_);go_simp
     (with_reducible refine (nh.o wy aq).mono ?_)
     rintro e w8 ⟨bq,rfl,nj,gp⟩;have kv:=aq.t gp;have nk:=Z nj;refine hK _ _ (λ_=>kv) ?_;clear hK Kk nh gp aq ng ni nj;refine Af (v:=.bool (!bq)) rfl rfl (λV _=>?_) ?_
     ·go_simp
     simp only[η,Θ,Μ,Λ];refine Ao rfl (λKk hK=>?_);go_simp;refine hK _ _ (λh=>absurd h (by omega)) ?_;clear hK Kk;refine Bj ?_;have bp:=fp.t kv;cases bq with
     | false=>
      have q4:ϟ (∀ i,i<a+1->rs.getD i dN≠d):=Z λi hi=>by
       by_cases e:i=a
       ·subst e;intro h;have:=nk.o.2 h;cases this
       exact HA.o i (by omega)
      go_wp2_with (fail);go_roundw
      case rel=>exact⟨a+1,by omega,by go_num,bp,q4⟩
      simp[intOf]<;>omega
     | true=>
      have q5:=Z (nk.o.1 rfl);have ti:¬ (a:Int)=(k:Int):=by omega
      have tj:((a:Int)==(k:Int))=Ε:=by simp;omega
      have en:=Aa e2 bp;have df:=Aa hz bp;have gq:=Z (h5.o.ext bp);obtain⟨tk,rfl⟩:=Hj df (by omega);have gu:ms.length=k:=Di df;have eo:mb.length=k:=by rw[HG.o.len,T.o]
      obtain⟨gr,nn,ep⟩:=gq.o.row a (by omega);have cM:=C7 df a (by omega);rw[nn] at cM;have er:(mb.getD a []).length=n:=HG.o.mlen a (by rw[T.o];exact ji);have cO:=Au Ε ep (by rw[er]) s (by rw[er];exact bf);have fO:=ep.frozenAt s;obtain⟨gv,et,h8⟩:=gq.o.store (s:=s) (by omega) nn;have eu:=(ek.t bp).grown et (λk e=>by cases e;exact h8);have jj:=en.kept et (Aj en ep (by decide));have jk:=df.kept et (Aj df ep (by decide));have gw:=Z gv;have fa:=Z (HG.o.hit bf (by rw[T.o];exact ji) (by rw[q5.o];exact HR.o));clear gv et h8 ep er gu eo en df e2 hz h5 gq bp fp ek gk kv;go_wp2_with (fail);go_roundw
      case rel=>exact⟨s+1,rs,_,xs,ms,_,_,c6,c7,by omega,by go_num,by rw[T.o],by rw[T.o],eu,by rw[T.o];exact jj,by rw[T.o];exact jk,HX,gw,fa⟩
      simp[intOf]<;>omega
    obtain rfl:a=k:=by omega
    have tl:¬ (a:Int)<(a:Int):=by omega
    go_upto_region 11 with (fail)
    refine Bl 13 [(0,Α),(1,Α),(2,Α),(3,Α),(4,Α),(5,Α),(6,Α),(7,Α),(8,Α),(9,Α),(10,Α),(11,Ε),(12,Α),(13,Ε)] (by kernel_rfl) (by kernel_rfl) (λ_ _ _ _ h=>h) (λV=>Ext wr V) (Κ wr).drew ?_;have aq:=(Κ wr).drew;obtain⟨wy,ba⟩:=Xq (wr.drew);rw[ba] at aq;rw[ba];clear ba;iterate 5
     refine Af (v:=?_) rfl rfl (λV G=>?_) ?_
     rotate_left
     ·clear G;go_simp;first|done|with_reducible rfl
     simp only[η,Θ,Μ,Λ]
    iterate 6
     refine F5 rfl rfl ?_;simp only[η,Θ,Μ,Λ]
    refine Ii rfl rfl (λ_=>aq) ?_;simp only[η,Θ,Μ,Λ];refine F5 rfl rfl ?_;simp only[η,Θ,Μ,Λ];refine Ao rfl (λKk hK=>?_);go_simp;refine hK _ _ (λh=>absurd h (by omega)) ?_;clear hK Kk;refine Bj ?_;have bp:=fp.t aq;have en:=Aa e2 bp;have df:=Aa hz bp;have gq:=Z (h5.o.ext bp);have np:=Z (bp.heap ks.o);have gp:=ek.t bp;have ia:=Z (XH (U ff fg fh) (U fj d.n.length fk) (U fl fm fo) D1 my.o.symm _ _ _ _ _ _ _ _ _ rfl rfl rfl);clear aq bp e2 hz h5 ks ek fp gk;go_upto_region 15 with (first
     | (refine Lr 40 (δ 9) np.o Ο jf ?_)
     | (refine Bk rfl 141 _ rfl #[U I 0 0,U I 0 0,U I 0 0,U ff fg fh,U fj d.n.length fk,U fl fm fo,U I 0 0] ?_ ?_;(simp[á,η];with_reducible exact ia.o))
     | (at_builtin;refine Ϙ _ rfl _ _ 78 rfl w1.heap.size 141 iO (.agg #[U I 0 0,U I 0 0,U I 0 0,U I 0 0,U I 0 0,U I 0 0,U I 0 0]) 7 168 Tryz.underlying78 qi qj qk ql rfl (by decide) (U a6 a c6) _ _ rfl (en.alloc _) _ 1 1 [U I 0 0,U I 0 0,U I 0 0,U ff fg fh,U fj d.n.length fk,U fl fm fo,U I 0 0] rfl rfl (Γ.news_of_block (Ad _ _)) (by simp[ξ]) (by decide) (by unfold maxLen;omega) (by omega) (by have:=gp.size;simp;omega) _ rfl ?_;intro g6 q8 w9 jj jl q9 _))
    have nq:=gp.alloc (Β #[U I 0 0,U I 0 0,U I 0 0,U ff fg fh,U fj d.n.length fk,U fl fm fo,U I 0 0] 141);have bg:=(Κ wy).alloc (Β #[U I 0 0,U I 0 0,U I 0 0,U ff fg fh,U fj d.n.length fk,U fl fm fo,U I 0 0] 141);have eu:=nq.grown jl (λk e=>(en.lt k e).1);have kx:=Aa en bg;have jk:=(Aa df bg).kept jl (Aj (Aa df bg) kx (by decide));have gw:=Z ((gq.o.ext bg).kept kx (by decide) jl);have ra:ϟ (RstR w (xs++[U I 0 0,U I 0 0,U I 0 0,U ff fg fh,U fj d.n.length fk,U fl fm fo,U I 0 0]) (rs++[d])):=Z (HX.o.snoc (by rw[T.o];exact en.1) (by have h1:=je.o;rw[<-my.o] at h1;exact h1))
    clear nq bg jl q9 en df gq gp kx ia np;have k1:=mv.o w9 eu;obtain⟨gn,ky⟩:=Xq (w9.heap.size);go_upto_region 16 with (first
     | (at_make;refine wpList_make_full _ rfl _ _ 38 rfl w9.heap.size 4 iB (.bool Ε) 1 Tryz.underlying38 hiB qf qg Φ Φ _ _ n rfl rfl rfl rfl (by rw[kg];omega) (by unfold maxLen;omega) (Υ _) ?_;rw[ky];intro dg ib ic;have bt:=eu.grown ic (λk e=>by cases e);have bc:=Bz jj ic;have ew:=Bz jk ic)
     | (at_builtin;refine Ϙ _ rfl _ _ 113 rfl w1.heap.size 38 iL (U I 0 0) 1 24 Tryz.underlying113 qo qp qq qs rfl (by decide) (U a7 a c7) _ _ rfl (ew.alloc _) _ 1 1 [U (J ⟨gn,0,I⟩) n n] rfl rfl (Γ.news_of_block (Ad _ _)) (by simp[ξ]) (by decide) (by unfold maxLen;omega) (by omega) (by have:=bt.size;simp;omega) _ rfl ?_;intro g7 nr jm dh ie re _))
    have ib:dg.ownsRow gn 4 1 (U (J ⟨gn,0,I⟩) n n) n ((θ n Ε).map ϊ):=by rw[<-B8];exact ib
    have bg:=(Κ dg).alloc (Β #[U (J ⟨gn,0,I⟩) n n] 38);have e3:=(bt.t bg).grown ie (λk e=>(ew.lt k e).1);have jn:=Aa ew bg;have e4:=(Aa bc bg).kept ie (Aj (Aa bc bg) jn (by decide));have gx:=(Aa ib bg).kept ie (Aj (Aa ib bg) jn (by decide));have ns:w1.heap.size<=gn:=by rw[<-ky];exact eu.size
    have gu:ms.length=a:=by have:=ew.1;omega
    have eo:mb.length=a:=by rw[HG.o.len,T.o]
    have nt:∀ i,i<mb.length->ms.getD i Ω≠U (J ⟨gn,0,I⟩) n n:=λi hi e=>by
     obtain⟨g',h1,h2⟩:=gw.o.row i hi;rw[e] at h1;injection h1 with h1 _ _
     injection h1 with h1
     injection h1 with h1 _ _
     have:=(h2.lt g' rfl).2;omega
    have ig:MbrR dg w1.heap.size n ms mb:=⟨λi hi=>by obtain⟨g',h1,h2⟩:=gw.o.row i hi;exact⟨g',h1,Bz h2 ic⟩,gw.o.dif⟩
    have ih:=((ig.ext bg).kept jn (by decide) ie).snoc (by rw[gu,eo]) (Ff gx ns) nt;have dh:jm.ownsRow w1.heap.size 38 1 (U (J ⟨g7,0,I⟩) (a+1) nr) (a+1) (ms++[U (J ⟨gn,0,I⟩) n n]):=dh;have cM:=C7 dh a (by rw[Ν,gu];simp);have kz:(ms++[Ϗ (J ⟨gn,0,I⟩) n n]).getD a Ω=U (J ⟨gn,0,I⟩) n n:=by rw[<-gu,Fl]
    rw[kz] at cM;have cO:=Au Ε gx (by simp) s (by simp;exact bf);have fO:=gx.frozenAt s;obtain⟨gv,et,h8⟩:=ih.store (s:=s) (a:=a) (by rw[Ν,eo];simp) kz;have jq:=e3.grown et (λk e=>by cases e;exact h8);have e5:=e4.kept et (Aj e4 gx (by decide));have ij:=dh.kept et (Aj dh gx (by decide));have nu:((mb++[θ n Ε]).set a (((mb++[θ n Ε]).getD a []).set s Α))=mb++[(θ n Ε).set s Α]:=by rw[<-eo,Fl,List.set_append_right _ _ (Υ _),Nat.sub_self];rfl
    rw[nu] at gv;have rf:=Z gv;have hd:d∉rs:=λh=>by obtain⟨i,hi,e⟩:=Zq (d:=dN) h;exact HA.o i (by rw[T.o] at hi;exact hi) e
    have fa:=Z (HG.o.new bf hd HR.o qx.o);clear gv et h8 nu ih ig nt eo ns gx e4 jn e3 bg ib bc ew bt ic ie re dh gu jj jk gw eu k1 ky hd kz;have e1:(rs++[d]).length=a+1:=by rw[Ν,T.o];rfl
    have jr:=Z e1;clear e1;go_wp2_with (fail);go_roundw
    case rel=>exact⟨s+1,rs++[d],_,_,_,_,_,q8,nr,by omega,by go_num,by rw[jr.o],by rw[jr.o],jq,by rw[jr.o];exact e5,by rw[jr.o];exact ij,ra,rf,fa⟩
    simp[intOf]<;>omega
 obtain rfl:n=s:=by omega
 have tn:k<=n:=kj;have eo:mb.length=k:=by rw[HG.o.len,T.o]
 have rh:=Z eo;clear eo;go_upto_region 18 with (fail)
 have nw:ϟ (GrpR w wr xs rs [] 0):=Z (GrpR.start HX.o);clear HX;go_wp2_with (fail);go_loopw [82] (λvi W=>∃ (j:Nat) (hs:List Dfa) (ft:List Δ),j<=k/\vi=iv j/\Ext w1 W/\W.ownsRow w1.heap.size 141 7 (U a6 k c6) k ft/\W.ownsRow w1.heap.size 38 1 (U a7 k c7) k ms/\ϟ (MbrR W w1.heap.size n ms mb)/\ϟ (GrpR w W ft rs hs j)/\ϟ (hs.length=j/\∀ i,i<j->Cano (hs.getD i dN)/\(hs.getD i dN).n.length<=64/\∀ u,(hs.getD i dN).has u=Α↔(mb.getD i []).getD ((Az L H []).run 0 u) Ε=Α))
  (λvi _=>k-(intOf vi).toNat)
 case atStart=>exact⟨0,[],xs,by omega,rfl,hE,X,hM,HM,nw,Z ⟨rfl,λi hi=>by omega⟩⟩
 clear hE X hM HM nw hs bf kj;obtain⟨j,hs,ft,hj,rfl,hE,X,hM,HM,HS,HH⟩:=hrel;by_cases bf:j<k
 ·obtain⟨E,rfl⟩:=Hj X (by omega);obtain⟨gM,rfl⟩:=Hj hM (by omega);obtain⟨gj,ny,ep⟩:=HM.o.row j (by rw[rh.o];exact bf);have cM:=C7 hM j (by rw[Di hM];exact bf);rw[ny] at cM;have CM:=Z (λV (G:Ext wr V)=>G.cell cM);have jt:(mb.getD j []).length=n:=HG.o.mlen j (by rw[T.o];exact bf);obtain⟨mj,k0⟩:=Xq (mb.getD j []);rw[k0] at jt ep;have n1:=Z k0;have n2:Bools wr (U (J ⟨gj,0,I⟩) n n) mj:=by
   have h9:OwnB wr w1.heap.size (U (J ⟨gj,0,I⟩) n n) mj:=by unfold OwnB;rw[jt];exact ep
   exact h9.bools (by rw[jt];omega)
  have n3:WVal L H mj:=⟨e0.o.pos,by rw[jt,HN.o],e0.o.row,e0.o.tgt,e0.o.parts⟩;have f148:=λV (G:Ext wr V)=>Z (Qz L H mj n3 (by rw[HN.o];exact mg) A (U (J ⟨gj,0,I⟩) n n) V (iy.o V ((aw.o.t hE).trans G)) (Ξ hl ((aw.o.t hE).trans G).size) (p9.o.ext ((aw.o.t hE).trans G)) (n2.ext G))
  obtain⟨r0,n4⟩:=Xq (L0 (λu=>(Az L H mj).has u=Α));have rj:=Z n4;have n5:=Z (hE.heap H2.o);have tp:(j:Int)<(k:Int):=by omega
  clear cM ny k0 ep n2 n3 n4;go_upto_region 21 with (fail)
  refine Pi 10 153 8 (by kernel_rfl) (by kernel_rfl) rfl (λ_ _ _ _ h=>h) (S5 (Dc (λu=>(Az L H mj).has u=Α) r0) wr.heap.size A (U (J ⟨gM,0,I⟩) k c7) gM j (U (J ⟨gj,0,I⟩) n n) r0) Hk Jr (VQ _ _ _ _ _ _ _ _) _ rfl (λc W ar=>?_) (λi hi=>?_) (λvs w9 eu hF hN=>?_)
  ·obtain⟨ac,lc,cc,an,ln,cn,aa,la,ca,k5,-⟩:ColV (Dc (λu=>(Az L H mj).has u=Α) r0) r0 (c.tmps.getD 85 Ω) W:=ar 6 85 (by kernel_rfl);exact⟨.int Φ (kOf r0),λW=>by simp only[execOp,á,k5];rfl⟩
  ·have gz:=(Κ wr).drew
   match i,hi with
   | 0,_=>
    refine Ap _ _ rfl rfl rfl λc W hW ar bw=>?_
    have h3:=bw 2 (by kernel_rfl);refine Cr (Em 128 (δ 2) rfl w.heap.size h3 _ _ _ _ ((gz.t hW).heap n5.o) Tryz.underlying128 rfl qd) ?_;exact⟨_,rfl,Κ W,rfl,λ_ _ _ _ _=>trivial⟩
   | 1,_=>
    refine Ap _ _ rfl rfl rfl λc W hW ar bw=>?_
    have h3:c.tmps.getD 7 Ω=U (J ⟨gM,0,I⟩) k c7:=bw 7 (by kernel_rfl);go_simp;exact⟨_,rfl,Κ W,rfl,λ_ _ _ _ _=>trivial⟩
   | 2,_=>
    refine Ap _ _ rfl rfl rfl λc W hW ar bw=>?_
    have h3:c.tmps.getD 14 Ω=iv j:=bw 14 (by kernel_rfl);go_simp;exact⟨_,rfl,Κ W,rfl,λ_ _ _ _ _=>trivial⟩
   | 3,_=>
    refine Ap _ _ rfl rfl rfl λc W hW ar bw=>?_
    have h3:c.tmps.getD 87 Ω=U (J ⟨gM,0,I⟩) k c7:=ar 1 87 (by kernel_rfl);have h4:c.tmps.getD 88 Ω=iv j:=ar 2 88 (by kernel_rfl);go_simp;exact⟨_,rfl,Κ W,rfl,λ_ _ _ _ _=>trivial⟩
   | 4,_=>
    refine Ap _ _ rfl rfl rfl λc W hW ar bw=>?_
    have h3:c.tmps.getD 89 Ω=ε (J ⟨gM,j,I⟩):=ar 3 89 (by kernel_rfl);have c1:=CM.o W (gz.t hW);go_simp;exact⟨_,rfl,Κ W,rfl,λ_ _ _ _ _=>trivial⟩
   | 5,_=>
    refine Ap _ _ rfl rfl rfl λc W hW ar bw=>?_
    have h3:c.tmps.getD 86 Ω=.agg A:=ar 0 86 (by kernel_rfl);have h4:c.tmps.getD 90 Ω=U (J ⟨gj,0,I⟩) n n:=ar 4 90 (by kernel_rfl);go_simp
    (with_reducible refine (f148 W (gz.t hW)).o.mono ?_)
    rintro e W' ⟨r,rn,rp,rq⟩;obtain⟨v,rfl,hv⟩:=VN rn rp;rw[rj.o] at hv;exact⟨_,rfl,rq,hv,λ_ _ _ _ _=>trivial⟩
   | 6,_=>
    refine Ap _ _ rfl rfl rfl λc W hW ar bw=>?_
    obtain⟨ac,lc,cc,an,ln,au,aa,la,ca,tq,hv⟩:ColV (Dc (λu=>(Az L H mj).has u=Α) r0) r0 (c.tmps.getD 91 Ω) W:=ar 5 91 (by kernel_rfl);go_simp;exact⟨_,rfl,Κ W,⟨ac,lc,cc,an,ln,au,aa,la,ca,rfl,by first|exact hv|exact⟨hv.1,trivial⟩⟩,λ_ _ _ _ _=>trivial⟩
   | 7,_=>
    refine Ap _ _ rfl rfl rfl λc W hW ar bw=>?_
    obtain⟨ac,lc,cc,an,ln,au,aa,la,ca,k5,hv⟩:ColV (Dc (λu=>(Az L H mj).has u=Α) r0) r0 (c.tmps.getD 85 Ω) W:=ar 6 85 (by kernel_rfl);go_simp;exact⟨_,rfl,Κ W,⟨ac,lc,cc,an,ln,au,aa,la,ca,rfl,by first|exact hv|exact⟨hv.1,trivial⟩⟩,λ_ _ _ _ _=>trivial⟩
   | 8,_=>
    refine Ap _ _ rfl rfl rfl λc W hW ar bw=>?_
    obtain⟨ac,lc,cc,an,ln,au,aa,la,ca,k5,hv⟩:ColV (Dc (λu=>(Az L H mj).has u=Α) r0) r0 (c.tmps.getD 85 Ω) W:=ar 6 85 (by kernel_rfl);go_simp;exact⟨_,rfl,Κ W,rfl,λ_ _ _ _ _=>trivial⟩
   | 9,_=>
    refine Ap _ _ rfl rfl rfl λc W hW ar bw=>?_
    go_simp;exact⟨_,rfl,(Κ W).alloc _,⟨_,rfl,Ad W _,(gz.t hW).size⟩,λ_ _ _ _ _=>trivial⟩
  have n9:vs 0=.agg A:=hF 0 (by omega);have oa:vs 1=U (J ⟨gM,0,I⟩) k c7:=hF 1 (by omega);have ob:vs 2=iv j:=hF 2 (by omega);have oc:vs 3=ε (J ⟨gM,j,I⟩):=hF 3 (by omega);have od:vs 4=U (J ⟨gj,0,I⟩) n n:=hF 4 (by omega);obtain⟨_,_,_,_,_,_,_,_,_,oe,-⟩:ColV (Dc (λu=>(Az L H mj).has u=Α) r0) r0 (vs 5) w9:=hF 5 (by omega);obtain⟨_,_,_,_,_,_,_,_,_,og,-⟩:ColV (Dc (λu=>(Az L H mj).has u=Α) r0) r0 (vs 6) w9:=hF 6 (by omega);obtain⟨ac,lc,cc,an,ln,au,aa,la,ca,oh,hD,om⟩:∃ ac lc cc an ln cn aa la ca,vs 7=.agg (dA (U ac lc cc) (U an ln cn) (U aa la ca))/\(∀ d,r0=J d->IsD w9 (.agg (dA (U ac lc cc) (U an ln cn) (U aa la ca))) d)/\Dc (λu=>(Az L H mj).has u=Α) r0:=hF 7 (by omega);have oo:vs 8=.int Φ (kOf r0):=hF 8 (by omega);obtain⟨ju,oq,dn,ot⟩:∃ g,vs 9=ε (J ⟨g,0,I⟩)/\w9.heap[g]? = J (Β #[U I 0 0,U I 0 0,U I 0 0] 40 (0,0))/\wr.heap.size<=g:=hF 9 (by omega);simp only[Bq,List.drop_succ_cons,List.drop_zero,n9,oa,ob,oc,od,oe,og,oh,oo,oq,List.getElem?_toArray,List.getElem?_cons_zero,List.getElem?_cons_succ,Option.bind_some,η,Θ,Μ,Λ];clear hF hN n9 oa ob oc od oe og oh oo oq;go_upto_region 22 with (refine Sr 40 (δ 15) (δ 92) rfl dn Ae rfl (Av _ _ _ rfl rfl rfl) ?_)
  have bt:=((Κ wr).drew.t eu).setRow ot (dA (U ac lc cc) (U an ln au) (U aa la ca));have k6:=setRow_heap w9 ju _ (dA (U ac lc cc) (U an ln au) (U aa la ca)) _ _ dn;have k7:∀ d,r0=J d->Val d->IsD (w9.setRow ju (dA (U ac lc cc) (U an ln au) (U aa la ca))) (.agg (dA (U ac lc cc) (U an ln au) (U aa la ca))) d:=λd hd rr=>(hD d hd).setRow rr dn _
  obtain⟨dg,k9⟩:=Xq (w9.setRow ju (dA (U ac lc cc) (U an ln au) (U aa la ca)));rw[k9] at bt k6 k7;simp only[k9];clear k9 eu dn hD ot;have dn:=Z k6;have ou:=Z k7;have lb:=Z om;clear om;clear k6 k7 f148 n5 CM;cases r0 with
  | none=>
   rw[show kOf I=2 from rfl];have ru:Big (λu=>(Az L H mj).has u=Α):=lb.o;have kg:ϟ (Big λu=>ρ ((Az L H []).run 0 u)=J (rs.getD j dN)):=Z (by
    have e:(λu=>(Az L H mj).has u=Α)=λu=>ρ ((Az L H []).run 0 u)=J (rs.getD j dN):=funext λu=>propext (by
     have ow:(Az L H []).run 0 u<n:=by have:=e0.o.tval.run_lt u e0.o.tval.pos;rw[<-HN.o];exact this
     have h1:=HG.o.mem j (by rw[T.o];exact bf) _ ow;rw[n1.o] at h1;exact h1.trans ⟨λh=>h.2,λh=>⟨ow,h⟩⟩)
    rwa [e] at ru)
   go_wp2_with (fail);go_ret2;exact⟨.inr ⟨rfl,_,kg.o⟩,(aw.o.t hE).trans bt⟩
  | some d=>
   rw[show kOf (J d)=0 from rfl];obtain⟨fc,oy,hp⟩:Cano d/\(∀ u,d.has u=Α↔(Az L H mj).has u=Α)/\d.n.length<=64:=lb.o;have hD:=ou.o d rfl fc.val;have fe:=Z fc;have rv:=Z oy;have hq:=Z hp;have oz:=hE.t bt;have bc:=Aa X bt;have ew:=Aa hM bt;have ig:=Z (HM.o.ext bt);have lf:=HS.o.nilx (NilX.of_ext bt);have h6:ft.length=k*7:=bc.1;have lg:∀ o,o<7->dg.cell? ⟨E,j*7+o,I⟩=J (ft.getD (j*7+o) Ω):=λo ho=>by rw[bc.cellAt (j*7+o) (by omega),Ζ,Ι (by omega)];rfl
   obtain⟨_,_,_,r1,r2,r3,_,lh,ry,_,fw⟩:=lf j (by rw[T.o];exact bf);obtain⟨rfl,rfl,rfl,rfl⟩:=fw (Υ _);have lj:∀ o,o<3->dg.cell? ⟨E,j*7+o,I⟩=J (U I 0 0):=λo ho=>by
    rw[lg o (by omega),lh o (by omega)];rcases o with _|_|_|o
    ·rfl
    ·rfl
    ·rfl
    omega
   have o2:dg.cell? ⟨E,j*7+6,I⟩=J (U I 0 0):=by rw[lg 6 (by omega),lh 6 (by omega)];rfl
   have o3:dg.there E (j*7) 3:=λo ho=>⟨by rw[lj o ho];rfl,bc.frozenAt _⟩
   have jv:w1.heap.size<=E:=(bc.lt E rfl).1;obtain⟨e4,il⟩:=Qq bc (j*7) (U ac lc cc) (U an ln au) (U aa la ca);have ey:=Qy (a:=U ac lc cc) (b:=U an ln au) (c:=U aa la ca) bc (by decide) lj (by omega);have e3:=oz.grown il (λx e=>by cases e;exact jv);have dh:=ew.kept il (Aj ew bc (by decide));have ih:=Z (ig.o.kept bc (by decide) il);have o4:=Z (lf.nilx ey);have jw:=hD.nilx fc.val ey;have o5:=Z ((il.block ju (Al dn.o) (λe=>by
    have h1:=dn.o;rcases bc.2 with⟨hv,_⟩|⟨g',tr,cur,hv,_,rz,_⟩
    ·cases hv
    injection hv with hv _ _
    injection hv with hv
    injection hv with hv _ _
    injection e with e
    rw[e,hv,rz] at h1;injection h1 with h1
    injection h1 with _ h2 _
    exact absurd h2 (by decide))).trans dn.o)
   have lk:(dg.setCells E (j*7) [U ac lc cc,U an ln au,U aa la ca]).cell? ⟨E,j*7+6,I⟩=J (U I 0 0):=by rw[e4.cellAt (j*7+6) (by omega),List.getElem?_set_ne (by omega),List.getElem?_set_ne (by omega),List.getElem?_set_ne (by omega),<-bc.cellAt (j*7+6) (by omega)];exact o2
   have o6:=Z o3;clear o3 o2 lj lg lh ry fw lf il X hM HM HS hE oz bc ew ig bt hD ou lb fc oy hp;go_upto_region 25 with (first
    | (refine Lr 40 (δ 15) dn.o Ο Ae ?_)
    | (refine wpList_store_mid rfl 40 (δ 101) (δ 99) rfl E (j*7) (dA (U ac lc cc) (U an ln au) (U aa la ca)) rfl rfl o6.o Ae (Av _ _ _ rfl rfl rfl) ?_))
   have o7:(dA (U ac lc cc) (U an ln au) (U aa la ca)).toList=[U ac lc cc,U an ln au,U aa la ca]:=rfl;rw[o7];obtain⟨jm,ll⟩:=Xq (dg.setCells E (j*7) [U ac lc cc,U an ln au,U aa la ca]);rw[ll] at e4 e3 dh ih o4 jw o5 lk ey;rw[ll];clear ll o7 o6 dn ey;have fL:=Z (Rf d fe.o.val hq.o (.agg (dA (U ac lc cc) (U an ln au) (U aa la ca))) jm (iy.o jm (aw.o.t e3)) (Ξ hl (aw.o.t e3).size) jw);have lo:=Z e4;have r4:=Z lk;clear lk e4;go_wp2_with (first
    | (refine Lr 40 (δ 15) o5.o Ο Ae ?_)
    | (go_at_call 12;(with_reducible refine fL.o.mono ?_);rintro e o8 ⟨gg,jq⟩;obtain⟨al,nl,cl,bl,rfl,o9⟩:=gg.form1;have r5:=Z o9;have e6:=Z jq;clear gg o9 jq;have c6:=e6.o.cell r4.o;have f6:=(Aa lo.o e6.o).frozenAt (j*7+6)))
   have e5:=Aa lo.o e6.o;have r6:w1.heap.size<=E:=(e5.lt E rfl).1;obtain⟨r7,jz⟩:=e5.stored (j*7+6) (U al nl cl);have ey:=(NilX.refl o8).set (v:=U al nl cl) e5 (by decide) c6 (.inl rfl);have r8:=(e3.t e6.o).grown jz (λx e=>by cases e;exact r6);have ij:=Aa dh e6.o;have r9:=ij.kept jz (Aj ij e5 (by decide));have sa:=Z ((ih.o.ext e6.o).kept e5 (by decide) jz);have pa:=(jw.ext e6.o).nilx fe.o.val ey;have pb:∃ u,By (o8.setCell ⟨E,j*7+6,I⟩ (U al nl cl)) (U al nl cl) u:=by obtain⟨u,hu⟩:=r5.o;exact⟨u,Sl.nilx hu ey (λi _=>⟨λe=>(by cases e),λe=>(by cases e)⟩)⟩
   have sb:=Z ((o4.o.nilx ((NilX.of_ext e6.o).trans ey)).put (by rw[T.o];exact h6) (by rw[T.o];exact bf) HH.o.1 fe.o.val pa pb);have sc:ϟ ((hs++[d]).length=j+1/\∀ i,i<j+1->Cano ((hs++[d]).getD i dN)/\((hs++[d]).getD i dN).n.length<=64/\∀ u,((hs++[d]).getD i dN).has u=Α↔(mb.getD i []).getD ((Az L H []).run 0 u) Ε=Α):=Z ⟨by rw[Ν,HH.o.1];rfl,λi hi=>by
    by_cases e:i<j
    ·rw[Fw _ _ _ (by rw[HH.o.1];exact e)];exact HH.o.2 i e
    obtain rfl:i=j:=by omega
    rw[show (hs++[d]).getD i dN=d by rw[<-HH.o.1,Fl],n1.o];exact⟨fe.o,hq.o,rv.o⟩⟩
   clear c6 f6 e5 jz ey ij pa pb jw e3 dh lo;go_roundw
   case rel=>exact⟨j+1,hs++[d],_,by omega,by go_num,r8,r7,r9,sa,sb,sc⟩
   simp[intOf]<;>omega
 obtain rfl:j=k:=by omega
 have er:(List.zipWith Opt.mk hs rs).length=j:=by rw[List.length_zipWith,HH.o.1,T.o,Nat.min_self]
 have j0:OpR wr ft (List.zipWith Opt.mk hs rs):=LO (w:=w) (by rw[T.o];exact X.1) (by rw[HH.o.1,T.o]) (by rw[T.o];exact HS.o) (aw.o.t hE) (λi hi=>(e7.o _ _ (HG.o.from_ _ (Ip hi)).1.choose_spec.2).2.1.val);have pc:ϟ (CollR (Az L H []).stp ρ (List.zipWith Opt.mk hs rs)):=Z (SP HG.o (λs d h=>⟨(e7.o s d h).1,(e7.o s d h).2.1⟩) (λu=>by
   have:=e0.o.tval.run_lt u e0.o.tval.pos;rw[<-HN.o];exact this) mr.o (by rw[HH.o.1,T.o]) (λi hi=>by
   obtain⟨h1,_,h3⟩:=HH.o.2 i (by rw[T.o] at hi;exact hi);exact⟨h1,h3⟩))
 have pd:ϟ (∀ o∈List.zipWith Opt.mk hs rs,o.head.n.length<=64/\o.rest.n.length<=64):=Z λo ho=>by
  obtain⟨i,hi,rfl⟩:=List.mem_iff_getElem.1 ho;rw[List.length_zipWith] at hi;have h1:i<hs.length:=by omega
  have h2:i<rs.length:=by omega
  rw[List.getElem_zipWith];have k1:=(HH.o.2 i (by rw[<-HH.o.1];exact h1)).2.1;have k2:=(e7.o _ _ (HG.o.from_ _ (Ip (d:=dN) h2)).1.choose_spec.2).2.2;rw[Ζ,Ι h1] at k1;rw[Ζ,Ι h2] at k2;exact⟨k1,k2⟩
 have lp:ϟ (∀ g,a6=J ⟨g,0,I⟩->Pc wr g (j*7)):=Z λg hg=>by have pf:=X;rw[hg] at pf;rw[<-er];exact j0.grp λo ho=>by rw[er] at ho;rw[pf.cellAt o (by omega),Ζ,Ι (by rw[X.1];exact ho)];rfl
 obtain⟨j1,pg⟩:=Xq (List.zipWith Opt.mk hs rs);rw[pg] at er j0 pc pd;have sd:=Z j0;have ph:=Z er;clear pg er j0 HS HH;obtain⟨we,se⟩:∃ V,V=wr:=⟨_,rfl⟩;subst se;go_wp2_with (fail);go_loopw [114] (λvi W=>∃ (i:Nat) (os:List Opt) (xs:List Δ),i<=j/\vi=iv i/\Ext w1 W/\W.ownsRow w1.heap.size 141 7 (U a6 j c6) j xs/\ϟ (j1.Perm os)/\ϟ (OpR we xs os)/\ϟ (∀ g,a6=J ⟨g,0,I⟩->RwC we W g (j*7)))
  (λvi _=>j-(intOf vi).toNat)
 case atStart=>exact⟨0,j1,ft,by omega,rfl,hE,X,Z (List.Perm.refl _),sd,Z λg _=>RwC.refl _ _ _⟩
 clear hE X HM hM;obtain⟨i,os,xs,hi,rfl,hE,X,dp,b0,bh⟩:=hrel;have ez:os.length=j:=by rw[<-dp.o.length_eq,ph.o]
 have b7:=Z ez;clear ez;by_cases bf:i<j
 ·obtain⟨E,rfl⟩:=Hj X (by omega);have ts:(i:Int)<(j:Int):=by omega
  have bh:=Z (bh.o E rfl);have pj:=Z (lp.o E rfl);go_upto_region 32 with (fail)
  go_loopw [19] (λvk W=>∃ (kk:Nat) (os:List Opt) (xs:List Δ),kk<=i/\vk=iv kk/\Ext w1 W/\W.ownsRow w1.heap.size 141 7 (U (J ⟨E,0,I⟩) j c6) j xs/\ϟ (j1.Perm os)/\ϟ (OpR we xs os)/\ϟ (RwC we W E (j*7)))
   (λvk _=>(intOf vk).toNat)
  case atStart=>exact⟨i,os,xs,by omega,rfl,hE,X,dp,b0,bh⟩
  clear hE X dp b0 bh b7 os xs;obtain⟨kk,os,xs,tt,rfl,hE,X,dp,b0,bh⟩:=hrel;have ez:os.length=j:=by rw[<-dp.o.length_eq,ph.o]
  have b7:=Z ez;by_cases pk:kk=0
  ·subst pk;go_upto_region 32 with (fail)
   refine Bl 14 [(0,Α),(1,Α),(2,Α),(3,Α),(4,Α),(5,Α),(6,Α),(7,Α),(8,Α),(9,Α),(10,Α),(11,Α),(12,Α),(13,Ε),(14,Ε)] (by kernel_rfl) (by kernel_rfl) (λ_ _ _ _ h=>h) (λV=>Ext wr V) (Κ wr).drew ?_;have aq:=(Κ wr).drew;obtain⟨wy,ba⟩:=Xq (wr.drew);rw[ba] at aq;rw[ba];clear ba;iterate 3
    refine Af (v:=?_) rfl rfl (λV G=>?_) ?_
    rotate_left
    ·clear G;go_simp;first|done|with_reducible rfl
    simp only[η,Θ,Μ,Λ]
   iterate 10
    refine F5 rfl rfl ?_;simp only[η,Θ,Μ,Λ]
   refine Ii rfl rfl (λ_=>aq) ?_;simp only[η,Θ,Μ,Λ];refine Ao rfl (λKk hK=>?_);go_simp;refine hK _ _ (λh=>absurd h (by omega)) ?_;clear hK Kk;refine Bj ?_;have im:=hE.t aq;have ir:=Aa X aq;have lr:ϟ (∀ g,(J ⟨E,0,I⟩:Option Addr)=J ⟨g,0,I⟩->RwC we wy g (j*7)):=Z λg hg=>by
    injection hg with hg
    injection hg with hg _ _
    subst hg;exact bh.o.ext aq
   clear hE X aq bh;go_wp2_with (fail);go_roundw
   case rel=>exact⟨i+1,os,xs,by omega,by go_num,im,ir,dp,b0,lr⟩
   simp[intOf]<;>omega
  have sf:(0:Int)<(kk:Int):=by omega
  obtain⟨q,rfl⟩:∃ q,kk=q+1:=⟨kk-1,by omega⟩;obtain⟨a1,a2,a3,a4,a5,a6,al,lu,j2,j3,j4,j5,lv⟩:=b0.o.2 (q+1) (by rw[ez];omega);obtain⟨b1,b2,b3,b4,b5,b6,bl,lx,j6,j7,j8,j9,ly⟩:=b0.o.2 q (by rw[ez];omega);have ka:=Z (λV (G:Ext wr V)=>Qu b0.o (Aa X G) ez (show q+1<j by omega) (cs:=[a1,a2,a3,a4,a5,a6,al]) rfl lu);have kb:=Z (λV (G:Ext wr V)=>Qu b0.o (Aa X G) ez (show q<j by omega) (cs:=[b1,b2,b3,b4,b5,b6,bl]) rfl lx);have pn:∃ u,By wr al u:=by obtain⟨u,hu⟩:=lv;exact⟨u,hu.rw bh.o pj.o⟩
  have ia:∃ u,By wr bl u:=by obtain⟨u,hu⟩:=ly;exact⟨u,hu.rw bh.o pj.o⟩
  obtain⟨⟨x1,m1,y1,rfl⟩,_⟩:=(Eu j2 j4).1;obtain⟨⟨x2,m2,y2,rfl⟩,_⟩:=(Eu j2 j4).2.1;obtain⟨⟨x3,m3,y3,rfl⟩,_⟩:=(Eu j2 j4).2.2;obtain⟨⟨x4,m4,y4,rfl⟩,_⟩:=(Eu j3 j5).1;obtain⟨⟨x5,m5,y5,rfl⟩,_⟩:=(Eu j3 j5).2.1;obtain⟨⟨x6,m6,y6,rfl⟩,_⟩:=(Eu j3 j5).2.2;obtain⟨x7,m7,y7,rfl⟩:∃ x n y,al=U x n y:=by obtain⟨u,hu⟩:=lv;obtain⟨x,y,h⟩:=Sl.len hu;exact⟨_,_,_,h⟩
  obtain⟨⟨z1,p1,v1,rfl⟩,_⟩:=(Eu j6 j8).1;obtain⟨⟨z2,p2,v2,rfl⟩,_⟩:=(Eu j6 j8).2.1;obtain⟨⟨z3,p3,v3,rfl⟩,_⟩:=(Eu j6 j8).2.2;obtain⟨⟨z4,p4,v4,rfl⟩,_⟩:=(Eu j7 j9).1;obtain⟨⟨z5,p5,v5,rfl⟩,_⟩:=(Eu j7 j9).2.1;obtain⟨⟨z6,p6,v6,rfl⟩,_⟩:=(Eu j7 j9).2.2;obtain⟨z7,p7,v7,rfl⟩:∃ x n y,bl=U x n y:=by obtain⟨u,hu⟩:=ly;obtain⟨x,y,h⟩:=Sl.len hu;exact⟨_,_,_,h⟩
  have po:=Z (λV (G:Ext wr V)=>LI _ _ _ _ _ _ _ _ _ _ _ _ (U x7 m7 y7) (U z7 p7 v7) (show (#[U x1 m1 y1,U x2 m2 y2,U x3 m3 y3,U x4 m4 y4,U x5 m5 y5,U x6 m6 y6,U x7 m7 y7]:Array Δ).all (·.oneCell')=Α by simp[ξ]) (show (#[U z1 p1 v1,U z2 p2 v2,U z3 p3 v3,U z4 p4 v4,U z5 p5 v5,U z6 p6 v6,U z7 p7 v7]:Array Δ).all (·.oneCell')=Α by simp[ξ]) V (by obtain⟨u,hu⟩:=pn;exact⟨u,hu.ext G⟩) (by obtain⟨u,hu⟩:=ia;exact⟨u,hu.ext G⟩));have sp:=enters_of Tryz.func83 (by kernel_rfl) rfl;have sq:=Z lu;have sr:=Z lx;have tu:(q:Int)+1<(j:Int):=by omega
  have tv:(q:Int)<(j:Int):=by omega
  have tw:(0:Int)<=(q:Int)+1:=by omega
  have tx:((q:Int)+1).toNat=q+1:=by omega
  have tz:(0:Int)<(q:Int)+1:=by omega
  have ua:Ü.wrap (q:Int)=(q:Int):=IntKind.wrap_i64_id (by omega) (by omega);have ub:(0:Int)<=(q:Int):=by omega
  clear lu lx j2 j3 j4 j5 lv j6 j7 j8 j9 ly pn ia sf pk ez;go_upto_region 32 with (fail)
  refine Bl 14 [(0,Α),(1,Α),(2,Α),(3,Α),(4,Α),(5,Α),(6,Α),(7,Α),(8,Α),(9,Α),(10,Α),(11,Α),(12,Α),(13,Ε),(14,Ε)] (by kernel_rfl) (by kernel_rfl) (λ_ _ _ _ h=>h) (λV=>Ext wr V) (Κ wr).drew ?_;have aq:=(Κ wr).drew;obtain⟨wy,ba⟩:=Xq (wr.drew);rw[ba] at aq;rw[ba];clear ba;iterate 7
   refine Af (v:=?_) rfl rfl (λV G=>?_) ?_
   rotate_left
   ·clear G;go_simp;first|done|with_reducible rfl
   simp only[η,Θ,Μ,Λ]
  refine Af (v:=.agg #[U x1 m1 y1,U x2 m2 y2,U x3 m3 y3,U x4 m4 y4,U x5 m5 y5,U x6 m6 y6,U x7 m7 y7]) rfl rfl (λV G=>?_) ?_
  ·exact Cg 141 (δ 124) rfl E ((q+1)*7) rfl _ _ (ka.o V G) Tryz.underlying141 rfl Ho
  simp only[η,Θ,Μ,Λ];iterate 4
   refine Af (v:=?_) rfl rfl (λV G=>?_) ?_
   rotate_left
   ·clear G;go_simp;first|done|with_reducible rfl
   simp only[η,Θ,Μ,Λ]
  refine Af (v:=.agg #[U z1 p1 v1,U z2 p2 v2,U z3 p3 v3,U z4 p4 v4,U z5 p5 v5,U z6 p6 v6,U z7 p7 v7]) rfl rfl (λV G=>?_) ?_
  ·exact Cg 141 (δ 129) rfl E (q*7) rfl _ _ (kb.o V G) Tryz.underlying141 rfl Ho
  simp only[η,Θ,Μ,Λ];refine Ao rfl (λKk hK=>?_);go_simp
  (with_reducible refine (po.o wy aq).mono ?_)
  rintro e w5 ⟨bo,rfl,su⟩;have iu:=aq.t su;refine hK _ _ (λ_=>iu) ?_;clear hK Kk po sp;refine Ao rfl (λKk hK=>?_);go_simp;refine hK _ _ (λh=>absurd h (by omega)) ?_;clear hK Kk;refine Bj ?_;have im:=hE.t iu;have pq:=Z iu;have ir:=Aa X iu;have kc:=bh.o.ext iu;cases bo with
  | false=>
   have lr:ϟ (∀ g,(J ⟨E,0,I⟩:Option Addr)=J ⟨g,0,I⟩->RwC we w5 g (j*7)):=Z λg hg=>by
    injection hg with hg
    injection hg with hg _ _
    subst hg;exact kc
   clear kc hE X bh ka kb;go_wp2_with (fail);go_roundw
   case rel=>exact⟨i+1,os,xs,by omega,by go_num,im,ir,dp,b0,lr⟩
   simp[intOf]<;>omega
  | true=>
   go_upto_region 34 with (fail)
   refine EE 17 [(0,0),(1,0),(2,0),(3,0),(4,0),(5,0),(6,0),(7,0),(8,0),(10,0),(11,0),(12,0),(9,15),(14,0),(15,1),(16,0),(17,1)] (by kernel_rfl) (by kernel_rfl) (λ_ _ _ _ h=>h) (λ_=>True) trivial ?_;have fv:=(Κ w5).drew;obtain⟨wz,l3⟩:=Xq (w5.drew);rw[l3] at fv;rw[l3];clear l3;iterate 12
    refine Pu (v:=?_) rfl rfl (λV _=>?_) ?_
    rotate_left
    ·go_simp;first|done|with_reducible rfl
    simp only[η,Θ,Μ,Λ]
   have l4:=ka.o wz (pq.o.t fv);have l5:=kb.o wz (pq.o.t fv);refine GC (vi:=.agg #[U z1 p1 v1,U z2 p2 v2,U z3 p3 v3,U z4 p4 v4,U z5 p5 v5,U z6 p6 v6,U z7 p7 v7]) (vj:=.agg #[U x1 m1 y1,U x2 m2 y2,U x3 m3 y3,U x4 m4 y4,U x5 m5 y5,U x6 m6 y6,U x7 m7 y7]) rfl rfl rfl rfl rfl rfl (Cg 141 (δ 143) rfl E (q*7) rfl _ _ l5 Tryz.underlying141 rfl Ho) (Cg 141 (δ 147) rfl E ((q+1)*7) rfl _ _ l4 Tryz.underlying141 rfl Ho) (Cg 141 (δ 147) rfl E ((q+1)*7) rfl _ _ l4 Tryz.underlying141 rfl Ho) (Cg 141 (δ 143) rfl E (q*7) rfl _ _ l5 Tryz.underlying141 rfl Ho) rfl trivial ?_;simp only[η,Θ,Μ,Λ];refine Pu (v:=?_) rfl rfl (λV _=>?_) ?_
   rotate_left
   ·go_simp;first|done|with_reducible rfl
   simp only[η,Θ,Μ,Λ];have hh:=Aa ir fv;have h6:xs.length=j*7:=hh.1;have jv:w1.heap.size<=E:=(hh.lt E rfl).1;obtain⟨kd,l6⟩:=Il [U z1 p1 v1,U z2 p2 v2,U z3 p3 v3,U z4 p4 v4,U z5 p5 v5,U z6 p6 v6,U z7 p7 v7] wz xs ((q+1)*7) hh;obtain⟨pr,l7⟩:=Il [U x1 m1 y1,U x2 m2 y2,U x3 m3 y3,U x4 m4 y4,U x5 m5 y5,U x6 m6 y6,U x7 m7 y7] _ _ (q*7) kd;have pt:wz.there E ((q+1)*7) 7:=λo ho=>by refine⟨?_,hh.frozenAt _⟩;rw[hh.cellAt ((q+1)*7+o) (by omega),Ι (by omega)];rfl
   have px:(wz.setCells E ((q+1)*7) [U z1 p1 v1,U z2 p2 v2,U z3 p3 v3,U z4 p4 v4,U z5 p5 v5,U z6 p6 v6,U z7 p7 v7]).there E (q*7) 7:=λo ho=>by refine⟨?_,kd.frozenAt _⟩;rw[kd.cellAt (q*7+o) (by omega),Ι (by rw[Jf];omega)];rfl
   have py:=((im.t fv).grown l6 (λx e=>by cases e;exact jv)).grown l7 (λx e=>by cases e;exact jv);have pz:=((kc.ext fv).set (o:=(q+1)*7) (cs:=[U z1 p1 v1,U z2 p2 v2,U z3 p3 v3,U z4 p4 v4,U z5 p5 v5,U z6 p6 v6,U z7 p7 v7]) l6.size (by simp;omega)).set (o:=q*7) (cs:=[U x1 m1 y1,U x2 m2 y2,U x3 m3 y3,U x4 m4 y4,U x5 m5 y5,U x6 m6 y6,U x7 m7 y7]) l7.size (by simp;omega);have sv:=Z (LN b0.o (k:=q+1) (by omega) (by rw[b7.o];omega) (cs:=[U z1 p1 v1,U z2 p2 v2,U z3 p3 v3,U z4 p4 v4,U z5 p5 v5,U z6 p6 v6,U z7 p7 v7]) (cs':=[U x1 m1 y1,U x2 m2 y2,U x3 m3 y3,U x4 m4 y4,U x5 m5 y5,U x6 m6 y6,U x7 m7 y7]) rfl rfl sr.o sq.o);have sw:ϟ (j1.Perm ((os.set (q+1) (os[q+1-1]'(by rw[b7.o];omega))).set (q+1-1) (os[q+1]'(by rw[b7.o];omega)))):=Z (dp.o.trans (List.set_set_perm (by rw[b7.o];omega) (by rw[b7.o];omega)).symm);have p0:=Z pt;have l8:=Z px;have l9:=Z pr;have ma:=Z py;have mc:=Z pz;clear l4 l5 hh h6 kd l6 pr l7 pt px py pz kc ir im hE X bh ka kb fv;refine U0 rfl (λKk hK=>?_);refine La 141 (δ 149) (δ 144) rfl rfl E ((q+1)*7) #[U z1 p1 v1,U z2 p2 v2,U z3 p3 v3,U z4 p4 v4,U z5 p5 v5,U z6 p6 v6,U z7 p7 v7] rfl rfl p0.o Ho (by simp[ξ]) ?_;refine hK _ _ (λ_=>trivial) ?_;clear hK Kk;have iw:(#[U z1 p1 v1,U z2 p2 v2,U z3 p3 v3,U z4 p4 v4,U z5 p5 v5,U z6 p6 v6,U z7 p7 v7]:Array Δ).toList=[U z1 p1 v1,U z2 p2 v2,U z3 p3 v3,U z4 p4 v4,U z5 p5 v5,U z6 p6 v6,U z7 p7 v7]:=rfl;rw[iw];clear iw;obtain⟨wm,me⟩:=Xq (wz.setCells E ((q+1)*7) [U z1 p1 v1,U z2 p2 v2,U z3 p3 v3,U z4 p4 v4,U z5 p5 v5,U z6 p6 v6,U z7 p7 v7]);rw[me] at l8 l9 ma mc;rw[me];clear me;refine Pu (v:=?_) rfl rfl (λV _=>?_) ?_
   rotate_left
   ·go_simp;first|done|with_reducible rfl
   simp only[η,Θ,Μ,Λ];refine U0 rfl (λKk hK=>?_);refine La 141 (δ 150) (δ 148) rfl rfl E (q*7) #[U x1 m1 y1,U x2 m2 y2,U x3 m3 y3,U x4 m4 y4,U x5 m5 y5,U x6 m6 y6,U x7 m7 y7] rfl rfl l8.o Ho (by simp[ξ]) ?_;refine hK _ _ (λh=>absurd h (by omega)) ?_;clear hK Kk;refine GD ?_;have iw:(#[U x1 m1 y1,U x2 m2 y2,U x3 m3 y3,U x4 m4 y4,U x5 m5 y5,U x6 m6 y6,U x7 m7 y7]:Array Δ).toList=[U x1 m1 y1,U x2 m2 y2,U x3 m3 y3,U x4 m4 y4,U x5 m5 y5,U x6 m6 y6,U x7 m7 y7]:=rfl;rw[iw];clear iw;obtain⟨wf,mf⟩:=Xq (wm.setCells E (q*7) [U x1 m1 y1,U x2 m2 y2,U x3 m3 y3,U x4 m4 y4,U x5 m5 y5,U x6 m6 y6,U x7 m7 y7]);rw[mf] at l9 ma mc;rw[mf];clear mf p0 l8;go_wp2_with (fail);go_roundw
   case rel=>exact⟨q,_,_,by omega,by go_num,ma.o,l9.o,sw,sv,mc⟩
   simp[intOf]<;>omega
 obtain rfl:i=j:=by omega
 have sy:ϟ (OpsV wr (U a6 i c6) os):=Z (by refine⟨a6,c6,by rw[b7.o],λx hx=>?_⟩;obtain⟨E,rfl⟩:=Hj X (by rw[<-b7.o];omega);obtain⟨h1,h2,h3,r1,r2,r3,l,hc,s0,s3,gz,s4,u,hu⟩:=b0.o.2 x hx;obtain⟨la,lc,rfl⟩:=Sl.len hu;exact⟨E,h1,h2,h3,r1,r2,r3,la,_,lc,rfl,Qu b0.o X b7.o (by rw[<-b7.o];exact hx) rfl hc,gz.rw s0 (bh.o E rfl) (lp.o E rfl),s4.rw s3 (bh.o E rfl) (lp.o E rfl)⟩)
 have s5:=Z (pc.o.perm dp.o);have s6:ϟ (os.length<=65536/\∀ o∈os,o.head.n.length<=64/\o.rest.n.length<=64):=Z ⟨by rw[b7.o];omega,λo ho=>pd.o o (dp.o.mem_iff.2 ho)⟩;clear X;go_wp2_with (fail);go_ret2;exact⟨.inl ⟨os,_,rfl,s5.o,s6.o,sy.o⟩,aw.o.t hE⟩
def shR (r:List Nat):List Nat:=r.map (·+1)
theorem M7 (r:List Nat):(shR r).length=r.length:=by simp[shR]
theorem Vn {r:List Nat} {k:Nat} (E:k<r.length):(shR r).getD k 0=r.getD k 0+1:=by unfold shR;rw[Ζ,ν,Ι E,Ζ,Ι E];rfl
def bhN (a:Dfa) (s:Nat):List (List Nat):=shR (a.n.getD s [])::a.n.map shR
theorem Hu (a:Dfa) (s:Nat):(bhN a s).length=a.n.length+1:=by simp[bhN]
theorem Tv {a:Dfa} {s q:Nat} (E:q<a.n.length):(bhN a s).getD (q+1) []=shR (a.n.getD q []):=by unfold bhN;rw[List.getD_cons_succ,Ζ,ν,Ι E,Ζ,Ι E];rfl
theorem CV {a:Dfa} {s:Nat} (E:s<a.n.length) {p:Nat} (G:p<(bhN a s).length):∃ q,q<a.n.length/\(bhN a s).getD p []=shR (a.n.getD q []):=by
 rw[Hu] at G;cases p with
 | zero=>exact⟨s,E,rfl⟩
 | succ q=>exact⟨q,by omega,Tv (by omega)⟩
theorem XZ {a:Dfa} (E:Val a) {s:Nat} (T:s<a.n.length):WVal a.cls (bhN a s) (Ε::a.acc) where
 pos:=by rw[Hu];omega
 accL:=by rw[Hu,ϑ,E.accL]
 row:=λp H=>by obtain⟨q,G,e⟩:=CV T H;rw[e,M7,E.row q G]
 tgt:=λp H k X=>by obtain⟨q,G,e⟩:=CV T H;have h1:=E.tgt q G k X;unfold Dfa.ent2 at h1;rw[e,Vn (by rw[E.row q G];exact X),Hu];omega
 parts:=E.parts
theorem CT {a:Dfa} (E:Val a) {s:Nat} (A:List Bool) {p q:Nat} (G:q<a.n.length) (e:(bhN a s).getD p []=shR (a.n.getD q [])) {b:Nat} (hb:b<256):(Az a.cls (bhN a s) A).stp p b=a.stp q b+1:=by show ((bhN a s).getD p []).getD (Am a.cls b) 0=_;rw[e,Vn (by rw[E.row q G];exact cell_lt E.parts hb)];rfl
theorem CU {a:Dfa} (E:Val a) {s:Nat} (A:List Bool):∀ (u:List UInt8) (q:Nat),q<a.n.length->(Az a.cls (bhN a s) A).run (q+1) u=a.run q u+1
 | [],_,_=>rfl
 | c::u,q,G=>by show (Az a.cls (bhN a s) A).run ((Az a.cls (bhN a s) A).stp (q+1) c.toNat) u=a.run (a.stp q c.toNat) u+1;rw[CT E A G (Tv G) c.toNat_lt];exact CU E A u _ (E.stp_lt G c.toNat_lt)
theorem XY {a:Dfa} (E:Val a) {s:Nat} (G:s<a.n.length) (u:List UInt8):(Az a.cls (bhN a s) (Ε::a.acc)).has u=Α↔Ds a s u:=by
 cases u with
 | nil=>
  constructor
  ·intro h;cases h
  rintro⟨h,_⟩;exact absurd rfl h
 | cons c u=>
  have e:(Az a.cls (bhN a s) (Ε::a.acc)).run 0 (c::u)=a.run s (c::u)+1:=by show (Az a.cls (bhN a s) (Ε::a.acc)).run ((Az a.cls (bhN a s) (Ε::a.acc)).stp 0 c.toNat) u=a.run (a.stp s c.toNat) u+1;rw[CT E (Ε::a.acc) G (p:=0) rfl c.toNat_lt];exact CU E _ u _ (E.stp_lt G c.toNat_lt)
  have H:(Az a.cls (bhN a s) (Ε::a.acc)).has (c::u)=a.ok (a.run s (c::u)):=by show (Az a.cls (bhN a s) (Ε::a.acc)).ok ((Az a.cls (bhN a s) (Ε::a.acc)).run 0 (c::u))=_;rw[e];rfl
  rw[H];exact⟨λh=>⟨by simp,h⟩,λh=>h.2⟩
structure GRho (a b:Dfa) (s:Nat) (ρ:Nat->Option Dfa):Prop where
 yes:∀ x,x<s->a.ok x=Α->∃ d,ρ x=J d/\Cano d/\d.n.length<=64/\∀ v,d.has v=Α↔b.has v=Α/\¬ Cat (Ds a x) (wd1 b) v
 no:∀ x,x<s->a.ok x=Ε->ρ x=I
 o:∀ x,s<=x->ρ x=I
theorem SR (a b:Dfa):GRho a b 0 (λ_=>I):=⟨λx h=>by omega,λx h=>by omega,λ_ _=>rfl⟩
theorem SS {a b:Dfa} {s:Nat} {ρ:Nat->Option Dfa} (h:GRho a b s ρ) (G:a.ok s=Ε):GRho a b (s+1) ρ where
 yes:=λx hx E=>by
  refine h.yes x ?_ E;by_cases e:x=s
  ·subst e;rw[G] at E;cases E
  omega
 no:=λx hx E=>by
  by_cases e:x=s
  ·subst e;exact h.o x (Υ _)
  exact h.no x (by omega) E
 o:=λx hx=>h.o x (by omega)
theorem ST {a b:Dfa} {s:Nat} {ρ:Nat->Option Dfa} (h:GRho a b s ρ) (G:a.ok s=Α) {d:Dfa} (hd:Cano d) (H:d.n.length<=64) (T:∀ v,d.has v=Α↔b.has v=Α/\¬ Cat (Ds a s) (wd1 b) v):GRho a b (s+1) (λz=>if z=s then J d else ρ z) where
 yes:=λx hx E=>by
  by_cases e:x=s
  ·subst e;exact⟨d,if_pos rfl,hd,H,T⟩
  obtain⟨X,h1,h2⟩:=h.yes x (by omega) E;exact⟨X,by rw[if_neg e];exact h1,h2⟩
 no:=λx hx E=>by
  by_cases e:x=s
  ·subst e;rw[G] at E;cases E
  rw[if_neg e];exact h.no x (by omega) E
 o:=λx hx=>by rw[if_neg (by omega)];exact h.o x (by omega)
theorem SV {a b:Dfa} {ρ:Nat->Option Dfa} (h:GRho a b a.n.length ρ) (s:Nat) (d:Dfa) (G:ρ s=J d):s<a.n.length/\Cano d/\d.n.length<=64:=by
 have E:s<a.n.length:=by
  rcases Nat.lt_or_ge s a.n.length with E|E
  ·exact E
  rw[h.o s E] at G;cases G
 refine⟨E,?_⟩;cases H:a.ok s
 ·rw[h.no s E H] at G;cases G
 obtain⟨e,h1,T,X,_⟩:=h.yes s E H;rw[G] at h1;injection h1 with h1
 subst h1;exact⟨T,X⟩
theorem SU {a b:Dfa} (G:Val a) {ρ:Nat->Option Dfa} (h:GRho a b a.n.length ρ) {os:List Opt} (hc:CollR (Az a.cls a.n []).stp ρ os):OptsOf Ε (wd1 a) (wd1 b) os:=
 SE G (λs E=>⟨λH=>by obtain⟨d,h1,T,_,X⟩:=h.yes s E H;exact⟨d,h1,T,X⟩,h.no s E⟩) hc
theorem IsD.keptm {W W':Γ} {v:Δ} {d:Dfa} {g:Nat} (h:IsD W v d) (hg:W.grownBy W' (J g)) (hm:∃ es c,W.heap[g]? = J (.map es c)):IsD W' v d:=by obtain⟨vc,E,G,rfl,h1,⟨vs,H,T,X⟩,h3⟩:=h;exact⟨vc,E,G,rfl,Sl.keptm h1 (by omega) hg hm,⟨vs,H,Sl.keptm T (by omega) hg hm,λi hi=>Sl.keptm (X i hi) (by omega) hg hm⟩,Sl.keptm h3 (by omega) hg hm⟩
def MpD (W:Γ) (f:Nat->Option Δ) (ρ:Nat->Option Dfa):Prop:=∀ s,(ρ s=I->f s=I)/\∀ d,ρ s=J d->∃ v,f s=J v/\IsD W v d
theorem Xw (W:Γ):MpD W (λ_=>I) (λ_=>I):=λ_=>⟨λ_=>rfl,λ_ h=>by cases h⟩
theorem MpD.ext {W W':Γ} {f:Nat->Option Δ} {ρ:Nat->Option Dfa} (h:MpD W f ρ) (E:Ext W W'):MpD W' f ρ:=λs=>⟨(h s).1,λd hd=>by obtain⟨v,h1,G⟩:=(h s).2 d hd;exact⟨v,h1,G.ext E⟩⟩
theorem MpD.keptm {W W':Γ} {f:Nat->Option Δ} {ρ:Nat->Option Dfa} {g:Nat} (h:MpD W f ρ) (hg:W.grownBy W' (J g)) (hm:∃ es c,W.heap[g]? = J (.map es c)):MpD W' f ρ:=λs=>⟨(h s).1,λd hd=>by obtain⟨v,h1,E⟩:=(h s).2 d hd;exact⟨v,h1,E.keptm hg hm⟩⟩
theorem MpD.put {W:Γ} {f:Nat->Option Δ} {ρ:Nat->Option Dfa} (h:MpD W f ρ) (s:Nat) {v:Δ} {d:Dfa} (H:IsD W v d):MpD W (λz=>if z=s then J v else f z) (λz=>if z=s then J d else ρ z):=λx=>by
 by_cases e:x=s
 ·refine⟨λh=>?_,λE hd=>⟨v,if_pos e,?_⟩⟩
  ·have h:(if x=s then J d else ρ x)=I:=h;rw[if_pos e] at h;cases h
  have hd:(if x=s then J d else ρ x)=J E:=hd;rw[if_pos e] at hd;injection hd with hd
  exact hd▸H
 show (((if x=s then J d else ρ x)=I->(if x=s then J v else f x)=I)/\∀ E,(if x=s then J d else ρ x)=J E->∃ G,(if x=s then J v else f x)=J G/\IsD W G E);rw[if_neg e,if_neg e];exact h x
def I7 (a b:Dfa):Prop:=∃ s,s<a.n.length/\a.ok s=Α/\(Big (Ds a s)\/∃ m,Cano m/\m.n.length<=64/\(∀ u,m.has u=Α↔Ds a s u)/\(Cp m b I\/∃ c,Fit c (Cat (wd1 m) (wd1 b))/\c.n.length<=64/\Lim (λu=>b.has u=Α/\¬ c.has u=Α) I))
theorem SF {a:Dfa} (E:Val a) (G:a.n.length<=64) (ρ:Nat->Option Dfa) (d:Dfa):¬ Big λu=>ρ ((Az a.cls a.n []).run 0 u)=J d:=λh=>Sd h (λw=>a.run 0 w) (λw w' e u=>by show ρ (a.run 0 (w++u))=J d↔ρ (a.run 0 (w'++u))=J d;rw[Bf,Bf,e]) (List.range a.n.length) (λw=>List.mem_range.2 (E.run_lt w E.pos)) (by rw[List.length_range];exact G)
theorem SI {a b m c:Dfa} {s:Nat} (hm:∀ u,m.has u=Α↔Ds a s u) (hc:∀ u,c.has u=Α↔Cat (wd1 m) (wd1 b) u) (v:List UInt8):(b.has v=Α/\¬ c.has v=Α)↔b.has v=Α/\¬ Cat (Ds a s) (wd1 b) v:=by
 refine and_congr Iff.rfl (not_congr ?_);rw[hc];have:wd1 m=Ds a s:=funext λu=>propext (hm u)
 rw[this]
end Go.Proofs.YtilncahcpjlfnaaGreatDoor
