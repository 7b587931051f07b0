import Derived.Test.YtilncahcpjlfnaaGreatDoorN08
import Derived.Test.YtilncahcpjlfnaaGreatDoorN09
import Derived.Test.YtilncahcpjlfnaaGreatDoorN05
import Derived.Laws.CopyOwn
set_option linter.unusedVariables false
set_option linter.unusedSimpArgs false
set_option maxRecDepth 100000
set_option maxHeartbeats 8000000
open Bool renaming true → Α, false → Ε
open Go renaming World → Γ, TypeId → ϫ, Value → Δ, Oper → Ϭ, undef → δ, info_parts → ϑ, cell_of_row → Τ, wpList_append_lies → ϕ, maxLen → ϐ, wpList_make_full → Ϛ, setRow_heap → Φ, heap_alloc2_new → ύ, cell_one_new → Õ
open Go.Act renaming put → θ, eval → ß
open Go.Ending renaming returned → Ω
open Go.IntKind renaming i64 → å, i64 → Χ
open Go.Lib renaming hid → Z
open Go.Obj renaming cells → Β
open Go.Operand renaming tmp → ε
open Go.Proofs.Tryz renaming prog → Ι, underlying40 → Ρ, underlying38 → Ý, underlying54 → ϝ
open Go.Region renaming wanted → Ϡ
open Go.RowKit renaming Hid → ϟ
open Go.Value renaming tuple → ϙ, slice → U, slice → ό, bool → ψ, pointer → η, oneCell' → ξ
open Go.World renaming ownsRow_nil → ϰ, size_alloc → Ο, ownsRow_lit → Ê
open List renaming length_append → Ν, length_singleton → Ϥ, getD_eq_getElem?_getD → Ζ, getElem?_append_left → ϊ, length_set → ο, length_cons → ϒ, getElem?_eq_getElem → Θ, getElem?_eq_some_iff → ν, replicate → ζ, setIfInBounds_toArray → Η, set_cons_zero → Μ, set_cons_succ → Λ, getElem?_toArray → Ϸ, getElem?_map → υ, range → π, map_append → ϥ, take_of_length_le → Ø, length_map → ι
open List.cons renaming injEq → ó
open Nat renaming lt_of_lt_of_le → Ξ, le_refl → Υ
open Ne renaming symm → þ
open Option renaming some → I, none → J, isSome → æ
namespace Go.Proofs.YtilncahcpjlfnaaGreatDoor
open Go.RowKit Go.Shelf
theorem M7:Go.Maps.Keyed Ι 3:=Go.Maps.int_keyed Tryz.underlying3
theorem Qk (x:Nat) (hx:x<9223372036854775808):∃ l,keyOf Ι 3 (iv x)=I l:=by refine⟨_,Go.Maps.keyOf_int_mk Tryz.underlying3 ?_⟩;have E:å.min=-9223372036854775808:=rfl;simp[Lit.wf,IntKind.wrap,IntKind.signed,IntKind.bits,E];omega
theorem Sw (W:Γ):(zeroValue 40).run Ι W=.ok zD W:=by kernel_rfl
theorem S1 {κ:Type} {W:Γ} {k:ϫ} {key:κ->Δ} {b n:Nat} {f:κ->Option Δ} {ops:Array Ϭ} {rest:List Ϭ} {o:Ϭ} {a:Act} {Q:Exit->Act->Γ->Prop} (hg:o.guard=J) (m x:Operand) (t:ϫ) (G:o.op=Op.lookup t m x Α) {e:ϫ} {E:Δ} (H:∀ W,(zeroValue e).run Ι W=.ok E W)
  (T:Go.Maps.Keyed Ι k) (X:Ι.underlying t=I (.map k e)) (hm:a.eval m=.map (I b)) (h:IsMv W k key b n f) (y:κ) (hx:a.eval x=key y) (hl:∃ l,keyOf Ι k (key y)=I l)
  (hK:wpList Ι ops Q rest (a.put o.dst (ϙ #[(f y).getD E,.bool (f y).isSome])) W):wpList Ι ops Q (o::rest) a W:=
 wpList_plain hg λ_ ab=>KV G H T X hm h y hx hl (ab _ _ hK)
theorem G5 {W:Γ} {base e size n:Nat} {a:Option Addr} {c:Nat} {xs:List Δ} (h:W.ownsRow base e size (U a n c) n xs) (h0:0<n):∃ g,a=I ⟨g,0,J⟩:=by
 rcases h.2 with⟨_,h1⟩|⟨g,G,cur,E,_⟩
 ·omega
 injection E with E _ _
 exact⟨g,E⟩
theorem OO:(Ι.info? 141).map (λi=>(i.zero,i.size,i.bytes))=I (I (.agg #[U J 0 0,U J 0 0,U J 0 0,U J 0 0,U J 0 0,U J 0 0,U J 0 0]),7,168):=by kernel_rfl
theorem UM (r1 E G:Δ) (A:Array Δ) (H:A=#[r1,E,G]) (T X a3:Option Addr) (n1 n2 n3 c1 c2 c3:Nat) (h1:r1=U T n1 c1) (h2:E=U X n2 c2) (h3:G=U a3 n3 c3) :
  Ι.built 141 [(1,.agg A)]=I #[U J 0 0,U J 0 0,U J 0 0,r1,E,G,U J 0 0]:=by subst H h1 h2 h3;kernel_rfl
def RstR (w:Γ) (xs:List Δ) (rs:List Dfa):Prop:=∀ i,i<rs.length->∃ r1 E G,IsD w (.agg #[r1,E,G]) (rs.getD i dN)/\∀ j,j<7->xs.getD (i*7+j) δ=[ό J 0 0,U J 0 0,U J 0 0,r1,E,G,U J 0 0].getD j δ
theorem RstR.snoc {w:Γ} {xs:List Δ} {rs:List Dfa} (hx:xs.length=rs.length*7) (h:RstR w xs rs) {r1 E G:Δ} {d:Dfa} (hd:IsD w (.agg #[r1,E,G]) d):RstR w (xs++[U J 0 0,U J 0 0,U J 0 0,r1,E,G,U J 0 0]) (rs++[d]):=λi hi=>by
 rw[Ν,Ϥ] at hi;by_cases e:i<rs.length
 ·obtain⟨T,X,s3,h1,h2⟩:=h i e;refine⟨T,X,s3,by rw[Fq _ _ _ e];exact h1,λj H=>?_⟩;rw[Ζ,ϊ (by omega),<-Ζ];exact h2 j H
 obtain rfl:i=rs.length:=by omega
 refine⟨r1,E,G,by rw[Fe];exact hd,λj H=>?_⟩;rw[Ζ,List.getElem?_append_right (by omega),hx,Nat.add_sub_cancel_left,<-Ζ]
structure MbrR (W:Γ) (B n:Nat) (ms:List Δ) (mb:List (List Bool)):Prop where
 row:∀ i,i<mb.length->∃ g,ms.getD i δ=U (I ⟨g,0,J⟩) n n/\W.ownsRow B 4 1 (U (I ⟨g,0,J⟩) n n) n ((mb.getD i []).map ψ)
 dif:∀ i j,i<mb.length->j<mb.length->i≠j->ms.getD i δ≠ms.getD j δ
theorem MbrR.ext {W W':Γ} {B n:Nat} {ms:List Δ} {mb:List (List Bool)} (h:MbrR W B n ms mb) (E:Ext W W'):MbrR W' B n ms mb:=⟨λi hi=>by obtain⟨g,h1,G⟩:=h.row i hi;exact⟨g,h1,Aa G E⟩,h.dif⟩
theorem MbrR.kept {W W':Γ} {B n:Nat} {ms:List Δ} {mb:List (List Bool)} (h:MbrR W B n ms mb) {base e s k:Nat} {v:Δ} {ys:List Δ} (G:W.ownsRow base e s v k ys) (he:e≠4) (hg:W.grownBy W' v.ownBlock):MbrR W' B n ms mb:=⟨λi hi=>by obtain⟨g,h1,E⟩:=h.row i hi;exact⟨g,h1,E.kept hg (Aj E G (þ he))⟩,h.dif⟩
theorem MbrR.store {W:Γ} {B n:Nat} {ms:List Δ} {mb:List (List Bool)} (h:MbrR W B n ms mb) {a g s:Nat} (E:a<mb.length) (hg:ms.getD a δ=U (I ⟨g,0,J⟩) n n) :
  MbrR (W.setCell ⟨g,s,J⟩ (.bool Α)) B n ms (mb.set a ((mb.getD a []).set s Α))/\W.grownBy (W.setCell ⟨g,s,J⟩ (.bool Α)) (I g)/\B<=g:=by
 obtain⟨g',h1,G⟩:=h.row a E;rw[hg] at h1;injection h1 with h1 _ _
 injection h1 with h1
 injection h1 with h1 _ _
 subst h1;obtain⟨h3,H⟩:=Ba (f:=ψ) G s Α;refine⟨⟨λi hi=>?_,λi j hi T=>?_⟩,H,(G.lt g rfl).1⟩
 ·rw[ο] at hi;by_cases e:i=a
  ·subst e;exact⟨g,hg,by rw[B6 hi];exact h3⟩
  obtain⟨gi,X,h6⟩:=h.row i hi;refine⟨gi,X,?_⟩;rw[Be e];refine h6.kept H (Cb h6 λe'=>?_);exact h.dif i a hi E e (by rw[X,hg,e'])
 rw[ο] at hi T;exact h.dif i j hi T
theorem MbrR.snoc {W:Γ} {B n:Nat} {ms:List Δ} {mb:List (List Bool)} (E:ms.length=mb.length) (h:MbrR W B n ms mb) {g:Nat} {l:List Bool} (T:W.ownsRow B 4 1 (U (I ⟨g,0,J⟩) n n) n (l.map ψ)) (H:∀ i,i<mb.length->ms.getD i δ≠U (I ⟨g,0,J⟩) n n):MbrR W B n (ms++[U (I ⟨g,0,J⟩) n n]) (mb++[l]):=by
 refine⟨λi hi=>?_,λi j hi X aa=>?_⟩
 ·rw[Ν,Ϥ] at hi;by_cases e:i<mb.length
  ·obtain⟨g',h1,h2⟩:=h.row i e;exact⟨g',by rw[Fq _ _ _ (by rw[E];exact e)];exact h1,by rw[Fq _ _ _ e];exact h2⟩
  obtain rfl:i=mb.length:=by omega
  exact⟨g,by rw[<-E,Fe],by rw[Fe];exact T⟩
 rw[Ν,Ϥ] at hi X;by_cases e:i<mb.length
 ·rw[Fq ms _ _ (by rw[E];exact e)];by_cases G:j<mb.length
  ·rw[Fq ms _ _ (by rw[E];exact G)];exact h.dif i j e G aa
  obtain rfl:j=ms.length:=by omega
  rw[Fe];exact H i e
 obtain rfl:i=ms.length:=by omega
 rw[Fe,Fq ms _ _ (by omega)];exact λG=>H j (by omega) G.symm
theorem LeastF.form0 {L:List UInt8->Bool} {W:Γ} {e:Ending} (h:LeastF L W e):∃ v b,e=Ω (ϙ #[v,.bool b]):=by
 rcases h with⟨_,v,h,_⟩|⟨h,_⟩
 ·exact⟨_,_,h⟩
 exact⟨_,_,h⟩
theorem LeastF.yes {L:List UInt8->Bool} {W:Γ} {v:Δ} (h:LeastF L W (Ω (ϙ #[v,.bool Α]))):∃ u,By W v u/\L u=Α:=by
 rcases h with⟨u,G,h,h1,E,_⟩|⟨h,_⟩
 ·injection h with h
  injection h with h
  simp at h;subst h;exact⟨u,h1,E⟩
 injection h with h
 injection h with h
 simp at h
theorem LeastF.no {L:List UInt8->Bool} {W:Γ} {v:Δ} (h:LeastF L W (Ω (ϙ #[v,.bool Ε]))):∀ u,L u=Ε:=by
 rcases h with⟨u,E,h,h1,G,_⟩|⟨h,h1⟩
 ·injection h with h
  injection h with h
  simp at h
 exact h1
theorem Iy {P:Program} {ops:Array Ϭ} {Q:Exit->Act->Γ->Prop} {C:Γ->Prop} {n i:Nat} {is:List (Nat × Bool)} {o:Ϭ} {a:Act} {w:Γ} (h0:ops.toList[i]? = I o) (E:Ϡ o (yielded ops a.tmps)=Ε)
  (h:Db P ops Q C n is (a.put o.dst δ) w):Db P ops Q C n ((i,Α)::is) a w:=⟨o,δ,by rw[<-Array.getElem?_toList];exact h0,.inr ⟨E,rfl⟩,h⟩
theorem Ki {P:Program} {ops:Array Ϭ} {Q:Exit->Act->Γ->Prop} {C:Γ->Prop} {n i:Nat} {is:List (Nat × Bool)} {o:Ϭ} {a:Act} {w:Γ} (h0:ops.toList[i]? = I o) (E:Ϡ o (yielded ops a.tmps)=Ε)
  (G:i<n->C w) (h:Db P ops Q C n is (a.put o.dst δ) w):Db P ops Q C n ((i,Ε)::is) a w:=
 Ao h0 λK hK=>by rw[if_neg (by rw[E];simp)];exact hK _ _ G h
noncomputable def K9 (L:Af):Option Dfa:=@dite _ (∃ r,C7 L r) (Classical.propDecidable _) (λh=>h.choose) (λ_=>J)
theorem MT {L:Af} {r:Option Dfa} (h:C7 L r):K9 L=r:=by unfold K9;rw[dif_pos ⟨r,h⟩];exact MU (Classical.choose_spec (⟨r,h⟩:∃ r,C7 L r)) h
def kOf:Option Dfa->Int
 | some _=>0
 | none=>2
def ColV (Pr:Prop) (r0:Option Dfa) (v:Δ) (W:Γ):Prop:=∃ ac E G H T X aa la ca,v=ϙ #[.agg (dA (U ac E G) (U H T X) (U aa la ca)),.int Χ (kOf r0)]/\(∀ d,r0=I d->IsD W (.agg (dA (U ac E G) (U H T X) (U aa la ca))) d)/\Pr
def Rn (E:Prop) (n0:Nat) (A:Array Δ) (v7:Δ) (gM j:Nat) (mj:Δ) (r0:Option Dfa):Nat->Δ->Γ->Prop
 | 0,v,_=>v=.agg A
 | 1,v,_=>v=v7
 | 2,v,_=>v=iv j
 | 3,v,_=>v=η (I ⟨gM,j,J⟩)
 | 4,v,_=>v=mj
 | 5,v,W=>ColV E r0 v W
 | 6,v,W=>ColV E r0 v W
 | 7,v,W=>∃ ac G H T X cn aa la ca,v=.agg (dA (U ac G H) (U T X cn) (U aa la ca))/\(∀ d,r0=I d->IsD W (.agg (dA (U ac G H) (U T X cn) (U aa la ca))) d)/\E
 | 8,v,_=>v=.int Χ (kOf r0)
 | _,v,W=>∃ g,v=η (I ⟨g,0,J⟩)/\W.heap[g]? = I (Β #[U J 0 0,U J 0 0,U J 0 0] 40 (0,0))/\n0<=g
theorem ColV.ext {E:Prop} {r0:Option Dfa} {v:Δ} {W W':Γ} (h:ColV E r0 v W) (G:Ext W W'):ColV E r0 v W':=by obtain⟨ac,H,T,X,ln,cn,aa,la,ca,h1,h2,h3⟩:=h;exact⟨ac,H,T,X,ln,cn,aa,la,ca,h1,λd hd=>(h2 d hd).ext G,h3⟩
theorem SS (T:Prop) (X:Nat) (A:Array Δ) (v7:Δ) (gM j:Nat) (mj:Δ) (r0:Option Dfa):∀ (i:Nat) (v:Δ) (w w':Γ),Rn T X A v7 gM j mj r0 i v w->Ext w w'->Rn T X A v7 gM j mj r0 i v w'
 | 0,_,_,_,h,_=>h
 | 1,_,_,_,h,_=>h
 | 2,_,_,_,h,_=>h
 | 3,_,_,_,h,_=>h
 | 4,_,_,_,h,_=>h
 | 5,_,_,_,h,E=>ColV.ext h E
 | 6,_,_,_,h,E=>ColV.ext h E
 | 7,_,_,_,⟨ac,lc,cc,an,ln,cn,aa,la,ca,h1,G,H⟩,E=>⟨ac,lc,cc,an,ln,cn,aa,la,ca,h1,λd hd=>(G d hd).ext E,H⟩
 | 8,_,_,_,h,_=>h
 | _+9,_,_,_,⟨g,h1,G,H⟩,E=>⟨g,h1,E.heap G,H⟩
theorem SR {W:Γ} {e:Ending} {r:Option Dfa} {L:Af} (h:ResOf W e r) (E:C7 L r):∃ v,e=Ω v/\ColV (C7 L (K9 L)) (K9 L) v W:=by
 rw[MT E];cases r with
 | none=>exact⟨_,h,J,0,0,J,0,0,J,0,0,rfl,λd hd=>(by cases hd),E⟩
 | some d=>obtain⟨v,he,G⟩:=h;obtain⟨ac,H,T,X,cn,aa,la,ca,rfl⟩:=G.agg;exact⟨_,he,ac,H,T,X,_,cn,aa,la,ca,rfl,λd' hd=>(by injection hd with hd;rw[<-hd];exact G),E⟩
theorem LeastF.form1 {L:List UInt8->Bool} {W:Γ} {e:Ending} (h:LeastF L W e):∃ a n c b,e=Ω (ϙ #[U a n c,.bool b])/\∃ u,By W (U a n c) u:=by
 rcases h with⟨u,v,h,h1,_⟩|⟨h,_⟩
 ·obtain⟨a,c,rfl⟩:=Sl.len h1;exact⟨_,_,_,_,h,u,h1⟩
 exact⟨_,_,_,_,h,[],Sl.nil _ _ _⟩
theorem Px {W:Γ} {base e g n G size o:Nat} {xs:List Δ} {a b c:Δ} (E:W.ownsRow base e size (U (I ⟨g,0,J⟩) n G) n xs) (he:e≠162) (h:∀ j,j<3->W.cell? ⟨g,o+j,J⟩=I (U J 0 0)) (hl:o+2<xs.length):NilX W (W.setCells g o [a,b,c]):=by
 rw[O4];have hx:xs.length=n*size:=E.1;have c0:W.cell? ⟨g,o,J⟩=I (U J 0 0):=h 0 (by omega);have c1:=h 1 (by omega);have c2:=h 2 (by omega);have H:xs[o+1]? = I (U J 0 0):=by rw[<-E.cellAt (o+1) (by omega)];exact c1
 have T:xs[o+1+1]? = I (U J 0 0):=by rw[<-E.cellAt (o+1+1) (by omega)];exact c2
 have h0:=E.stored o a;have h1:=h0.1.stored (o+1) b;have X:=(NilX.refl W).set (v:=a) E he c0 (.inl rfl);have k1:(W.setCell ⟨g,o,J⟩ a).cell? ⟨g,o+1,J⟩=I (U J 0 0):=by rw[h0.1.cellAt (o+1) (by omega),List.getElem?_set_ne (by omega)];exact H
 have s2:=X.set (v:=b) h0.1 he k1 (.inl rfl);have k2:((W.setCell ⟨g,o,J⟩ a).setCell ⟨g,o+1,J⟩ b).cell? ⟨g,o+1+1,J⟩=I (U J 0 0):=by rw[h1.1.cellAt (o+1+1) (by omega),List.getElem?_set_ne (by omega),List.getElem?_set_ne (by omega)];exact T
 exact s2.set (v:=c) h1.1 he k2 (.inl rfl)
theorem Pn {W:Γ} {base e g n E size:Nat} {xs:List Δ} (h:W.ownsRow base e size (U (I ⟨g,0,J⟩) n E) n xs) (o:Nat) (a b c:Δ) :
  (W.setCells g o [a,b,c]).ownsRow base e size (U (I ⟨g,0,J⟩) n E) n (((xs.set o a).set (o+1) b).set (o+1+1) c)/\W.grownBy (W.setCells g o [a,b,c]) (I g):=by
 have h0:=h.stored o a;have h1:=h0.1.stored (o+1) b;have G:=h1.1.stored (o+1+1) c;rw[O4];exact⟨G.1,h0.2.trans (h1.2.trans G.2)⟩
def GrpR (w W:Γ) (xs:List Δ) (rs H:List Dfa) (j:Nat):Prop:=∀ i,i<rs.length->∃ h1 E G r1 T X l,(∀ o,o<7->xs.getD (i*7+o) δ=[h1,E,G,r1,T,X,l].getD o δ)/\IsD w (.agg #[r1,T,X]) (rs.getD i dN)/\(i<j->Val (H.getD i dN)/\IsD W (.agg #[h1,E,G]) (H.getD i dN)/\∃ u,By W l u)/\(j<=i->h1=U J 0 0/\E=U J 0 0/\G=U J 0 0/\l=U J 0 0)
theorem GrpR.start {w W:Γ} {xs:List Δ} {rs:List Dfa} (h:RstR w xs rs):GrpR w W xs rs [] 0:=λi hi=>by obtain⟨r1,E,G,h1,H⟩:=h i hi;exact⟨_,_,_,r1,E,G,_,H,h1,λh=>absurd h (by omega),λ_=>⟨rfl,rfl,rfl,rfl⟩⟩
theorem GrpR.nilx {w W W':Γ} {xs:List Δ} {rs E:List Dfa} {j:Nat} (h:GrpR w W xs rs E j) (G:NilX W W'):GrpR w W' xs rs E j:=λi hi=>by obtain⟨h1,T,X,r1,r2,r3,l,hc,hr,hh,hn⟩:=h i hi;refine⟨h1,T,X,r1,r2,r3,l,hc,hr,λhj=>?_,hn⟩;obtain⟨H,hd,u,hu⟩:=hh hj;exact⟨H,hd.nilx H G,u,Sl.nilx hu G (λi _=>⟨λe=>(by cases e),λe=>(by cases e)⟩)⟩
theorem GrpR.put {w W:Γ} {xs:List Δ} {rs E:List Dfa} {j:Nat} (hx:xs.length=rs.length*7) (hj:j<rs.length) (hl:E.length=j) (h:GrpR w W xs rs E j) {h1 G H l:Δ} {d:Dfa} (hv:Val d) (hd:IsD W (.agg #[h1,G,H]) d) (hu:∃ u,By W l u) :
  GrpR w W ((((xs.set (j*7) h1).set (j*7+1) G).set (j*7+1+1) H).set (j*7+6) l) rs (E++[d]) (j+1):=λi hi=>by
 obtain⟨g1,g2,g3,r1,r2,r3,l',hc,hr,hh,hn⟩:=h i hi;by_cases e:i=j
 ·subst e;refine⟨h1,G,H,r1,r2,r3,l,λo T=>?_,hr,λ_=>?_,λao=>by omega⟩
  ·have X:o=0\/o=1\/o=2\/o=6\/o=3\/o=4\/o=5:=by omega
   rcases X with rfl|rfl|rfl|rfl|X
   ·rw[Be (by omega),Be (by omega),Be (by omega),Nat.add_zero,B6 (by omega)];rfl
   ·rw[Be (by omega),Be (by omega),B6 (by rw[ο];omega)];rfl
   ·rw[Be (by omega),show i*7+2=i*7+1+1 by omega,B6 (by rw[ο,ο];omega)];rfl
   ·rw[B6 (by rw[ο,ο,ο];omega)];rfl
   rw[Be (by omega),Be (by omega),Be (by omega),Be (by omega),hc o T];rcases X with rfl|rfl|rfl<;>rfl
  rw[show i=E.length from hl.symm,Fe];exact⟨hv,hd,hu⟩
 refine⟨g1,g2,g3,r1,r2,r3,l',λo T=>?_,hr,λar=>?_,λao=>hn (by omega)⟩
 ·rw[Be (by omega),Be (by omega),Be (by omega),Be (by omega)];exact hc o T
 rw[Fq _ _ _ (by omega)];exact hh (by omega)
def OpsV (W:Γ) (v:Δ) (os:List Opt):Prop:=∃ a c,v=U a os.length c/\∀ i (hi:i<os.length),∃ g h1 E G r1 H T X ln lc,a=I ⟨g,0,J⟩/\W.rangeAt g (i*7) [h1,E,G,r1,H,T,U X ln lc]/\IsD W (.agg #[h1,E,G]) os[i].head/\IsD W (.agg #[r1,H,T]) os[i].rest
theorem OpsV.ext {W W':Γ} {v:Δ} {os:List Opt} (h:OpsV W v os) (E:Ext W W'):OpsV W' v os:=by obtain⟨a,c,G,h⟩:=h;refine⟨a,c,G,λi hi=>?_⟩;obtain⟨g,h1,H,T,r1,X,r3,la,ln,lc,ha,hr,ah,ai⟩:=h i hi;exact⟨g,h1,H,T,r1,X,r3,la,ln,lc,ha,λj v hj=>E.cell (hr j v hj),ah.ext E,ai.ext E⟩
def ColOut (W:Γ) (e:Ending) (L:List Cls) (E:List (List Nat)) (ρ:Nat->Option Dfa):Prop:=
 (∃ os v,e=Ω (ϙ #[v,.int Χ 0])/\CollR (Ay L E []).stp ρ os/\(os.length<=65536/\∀ o∈os,o.head.n.length<=64/\o.rest.n.length<=64)/\OpsV W v os)\/
 (e=Ω (ϙ #[U J 0 0,.int Χ 2])/\∃ d,Big λu=>ρ ((Ay L E []).run 0 u)=I d)
def Dq:List Δ->Nat->List Δ->List Δ
 | xs,_,[]=>xs
 | xs,o,c::cs=>Dq (xs.set o c) (o+1) cs
theorem I0:∀ (cs xs:List Δ) (o:Nat),(Dq xs o cs).length=xs.length
 | [],_,_=>rfl
 | c::cs,xs,o=>by rw[Dq,I0 cs,ο]
theorem I1:∀ (cs xs:List Δ) (o i:Nat),o+cs.length<=xs.length->(Dq xs o cs).getD i δ=if o<=i/\i<o+cs.length then cs.getD (i-o) δ else xs.getD i δ
 | [],xs,o,i,_=>by rw[if_neg (by rw[List.length_nil];omega)];rfl
 | c::cs,xs,o,i,h=>by
  rw[ϒ] at h;rw[Dq,I1 cs (xs.set o c) (o+1) i (by rw[ο];omega),ϒ];by_cases e:i=o
  ·subst e;rw[if_neg (by omega),if_pos (by omega),B6 (by omega),Nat.sub_self];rfl
  rw[Be e];by_cases E:o+1<=i/\i<o+1+cs.length
  ·rw[if_pos E,if_pos (by omega),show i-o=(i-(o+1))+1 by omega];rfl
  rw[if_neg E,if_neg (by omega)]
theorem Hv {base e g n E size:Nat}:∀ (cs:List Δ) (W:Γ) (xs:List Δ) (o:Nat),W.ownsRow base e size (U (I ⟨g,0,J⟩) n E) n xs->(W.setCells g o cs).ownsRow base e size (U (I ⟨g,0,J⟩) n E) n (Dq xs o cs)/\W.grownBy (W.setCells g o cs) (I g)
 | [],W,_,_,h=>⟨h,Γ.grownBy.refl _ _⟩
 | c::cs,W,xs,o,h=>by have h0:=h.stored o c;have h1:=Hv cs (W.setCell ⟨g,o,J⟩ c) (xs.set o c) (o+1) h0.1;exact⟨h1.1,h0.2.trans h1.2⟩
theorem JF {W:Γ} {xs:List Δ} {os:List Opt} (h:OpR W xs os) {k:Nat} (h0:0<k) (hk:k<os.length) {cs cs':List Δ} (hl:cs.length=7) (ah:cs'.length=7) (hc:∀ o,o<7->xs.getD ((k-1)*7+o) δ=cs.getD o δ) (ai:∀ o,o<7->xs.getD (k*7+o) δ=cs'.getD o δ) :
  OpR W (Dq (Dq xs (k*7) cs) ((k-1)*7) cs') ((os.set k (os[k-1]'(by omega))).set (k-1) os[k]):=by
 have hx:=h.1;refine⟨by rw[I0,I0,ο,ο];exact hx,λi hi=>?_⟩;rw[ο,ο] at hi;have key:∀ o,o<7->(Dq (Dq xs (k*7) cs) ((k-1)*7) cs').getD (i*7+o) δ=if i=k-1 then cs'.getD o δ else if i=k then cs.getD o δ else xs.getD (i*7+o) δ:=λo H=>by
  rw[I1 _ _ _ _ (by rw[I0];omega),I1 _ _ _ _ (by omega),hl,ah];by_cases E:i=k-1
  ·subst E;rw[if_pos (by omega),if_pos rfl,show (k-1)*7+o-(k-1)*7=o by omega]
  rw[if_neg (by omega),if_neg E];by_cases G:i=k
  ·subst G;rw[if_pos (by omega),if_pos rfl,show i*7+o-i*7=o by omega]
  rw[if_neg (by omega),if_neg G]
 have aj:((os.set k (os[k-1]'(by omega))).set (k-1) os[k])[i]'(by rw[ο,ο];exact hi)=if i=k-1 then os[k] else if i=k then os[k-1]'(by omega) else os[i]:=by
  rw[List.getElem_set,List.getElem_set];by_cases E:k-1=i
  ·rw[if_pos E,if_pos E.symm]
  rw[if_neg E,if_neg (þ E)];by_cases G:k=i
  ·rw[if_pos G,if_pos G.symm]
  rw[if_neg G,if_neg (þ G)]
 rw[aj];by_cases E:i=k-1
 ·rw[if_pos E];obtain⟨h1,T,X,r1,r2,r3,l,ad,ae⟩:=h.2 k hk;exact⟨h1,T,X,r1,r2,r3,l,λo H=>by rw[key o H,if_pos E,<-ai o H];exact ad o H,ae⟩
 rw[if_neg E];by_cases G:i=k
 ·rw[if_pos G];obtain⟨h1,T,X,r1,r2,r3,l,ad,ae⟩:=h.2 (k-1) (by omega);exact⟨h1,T,X,r1,r2,r3,l,λo H=>by rw[key o H,if_neg E,if_pos G,<-hc o H];exact ad o H,ae⟩
 rw[if_neg G];obtain⟨h1,T,X,r1,r2,r3,l,ad,ae⟩:=h.2 i hi;exact⟨h1,T,X,r1,r2,r3,l,λo H=>by rw[key o H,if_neg E,if_neg G];exact ad o H,ae⟩
theorem JG {w W:Γ} {xs:List Δ} {rs E:List Dfa} (hx:xs.length=rs.length*7) (hl:E.length=rs.length) (h:GrpR w W xs rs E rs.length) (hE:Ext w W) (hv:∀ i,i<rs.length->Val (rs.getD i dN)):OpR W xs (List.zipWith Opt.mk E rs):=by
 refine⟨by rw[List.length_zipWith,hl,Nat.min_self];exact hx,λi hi=>?_⟩;rw[List.length_zipWith] at hi;have h1:i<E.length:=by omega
 have G:i<rs.length:=by omega
 obtain⟨g1,g2,g3,r1,r2,r3,l,hc,H,hh,_⟩:=h i G;obtain⟨k1,T,k3⟩:=hh G;have e1:E.getD i dN=E[i]:=by rw[Ζ,Θ h1];rfl
 have e2:rs.getD i dN=rs[i]:=by rw[Ζ,Θ G];rfl
 have X:=hv i G;rw[e1] at k1 T;rw[e2] at H X;rw[List.getElem_zipWith];exact⟨g1,g2,g3,r1,r2,r3,l,hc,k1,X,T,H.ext hE,k3⟩
theorem Ps {we V:Γ} {B c g k:Nat} {xs:List Δ} {os:List Opt} (h:OpR we xs os) (G:V.ownsRow B 141 7 (U (I ⟨g,0,J⟩) k c) k xs) (H:os.length=k) {i:Nat} (hi:i<k) {cs:List Δ} (T:cs.length=7) (hc:∀ o,o<7->xs.getD (i*7+o) δ=cs.getD o δ):V.rangeAt g (i*7) cs:=λo v E=>by
 have X:o<7:=by rw[<-T];exact (ν.1 E).1
 have hx:=h.1;rw[H] at hx;rw[G.cellAt (i*7+o) (by omega),Θ (by omega)];have:=hc o X;rw[Ζ,Θ (by omega),Ζ,E] at this;exact congrArg I this
theorem Zc (L:List Cls) (H:List (List Nat)) (hw:WVal L H (ζ H.length Ε)) (mg:H.length<=65536) (A:Array Δ) (bm nm:Nat) (f:Nat->Option Δ) (ρ:Nat->Option Dfa) (hρ:∀ s d,ρ s=I d->s<H.length/\Cano d/\d.n.length<=64) (ml:∀ s,s<H.length->∃ u,(Ay L H []).run 0 u=s)
  (w:Γ) (hT:Tab w) (hl:0<w.heap.size) (h:IsW w A L H) (hm:IsMv w 3 iv bm nm f) (hf:∀ s,s<H.length->(ρ s=J->f s=J)/\∀ d,ρ s=I d->∃ v,f s=I v/\IsD w v d) :
  Calls Ι 57 #[.agg A,.map (I bm)] w λe w'=>ColOut w' e L H ρ/\Ext w w':=by
 obtain⟨t,ht⟩:=Xq (Ay L H (ζ H.length Ε));have hv:TVal t:=ht▸hw.tval;have kf:t.n=H:=by rw[<-ht];rfl
 have iy:=Z (λW (hW:Ext w W)=>hT.below hW.below hl);have e0:=Z hw;have p9:=Z h;have qa:=Z hm;have e7:=Z hρ;have HF:=Z hf;have mr:=Z ml;rw[<-kf] at h;obtain⟨bn,on,cn,qb,s9,ja,hR⟩:=h.opened hv;rw[kf] at ja hR;obtain⟨n,fw⟩:=Xq (H.length);have HN:=Z fw;have qc:=hw.pos;rw[fw] at mg ja e7 HF mr qc;have qd:(Ι.info? 128).map (·.size)=I A.size:=by rw[qb];exact Fp
 obtain⟨iB,hiB,qf,qg,kg⟩:=ϑ (show (Ι.info? 4).map (λi=>(i.zero,i.size,i.bytes))=I (I (.bool Ε),1,1) by kernel_rfl);obtain⟨iO,qi,qj,qk,ql⟩:=ϑ OO;obtain⟨iL,qo,qp,qq,qs⟩:=ϑ (show (Ι.info? 38).map (λi=>(i.zero,i.size,i.bytes))=I (I (U J 0 0),1,24) by kernel_rfl);have kh:=(Κ w).alloc (Β A 128);have H2:=Ad w (Β A 128);clear h hm hρ hf ml hw hT hv hR kf ht t fw;go_enter Tryz.func57,Tryz.ntmps57;go_upto_region 1 with (fail)
 obtain⟨w1,ki⟩:=Xq (w.alloc (Β A 128));rw[ki] at kh H2;simp only[ki];clear ki;have aw:=Z kh;have H2:=Z H2;have mv:=Z (λV (G:Ext w1 V)=>(Τ V w.heap.size 1 _ _ _ (G.heap H2.o)).trans ja);have k1:=mv.o w1 (Κ w1);clear kh ja;have ta:w.heap.size<w1.heap.size:=Al H2.o;go_wp2_with (fail);clear k1;go_loopw [6,7,23] (λv6 v7 vi W=>∃ (s:Nat) (rs:List Dfa) (mb:List (List Bool)) (xs ms:List Δ) (a6 a7:Option Addr) (c6 c7:Nat),s<=n/\vi=iv s/\v6=U a6 rs.length c6/\v7=U a7 rs.length c7/\Ext w1 W/\W.ownsRow w1.heap.size 141 7 v6 rs.length xs/\W.ownsRow w1.heap.size 38 1 v7 rs.length ms/\ϟ (RstR w xs rs)/\ϟ (MbrR W w1.heap.size n ms mb)/\ϟ (GInv ρ n s rs mb))
  (λ_ _ vi _=>n-(intOf vi).toNat)
 case atStart=>exact⟨0,[],[],[],[],J,J,0,0,by omega,rfl,rfl,rfl,Κ w1,ϰ _ _ _ _,ϰ _ _ _ _,Z (λi hi=>absurd hi (by simp)),Z ⟨λi hi=>absurd hi (by simp),λi j hi=>absurd hi (by simp)⟩,Z (PY ρ n)⟩
 obtain⟨s,rs,mb,xs,ms,a6,a7,c6,c7,hs,rfl,rfl,rfl,hE,X,hM,HX,HM,HG⟩:=hrel;have kj:=HG.o.le;obtain⟨k,hk⟩:=Xq (rs.length);have T:=Z hk;rw[hk] at X hM kj;simp only[hk];clear hk;by_cases bf:s<n
 ·obtain⟨kl,km⟩:=HF.o s bf;have qt:=aw.o.t hE;have mw:=Qk s (by omega);have jd:=qa.o.ext qt;have tb:(s:Int)<(n:Int):=by omega
  cases hr:ρ s with
  | none=>
   have fz:=kl hr;have fa:=Z (HG.o.skip (λd hd=>by rw[hr] at hd;cases hd));clear kl km hr;go_upto_region 7 with (first
    | (at_lookup;refine S1 rfl _ _ 126 rfl Sw M7 Tryz.underlying126 rfl jd s rfl mw ?_;rw[fz];dsimp only [æ,Option.getD])
    | (refine Sr 40 (ε 9) (ε 30) rfl (Ad wr (Β #[U J 0 0,U J 0 0,U J 0 0] 40)) Ae rfl Fa ?_))
   obtain⟨bk,hn⟩:=Fm wr #[U J 0 0,U J 0 0,U J 0 0];have ej:=hE.t bk;have ga:=Aa X bk;have gb:=Aa hM bk;have gd:=Z (HM.o.ext bk);clear hn jd fz hE X hM HM HG;obtain⟨w6,fb⟩:=Xq ((wr.alloc (Β #[U J 0 0,U J 0 0,U J 0 0] 40)).setRow wr.heap.size #[U J 0 0,U J 0 0,U J 0 0]);rw[fb] at bk ej ga gb gd;simp only[fb];clear fb bk;go_wp2_with (fail);go_roundw
   case rel=>exact⟨s+1,rs,mb,xs,ms,a6,a7,c6,c7,by omega,by go_num,by rw[T.o],by rw[T.o],ej,by rw[T.o];exact ga,by rw[T.o];exact gb,HX,gd,fa⟩
   simp[intOf]<;>omega
  | some d=>
   obtain⟨v,fz,ko⟩:=km d hr;obtain⟨_,fc,hp⟩:=e7.o s d hr;have HR:=Z hr;have fe:=Z fc;have hq:=Z hp;have je:=Z ko;clear kl km hr fc hp;obtain⟨ff,fg,fh,fj,fk,fl,fm,fo,rfl⟩:=ko.agg;obtain⟨D1,gf⟩:=Xq (dA (U ff fg fh) (U fj d.n.length fk) (U fl fm fo));have my:=Z gf;have jf:(Ι.info? 40).map (·.size)=I D1.size:=by rw[<-gf];exact Ae
   have qu:D1.all (·.oneCell')=Α:=by rw[<-gf];exact Aw _ _ _ rfl rfl rfl
   have qv:ϟ (D1.size=3):=Z (by rw[<-gf];rfl);rw[gf] at fz je;clear ko gf;go_upto_region 8 with (first
    | (at_lookup;refine S1 rfl _ _ 126 rfl Sw M7 Tryz.underlying126 rfl jd s rfl mw ?_;rw[fz];dsimp only [æ,Option.getD])
    | (refine Sr 40 (ε 9) (ε 30) rfl (Ad wr (Β #[U J 0 0,U J 0 0,U J 0 0] 40)) jf qv.o.symm qu ?_))
   obtain⟨bk,hn⟩:=Fm wr D1;have ej:=hE.t bk;have ga:=Aa X bk;have gb:=Aa hM bk;have gd:=Z (HM.o.ext bk);obtain⟨w6,fb⟩:=Xq ((wr.alloc (Β #[U J 0 0,U J 0 0,U J 0 0] 40)).setRow wr.heap.size D1);rw[fb] at bk hn ej ga gb gd;simp only[fb];have jg:=Z hn;obtain⟨g9,kr⟩:=Xq (wr.heap.size);rw[kr] at jg;simp only[kr];clear fb bk hn kr jd fz hE X hM HM;have fL:=Z (Xd d fe.o.val hq.o (.agg D1) w6 (iy.o w6 (aw.o.t ej)) (Ξ hl (aw.o.t ej).size) (je.o.ext (aw.o.t ej)));go_upto_region 9 with (first
    | (refine Lr 40 (ε 9) jg.o Ρ jf ?_)
    | (go_at_call 12;(with_reducible refine fL.o.mono ?_);rintro e w7 ⟨gg,ek⟩;obtain⟨vl,bl,rfl⟩:=gg.form0;have na:=Z gg;have hy:=Z ek;clear gg ek))
   have ek:=ej.t hy.o;have e2:=Aa ga hy.o;have hz:=Aa gb hy.o;have h5:=Z (gd.o.ext hy.o);have ks:=Z (hy.o.heap jg.o);clear fL ej ga gb gd jg;cases bl with
   | false=>
    have fa:=Z (HG.o.skip (λd' hd=>by rw[HR.o] at hd;injection hd with hd;rw[<-hd];exact na.o.no));go_wp2_with (fail);go_roundw
    case rel=>exact⟨s+1,rs,mb,xs,ms,a6,a7,c6,c7,by omega,by go_num,by rw[T.o],by rw[T.o],ek,by rw[T.o];exact e2,by rw[T.o];exact hz,HX,h5,fa⟩
    simp[intOf]<;>omega
   | true=>
    have qx:ϟ (∃ v,d.has v=Α):=Z (by obtain⟨u,_,h⟩:=na.o.yes;exact⟨u,h⟩);go_wp2_with (fail);go_loopw [13] (λkt W=>∃ a:Nat,a<=k/\kt=iv a/\Ext w7 W/\ϟ (∀ i,i<a->rs.getD i dN≠d))
     (λkt _=>k-(intOf kt).toNat)
    case atStart=>exact⟨0,by omega,rfl,Κ w7,Z λi hi=>by omega⟩
    obtain⟨a,te,rfl,fp,HA⟩:=hrel;have gk:=ek.t fp;by_cases ji:a<k
    ·obtain⟨E,rfl⟩:=G5 e2 (by omega);obtain⟨r1,r2,r3,nc,nd⟩:=HX.o a (by rw[T.o];exact ji);have h6:xs.length=k*7:=e2.1;have nf:∀ V,Ext wr V->V.rangeAt E (a*7+3) [r1,r2,r3]:=λV G j v hj=>by
      have qy:=Aa e2 (fp.t G);have tf:j<3:=by have:=(ν.1 hj).1;exact this
      have h1:=nd (3+j) (by omega);rw[show a*7+3+j=a*7+(3+j) by omega,qy.cellAt (a*7+(3+j)) (by omega),Θ (by omega)];rw[Ζ,Θ (by omega)] at h1;have h1:xs[a*7+(3+j)]'(by omega)=_:=h1;rw[h1];rcases j with _|_|_|j
      ·simpa using hj
      ·simpa using hj
      ·simpa using hj
      omega
     have ng:=Z nf;have ku:=(e7.o _ _ ((HG.o.from_ _ (Ib (d:=dN) (by rw[T.o];exact ji))).1.choose_spec.2)).2;have nh:=Z (λV (G:Ext wr V)=>RO (rs.getD a dN) d ku.1 fe.o ku.2 hq.o (.agg #[r1,r2,r3]) (.agg D1) V (iy.o V ((aw.o.t gk).trans G)) (Ξ hl ((aw.o.t gk).trans G).size) (nc.ext ((aw.o.t gk).trans G)) (je.o.ext ((aw.o.t gk).trans G)));have ni:=Z (λV (G:Ext wr V)=>(fp.t G).heap ks.o);have tg:(a:Int)<(k:Int):=by omega
     clear nf nd nc ku h6;go_upto_region 11 with (fail)
     refine Bq 13 [(0,Α),(1,Α),(2,Α),(3,Α),(4,Α),(5,Α),(6,Α),(7,Α),(8,Α),(9,Α),(10,Α),(11,Ε),(12,Α),(13,Ε)] (by kernel_rfl) (by kernel_rfl) (λ_ _ _ _ h=>h) (λV=>Ext wr V) (Κ wr).drew ?_;have aq:=(Κ wr).drew;obtain⟨wy,ba⟩:=Xq (wr.drew);rw[ba] at aq;rw[ba];clear ba;iterate 9
      refine Ai (v:=?_) rfl rfl (λV G=>?_) ?_
      rotate_left
      ·clear G;go_simp;first|done|with_reducible rfl
      simp only[θ,Η,Μ,Λ]
     refine Ai (v:=.agg #[r1,r2,r3]) rfl rfl (λV G=>?_) ?_
     ·exact Cj 40 (ε 49) rfl E (a*7+3) rfl _ _ (ng.o V G) Ρ rfl (Dg _ _ _)
     simp only[θ,Η,Μ,Λ];refine Ai (v:=.agg D1) rfl rfl (λV G=>?_) ?_
     ·exact Ei 40 (ε 9) rfl g9 rfl 40 D1 (0,0) _ (ni.o V G) Ρ rfl jf
     simp only[θ,Η,Μ,Λ];refine Ao rfl (λKk hK=>?_);go_simp
     (with_reducible refine (nh.o wy aq).mono ?_)
     rintro e w8 ⟨bq,rfl,nj,gp⟩;have kv:=aq.t gp;have nk:=Z nj;refine hK _ _ (λ_=>kv) ?_;clear hK Kk nh gp aq ng ni nj;refine Ai (v:=.bool (!bq)) rfl rfl (λV _=>?_) ?_
     ·go_simp
     simp only[θ,Η,Μ,Λ];refine Ao rfl (λKk hK=>?_);go_simp;refine hK _ _ (λh=>absurd h (by omega)) ?_;clear hK Kk;refine Bn ?_;have bp:=fp.t kv;cases bq with
     | false=>
      have q4:ϟ (∀ i,i<a+1->rs.getD i dN≠d):=Z λi hi=>by
       by_cases e:i=a
       ·subst e;intro h;have:=nk.o.2 h;cases this
       exact HA.o i (by omega)
      go_wp2_with (fail);go_roundw
      case rel=>exact⟨a+1,by omega,by go_num,bp,q4⟩
      simp[intOf]<;>omega
     | true=>
      have q5:=Z (nk.o.1 rfl);have ti:¬ (a:Int)=(k:Int):=by omega
      have tj:((a:Int)==(k:Int))=Ε:=by simp;omega
      have en:=Aa e2 bp;have df:=Aa hz bp;have gq:=Z (h5.o.ext bp);obtain⟨tk,rfl⟩:=G5 df (by omega);have gu:ms.length=k:=De df;have eo:mb.length=k:=by rw[HG.o.len,T.o]
      obtain⟨gr,nn,ep⟩:=gq.o.row a (by omega);have cM:=C3 df a (by omega);rw[nn] at cM;have er:(mb.getD a []).length=n:=HG.o.mlen a (by rw[T.o];exact ji);have cO:=Aq Ε ep (by rw[er]) s (by rw[er];exact bf);have fO:=ep.frozenAt s;obtain⟨gv,et,h8⟩:=gq.o.store (s:=s) (by omega) nn;have eu:=(ek.t bp).grown et (λk e=>by cases e;exact h8);have jj:=en.kept et (Aj en ep (by decide));have jk:=df.kept et (Aj df ep (by decide));have gw:=Z gv;have fa:=Z (HG.o.hit bf (by rw[T.o];exact ji) (by rw[q5.o];exact HR.o));clear gv et h8 ep er gu eo en df e2 hz h5 gq bp fp ek gk kv;go_wp2_with (fail);go_roundw
      case rel=>exact⟨s+1,rs,_,xs,ms,_,_,c6,c7,by omega,by go_num,by rw[T.o],by rw[T.o],eu,by rw[T.o];exact jj,by rw[T.o];exact jk,HX,gw,fa⟩
      simp[intOf]<;>omega
    obtain rfl:a=k:=by omega
    have tl:¬ (a:Int)<(a:Int):=by omega
    go_upto_region 11 with (fail)
    refine Bq 13 [(0,Α),(1,Α),(2,Α),(3,Α),(4,Α),(5,Α),(6,Α),(7,Α),(8,Α),(9,Α),(10,Α),(11,Ε),(12,Α),(13,Ε)] (by kernel_rfl) (by kernel_rfl) (λ_ _ _ _ h=>h) (λV=>Ext wr V) (Κ wr).drew ?_;have aq:=(Κ wr).drew;obtain⟨wy,ba⟩:=Xq (wr.drew);rw[ba] at aq;rw[ba];clear ba;iterate 5
     refine Ai (v:=?_) rfl rfl (λV G=>?_) ?_
     rotate_left
     ·clear G;go_simp;first|done|with_reducible rfl
     simp only[θ,Η,Μ,Λ]
    iterate 6
     refine Iy rfl rfl ?_;simp only[θ,Η,Μ,Λ]
    refine Ki rfl rfl (λ_=>aq) ?_;simp only[θ,Η,Μ,Λ];refine Iy rfl rfl ?_;simp only[θ,Η,Μ,Λ];refine Ao rfl (λKk hK=>?_);go_simp;refine hK _ _ (λh=>absurd h (by omega)) ?_;clear hK Kk;refine Bn ?_;have bp:=fp.t aq;have en:=Aa e2 bp;have df:=Aa hz bp;have gq:=Z (h5.o.ext bp);have np:=Z (bp.heap ks.o);have gp:=ek.t bp;have ia:=Z (UM (U ff fg fh) (U fj d.n.length fk) (U fl fm fo) D1 my.o.symm _ _ _ _ _ _ _ _ _ rfl rfl rfl);clear aq bp e2 hz h5 ks ek fp gk;go_upto_region 15 with (first
     | (refine Lr 40 (ε 9) np.o Ρ jf ?_)
     | (refine Bj rfl 141 _ rfl #[U J 0 0,U J 0 0,U J 0 0,U ff fg fh,U fj d.n.length fk,U fl fm fo,U J 0 0] ?_ ?_;(simp[ß,θ];with_reducible exact ia.o))
     | (at_builtin;refine ϕ _ rfl _ _ 78 rfl w1.heap.size 141 iO (.agg #[U J 0 0,U J 0 0,U J 0 0,U J 0 0,U J 0 0,U J 0 0,U J 0 0]) 7 168 Tryz.underlying78 qi qj qk ql rfl (by decide) (U a6 a c6) _ _ rfl (en.alloc _) _ 1 1 [U J 0 0,U J 0 0,U J 0 0,U ff fg fh,U fj d.n.length fk,U fl fm fo,U J 0 0] rfl rfl (Γ.news_of_block (Ad _ _)) (by simp[ξ]) (by decide) (by unfold ϐ;omega) (by omega) (by have:=gp.size;simp;omega) _ rfl ?_;intro g6 q8 w9 jj jl q9 _))
    have nq:=gp.alloc (Β #[U J 0 0,U J 0 0,U J 0 0,U ff fg fh,U fj d.n.length fk,U fl fm fo,U J 0 0] 141);have bg:=(Κ wy).alloc (Β #[U J 0 0,U J 0 0,U J 0 0,U ff fg fh,U fj d.n.length fk,U fl fm fo,U J 0 0] 141);have eu:=nq.grown jl (λk e=>(en.lt k e).1);have kx:=Aa en bg;have jk:=(Aa df bg).kept jl (Aj (Aa df bg) kx (by decide));have gw:=Z ((gq.o.ext bg).kept kx (by decide) jl);have ra:ϟ (RstR w (xs++[U J 0 0,U J 0 0,U J 0 0,U ff fg fh,U fj d.n.length fk,U fl fm fo,U J 0 0]) (rs++[d])):=Z (HX.o.snoc (by rw[T.o];exact en.1) (by have h1:=je.o;rw[<-my.o] at h1;exact h1))
    clear nq bg jl q9 en df gq gp kx ia np;have k1:=mv.o w9 eu;obtain⟨gn,ky⟩:=Xq (w9.heap.size);go_upto_region 16 with (first
     | (at_make;refine Ϛ _ rfl _ _ 38 rfl w9.heap.size 4 iB (.bool Ε) 1 Ý hiB qf qg Χ Χ _ _ n rfl rfl rfl rfl (by rw[kg];omega) (by unfold ϐ;omega) (Υ _) ?_;rw[ky];intro dg ib ic;have bt:=eu.grown ic (λk e=>by cases e);have bc:=Bz jj ic;have ew:=Bz jk ic)
     | (at_builtin;refine ϕ _ rfl _ _ 113 rfl w1.heap.size 38 iL (U J 0 0) 1 24 Tryz.underlying113 qo qp qq qs rfl (by decide) (U a7 a c7) _ _ rfl (ew.alloc _) _ 1 1 [U (I ⟨gn,0,J⟩) n n] rfl rfl (Γ.news_of_block (Ad _ _)) (by simp[ξ]) (by decide) (by unfold ϐ;omega) (by omega) (by have:=bt.size;simp;omega) _ rfl ?_;intro g7 nr jm dh ie re _))
    have ib:dg.ownsRow gn 4 1 (U (I ⟨gn,0,J⟩) n n) n ((ζ n Ε).map ψ):=by rw[<-B7];exact ib
    have bg:=(Κ dg).alloc (Β #[U (I ⟨gn,0,J⟩) n n] 38);have e3:=(bt.t bg).grown ie (λk e=>(ew.lt k e).1);have jn:=Aa ew bg;have e4:=(Aa bc bg).kept ie (Aj (Aa bc bg) jn (by decide));have gx:=(Aa ib bg).kept ie (Aj (Aa ib bg) jn (by decide));have ns:w1.heap.size<=gn:=by rw[<-ky];exact eu.size
    have gu:ms.length=a:=by have:=ew.1;omega
    have eo:mb.length=a:=by rw[HG.o.len,T.o]
    have nt:∀ i,i<mb.length->ms.getD i δ≠U (I ⟨gn,0,J⟩) n n:=λi hi e=>by
     obtain⟨g',h1,h2⟩:=gw.o.row i hi;rw[e] at h1;injection h1 with h1 _ _
     injection h1 with h1
     injection h1 with h1 _ _
     have:=(h2.lt g' rfl).2;omega
    have ig:MbrR dg w1.heap.size n ms mb:=⟨λi hi=>by obtain⟨g',h1,h2⟩:=gw.o.row i hi;exact⟨g',h1,Bz h2 ic⟩,gw.o.dif⟩
    have ih:=((ig.ext bg).kept jn (by decide) ie).snoc (by rw[gu,eo]) (E9 gx ns) nt;have dh:jm.ownsRow w1.heap.size 38 1 (U (I ⟨g7,0,J⟩) (a+1) nr) (a+1) (ms++[U (I ⟨gn,0,J⟩) n n]):=dh;have cM:=C3 dh a (by rw[Ν,gu];simp);have kz:(ms++[ό (I ⟨gn,0,J⟩) n n]).getD a δ=U (I ⟨gn,0,J⟩) n n:=by rw[<-gu,Fe]
    rw[kz] at cM;have cO:=Aq Ε gx (by simp) s (by simp;exact bf);have fO:=gx.frozenAt s;obtain⟨gv,et,h8⟩:=ih.store (s:=s) (a:=a) (by rw[Ν,eo];simp) kz;have jq:=e3.grown et (λk e=>by cases e;exact h8);have e5:=e4.kept et (Aj e4 gx (by decide));have ij:=dh.kept et (Aj dh gx (by decide));have nu:((mb++[ζ n Ε]).set a (((mb++[ζ n Ε]).getD a []).set s Α))=mb++[(ζ n Ε).set s Α]:=by rw[<-eo,Fe,List.set_append_right _ _ (Υ _),Nat.sub_self];rfl
    rw[nu] at gv;have rf:=Z gv;have hd:d∉rs:=λh=>by obtain⟨i,hi,e⟩:=Yf (d:=dN) h;exact HA.o i (by rw[T.o] at hi;exact hi) e
    have fa:=Z (HG.o.new bf hd HR.o qx.o);clear gv et h8 nu ih ig nt eo ns gx e4 jn e3 bg ib bc ew bt ic ie re dh gu jj jk gw eu k1 ky hd kz;have e1:(rs++[d]).length=a+1:=by rw[Ν,T.o];rfl
    have jr:=Z e1;clear e1;go_wp2_with (fail);go_roundw
    case rel=>exact⟨s+1,rs++[d],_,_,_,_,_,q8,nr,by omega,by go_num,by rw[jr.o],by rw[jr.o],jq,by rw[jr.o];exact e5,by rw[jr.o];exact ij,ra,rf,fa⟩
    simp[intOf]<;>omega
 obtain rfl:n=s:=by omega
 have tn:k<=n:=kj;have eo:mb.length=k:=by rw[HG.o.len,T.o]
 have rh:=Z eo;clear eo;go_upto_region 18 with (fail)
 have nw:ϟ (GrpR w wr xs rs [] 0):=Z (GrpR.start HX.o);clear HX;go_wp2_with (fail);go_loopw [82] (λvi W=>∃ (j:Nat) (hs:List Dfa) (ft:List Δ),j<=k/\vi=iv j/\Ext w1 W/\W.ownsRow w1.heap.size 141 7 (U a6 k c6) k ft/\W.ownsRow w1.heap.size 38 1 (U a7 k c7) k ms/\ϟ (MbrR W w1.heap.size n ms mb)/\ϟ (GrpR w W ft rs hs j)/\ϟ (hs.length=j/\∀ i,i<j->Cano (hs.getD i dN)/\(hs.getD i dN).n.length<=64/\∀ u,(hs.getD i dN).has u=Α↔(mb.getD i []).getD ((Ay L H []).run 0 u) Ε=Α))
  (λvi _=>k-(intOf vi).toNat)
 case atStart=>exact⟨0,[],xs,by omega,rfl,hE,X,hM,HM,nw,Z ⟨rfl,λi hi=>by omega⟩⟩
 clear hE X hM HM nw hs bf kj;obtain⟨j,hs,ft,hj,rfl,hE,X,hM,HM,HS,HH⟩:=hrel;by_cases bf:j<k
 ·obtain⟨E,rfl⟩:=G5 X (by omega);obtain⟨gM,rfl⟩:=G5 hM (by omega);obtain⟨gj,ny,ep⟩:=HM.o.row j (by rw[rh.o];exact bf);have cM:=C3 hM j (by rw[De hM];exact bf);rw[ny] at cM;have CM:=Z (λV (G:Ext wr V)=>G.cell cM);have jt:(mb.getD j []).length=n:=HG.o.mlen j (by rw[T.o];exact bf);obtain⟨mj,k0⟩:=Xq (mb.getD j []);rw[k0] at jt ep;have n1:=Z k0;have n2:Bools wr (U (I ⟨gj,0,J⟩) n n) mj:=by
   have h9:OwnB wr w1.heap.size (U (I ⟨gj,0,J⟩) n n) mj:=by unfold OwnB;rw[jt];exact ep
   exact h9.bools (by rw[jt];omega)
  have n3:WVal L H mj:=⟨e0.o.pos,by rw[jt,HN.o],e0.o.row,e0.o.tgt,e0.o.parts⟩;have f148:=λV (G:Ext wr V)=>Z (Py L H mj n3 (by rw[HN.o];exact mg) A (U (I ⟨gj,0,J⟩) n n) V (iy.o V ((aw.o.t hE).trans G)) (Ξ hl ((aw.o.t hE).trans G).size) (p9.o.ext ((aw.o.t hE).trans G)) (n2.ext G))
  obtain⟨r0,n4⟩:=Xq (K9 (λu=>(Ay L H mj).has u=Α));have rj:=Z n4;have n5:=Z (hE.heap H2.o);have tp:(j:Int)<(k:Int):=by omega
  clear cM ny k0 ep n2 n3 n4;go_upto_region 21 with (fail)
  refine Sz 10 153 8 (by kernel_rfl) (by kernel_rfl) rfl (λ_ _ _ _ h=>h) (Rn (C7 (λu=>(Ay L H mj).has u=Α) r0) wr.heap.size A (U (I ⟨gM,0,J⟩) k c7) gM j (U (I ⟨gj,0,J⟩) n n) r0) Hz Kv (SS _ _ _ _ _ _ _ _) _ rfl (λc W ar=>?_) (λi hi=>?_) (λvs w9 eu hF hN=>?_)
  ·obtain⟨ac,lc,cc,an,ln,cn,aa,la,ca,k5,-⟩:ColV (C7 (λu=>(Ay L H mj).has u=Α) r0) r0 (c.tmps.getD 85 δ) W:=ar 6 85 (by kernel_rfl);exact⟨.int Χ (kOf r0),λW=>by simp only[execOp,ß,k5];rfl⟩
  ·have gz:=(Κ wr).drew
   match i,hi with
   | 0,_=>
    refine Av _ _ rfl rfl rfl λc W hW ar bw=>?_
    have h3:=bw 2 (by kernel_rfl);refine Cy (Ei 128 (ε 2) rfl w.heap.size h3 _ _ _ _ ((gz.t hW).heap n5.o) Tryz.underlying128 rfl qd) ?_;exact⟨_,rfl,Κ W,rfl,λ_ _ _ _ _=>trivial⟩
   | 1,_=>
    refine Av _ _ rfl rfl rfl λc W hW ar bw=>?_
    have h3:c.tmps.getD 7 δ=U (I ⟨gM,0,J⟩) k c7:=bw 7 (by kernel_rfl);go_simp;exact⟨_,rfl,Κ W,rfl,λ_ _ _ _ _=>trivial⟩
   | 2,_=>
    refine Av _ _ rfl rfl rfl λc W hW ar bw=>?_
    have h3:c.tmps.getD 14 δ=iv j:=bw 14 (by kernel_rfl);go_simp;exact⟨_,rfl,Κ W,rfl,λ_ _ _ _ _=>trivial⟩
   | 3,_=>
    refine Av _ _ rfl rfl rfl λc W hW ar bw=>?_
    have h3:c.tmps.getD 87 δ=U (I ⟨gM,0,J⟩) k c7:=ar 1 87 (by kernel_rfl);have h4:c.tmps.getD 88 δ=iv j:=ar 2 88 (by kernel_rfl);go_simp;exact⟨_,rfl,Κ W,rfl,λ_ _ _ _ _=>trivial⟩
   | 4,_=>
    refine Av _ _ rfl rfl rfl λc W hW ar bw=>?_
    have h3:c.tmps.getD 89 δ=η (I ⟨gM,j,J⟩):=ar 3 89 (by kernel_rfl);have c1:=CM.o W (gz.t hW);go_simp;exact⟨_,rfl,Κ W,rfl,λ_ _ _ _ _=>trivial⟩
   | 5,_=>
    refine Av _ _ rfl rfl rfl λc W hW ar bw=>?_
    have h3:c.tmps.getD 86 δ=.agg A:=ar 0 86 (by kernel_rfl);have h4:c.tmps.getD 90 δ=U (I ⟨gj,0,J⟩) n n:=ar 4 90 (by kernel_rfl);go_simp
    (with_reducible refine (f148 W (gz.t hW)).o.mono ?_)
    rintro e W' ⟨r,rn,rp,rq⟩;obtain⟨v,rfl,hv⟩:=SR rn rp;rw[rj.o] at hv;exact⟨_,rfl,rq,hv,λ_ _ _ _ _=>trivial⟩
   | 6,_=>
    refine Av _ _ rfl rfl rfl λc W hW ar bw=>?_
    obtain⟨ac,lc,cc,an,ln,au,aa,la,ca,tq,hv⟩:ColV (C7 (λu=>(Ay L H mj).has u=Α) r0) r0 (c.tmps.getD 91 δ) W:=ar 5 91 (by kernel_rfl);go_simp;exact⟨_,rfl,Κ W,⟨ac,lc,cc,an,ln,au,aa,la,ca,rfl,by first|exact hv|exact⟨hv.1,trivial⟩⟩,λ_ _ _ _ _=>trivial⟩
   | 7,_=>
    refine Av _ _ rfl rfl rfl λc W hW ar bw=>?_
    obtain⟨ac,lc,cc,an,ln,au,aa,la,ca,k5,hv⟩:ColV (C7 (λu=>(Ay L H mj).has u=Α) r0) r0 (c.tmps.getD 85 δ) W:=ar 6 85 (by kernel_rfl);go_simp;exact⟨_,rfl,Κ W,⟨ac,lc,cc,an,ln,au,aa,la,ca,rfl,by first|exact hv|exact⟨hv.1,trivial⟩⟩,λ_ _ _ _ _=>trivial⟩
   | 8,_=>
    refine Av _ _ rfl rfl rfl λc W hW ar bw=>?_
    obtain⟨ac,lc,cc,an,ln,au,aa,la,ca,k5,hv⟩:ColV (C7 (λu=>(Ay L H mj).has u=Α) r0) r0 (c.tmps.getD 85 δ) W:=ar 6 85 (by kernel_rfl);go_simp;exact⟨_,rfl,Κ W,rfl,λ_ _ _ _ _=>trivial⟩
   | 9,_=>
    refine Av _ _ rfl rfl rfl λc W hW ar bw=>?_
    go_simp;exact⟨_,rfl,(Κ W).alloc _,⟨_,rfl,Ad W _,(gz.t hW).size⟩,λ_ _ _ _ _=>trivial⟩
  have n9:vs 0=.agg A:=hF 0 (by omega);have oa:vs 1=U (I ⟨gM,0,J⟩) k c7:=hF 1 (by omega);have ob:vs 2=iv j:=hF 2 (by omega);have oc:vs 3=η (I ⟨gM,j,J⟩):=hF 3 (by omega);have od:vs 4=U (I ⟨gj,0,J⟩) n n:=hF 4 (by omega);obtain⟨_,_,_,_,_,_,_,_,_,oe,-⟩:ColV (C7 (λu=>(Ay L H mj).has u=Α) r0) r0 (vs 5) w9:=hF 5 (by omega);obtain⟨_,_,_,_,_,_,_,_,_,og,-⟩:ColV (C7 (λu=>(Ay L H mj).has u=Α) r0) r0 (vs 6) w9:=hF 6 (by omega);obtain⟨ac,lc,cc,an,ln,au,aa,la,ca,oh,hD,om⟩:∃ ac lc cc an ln cn aa la ca,vs 7=.agg (dA (U ac lc cc) (U an ln cn) (U aa la ca))/\(∀ d,r0=I d->IsD w9 (.agg (dA (U ac lc cc) (U an ln cn) (U aa la ca))) d)/\C7 (λu=>(Ay L H mj).has u=Α) r0:=hF 7 (by omega);have oo:vs 8=.int Χ (kOf r0):=hF 8 (by omega);obtain⟨ju,oq,dn,ot⟩:∃ g,vs 9=η (I ⟨g,0,J⟩)/\w9.heap[g]? = I (Β #[U J 0 0,U J 0 0,U J 0 0] 40 (0,0))/\wr.heap.size<=g:=hF 9 (by omega);simp only[Bm,List.drop_succ_cons,List.drop_zero,n9,oa,ob,oc,od,oe,og,oh,oo,oq,Ϸ,List.getElem?_cons_zero,List.getElem?_cons_succ,Option.bind_some,θ,Η,Μ,Λ];clear hF hN n9 oa ob oc od oe og oh oo oq;go_upto_region 22 with (refine Sr 40 (ε 15) (ε 92) rfl dn Ae rfl (Aw _ _ _ rfl rfl rfl) ?_)
  have bt:=((Κ wr).drew.t eu).setRow ot (dA (U ac lc cc) (U an ln au) (U aa la ca));have k6:=Φ w9 ju _ (dA (U ac lc cc) (U an ln au) (U aa la ca)) _ _ dn;have k7:∀ d,r0=I d->Val d->IsD (w9.setRow ju (dA (U ac lc cc) (U an ln au) (U aa la ca))) (.agg (dA (U ac lc cc) (U an ln au) (U aa la ca))) d:=λd hd rr=>(hD d hd).setRow rr dn _
  obtain⟨dg,k9⟩:=Xq (w9.setRow ju (dA (U ac lc cc) (U an ln au) (U aa la ca)));rw[k9] at bt k6 k7;simp only[k9];clear k9 eu dn hD ot;have dn:=Z k6;have ou:=Z k7;have lb:=Z om;clear om;clear k6 k7 f148 n5 CM;cases r0 with
  | none=>
   rw[show kOf J=2 from rfl];have ru:Big (λu=>(Ay L H mj).has u=Α):=lb.o;have kg:ϟ (Big λu=>ρ ((Ay L H []).run 0 u)=I (rs.getD j dN)):=Z (by
    have e:(λu=>(Ay L H mj).has u=Α)=λu=>ρ ((Ay L H []).run 0 u)=I (rs.getD j dN):=funext λu=>propext (by
     have ow:(Ay L H []).run 0 u<n:=by have:=e0.o.tval.run_lt u e0.o.tval.pos;rw[<-HN.o];exact this
     have h1:=HG.o.mem j (by rw[T.o];exact bf) _ ow;rw[n1.o] at h1;exact h1.trans ⟨λh=>h.2,λh=>⟨ow,h⟩⟩)
    rwa [e] at ru)
   go_wp2_with (fail);go_ret2;exact⟨.inr ⟨rfl,_,kg.o⟩,(aw.o.t hE).trans bt⟩
  | some d=>
   rw[show kOf (I d)=0 from rfl];obtain⟨fc,oy,hp⟩:Cano d/\(∀ u,d.has u=Α↔(Ay L H mj).has u=Α)/\d.n.length<=64:=lb.o;have hD:=ou.o d rfl fc.val;have fe:=Z fc;have rv:=Z oy;have hq:=Z hp;have oz:=hE.t bt;have bc:=Aa X bt;have ew:=Aa hM bt;have ig:=Z (HM.o.ext bt);have lf:=HS.o.nilx (NilX.of_ext bt);have h6:ft.length=k*7:=bc.1;have lg:∀ o,o<7->dg.cell? ⟨E,j*7+o,J⟩=I (ft.getD (j*7+o) δ):=λo ho=>by rw[bc.cellAt (j*7+o) (by omega),Ζ,Θ (by omega)];rfl
   obtain⟨_,_,_,r1,r2,r3,_,lh,ry,_,fw⟩:=lf j (by rw[T.o];exact bf);obtain⟨rfl,rfl,rfl,rfl⟩:=fw (Υ _);have lj:∀ o,o<3->dg.cell? ⟨E,j*7+o,J⟩=I (U J 0 0):=λo ho=>by
    rw[lg o (by omega),lh o (by omega)];rcases o with _|_|_|o
    ·rfl
    ·rfl
    ·rfl
    omega
   have o2:dg.cell? ⟨E,j*7+6,J⟩=I (U J 0 0):=by rw[lg 6 (by omega),lh 6 (by omega)];rfl
   have o3:dg.there E (j*7) 3:=λo ho=>⟨by rw[lj o ho];rfl,bc.frozenAt _⟩
   have jv:w1.heap.size<=E:=(bc.lt E rfl).1;obtain⟨e4,il⟩:=Pn bc (j*7) (U ac lc cc) (U an ln au) (U aa la ca);have ey:=Px (a:=U ac lc cc) (b:=U an ln au) (c:=U aa la ca) bc (by decide) lj (by omega);have e3:=oz.grown il (λx e=>by cases e;exact jv);have dh:=ew.kept il (Aj ew bc (by decide));have ih:=Z (ig.o.kept bc (by decide) il);have o4:=Z (lf.nilx ey);have jw:=hD.nilx fc.val ey;have o5:=Z ((il.block ju (Al dn.o) (λe=>by
    have h1:=dn.o;rcases bc.2 with⟨hv,_⟩|⟨g',tr,cur,hv,_,rz,_⟩
    ·cases hv
    injection hv with hv _ _
    injection hv with hv
    injection hv with hv _ _
    injection e with e
    rw[e,hv,rz] at h1;injection h1 with h1
    injection h1 with _ h2 _
    exact absurd h2 (by decide))).trans dn.o)
   have lk:(dg.setCells E (j*7) [U ac lc cc,U an ln au,U aa la ca]).cell? ⟨E,j*7+6,J⟩=I (U J 0 0):=by rw[e4.cellAt (j*7+6) (by omega),List.getElem?_set_ne (by omega),List.getElem?_set_ne (by omega),List.getElem?_set_ne (by omega),<-bc.cellAt (j*7+6) (by omega)];exact o2
   have o6:=Z o3;clear o3 o2 lj lg lh ry fw lf il X hM HM HS hE oz bc ew ig bt hD ou lb fc oy hp;go_upto_region 25 with (first
    | (refine Lr 40 (ε 15) dn.o Ρ Ae ?_)
    | (refine wpList_store_mid rfl 40 (ε 101) (ε 99) rfl E (j*7) (dA (U ac lc cc) (U an ln au) (U aa la ca)) rfl rfl o6.o Ae (Aw _ _ _ rfl rfl rfl) ?_))
   have o7:(dA (U ac lc cc) (U an ln au) (U aa la ca)).toList=[U ac lc cc,U an ln au,U aa la ca]:=rfl;rw[o7];obtain⟨jm,ll⟩:=Xq (dg.setCells E (j*7) [U ac lc cc,U an ln au,U aa la ca]);rw[ll] at e4 e3 dh ih o4 jw o5 lk ey;rw[ll];clear ll o7 o6 dn ey;have fL:=Z (Xd d fe.o.val hq.o (.agg (dA (U ac lc cc) (U an ln au) (U aa la ca))) jm (iy.o jm (aw.o.t e3)) (Ξ hl (aw.o.t e3).size) jw);have lo:=Z e4;have r4:=Z lk;clear lk e4;go_wp2_with (first
    | (refine Lr 40 (ε 15) o5.o Ρ Ae ?_)
    | (go_at_call 12;(with_reducible refine fL.o.mono ?_);rintro e o8 ⟨gg,jq⟩;obtain⟨al,nl,cl,bl,rfl,o9⟩:=gg.form1;have r5:=Z o9;have e6:=Z jq;clear gg o9 jq;have c6:=e6.o.cell r4.o;have f6:=(Aa lo.o e6.o).frozenAt (j*7+6)))
   have e5:=Aa lo.o e6.o;have r6:w1.heap.size<=E:=(e5.lt E rfl).1;obtain⟨r7,jz⟩:=e5.stored (j*7+6) (U al nl cl);have ey:=(NilX.refl o8).set (v:=U al nl cl) e5 (by decide) c6 (.inl rfl);have r8:=(e3.t e6.o).grown jz (λx e=>by cases e;exact r6);have ij:=Aa dh e6.o;have r9:=ij.kept jz (Aj ij e5 (by decide));have sa:=Z ((ih.o.ext e6.o).kept e5 (by decide) jz);have pa:=(jw.ext e6.o).nilx fe.o.val ey;have pb:∃ u,By (o8.setCell ⟨E,j*7+6,J⟩ (U al nl cl)) (U al nl cl) u:=by obtain⟨u,hu⟩:=r5.o;exact⟨u,Sl.nilx hu ey (λi _=>⟨λe=>(by cases e),λe=>(by cases e)⟩)⟩
   have sb:=Z ((o4.o.nilx ((NilX.of_ext e6.o).trans ey)).put (by rw[T.o];exact h6) (by rw[T.o];exact bf) HH.o.1 fe.o.val pa pb);have sc:ϟ ((hs++[d]).length=j+1/\∀ i,i<j+1->Cano ((hs++[d]).getD i dN)/\((hs++[d]).getD i dN).n.length<=64/\∀ u,((hs++[d]).getD i dN).has u=Α↔(mb.getD i []).getD ((Ay L H []).run 0 u) Ε=Α):=Z ⟨by rw[Ν,HH.o.1];rfl,λi hi=>by
    by_cases e:i<j
    ·rw[Fq _ _ _ (by rw[HH.o.1];exact e)];exact HH.o.2 i e
    obtain rfl:i=j:=by omega
    rw[show (hs++[d]).getD i dN=d by rw[<-HH.o.1,Fe],n1.o];exact⟨fe.o,hq.o,rv.o⟩⟩
   clear c6 f6 e5 jz ey ij pa pb jw e3 dh lo;go_roundw
   case rel=>exact⟨j+1,hs++[d],_,by omega,by go_num,r8,r7,r9,sa,sb,sc⟩
   simp[intOf]<;>omega
 obtain rfl:j=k:=by omega
 have er:(List.zipWith Opt.mk hs rs).length=j:=by rw[List.length_zipWith,HH.o.1,T.o,Nat.min_self]
 have j0:OpR wr ft (List.zipWith Opt.mk hs rs):=JG (w:=w) (by rw[T.o];exact X.1) (by rw[HH.o.1,T.o]) (by rw[T.o];exact HS.o) (aw.o.t hE) (λi hi=>(e7.o _ _ (HG.o.from_ _ (Ib hi)).1.choose_spec.2).2.1.val);have pc:ϟ (CollR (Ay L H []).stp ρ (List.zipWith Opt.mk hs rs)):=Z (PZ HG.o (λs d h=>⟨(e7.o s d h).1,(e7.o s d h).2.1⟩) (λu=>by
   have:=e0.o.tval.run_lt u e0.o.tval.pos;rw[<-HN.o];exact this) mr.o (by rw[HH.o.1,T.o]) (λi hi=>by
   obtain⟨h1,_,h3⟩:=HH.o.2 i (by rw[T.o] at hi;exact hi);exact⟨h1,h3⟩))
 have pd:ϟ (∀ o∈List.zipWith Opt.mk hs rs,o.head.n.length<=64/\o.rest.n.length<=64):=Z λo ho=>by
  obtain⟨i,hi,rfl⟩:=List.mem_iff_getElem.1 ho;rw[List.length_zipWith] at hi;have h1:i<hs.length:=by omega
  have h2:i<rs.length:=by omega
  rw[List.getElem_zipWith];have k1:=(HH.o.2 i (by rw[<-HH.o.1];exact h1)).2.1;have k2:=(e7.o _ _ (HG.o.from_ _ (Ib (d:=dN) h2)).1.choose_spec.2).2.2;rw[Ζ,Θ h1] at k1;rw[Ζ,Θ h2] at k2;exact⟨k1,k2⟩
 have lp:ϟ (∀ g,a6=I ⟨g,0,J⟩->Oc wr g (j*7)):=Z λg hg=>by have pf:=X;rw[hg] at pf;rw[<-er];exact j0.grp λo ho=>by rw[er] at ho;rw[pf.cellAt o (by omega),Ζ,Θ (by rw[X.1];exact ho)];rfl
 obtain⟨j1,pg⟩:=Xq (List.zipWith Opt.mk hs rs);rw[pg] at er j0 pc pd;have sd:=Z j0;have ph:=Z er;clear pg er j0 HS HH;obtain⟨we,se⟩:∃ V,V=wr:=⟨_,rfl⟩;subst se;go_wp2_with (fail);go_loopw [114] (λvi W=>∃ (i:Nat) (os:List Opt) (xs:List Δ),i<=j/\vi=iv i/\Ext w1 W/\W.ownsRow w1.heap.size 141 7 (U a6 j c6) j xs/\ϟ (j1.Perm os)/\ϟ (OpR we xs os)/\ϟ (∀ g,a6=I ⟨g,0,J⟩->RwC we W g (j*7)))
  (λvi _=>j-(intOf vi).toNat)
 case atStart=>exact⟨0,j1,ft,by omega,rfl,hE,X,Z (List.Perm.refl _),sd,Z λg _=>RwC.refl _ _ _⟩
 clear hE X HM hM;obtain⟨i,os,xs,hi,rfl,hE,X,dp,b0,bh⟩:=hrel;have ez:os.length=j:=by rw[<-dp.o.length_eq,ph.o]
 have b7:=Z ez;clear ez;by_cases bf:i<j
 ·obtain⟨E,rfl⟩:=G5 X (by omega);have ts:(i:Int)<(j:Int):=by omega
  have bh:=Z (bh.o E rfl);have pj:=Z (lp.o E rfl);go_upto_region 32 with (fail)
  go_loopw [19] (λvk W=>∃ (kk:Nat) (os:List Opt) (xs:List Δ),kk<=i/\vk=iv kk/\Ext w1 W/\W.ownsRow w1.heap.size 141 7 (U (I ⟨E,0,J⟩) j c6) j xs/\ϟ (j1.Perm os)/\ϟ (OpR we xs os)/\ϟ (RwC we W E (j*7)))
   (λvk _=>(intOf vk).toNat)
  case atStart=>exact⟨i,os,xs,by omega,rfl,hE,X,dp,b0,bh⟩
  clear hE X dp b0 bh b7 os xs;obtain⟨kk,os,xs,tt,rfl,hE,X,dp,b0,bh⟩:=hrel;have ez:os.length=j:=by rw[<-dp.o.length_eq,ph.o]
  have b7:=Z ez;by_cases pk:kk=0
  ·subst pk;go_upto_region 32 with (fail)
   refine Bq 14 [(0,Α),(1,Α),(2,Α),(3,Α),(4,Α),(5,Α),(6,Α),(7,Α),(8,Α),(9,Α),(10,Α),(11,Α),(12,Α),(13,Ε),(14,Ε)] (by kernel_rfl) (by kernel_rfl) (λ_ _ _ _ h=>h) (λV=>Ext wr V) (Κ wr).drew ?_;have aq:=(Κ wr).drew;obtain⟨wy,ba⟩:=Xq (wr.drew);rw[ba] at aq;rw[ba];clear ba;iterate 3
    refine Ai (v:=?_) rfl rfl (λV G=>?_) ?_
    rotate_left
    ·clear G;go_simp;first|done|with_reducible rfl
    simp only[θ,Η,Μ,Λ]
   iterate 10
    refine Iy rfl rfl ?_;simp only[θ,Η,Μ,Λ]
   refine Ki rfl rfl (λ_=>aq) ?_;simp only[θ,Η,Μ,Λ];refine Ao rfl (λKk hK=>?_);go_simp;refine hK _ _ (λh=>absurd h (by omega)) ?_;clear hK Kk;refine Bn ?_;have im:=hE.t aq;have ir:=Aa X aq;have lr:ϟ (∀ g,(I ⟨E,0,J⟩:Option Addr)=I ⟨g,0,J⟩->RwC we wy g (j*7)):=Z λg hg=>by
    injection hg with hg
    injection hg with hg _ _
    subst hg;exact bh.o.ext aq
   clear hE X aq bh;go_wp2_with (fail);go_roundw
   case rel=>exact⟨i+1,os,xs,by omega,by go_num,im,ir,dp,b0,lr⟩
   simp[intOf]<;>omega
  have sf:(0:Int)<(kk:Int):=by omega
  obtain⟨q,rfl⟩:∃ q,kk=q+1:=⟨kk-1,by omega⟩;obtain⟨a1,a2,a3,a4,a5,a6,al,lu,j2,j3,j4,j5,lv⟩:=b0.o.2 (q+1) (by rw[ez];omega);obtain⟨b1,b2,b3,b4,b5,b6,bl,lx,j6,j7,j8,j9,ly⟩:=b0.o.2 q (by rw[ez];omega);have ka:=Z (λV (G:Ext wr V)=>Ps b0.o (Aa X G) ez (show q+1<j by omega) (cs:=[a1,a2,a3,a4,a5,a6,al]) rfl lu);have kb:=Z (λV (G:Ext wr V)=>Ps b0.o (Aa X G) ez (show q<j by omega) (cs:=[b1,b2,b3,b4,b5,b6,bl]) rfl lx);have pn:∃ u,By wr al u:=by obtain⟨u,hu⟩:=lv;exact⟨u,hu.rw bh.o pj.o⟩
  have ia:∃ u,By wr bl u:=by obtain⟨u,hu⟩:=ly;exact⟨u,hu.rw bh.o pj.o⟩
  obtain⟨⟨x1,m1,y1,rfl⟩,_⟩:=(Eo j2 j4).1;obtain⟨⟨x2,m2,y2,rfl⟩,_⟩:=(Eo j2 j4).2.1;obtain⟨⟨x3,m3,y3,rfl⟩,_⟩:=(Eo j2 j4).2.2;obtain⟨⟨x4,m4,y4,rfl⟩,_⟩:=(Eo j3 j5).1;obtain⟨⟨x5,m5,y5,rfl⟩,_⟩:=(Eo j3 j5).2.1;obtain⟨⟨x6,m6,y6,rfl⟩,_⟩:=(Eo j3 j5).2.2;obtain⟨x7,m7,y7,rfl⟩:∃ x n y,al=U x n y:=by obtain⟨u,hu⟩:=lv;obtain⟨x,y,h⟩:=Sl.len hu;exact⟨_,_,_,h⟩
  obtain⟨⟨z1,p1,v1,rfl⟩,_⟩:=(Eo j6 j8).1;obtain⟨⟨z2,p2,v2,rfl⟩,_⟩:=(Eo j6 j8).2.1;obtain⟨⟨z3,p3,v3,rfl⟩,_⟩:=(Eo j6 j8).2.2;obtain⟨⟨z4,p4,v4,rfl⟩,_⟩:=(Eo j7 j9).1;obtain⟨⟨z5,p5,v5,rfl⟩,_⟩:=(Eo j7 j9).2.1;obtain⟨⟨z6,p6,v6,rfl⟩,_⟩:=(Eo j7 j9).2.2;obtain⟨z7,p7,v7,rfl⟩:∃ x n y,bl=U x n y:=by obtain⟨u,hu⟩:=ly;obtain⟨x,y,h⟩:=Sl.len hu;exact⟨_,_,_,h⟩
  have po:=Z (λV (G:Ext wr V)=>IZ _ _ _ _ _ _ _ _ _ _ _ _ (U x7 m7 y7) (U z7 p7 v7) (show (#[U x1 m1 y1,U x2 m2 y2,U x3 m3 y3,U x4 m4 y4,U x5 m5 y5,U x6 m6 y6,U x7 m7 y7]:Array Δ).all (·.oneCell')=Α by simp[ξ]) (show (#[U z1 p1 v1,U z2 p2 v2,U z3 p3 v3,U z4 p4 v4,U z5 p5 v5,U z6 p6 v6,U z7 p7 v7]:Array Δ).all (·.oneCell')=Α by simp[ξ]) V (by obtain⟨u,hu⟩:=pn;exact⟨u,hu.ext G⟩) (by obtain⟨u,hu⟩:=ia;exact⟨u,hu.ext G⟩));have sp:=enters_of Tryz.func83 (by kernel_rfl) rfl;have sq:=Z lu;have sr:=Z lx;have tu:(q:Int)+1<(j:Int):=by omega
  have tv:(q:Int)<(j:Int):=by omega
  have tw:(0:Int)<=(q:Int)+1:=by omega
  have tx:((q:Int)+1).toNat=q+1:=by omega
  have tz:(0:Int)<(q:Int)+1:=by omega
  have ua:å.wrap (q:Int)=(q:Int):=IntKind.wrap_i64_id (by omega) (by omega);have ub:(0:Int)<=(q:Int):=by omega
  clear lu lx j2 j3 j4 j5 lv j6 j7 j8 j9 ly pn ia sf pk ez;go_upto_region 32 with (fail)
  refine Bq 14 [(0,Α),(1,Α),(2,Α),(3,Α),(4,Α),(5,Α),(6,Α),(7,Α),(8,Α),(9,Α),(10,Α),(11,Α),(12,Α),(13,Ε),(14,Ε)] (by kernel_rfl) (by kernel_rfl) (λ_ _ _ _ h=>h) (λV=>Ext wr V) (Κ wr).drew ?_;have aq:=(Κ wr).drew;obtain⟨wy,ba⟩:=Xq (wr.drew);rw[ba] at aq;rw[ba];clear ba;iterate 7
   refine Ai (v:=?_) rfl rfl (λV G=>?_) ?_
   rotate_left
   ·clear G;go_simp;first|done|with_reducible rfl
   simp only[θ,Η,Μ,Λ]
  refine Ai (v:=.agg #[U x1 m1 y1,U x2 m2 y2,U x3 m3 y3,U x4 m4 y4,U x5 m5 y5,U x6 m6 y6,U x7 m7 y7]) rfl rfl (λV G=>?_) ?_
  ·exact Cj 141 (ε 124) rfl E ((q+1)*7) rfl _ _ (ka.o V G) Tryz.underlying141 rfl Hc
  simp only[θ,Η,Μ,Λ];iterate 4
   refine Ai (v:=?_) rfl rfl (λV G=>?_) ?_
   rotate_left
   ·clear G;go_simp;first|done|with_reducible rfl
   simp only[θ,Η,Μ,Λ]
  refine Ai (v:=.agg #[U z1 p1 v1,U z2 p2 v2,U z3 p3 v3,U z4 p4 v4,U z5 p5 v5,U z6 p6 v6,U z7 p7 v7]) rfl rfl (λV G=>?_) ?_
  ·exact Cj 141 (ε 129) rfl E (q*7) rfl _ _ (kb.o V G) Tryz.underlying141 rfl Hc
  simp only[θ,Η,Μ,Λ];refine Ao rfl (λKk hK=>?_);go_simp
  (with_reducible refine (po.o wy aq).mono ?_)
  rintro e w5 ⟨bo,rfl,su⟩;have iu:=aq.t su;refine hK _ _ (λ_=>iu) ?_;clear hK Kk po sp;refine Ao rfl (λKk hK=>?_);go_simp;refine hK _ _ (λh=>absurd h (by omega)) ?_;clear hK Kk;refine Bn ?_;have im:=hE.t iu;have pq:=Z iu;have ir:=Aa X iu;have kc:=bh.o.ext iu;cases bo with
  | false=>
   have lr:ϟ (∀ g,(I ⟨E,0,J⟩:Option Addr)=I ⟨g,0,J⟩->RwC we w5 g (j*7)):=Z λg hg=>by
    injection hg with hg
    injection hg with hg _ _
    subst hg;exact kc
   clear kc hE X bh ka kb;go_wp2_with (fail);go_roundw
   case rel=>exact⟨i+1,os,xs,by omega,by go_num,im,ir,dp,b0,lr⟩
   simp[intOf]<;>omega
  | true=>
   go_upto_region 34 with (fail)
   refine CC 17 [(0,0),(1,0),(2,0),(3,0),(4,0),(5,0),(6,0),(7,0),(8,0),(10,0),(11,0),(12,0),(9,15),(14,0),(15,1),(16,0),(17,1)] (by kernel_rfl) (by kernel_rfl) (λ_ _ _ _ h=>h) (λ_=>True) trivial ?_;have fv:=(Κ w5).drew;obtain⟨wz,l3⟩:=Xq (w5.drew);rw[l3] at fv;rw[l3];clear l3;iterate 12
    refine Or (v:=?_) rfl rfl (λV _=>?_) ?_
    rotate_left
    ·go_simp;first|done|with_reducible rfl
    simp only[θ,Η,Μ,Λ]
   have l4:=ka.o wz (pq.o.t fv);have l5:=kb.o wz (pq.o.t fv);refine EA (vi:=.agg #[U z1 p1 v1,U z2 p2 v2,U z3 p3 v3,U z4 p4 v4,U z5 p5 v5,U z6 p6 v6,U z7 p7 v7]) (vj:=.agg #[U x1 m1 y1,U x2 m2 y2,U x3 m3 y3,U x4 m4 y4,U x5 m5 y5,U x6 m6 y6,U x7 m7 y7]) rfl rfl rfl rfl rfl rfl (Cj 141 (ε 143) rfl E (q*7) rfl _ _ l5 Tryz.underlying141 rfl Hc) (Cj 141 (ε 147) rfl E ((q+1)*7) rfl _ _ l4 Tryz.underlying141 rfl Hc) (Cj 141 (ε 147) rfl E ((q+1)*7) rfl _ _ l4 Tryz.underlying141 rfl Hc) (Cj 141 (ε 143) rfl E (q*7) rfl _ _ l5 Tryz.underlying141 rfl Hc) rfl trivial ?_;simp only[θ,Η,Μ,Λ];refine Or (v:=?_) rfl rfl (λV _=>?_) ?_
   rotate_left
   ·go_simp;first|done|with_reducible rfl
   simp only[θ,Η,Μ,Λ];have hh:=Aa ir fv;have h6:xs.length=j*7:=hh.1;have jv:w1.heap.size<=E:=(hh.lt E rfl).1;obtain⟨kd,l6⟩:=Hv [U z1 p1 v1,U z2 p2 v2,U z3 p3 v3,U z4 p4 v4,U z5 p5 v5,U z6 p6 v6,U z7 p7 v7] wz xs ((q+1)*7) hh;obtain⟨pr,l7⟩:=Hv [U x1 m1 y1,U x2 m2 y2,U x3 m3 y3,U x4 m4 y4,U x5 m5 y5,U x6 m6 y6,U x7 m7 y7] _ _ (q*7) kd;have pt:wz.there E ((q+1)*7) 7:=λo ho=>by refine⟨?_,hh.frozenAt _⟩;rw[hh.cellAt ((q+1)*7+o) (by omega),Θ (by omega)];rfl
   have px:(wz.setCells E ((q+1)*7) [U z1 p1 v1,U z2 p2 v2,U z3 p3 v3,U z4 p4 v4,U z5 p5 v5,U z6 p6 v6,U z7 p7 v7]).there E (q*7) 7:=λo ho=>by refine⟨?_,kd.frozenAt _⟩;rw[kd.cellAt (q*7+o) (by omega),Θ (by rw[I0];omega)];rfl
   have py:=((im.t fv).grown l6 (λx e=>by cases e;exact jv)).grown l7 (λx e=>by cases e;exact jv);have pz:=((kc.ext fv).set (o:=(q+1)*7) (cs:=[U z1 p1 v1,U z2 p2 v2,U z3 p3 v3,U z4 p4 v4,U z5 p5 v5,U z6 p6 v6,U z7 p7 v7]) l6.size (by simp;omega)).set (o:=q*7) (cs:=[U x1 m1 y1,U x2 m2 y2,U x3 m3 y3,U x4 m4 y4,U x5 m5 y5,U x6 m6 y6,U x7 m7 y7]) l7.size (by simp;omega);have sv:=Z (JF b0.o (k:=q+1) (by omega) (by rw[b7.o];omega) (cs:=[U z1 p1 v1,U z2 p2 v2,U z3 p3 v3,U z4 p4 v4,U z5 p5 v5,U z6 p6 v6,U z7 p7 v7]) (cs':=[U x1 m1 y1,U x2 m2 y2,U x3 m3 y3,U x4 m4 y4,U x5 m5 y5,U x6 m6 y6,U x7 m7 y7]) rfl rfl sr.o sq.o);have sw:ϟ (j1.Perm ((os.set (q+1) (os[q+1-1]'(by rw[b7.o];omega))).set (q+1-1) (os[q+1]'(by rw[b7.o];omega)))):=Z (dp.o.trans (List.set_set_perm (by rw[b7.o];omega) (by rw[b7.o];omega)).symm);have p0:=Z pt;have l8:=Z px;have l9:=Z pr;have ma:=Z py;have mc:=Z pz;clear l4 l5 hh h6 kd l6 pr l7 pt px py pz kc ir im hE X bh ka kb fv;refine Tp rfl (λKk hK=>?_);refine Kj 141 (ε 149) (ε 144) rfl rfl E ((q+1)*7) #[U z1 p1 v1,U z2 p2 v2,U z3 p3 v3,U z4 p4 v4,U z5 p5 v5,U z6 p6 v6,U z7 p7 v7] rfl rfl p0.o Hc (by simp[ξ]) ?_;refine hK _ _ (λ_=>trivial) ?_;clear hK Kk;have iw:(#[U z1 p1 v1,U z2 p2 v2,U z3 p3 v3,U z4 p4 v4,U z5 p5 v5,U z6 p6 v6,U z7 p7 v7]:Array Δ).toList=[U z1 p1 v1,U z2 p2 v2,U z3 p3 v3,U z4 p4 v4,U z5 p5 v5,U z6 p6 v6,U z7 p7 v7]:=rfl;rw[iw];clear iw;obtain⟨wm,me⟩:=Xq (wz.setCells E ((q+1)*7) [U z1 p1 v1,U z2 p2 v2,U z3 p3 v3,U z4 p4 v4,U z5 p5 v5,U z6 p6 v6,U z7 p7 v7]);rw[me] at l8 l9 ma mc;rw[me];clear me;refine Or (v:=?_) rfl rfl (λV _=>?_) ?_
   rotate_left
   ·go_simp;first|done|with_reducible rfl
   simp only[θ,Η,Μ,Λ];refine Tp rfl (λKk hK=>?_);refine Kj 141 (ε 150) (ε 148) rfl rfl E (q*7) #[U x1 m1 y1,U x2 m2 y2,U x3 m3 y3,U x4 m4 y4,U x5 m5 y5,U x6 m6 y6,U x7 m7 y7] rfl rfl l8.o Hc (by simp[ξ]) ?_;refine hK _ _ (λh=>absurd h (by omega)) ?_;clear hK Kk;refine EB ?_;have iw:(#[U x1 m1 y1,U x2 m2 y2,U x3 m3 y3,U x4 m4 y4,U x5 m5 y5,U x6 m6 y6,U x7 m7 y7]:Array Δ).toList=[U x1 m1 y1,U x2 m2 y2,U x3 m3 y3,U x4 m4 y4,U x5 m5 y5,U x6 m6 y6,U x7 m7 y7]:=rfl;rw[iw];clear iw;obtain⟨wf,mf⟩:=Xq (wm.setCells E (q*7) [U x1 m1 y1,U x2 m2 y2,U x3 m3 y3,U x4 m4 y4,U x5 m5 y5,U x6 m6 y6,U x7 m7 y7]);rw[mf] at l9 ma mc;rw[mf];clear mf p0 l8;go_wp2_with (fail);go_roundw
   case rel=>exact⟨q,_,_,by omega,by go_num,ma.o,l9.o,sw,sv,mc⟩
   simp[intOf]<;>omega
 obtain rfl:i=j:=by omega
 have sy:ϟ (OpsV wr (U a6 i c6) os):=Z (by refine⟨a6,c6,by rw[b7.o],λx hx=>?_⟩;obtain⟨E,rfl⟩:=G5 X (by rw[<-b7.o];omega);obtain⟨h1,h2,h3,r1,r2,r3,l,hc,s0,s3,gz,s4,u,hu⟩:=b0.o.2 x hx;obtain⟨la,lc,rfl⟩:=Sl.len hu;exact⟨E,h1,h2,h3,r1,r2,r3,la,_,lc,rfl,Ps b0.o X b7.o (by rw[<-b7.o];exact hx) rfl hc,gz.rw s0 (bh.o E rfl) (lp.o E rfl),s4.rw s3 (bh.o E rfl) (lp.o E rfl)⟩)
 have s5:=Z (pc.o.perm dp.o);have s6:ϟ (os.length<=65536/\∀ o∈os,o.head.n.length<=64/\o.rest.n.length<=64):=Z ⟨by rw[b7.o];omega,λo ho=>pd.o o (dp.o.mem_iff.2 ho)⟩;clear X;go_wp2_with (fail);go_ret2;exact⟨.inl ⟨os,_,rfl,s5.o,s6.o,sy.o⟩,aw.o.t hE⟩
def shR (r:List Nat):List Nat:=r.map (·+1)
theorem Mg (r:List Nat):(shR r).length=r.length:=by simp[shR]
theorem Ua {r:List Nat} {k:Nat} (E:k<r.length):(shR r).getD k 0=r.getD k 0+1:=by unfold shR;rw[Ζ,υ,Θ E,Ζ,Θ E];rfl
def bhN (a:Dfa) (s:Nat):List (List Nat):=shR (a.n.getD s [])::a.n.map shR
theorem Hh (a:Dfa) (s:Nat):(bhN a s).length=a.n.length+1:=by simp[bhN]
theorem Se {a:Dfa} {s q:Nat} (E:q<a.n.length):(bhN a s).getD (q+1) []=shR (a.n.getD q []):=by unfold bhN;rw[List.getD_cons_succ,Ζ,υ,Θ E,Ζ,Θ E];rfl
theorem AU {a:Dfa} {s:Nat} (E:s<a.n.length) {p:Nat} (G:p<(bhN a s).length):∃ q,q<a.n.length/\(bhN a s).getD p []=shR (a.n.getD q []):=by
 rw[Hh] at G;cases p with
 | zero=>exact⟨s,E,rfl⟩
 | succ q=>exact⟨q,by omega,Se (by omega)⟩
theorem VD {a:Dfa} (E:Val a) {s:Nat} (T:s<a.n.length):WVal a.cls (bhN a s) (Ε::a.acc) where
 pos:=by rw[Hh];omega
 accL:=by rw[Hh,ϒ,E.accL]
 row:=λp H=>by obtain⟨q,G,e⟩:=AU T H;rw[e,Mg,E.row q G]
 tgt:=λp H k X=>by obtain⟨q,G,e⟩:=AU T H;have h1:=E.tgt q G k X;unfold Dfa.ent2 at h1;rw[e,Ua (by rw[E.row q G];exact X),Hh];omega
 parts:=E.parts
theorem AR {a:Dfa} (E:Val a) {s:Nat} (A:List Bool) {p q:Nat} (G:q<a.n.length) (e:(bhN a s).getD p []=shR (a.n.getD q [])) {b:Nat} (hb:b<256):(Ay a.cls (bhN a s) A).stp p b=a.stp q b+1:=by show ((bhN a s).getD p []).getD (Am a.cls b) 0=_;rw[e,Ua (by rw[E.row q G];exact cell_lt E.parts hb)];rfl
theorem AS {a:Dfa} (E:Val a) {s:Nat} (A:List Bool):∀ (u:List UInt8) (q:Nat),q<a.n.length->(Ay a.cls (bhN a s) A).run (q+1) u=a.run q u+1
 | [],_,_=>rfl
 | c::u,q,G=>by show (Ay a.cls (bhN a s) A).run ((Ay a.cls (bhN a s) A).stp (q+1) c.toNat) u=a.run (a.stp q c.toNat) u+1;rw[AR E A G (Se G) c.toNat_lt];exact AS E A u _ (E.stp_lt G c.toNat_lt)
theorem VC {a:Dfa} (E:Val a) {s:Nat} (G:s<a.n.length) (u:List UInt8):(Ay a.cls (bhN a s) (Ε::a.acc)).has u=Α↔Dp a s u:=by
 cases u with
 | nil=>
  constructor
  ·intro h;cases h
  rintro⟨h,_⟩;exact absurd rfl h
 | cons c u=>
  have e:(Ay a.cls (bhN a s) (Ε::a.acc)).run 0 (c::u)=a.run s (c::u)+1:=by show (Ay a.cls (bhN a s) (Ε::a.acc)).run ((Ay a.cls (bhN a s) (Ε::a.acc)).stp 0 c.toNat) u=a.run (a.stp s c.toNat) u+1;rw[AR E (Ε::a.acc) G (p:=0) rfl c.toNat_lt];exact AS E _ u _ (E.stp_lt G c.toNat_lt)
  have H:(Ay a.cls (bhN a s) (Ε::a.acc)).has (c::u)=a.ok (a.run s (c::u)):=by show (Ay a.cls (bhN a s) (Ε::a.acc)).ok ((Ay a.cls (bhN a s) (Ε::a.acc)).run 0 (c::u))=_;rw[e];rfl
  rw[H];exact⟨λh=>⟨by simp,h⟩,λh=>h.2⟩
structure GRho (a b:Dfa) (s:Nat) (ρ:Nat->Option Dfa):Prop where
 yes:∀ x,x<s->a.ok x=Α->∃ d,ρ x=I d/\Cano d/\d.n.length<=64/\∀ v,d.has v=Α↔b.has v=Α/\¬ Cat (Dp a x) (wd1 b) v
 no:∀ x,x<s->a.ok x=Ε->ρ x=J
 o:∀ x,s<=x->ρ x=J
theorem QB (a b:Dfa):GRho a b 0 (λ_=>J):=⟨λx h=>by omega,λx h=>by omega,λ_ _=>rfl⟩
theorem QC {a b:Dfa} {s:Nat} {ρ:Nat->Option Dfa} (h:GRho a b s ρ) (G:a.ok s=Ε):GRho a b (s+1) ρ where
 yes:=λx hx E=>by
  refine h.yes x ?_ E;by_cases e:x=s
  ·subst e;rw[G] at E;cases E
  omega
 no:=λx hx E=>by
  by_cases e:x=s
  ·subst e;exact h.o x (Υ _)
  exact h.no x (by omega) E
 o:=λx hx=>h.o x (by omega)
theorem QD {a b:Dfa} {s:Nat} {ρ:Nat->Option Dfa} (h:GRho a b s ρ) (G:a.ok s=Α) {d:Dfa} (hd:Cano d) (H:d.n.length<=64) (T:∀ v,d.has v=Α↔b.has v=Α/\¬ Cat (Dp a s) (wd1 b) v):GRho a b (s+1) (λz=>if z=s then I d else ρ z) where
 yes:=λx hx E=>by
  by_cases e:x=s
  ·subst e;exact⟨d,if_pos rfl,hd,H,T⟩
  obtain⟨X,h1,h2⟩:=h.yes x (by omega) E;exact⟨X,by rw[if_neg e];exact h1,h2⟩
 no:=λx hx E=>by
  by_cases e:x=s
  ·subst e;rw[G] at E;cases E
  rw[if_neg e];exact h.no x (by omega) E
 o:=λx hx=>by rw[if_neg (by omega)];exact h.o x (by omega)
theorem QF {a b:Dfa} {ρ:Nat->Option Dfa} (h:GRho a b a.n.length ρ) (s:Nat) (d:Dfa) (G:ρ s=I d):s<a.n.length/\Cano d/\d.n.length<=64:=by
 have E:s<a.n.length:=by
  rcases Nat.lt_or_ge s a.n.length with E|E
  ·exact E
  rw[h.o s E] at G;cases G
 refine⟨E,?_⟩;cases H:a.ok s
 ·rw[h.no s E H] at G;cases G
 obtain⟨e,h1,T,X,_⟩:=h.yes s E H;rw[G] at h1;injection h1 with h1
 subst h1;exact⟨T,X⟩
theorem QE {a b:Dfa} (G:Val a) {ρ:Nat->Option Dfa} (h:GRho a b a.n.length ρ) {os:List Opt} (hc:CollR (Ay a.cls a.n []).stp ρ os):OptsOf Ε (wd1 a) (wd1 b) os:=
 PO G (λs E=>⟨λH=>by obtain⟨d,h1,T,_,X⟩:=h.yes s E H;exact⟨d,h1,T,X⟩,h.no s E⟩) hc
theorem IsD.keptm {W W':Γ} {v:Δ} {d:Dfa} {g:Nat} (h:IsD W v d) (hg:W.grownBy W' (I g)) (hm:∃ es c,W.heap[g]? = I (.map es c)):IsD W' v d:=by obtain⟨vc,E,G,rfl,h1,⟨vs,H,T,X⟩,h3⟩:=h;exact⟨vc,E,G,rfl,Sl.keptm h1 (by omega) hg hm,⟨vs,H,Sl.keptm T (by omega) hg hm,λi hi=>Sl.keptm (X i hi) (by omega) hg hm⟩,Sl.keptm h3 (by omega) hg hm⟩
def MpD (W:Γ) (f:Nat->Option Δ) (ρ:Nat->Option Dfa):Prop:=∀ s,(ρ s=J->f s=J)/\∀ d,ρ s=I d->∃ v,f s=I v/\IsD W v d
theorem Wi (W:Γ):MpD W (λ_=>J) (λ_=>J):=λ_=>⟨λ_=>rfl,λ_ h=>by cases h⟩
theorem MpD.ext {W W':Γ} {f:Nat->Option Δ} {ρ:Nat->Option Dfa} (h:MpD W f ρ) (E:Ext W W'):MpD W' f ρ:=λs=>⟨(h s).1,λd hd=>by obtain⟨v,h1,G⟩:=(h s).2 d hd;exact⟨v,h1,G.ext E⟩⟩
theorem MpD.keptm {W W':Γ} {f:Nat->Option Δ} {ρ:Nat->Option Dfa} {g:Nat} (h:MpD W f ρ) (hg:W.grownBy W' (I g)) (hm:∃ es c,W.heap[g]? = I (.map es c)):MpD W' f ρ:=λs=>⟨(h s).1,λd hd=>by obtain⟨v,h1,E⟩:=(h s).2 d hd;exact⟨v,h1,E.keptm hg hm⟩⟩
theorem MpD.put {W:Γ} {f:Nat->Option Δ} {ρ:Nat->Option Dfa} (h:MpD W f ρ) (s:Nat) {v:Δ} {d:Dfa} (H:IsD W v d):MpD W (λz=>if z=s then I v else f z) (λz=>if z=s then I d else ρ z):=λx=>by
 by_cases e:x=s
 ·refine⟨λh=>?_,λE hd=>⟨v,if_pos e,?_⟩⟩
  ·have h:(if x=s then I d else ρ x)=J:=h;rw[if_pos e] at h;cases h
  have hd:(if x=s then I d else ρ x)=I E:=hd;rw[if_pos e] at hd;injection hd with hd
  exact hd▸H
 show (((if x=s then I d else ρ x)=J->(if x=s then I v else f x)=J)/\∀ E,(if x=s then I d else ρ x)=I E->∃ G,(if x=s then I v else f x)=I G/\IsD W G E);rw[if_neg e,if_neg e];exact h x
def Is (a b:Dfa):Prop:=∃ s,s<a.n.length/\a.ok s=Α/\(Big (Dp a s)\/∃ m,Cano m/\m.n.length<=64/\(∀ u,m.has u=Α↔Dp a s u)/\(Cx m b J\/∃ c,Fit c (Cat (wd1 m) (wd1 b))/\c.n.length<=64/\Lim (λu=>b.has u=Α/\¬ c.has u=Α) J))
theorem PP {a:Dfa} (E:Val a) (G:a.n.length<=64) (ρ:Nat->Option Dfa) (d:Dfa):¬ Big λu=>ρ ((Ay a.cls a.n []).run 0 u)=I d:=λh=>Q4 h (λw=>a.run 0 w) (λw w' e u=>by show ρ (a.run 0 (w++u))=I d↔ρ (a.run 0 (w'++u))=I d;rw[Bf,Bf,e]) (π a.n.length) (λw=>List.mem_range.2 (E.run_lt w E.pos)) (by rw[List.length_range];exact G)
theorem PS {a b m c:Dfa} {s:Nat} (hm:∀ u,m.has u=Α↔Dp a s u) (hc:∀ u,c.has u=Α↔Cat (wd1 m) (wd1 b) u) (v:List UInt8):(b.has v=Α/\¬ c.has v=Α)↔b.has v=Α/\¬ Cat (Dp a s) (wd1 b) v:=by
 refine and_congr Iff.rfl (not_congr ?_);rw[hc];have:wd1 m=Dp a s:=funext λu=>propext (hm u)
 rw[this]
open Go.RowKit Go.Shelf Go.WideMaps
open Go.Maps (Keyed)
theorem S0 {κ:Type} [DecidableEq κ] {W:Γ} {k:ϫ} {key:κ->Δ} {b n:Nat} {f:κ->Option Δ} {ops:Array Ϭ} {rest:List Ϭ} {o:Ϭ} {a:Act} {Q:Exit->Act->Γ->Prop} (hg:o.guard=J) (m x v:Operand) (t:ϫ) (E:o.op=Op.mapUpdate t m x v) (G:Keyed Ι k) {e:ϫ} (H:Ι.underlying t=I (.map k e)) (hm:a.eval m=.map (I b)) (h:IsMv W k key b n f) (T:n<ϐ)
  (X:∀ y z,key y=key z->y=z) (y:κ) (hx:a.eval x=key y) (hl:∃ l,keyOf Ι k (key y)=I l) (i:Δ) (hv:a.eval v=i)
  (hK:∀ W',IsMv W' k key b (n+1) (λz=>if z=y then I i else f z)->W.grownBy W' (I b)->wpList Ι ops Q rest (a.put o.dst δ) W'):wpList Ι ops Q (o::rest) a W:=
 wpList_plain hg λ_ ad=>Wh E G H hm h T X y hx hl i hv λW' h1 h2=>ad _ _ (hK W' h1 h2)
theorem Fb {W:Γ} {base e size n:Nat} {v:Δ} {xs:List Δ} (h:W.ownsRow base e size v n xs) {g:Nat} {cs:Array Δ} {t:ϫ} {fr:Nat × Nat} (hg:W.heap[g]? = I (Β cs t fr)) (G:t≠e):I g≠v.ownBlock:=λE=>by
 rcases B2 h hg G with h1|h1
 ·rw[h1] at E;cases E
 exact h1 E.symm
theorem FN {a:Dfa} {q m:Nat} (E:(a.n.getD q []).length=m):(π m).map (λz=>a.ent2 q z+1)=shR (a.n.getD q []):=by
 unfold shR Dfa.ent2;generalize a.n.getD q []=r at *;refine List.ext_getElem (by simp[E]) λi h1 G=>?_
 have hi:i<r.length:=by simpa using G
 simp[Ζ,Θ hi]
theorem Hr {α:Type} (l:List α) (i:Nat) (d:α) (h:i<l.length):l.take (i+1)=l.take i++[l.getD i d]:=by rw[List.take_succ_eq_append_getElem h,Ζ,Θ h];rfl
theorem Yg {l:List (List Nat)} {q:Nat} (E:q<l.length):(l.map shR).getD q []=shR (l.getD q []):=by rw[Ζ,υ,Θ E,Ζ,Θ E];rfl
theorem PT {a:Dfa} {s:Nat} (E:Val a) (G:s<a.n.length) {r:Option Dfa} (h:C7 (λu=>(Ay a.cls (bhN a s) (Ε::a.acc)).has u=Α) r):C7 (Dp a s) r:=by
 have e:(λu=>(Ay a.cls (bhN a s) (Ε::a.acc)).has u=Α)=Dp a s:=funext λu=>propext (VC E G u)
 rwa [e] at h
theorem Wq {l:List Nat} {j:Nat} (h:j<l.length):(l.map iv)[j]? = I (iv (l.getD j 0)):=by rw[υ,Ζ,Θ h];rfl
theorem J4 (b o j:Nat):(⟨b,o,J⟩:Addr).add j=⟨b,o+j,J⟩:=by
 unfold Addr.add;split
 ·rename_i h;rw[h];rfl
 rfl
theorem Xu (y z:Nat) (e:iv y=iv z):y=z:=by
 injection e with _ e
 omega
theorem ColOut.form {W:Γ} {e:Ending} {L:List Cls} {E:List (List Nat)} {ρ:Nat->Option Dfa} (h:ColOut W e L E ρ):∃ v k,e=Ω (ϙ #[v,.int Χ k]):=by
 rcases h with⟨_,v,h,_⟩|⟨h,_⟩
 ·exact⟨_,_,h⟩
 exact⟨_,_,h⟩
def GreOut (W:Γ) (e:Ending) (a b:Dfa):Prop:=
 (∃ os v,e=Ω (ϙ #[v,.int Χ 0])/\OptsOf Ε (wd1 a) (wd1 b) os/\(os.length<=65536/\∀ o∈os,o.head.n.length<=64/\o.rest.n.length<=64)/\OpsV W v os)\/
 (e=Ω (ϙ #[U J 0 0,.int Χ 2])/\Is a b)
theorem PQ (a b:Dfa) (ha:Cano a) (hb:Cano b) (kf:a.n.length<=64) (kg:b.n.length<=64) (va vb:Δ) (w:Γ) (hT:Tab w) (de:0<w.heap.size) (fm:IsD w va a) (fp:IsD w vb b) :
  Calls Ι 30 #[va,vb] w λe w'=>GreOut w' e a b/\Ext w w':=by
 have ef:=Z (λW (hW:Ext w W)=>hT.below hW.below de);have aa:=Z ha;have kj:=Z hb;have eg:=Z fm;have fq:=Z fp;have kk:=Z kg;obtain⟨G,H,T,bn,on,cn,ba,oa,ca,rfl,hC,hR,km⟩:=fm.opened ha.val;obtain⟨n2,n3,n4,n5,n9,ob,od,oe,rfl⟩:=fp.agg;have HC:=Z hC;have HR:=Z hR;have HA:=Z km;have og:=ha.val.pos;have fx:=ha.val.parts.pos;have oh:=ha.val.parts.le;obtain⟨i0,hi,kq,fy,kr⟩:=ϑ Ds;obtain⟨j0,hj,oo,oq,ot⟩:=ϑ Fc;obtain⟨k0,hk,oy,oz,o2⟩:=ϑ Lf;obtain⟨n,eh⟩:=Xq (a.n.length);obtain⟨m,cp⟩:=Xq (a.cls.length);have HN:=Z eh;have HM:=Z cp;rw[eh] at kf og HR HA eg;rw[cp] at fx oh HR HC eg;rw[eh,cp];clear hT ha hb fm fp hC hR km eh cp kg;obtain⟨Va,df⟩:=Xq (dA (U (I ⟨G,H,J⟩) m T) (U (I ⟨bn,on,J⟩) n cn) (U (I ⟨ba,oa,J⟩) n ca));obtain⟨Vb,ej⟩:=Xq (dA (U n2 n3 n4) (U n5 b.n.length n9) (U ob od oe));have rj:(Ι.info? 40).map (·.size)=I Va.size:=by rw[<-df];exact Ae
 have kt:(Ι.info? 40).map (·.size)=I Vb.size:=by rw[<-ej];exact Ae
 have ek:=Z df;rw[df] at eg;rw[ej] at fq;rw[df,ej];clear df ej;have fz:=((Κ w).alloc (Β Va 40)).alloc (Β Vb 40);have H2:=Ag (Ad w (Β Va 40)) (Β Vb 40);have H3:=ύ w (Β Va 40) (Β Vb 40);have cq:((w.alloc (Β Va 40)).alloc (Β Vb 40)).heap.size=w.heap.size+1+1:=by rw[Ο,Ο]
 have cp:=@run_makeMap Ι;go_enter Tryz.func30,Tryz.ntmps30;go_upto_region 1 with (fail)
 obtain⟨w0,be⟩:=Xq ((w.alloc (Β Va 40)).alloc (Β Vb 40));rw[be] at fz H2 H3 cq;simp only[be];clear be;have ao:=Z fz;have gb:=Z (λV (hV:Ext w0 V)=>(Τ V w.heap.size 0 _ _ _ (hV.heap H2)).trans (show Va[0]? = I (U (I ⟨G,H,J⟩) m T) by rw[<-ek.o];rfl));have ku:=Z (λV (hV:Ext w0 V)=>(Τ V w.heap.size 1 _ _ _ (hV.heap H2)).trans (show Va[1]? = I (U (I ⟨bn,on,J⟩) n cn) by rw[<-ek.o];rfl));have kv:=Z (λV (hV:Ext w0 V)=>(Τ V w.heap.size 2 _ _ _ (hV.heap H2)).trans (show Va[2]? = I (U (I ⟨ba,oa,J⟩) n ca) by rw[<-ek.o];rfl));have kx:=Z (λV (hV:Ext w0 V)=>hV.heap H3);clear H2 H3 fz;have bf:=Qj w0 3 iv;rw[cq] at bf;have en:=(Κ w0).alloc (.map #[] 0);have eo:w0.heap.size<(w0.alloc (.map #[] 0)).heap.size:=by rw[Ο];omega
 rw[cq] at eo;go_upto_region 2 with (fail)
 clear cp;obtain⟨w1,ep⟩:=Xq (w0.alloc (.map #[] 0));obtain⟨bm,gd⟩:=Xq (w.heap.size+1+1);have rl:w0.heap.size<=bm:=by rw[cq,gd];exact Υ _
 rw[ep,gd] at bf eo;rw[ep] at en;simp only[ep,cq,gd];clear ep cq;have k2:=kv.o w1 en;go_wp2_with (fail);clear k2;go_loopw [23] (λi W=>∃ (s cnt:Nat) (f:Nat->Option Δ) (ρ:Nat->Option Dfa),s<=n/\cnt<=s/\i=iv s/\Ext w0 W/\bm<W.heap.size/\IsMv W 3 iv bm cnt f/\ϟ (MpD W f ρ)/\ϟ (GRho a b s ρ))
  (λi _=>n-(intOf i).toNat)
 case atStart=>exact⟨0,0,_,_,by omega,Υ _,rfl,en,eo,bf,Z (Wi w1),Z (QB a b)⟩
 clear en eo bf;obtain⟨s,cnt,f,ρ,hs,rn,rfl,hE,ky,bf,gf,HG⟩:=hrel;by_cases kz:s<n
 ·have ks:=(ao.o.t hE).cell (HA.o s kz);have rp:(s:Int)<(n:Int):=by omega
  cases cv:a.ok s with
  | false=>
   have cw:=Z cv;rw[cv] at ks;clear cv;go_wp2_with (fail);go_roundw
   case rel=>exact⟨s+1,cnt,f,ρ,by omega,by omega,by go_num,hE,ky,bf,gf,Z (QC HG.o cw.o)⟩
   simp[intOf]<;>omega
  | true=>
   have cw:=Z cv;rw[cv] at ks;clear cv;have et:=gb.o wr hE;obtain⟨wS,o3⟩:∃ W,W=wr:=⟨_,rfl⟩;subst o3;go_upto_region 7 with (at_make;refine Ϛ _ rfl _ _ 54 rfl wS.heap.size 3 i0 (.int Χ 0) 1 ϝ hi kq fy Χ Χ _ _ m rfl rfl rfl rfl (by rw[kr];omega) (by unfold ϐ;omega) (Υ _) ?_;intro E gj gk)
   clear ks et;have cy:=hE.grown gk (λk e=>by cases e);have gl:=(Κ wS).grown gk (λk e=>by cases e);have eu:E.ownsRow wS.heap.size 3 1 (U (I ⟨wS.heap.size,0,J⟩) m m) m ((ζ m 0).map iv):=by rw[<-B7];exact gj
   have gm:wS.heap.size<E.heap.size:=(gj.lt _ rfl).2;clear gj gk;obtain⟨B,hB⟩:=Xq (wS.heap.size);have HB:=Z hB;rw[hB] at eu gm;simp only[hB];clear hB;have et:=gb.o E cy;have ew:=Z (R7 (I ⟨G,H,J⟩) (I ⟨E.heap.size,0,J⟩) m 1 T 1);go_upto_region 8 with (first
    | (refine Bj rfl 128 _ rfl #[U (I ⟨G,H,J⟩) m T,U (I ⟨E.heap.size,0,J⟩) 1 1] ?_ ?_;(simp[ß];with_reducible exact ew.o))
    | (refine wpList_store_row rfl 128 (ε 10) (ε 38) rfl _ _ rfl rfl _ _ (ύ E (Β #[U (I ⟨B,0,J⟩) m m] 54) (Β #[U J 0 0,U J 0 0] 128)) Fp rfl (by simp[ξ]) ?_))
   clear et ew;have dg:=((Κ E).alloc (Β #[U (I ⟨B,0,J⟩) m m] 54)).alloc (Β #[U J 0 0,U J 0 0] 128);have gq:((E.alloc (Β #[U (I ⟨B,0,J⟩) m m] 54)).alloc (Β #[U J 0 0,U J 0 0] 128)).ownsRow B 54 1 (U (I ⟨E.heap.size,0,J⟩) 1 1) 1 [U (I ⟨B,0,J⟩) m m]:=
    Aa (Ê (base:=B) (e:=54) (size:=1) E #[U (I ⟨B,0,J⟩) m m] 1 (by omega) (by unfold ϐ;omega) rfl) ((Κ _).alloc _)
   have ey:=ύ E (Β #[U (I ⟨B,0,J⟩) m m] 54) (Β #[U J 0 0,U J 0 0] 128);have gu:=Ca ((E.alloc (Β #[U (I ⟨B,0,J⟩) m m] 54)).alloc (Β #[U J 0 0,U J 0 0] 128)) (E.heap.size+1) #[U (I ⟨G,H,J⟩) m T,U (I ⟨E.heap.size,0,J⟩) 1 1];have gv:=(Aa eu dg).kept gu (B2 (Aa eu dg) ey (by decide));have ez:=gq.kept gu (B2 gq ey (by decide));have gw:=(cy.t dg).setRow (show w0.heap.size<=E.heap.size+1 by have:=cy.size;omega) #[U (I ⟨G,H,J⟩) m T,U (I ⟨E.heap.size,0,J⟩) 1 1];have gx:=(gl.t dg).setRow (show wS.heap.size<=E.heap.size+1 by have:=gl.size;omega) #[U (I ⟨G,H,J⟩) m T,U (I ⟨E.heap.size,0,J⟩) 1 1];have cz:=Φ _ _ _ #[U (I ⟨G,H,J⟩) m T,U (I ⟨E.heap.size,0,J⟩) 1 1] _ _ ey;clear dg gq ey gu eu cy gl;obtain⟨w3,gy⟩:=Xq (((E.alloc (Β #[U (I ⟨B,0,J⟩) m m] 54)).alloc (Β #[U J 0 0,U J 0 0] 128)).setRow (E.heap.size+1) #[U (I ⟨G,H,J⟩) m T,U (I ⟨E.heap.size,0,J⟩) 1 1]);rw[gy] at gv ez gw gx cz;simp only[gy];clear gy;obtain⟨o4,gz⟩:=Xq (E.heap.size);rw[gz] at ez gm cz;simp only[gz];clear gz;obtain⟨X,hf⟩:=Xq (o4+1);have rq:B<X:=by omega
   rw[hf] at cz;simp only[hf];clear hf gm;go_upto_region 9 with (fail)
   have e0:(w3.alloc (Β #[.bool Ε] 4)).ownsRow B 4 1 (U (I ⟨w3.heap.size,0,J⟩) 1 1) 1 [.bool Ε]:=Ê (base:=B) (e:=4) (size:=1) w3 #[.bool Ε] 1 (by have:=Al cz;omega) (by unfold ϐ;omega) rfl;have hh:=gw.alloc (Β #[.bool Ε] 4);have hn:=gx.alloc (Β #[.bool Ε] 4);have hp:=gv.alloc (Β #[.bool Ε] 4);have ht:=ez.alloc (Β #[.bool Ε] 4);have hy:=Z (Ag cz (Β #[.bool Ε] 4));obtain⟨w4,hz⟩:=Xq (w3.alloc (Β #[.bool Ε] 4));obtain⟨rr,h4⟩:=Xq (w3.heap.size);rw[hz] at e0 hh hn hp ht hy;rw[h4] at e0;simp only[hz,h4];clear hz h4 gw gx gv ez cz;have k1:=ku.o w4 hh;go_wp2_with (fail);clear k1;have aq:=Z hE;go_loopw [11,43] (λvA i W=>∃ (q aN cN aA cA:Nat) (vs:List Δ),q<=n/\vA=U (I ⟨aA,0,J⟩) (q+1) cA/\i=iv q/\Ext wS W/\ϟ (W.heap[X]? = I (Β #[U (I ⟨G,H,J⟩) m T,U (I ⟨aN,0,J⟩) (q+1) cN] 128 (0,0)))/\W.ownsRow B 54 1 (U (I ⟨aN,0,J⟩) (q+1) cN) (q+1) (U (I ⟨B,0,J⟩) m m::vs)/\W.ownsRow B 4 1 (U (I ⟨aA,0,J⟩) (q+1) cA) (q+1) ((Ε::a.acc.take q).map ψ)/\W.ownsRow B 3 1 (U (I ⟨B,0,J⟩) m m) m ((ζ m 0).map iv)/\ϟ (RowsO W B vs ((a.n.take q).map shR) (λo=>o=I B)))
    (λ_ i _=>n-(intOf i).toNat)
   case atStart=>exact⟨0,_,_,_,_,[],by omega,rfl,rfl,hn,hy,ht,e0,hp,Z ⟨rfl,λj hj=>absurd hj (by simp)⟩⟩
   clear hn hy ht e0 hp hh;obtain⟨q,aN,cN,aA,cA,vs,hq,rfl,rfl,c3,H2,hX,hA,hF,e1⟩:=hrel;have e2:=aq.o.t c3;by_cases dn:q<n
   ·have rv:(q:Int)<(n:Int):=by omega
    obtain⟨br,or',cr,k5,k9⟩:=HR.o q dn;have o8:=(ao.o.t e2).cell k5;have o9:=Z (λV (hV:Ext w0 V) k (h5:k<m)=>(ao.o.t hV).cell (k9 k h5));have pa:=Z (λk (h5:k<m)=>show a.ent2 q k<n by rw[<-HN.o];exact aa.o.val.tgt q (by rw[HN.o];exact dn) k (by rw[HM.o];exact h5));clear k5 k9;obtain⟨wq,pb⟩:∃ W,W=wr:=⟨_,rfl⟩;subst pb;have pc:B<=wq.heap.size:=by rw[<-HB.o];exact c3.size
    go_upto_region 13 with (at_make;refine Ϛ _ rfl _ _ 54 rfl wq.heap.size 3 i0 (.int Χ 0) 1 ϝ hi kq fy Χ Χ _ _ m rfl rfl rfl rfl (by rw[kr];omega) (by unfold ϐ;omega) (Υ _) ?_;intro w5 lb bk)
    clear o8;have h6:=e2.grown bk (λk e=>by cases e);have lf:=c3.grown bk (λk e=>by cases e);have lg:=Bz hX bk;have lh:=Bz hA bk;have lj:=Bz hF bk;have e3:=(bk.block X (Al H2.o) (by simp)).trans H2.o;have e4:w5.ownsRow wq.heap.size 3 1 (U (I ⟨wq.heap.size,0,J⟩) m m) m ((Cp (λz=>a.ent2 q z+1) m 0).map iv):=by rw[Ll,<-B7];exact lb
    have h7:=((Κ wq).grown bk (λk e=>by cases e)).grownBy (I wq.heap.size);have pd:B<wq.heap.size:=(hF.lt _ rfl).2;have lk:wS.heap.size<=wq.heap.size:=c3.size;have h8:w0.heap.size<=wq.heap.size:=e2.size;have ia:=Z (λV (hV:wq.grownBy V (I wq.heap.size))=>e1.o.kept hV (λv l ho _=>by
     cases hb:v.ownBlock with
     | none=>exact .inl rfl
     | some k=>exact .inr (λe=>by
       injection e with e
       have:=(ho.lt k hb).2;omega)))
    obtain⟨gn,c4⟩:=Xq (wq.heap.size);rw[c4] at e4 h7 pd lk h8 ia;simp only[c4];clear c4 lb bk e1 hX hA hF H2 c3 e2 pc;have ib:=Z lg;have ic:=Z lh;have ie:=Z lj;have e5:=Z e4;clear lg lh lj;go_wp2_with (fail);go_loopw [53] (λi W=>∃ k:Nat,k<=m/\i=.int Χ k/\w5.grownBy W (I gn)/\W.ownsRow gn 3 1 (U (I ⟨gn,0,J⟩) m m) m ((Cp (λz=>a.ent2 q z+1) m k).map iv))
     (λi _=>m-(intOf i).toNat)
    case atStart=>exact⟨0,by omega,rfl,Γ.grownBy.refl _ _,e4⟩
    clear e4;obtain⟨k,ry,rfl,hg,hX⟩:=hrel;by_cases e6:k<m
    ·have ll:=h6.grown hg (λk e=>by cases e;exact h8);have ct:wr.cell? ⟨br,or'+k,J⟩=I (iv (a.ent2 q k)):=o9.o wr ll k e6;have r4:=pa.o k e6;have co:=Aq 0 hX (Ev _ _ _).symm k (by rw[Ev];exact e6);have fo:=hX.frozenAt k;obtain⟨ig,ln⟩:=Ba hX k (a.ent2 q k+1);rw[Jm (λz=>a.ent2 q z+1) _ _ e6] at ig;have c4:=hg.trans ln;have r6:(k:Int)<(m:Int):=by omega
     clear ln ll hg hX;generalize a.ent2 q k=x at *;have r7:(x:Int)<(n:Int):=by omega
     have pe:((x+1:Nat):Int)=(x:Int)+1:=by omega
     simp only[iv,pe] at c4 ig;go_wp2_with (fail);go_roundw
     case rel=>exact⟨k+1,by omega,by go_num,c4,ig⟩
     simp[intOf]<;>omega
    obtain rfl:m=k:=by omega
    have lo:=h7.trans hg;have b6:=h6.grown hg (λk e=>by cases e;exact h8);have ih:=lf.grown hg (λk e=>by cases e;exact lk);have ak:=ib.o.kept hg (Aj ib.o e5.o (by decide));have dp:=ic.o.kept hg (Aj ic.o e5.o (by decide));have dq:=ie.o.kept hg (Cb ie.o (by omega));have lp:=ia.o wr lo;have bo:=(hg.block X (Al e3) (Fb e5.o e3 (by decide))).trans e3;have lq:OwnI wr B (U (I ⟨gn,0,J⟩) m m) (shR (a.n.getD q [])):=by
     have hr:(a.n.getD q []).length=m:=by rw[<-HM.o];exact aa.o.val.row q (by rw[HN.o];exact dn)
     have h1:=E9 hX (show B<=gn by omega);rw[Nl,FN hr] at h1;show wr.ownsRow B 3 1 _ (shR (a.n.getD q [])).length _;rw[Mg,hr];exact h1
    have e7:=HB.o;have r8:w0.heap.size<=B:=by rw[<-e7];exact aq.o.size
    clear lo h7 hg hX ib ic ie e5 ia e3 h6 lf;have k6:wr.cell? ⟨X,1,J⟩=I (U (I ⟨aN,0,J⟩) (q+1) cN):=Τ wr X 1 _ _ _ bo;have dr:=Z lp;have ij:=Z lq;have ik:=Z dp;have il:=Z dq;have c5:=Z b6;have lu:=Z ih;have pg:B<=wr.heap.size:=by rw[<-e7];exact ih.size
    clear lp lq dp dq b6 ih;go_upto_region 19 with (at_builtin;refine ϕ _ rfl _ _ 37 rfl B 54 k0 (U J 0 0) 1 24 Tryz.underlying37 hk oy oz o2 rfl (by decide) (U (I ⟨aN,0,J⟩) (q+1) cN) _ _ rfl (ak.alloc _) _ 1 1 [U (I ⟨gn,0,J⟩) m m] rfl rfl (Õ _ _ _) (by simp[ξ]) (by decide) (by unfold ϐ;omega) (by omega) (by rw[Ο];omega) _ rfl ?_;intro g7 c7 w7 im bp _ _;have au:=(bp.block X (Ξ (Al bo) (by rw[Ο];omega)) (Fb ak bo (by decide))).trans (Ag bo _);have k7:w7.cell? ⟨X,1,J⟩=I (U (I ⟨aN,0,J⟩) (q+1) cN):=Τ w7 X 1 _ _ _ au;have f7:=frozen_of_row w7 X 1 _ _ au)
    rw[setCell_eq_setRow w7 _ _ _ _ _ _ au];have c6:=Ca w7 X (#[U (I ⟨G,H,J⟩) m T,U (I ⟨g7,0,J⟩) (q+1+1) c7]);have al:=(Κ wr).alloc (Β #[ό (I ⟨gn,0,J⟩) m m] 54);have c8:∀ k,(ό (I ⟨aN,0,J⟩) (q+1) cN).ownBlock=I k->B<=k:=λk e=>(ak.lt k e).1
    have aw:=((c5.o.t al).grown bp (λk e=>by have:=c8 k e;omega)).setRow (show w0.heap.size<=X by omega) (#[U (I ⟨G,H,J⟩) m T,U (I ⟨g7,0,J⟩) (q+1+1) c7]);have e8:=((lu.o.t al).grown bp (λk e=>by have:=c8 k e;omega)).setRow (show wS.heap.size<=X by omega) (#[U (I ⟨G,H,J⟩) m T,U (I ⟨g7,0,J⟩) (q+1+1) c7]);have ir:=(Aa ik.o al).kept bp (Aj (Aa ik.o al) (Aa ak al) (by decide));have iu:=(Aa il.o al).kept bp (Aj (Aa il.o al) (Aa ak al) (by decide));have iw:=(Aa ij.o al).kept bp (Aj (Aa ij.o al) (Aa ak al) (by decide));have lv:=(dr.o.alloc (Β #[ό (I ⟨gn,0,J⟩) m m] 54)).kept bp (λv l ho _=>Aj ho (Aa ak al) (by decide));have a8:=ir.kept c6 (B2 ir au (by decide));have ix:=iu.kept c6 (B2 iu au (by decide));have iy:=iw.kept c6 (B2 iw au (by decide));have iz:=im.kept c6 (B2 im au (by decide));have ja:=lv.kept c6 (λv l ho _=>B2 ho au (by decide));have b9:=Φ w7 X _ (#[U (I ⟨G,H,J⟩) m T,U (I ⟨g7,0,J⟩) (q+1+1) c7]) _ _ au;clear c8 al bp c6 k7 f7 au ir iu iw lv im ak ik il ij dr c5 lu k6 bo pg;obtain⟨w8,cb⟩:=Xq (w7.setRow X (#[U (I ⟨G,H,J⟩) m T,U (I ⟨g7,0,J⟩) (q+1+1) c7]));have lx:w7.setRow X ((#[U (I ⟨G,H,J⟩) m T,U (I ⟨aN,0,J⟩) (q+1) cN]:Array Δ).setIfInBounds 1 (U (I ⟨g7,0,J⟩) (q+1+1) c7))=w8:=cb;rw[lx];rw[cb] at aw e8 a8 ix iy iz ja b9;clear cb lx;have pj:=kv.o w8 aw;have pk:=(ao.o.t aw).cell (HA.o q dn);have pn:B<=w8.heap.size:=by rw[<-e7];exact e8.size
    generalize ly:a.ok q=e9 at *;have l2:=Z ly;clear ly;have l3:=Z ja;have jb:=Z iy;have jc:=Z ix;have jd:=Z iz;have l4:=Z e8;have b9:=Z b9;clear ja iy ix iz e8 aw;go_upto_region 20 with (at_builtin;refine ϕ _ rfl _ _ 38 rfl B 4 j0 (.bool Ε) 1 1 Ý hj oo oq ot rfl (by decide) (U (I ⟨aA,0,J⟩) (q+1) cA) _ _ rfl (a8.alloc _) _ 1 1 [.bool e9] rfl rfl (Õ _ _ _) (by simp[ξ]) (by decide) (by unfold ϐ;omega) (by omega) (by rw[Ο];omega) _ rfl ?_;intro g9 c9 w9 l6 cd _ _)
    have al:=(Κ w8).alloc (Β #[ψ e9] 4);have c8:∀ k,(ό (I ⟨aA,0,J⟩) (q+1) cA).ownBlock=I k->B<=k:=λk e=>(a8.lt k e).1
    have po:=(l4.o.t al).grown cd (λk e=>by have:=c8 k e;omega);have pq:=(Aa jd.o al).kept cd (Aj (Aa jd.o al) (Aa a8 al) (by decide));have pr:=(Aa jc.o al).kept cd (Aj (Aa jc.o al) (Aa a8 al) (by decide));have l7:=(Aa jb.o al).kept cd (Aj (Aa jb.o al) (Aa a8 al) (by decide));have l8:=(l3.o.alloc (Β #[ψ e9] 4)).kept cd (λv l ho _=>Aj ho (Aa a8 al) (by decide));have pt:=Z ((cd.block X (Al (al.heap b9.o)) (Fb (Aa a8 al) (al.heap b9.o) (by decide))).trans (al.heap b9.o));have l9:=Z (l8.snoc l7 (λe=>by have e':I gn=I B:=e;injection e' with e';omega));have je:q<a.n.length:=by rw[HN.o];exact dn
    rw[show[shR (a.n.getD q [])]=[a.n.getD q []].map shR from rfl,<-ϥ,<-Hr _ _ _ je] at l9;have px:w9.ownsRow B 4 1 (U (I ⟨g9,0,J⟩) (q+1+1) c9) (q+1+1) ((Ε::a.acc.take (q+1)).map ψ):=by rw[Hr a.acc q Ε (by rw[aa.o.val.accL];exact je)];have e:a.acc.getD q Ε=e9:=l2.o;rw[e,<-List.cons_append,ϥ];exact l6
    clear al c8 cd l6 a8 jd jc jb l3 l4 b9 l8 l7 pj pk pn je l2;go_wp2_with (fail);go_roundw
    case rel=>exact⟨q+1,g7,c7,g9,c9,_,by omega,rfl,by go_num,po,pt,pq,px,pr,l9⟩
    simp[intOf]<;>omega
   obtain rfl:n=q:=by omega
   have fa:ϟ (RowsO wr B vs (a.n.map shR) (λo=>o=I B)):=by have h:=e1;rw[Ø (by rw[HN.o];exact Υ _)] at h;exact h
   have jf:wr.ownsRow B 4 1 (U (I ⟨aA,0,J⟩) (n+1) cA) (n+1) ((Ε::a.acc).map ψ):=by rw[Ø (by rw[aa.o.val.accL,HN.o];exact Υ _)] at hA;exact hA
   have e7:=HB.o;have jg:vs.length=n:=by rw[fa.o.1,ι,HN.o]
   have bt:s<a.n.length:=by rw[HN.o];exact kz
   have mc:OwnI wr B (vs.getD s δ) (shR (a.n.getD s [])):=by have h:=(fa.o.2 s (by rw[ι];exact bt)).1;rw[Yg bt] at h;exact h
   have cf:(shR (a.n.getD s [])).length=m:=by rw[Mg,<-HM.o];exact aa.o.val.row s bt
   obtain⟨gs,os,cs,ji,jj⟩:=Ü (mc.ints (by rw[cf];omega)) (by rw[cf];exact fx);rw[cf] at ji jj;have k1:wr.cell? ⟨X,1,J⟩=I (U (I ⟨aN,0,J⟩) (n+1) cN):=Τ wr X 1 _ _ _ H2.o;have k2:wr.cell? ⟨aN,s+1,J⟩=I (U (I ⟨gs,os,J⟩) m cs):=by have h:=C3 hX (s+1) (by rw[ϒ,jg];omega);rw[List.getD_cons_succ,ji] at h;exact h
   obtain⟨C,dt,py⟩:=Eg hF;obtain⟨R,hR⟩:=Xq ((shR (a.n.getD s [])).map iv);have du:R.length=m:=by rw[<-hR,ι,cf]
   have me:∀ v∈R,v.oneCell'=Α:=λv hv=>by rw[<-hR] at hv;obtain⟨x,_,rfl⟩:=List.mem_map.1 hv;rfl
   have jk:∀ j,j<m->R[j]? = I (iv ((shR (a.n.getD s [])).getD j 0)):=λj hj=>by rw[<-hR];exact Wq (by rw[cf];exact hj)
   have mf:∀ j v,R[j]? = I v->wr.cell? ((⟨gs,os,J⟩:Addr).add j)=I v:=λj v hj=>by
    have pz:j<m:=by rw[<-du];exact (ν.1 hj).1
    rw[jk j pz] at hj;rw[<-hj];rw[J4];exact jj j (by omega)
   obtain⟨w6,fb⟩:=Xq (wr.setRow B ((C.toList.take 0++(R++C.toList.drop (0+R.length))).toArray));have r9:(s:Int)+1<(n:Int)+1:=by omega
   have db:wr.grownBy w6 (I B):=by rw[<-fb];exact Ca _ _ _
   have jl:w6.heap[B]? = I (Β ((C.toList.take 0++(R++C.toList.drop (0+R.length))).toArray) 3 (0,0)):=by rw[<-fb];exact Φ wr B _ _ _ _ dt
   have dq:Ints w6 (U (I ⟨B,0,J⟩) m m) (shR (a.n.getD s [])):=by
    unfold Ints;rw[cf];refine⟨by omega,.inr ⟨fx,B,0,m,rfl,Al jl,λi hi=>?_⟩⟩;rw[Τ w6 B (0+i) _ _ _ jl];have mg:i<m:=by omega
    rw[show 0+i=i by omega,Ϸ,List.take_zero,List.nil_append,ϊ (by rw[du];exact mg)];exact jk i mg
   have b6:=c3.grown db (λk e=>by injection e;omega);have ak:=hX.kept db (B2 hX dt (by decide));have dp:=jf.kept db (B2 jf dt (by decide));have dr:=fa.o.kept db (λv l ho p0=>.inr p0);have bo:=Z ((db.block X (Al H2.o) (λe=>by injection e;omega)).trans H2.o);have dv:IsW w6 #[U (I ⟨G,H,J⟩) m T,U (I ⟨aN,0,J⟩) (n+1) cN] a.cls (bhN a s):=by
    refine⟨_,_,rfl,HC.o.ext (ao.o.t (aq.o.t b6)),⟨U (I ⟨B,0,J⟩) m m::vs,by rw[Hh,ϒ,jg,HN.o],?_,λi hi=>?_⟩⟩
    ·have h:=Sl.of_owns ak (by omega) δ;rw[Hh,HN.o];exact h
    rw[Hh] at hi;cases i with
    | zero=>exact dq
    | succ i=>rw[Se (by omega),List.getD_cons_succ];have h:=(dr.2 i (by rw[ι];omega)).1;rw[Yg (by omega)] at h;exact h.ints (by rw[Mg,aa.o.val.row i (by omega),HM.o];omega)
   have mh:Bools w6 (U (I ⟨aA,0,J⟩) (n+1) cA) (Ε::a.acc):=by
    have hl:(Ε::a.acc).length=n+1:=by rw[ϒ,aa.o.val.accL,HN.o]
    have h9:OwnB w6 B (U (I ⟨aA,0,J⟩) (n+1) cA) (Ε::a.acc):=by show w6.ownsRow B 4 1 _ (Ε::a.acc).length _;rw[hl];exact dp
    exact h9.bools (by rw[hl];omega)
   have jm:=ao.o.t (aq.o.t b6);have mj:=Z (Py a.cls (bhN a s) (Ε::a.acc) (VD aa.o.val bt) (by rw[Hh,HN.o];omega) _ _ w6 (ef.o w6 jm) (Ξ de jm.size) dv mh);have c5:=Z b6;have ml:0+R.length<=C.size:=by rw[du];omega
   have mm:R.length=Nat.min m m:=by rw[du];exact (Nat.min_self m).symm
   have p2:(Ι.info? 3).map (·.size)=I 1:=by rw[hi];exact congrArg I fy
   have mo:=Z me;have mq:=Z mf;clear dv mh dr dp ak dq jl db jk ji jj mc cf fa jf jg me mf du hR b6 jm py e1 hX hA hF;go_upto_region 22 with (with_reducible refine wpList_copy_own rfl (ε 79) (ε 85) 54 54 rfl 3 ϝ p2 B 0 m m ⟨gs,os,J⟩ m cs rfl rfl C 3 dt R mm mq.o ml mo.o ?_;rw[fb])
   clear k1 k2 ml mm mo mq fb dt;go_upto_region 23 with (first
    | (refine Lr 128 (ε 10) bo.o Tryz.underlying128 Fp ?_)
    | (go_at_call 55;(with_reducible refine mj.o.mono ?_);rintro e w7 ⟨r1,an,dw,mr⟩;obtain⟨mu,mv,mw,my,mz,na,nb,nc,nd,k1,rfl⟩:=an.form;have bu:=Z an;have nf:=Z (PT aa.o.val bt dw);have jn:=Z mr;clear an dw mr)
    | (refine Sr 40 (ε 17) (ε 91) rfl (Ad w7 (Β #[U J 0 0,U J 0 0,U J 0 0] 40)) Ae rfl (Aw _ _ _ rfl rfl rfl) ?_))
   clear mj;obtain⟨jo,dx⟩:=Fm w7 (dA (U mu mv mw) (U my mz na) (U nb nc nd));have fc:=Z (bu.o.ext jo);have aw:=(c5.o.t jn.o).trans jo;obtain⟨D1,dz⟩:=Xq (dA (U mu mv mw) (U my mz na) (U nb nc nd));have p3:(Ι.info? 40).map (·.size)=I D1.size:=by rw[<-dz];exact Ae
   have sa:D1.all (·.oneCell')=Α:=by rw[<-dz];exact Aw _ _ _ rfl rfl rfl
   have p4:ϟ (D1.size=3):=Z (by rw[<-dz];rfl);simp only[dz] at dx aw fc ⊢;obtain⟨w8,cb⟩:=Xq ((w7.alloc (Β #[U J 0 0,U J 0 0,U J 0 0] 40)).setRow w7.heap.size D1);rw[cb] at dx aw fc;simp only[cb];have jq:B<=w7.heap.size:=by have:=(c5.o.t jn.o).size;omega
   obtain⟨g9,jr⟩:=Xq (w7.heap.size);rw[jr] at dx jq;simp only[jr];clear cb jr jo c5 jn bu bo;have js:=Z dx;have jt:=Z aw;have ea:=ao.o.t (aq.o.t aw);have ng:=Z jq;clear dx aw dz jq;cases r1 with
   | none=>obtain⟨rfl,-⟩:=fc.o.none_inv;have p5:Big (Dp a s):=nf.o;have HW:=Z (show Is a b from⟨s,bt,cw.o,.inl p5⟩);go_wp2_with (fail);go_ret2;exact⟨.inr ⟨rfl,HW.o⟩,ea⟩
   | some m1=>
    obtain⟨rfl,bz⟩:=fc.o.some_inv;obtain⟨ju,nh,jv⟩:Cano m1/\(∀ u,m1.has u=Α↔Dp a s u)/\m1.n.length<=64:=nf.o;have jw:=Z ju;have jx:=Z nh;have ni:=Z jv;have f37:=Z (Lp m1 b ju.val kj.o.val jv kk.o (.agg D1) (.agg Vb) w8 (ef.o w8 ea) (Ξ de ea.size) bz (fq.o.ext ea));have nj:=kx.o w8 (aq.o.t jt.o);have p6:=Z bz;clear ju nh jv bz;go_upto_region 25 with (first
     | (refine Lr 40 (ε 17) js.o Ρ p3 ?_)
     | (refine Lr 40 (ε 3) nj Ρ kt ?_)
     | (go_at_call 18;(with_reducible refine f37.o.mono ?_);rintro e w9 ⟨r2,an,nl,jy⟩;obtain⟨p7,p8,p9,qa,qb,qc,qd,qe,qf,k2,rfl⟩:=an.form;have bu:=Z an;have nm:=Z nl;have jz:=Z jy;have fe:=Z (jy.heap js.o);clear an nl jy)
     | (refine Sr 40 (ε 17) (ε 99) rfl fe.o Ae p4.o (Aw _ _ _ rfl rfl rfl) ?_))
    clear f37 nj;obtain⟨D2,dc⟩:=Xq (dA (U p7 p8 p9) (U qa qb qc) (U qd qe qf));have qg:(Ι.info? 40).map (·.size)=I D2.size:=by rw[<-dc];exact Ae
    have sb:D2.all (·.oneCell')=Α:=by rw[<-dc];exact Aw _ _ _ rfl rfl rfl
    have qh:ϟ (D2.size=3):=Z (by rw[<-dc];rfl);have nn:ϟ (ResOf w9 (Ω (ϙ #[.agg D2,.int Χ k2])) r2):=by rw[<-dc];exact bu
    simp only[dc];have ff:=(jt.o.t jz.o).setRow (show wS.heap.size<=g9 by have:=ng.o;omega) D2;have dd:=Φ w9 g9 _ D2 _ _ fe.o;have cg:=Z (λ(d':Dfa) (j1:Val d') (h:IsD w9 (.agg D2) d')=>h.setBx j1 (.inr ⟨m1,jw.o.val,p6.o.ext jz.o⟩) fe.o D2);obtain⟨j2,j3⟩:=Xq (w9.setRow g9 D2);rw[j3] at ff dd cg;simp only[j3];clear j3 jz fe js jt bu dc;have j4:=Z ff;have dd:=Z dd;have ed:=ao.o.t (aq.o.t ff);clear ff ea;cases r2 with
    | none=>obtain⟨rfl,-⟩:=nn.o.none_inv;have HW:=Z (show Is a b from⟨s,bt,cw.o,.inr ⟨m1,jw.o,ni.o,jx.o,.inl nm.o⟩⟩);go_wp2_with (fail);go_ret2;exact⟨.inr ⟨rfl,HW.o⟩,ed⟩
    | some c=>
     obtain⟨rfl,np⟩:=nn.o.some_inv;obtain⟨fg,j5⟩:=Io nm.o (L:=wd1 m1) (M:=wd1 b) (λ_=>Iff.rfl) (λ_=>Iff.rfl);have j6:=cg.o c fg.1.val np;have j7:=Z fg;have qi:=Z j5;have f149:=Z (Wj b c kj.o.val fg.1.val kk.o j5 (.agg Vb) (.agg D2) j2 (ef.o j2 ed) (Ξ de ed.size) (fq.o.ext ed) j6);have nq:=kx.o j2 (aq.o.t j4.o);have qj:=Z j6;clear fg j5 np j6 cg;go_upto_region 27 with (first
      | (refine Lr 40 (ε 17) dd.o Ρ qg ?_)
      | (refine Lr 40 (ε 3) nq Ρ kt ?_)
      | (go_at_call 56;(with_reducible refine f149.o.mono ?_);rintro e fh ⟨r3,an,dw,j8⟩;obtain⟨qk,ql,qm,qo,qp,qq,qs,qt,qu,k3,rfl⟩:=an.form;have bu:=Z an;have ns:=Z dw;have j9:=Z j8;have fj:=Z (j8.heap dd.o);clear an dw j8)
      | (refine Sr 40 (ε 17) (ε 107) rfl fj.o Ae qh.o (Aw _ _ _ rfl rfl rfl) ?_))
     clear f149 nq;obtain⟨D3,bz⟩:=Xq (dA (U qk ql qm) (U qo qp qq) (U qs qt qu));have qv:(Ι.info? 40).map (·.size)=I D3.size:=by rw[<-bz];exact Ae
     have nt:ϟ (ResOf fh (Ω (ϙ #[.agg D3,.int Χ k3])) r3):=by rw[<-bz];exact bu
     simp only[bz];have b4:=(j4.o.t j9.o).setRow (show wS.heap.size<=g9 by have:=ng.o;omega) D3;have fk:=Φ fh g9 _ D3 _ _ fj.o;have cg:=Z (λ(d':Dfa) (j1:Val d') (h:IsD fh (.agg D3) d')=>h.setBx j1 (.inr ⟨c,j7.o.1.val,qj.o.ext j9.o⟩) fj.o D3);obtain⟨sc,ka⟩:=Xq (fh.setRow g9 D3);rw[ka] at b4 fk cg;simp only[ka];clear ka j9 fj dd j4 bu bz;have fk:=Z fk;have qw:=ao.o.t (aq.o.t b4);clear ed;cases r3 with
     | none=>obtain⟨rfl,-⟩:=nt.o.none_inv;have HW:=Z (show Is a b from⟨s,bt,cw.o,.inr ⟨m1,jw.o,ni.o,jx.o,.inr ⟨c,j7.o,qi.o,ns.o⟩⟩⟩);clear b4;go_wp2_with (fail);go_ret2;exact⟨.inr ⟨rfl,HW.o⟩,qw⟩
     | some d=>
      obtain⟨rfl,nu⟩:=nt.o.some_inv;obtain⟨kb,nv,nw⟩:Cano d/\(∀ u,d.has u=Α↔(b.has u=Α/\¬ c.has u=Α))/\d.n.length<=64:=ns.o;have ny:=cg.o d kb.val nu;have qx:=Z ny;have qy:=Z (QD HG.o cw.o kb nw (λv=>(nv v).trans (PS jx.o j7.o.2 v)));have fl:=bf.ext b4;have qz:=Z (gf.o.ext b4);have q4:=aq.o.t b4;have q5:=Ξ ky b4.size;have q6:=Qk s (by omega);clear kb nv nw nu ny b4 cg;go_wp2_with (first
       | (refine Lr 40 (ε 17) fk.o Ρ qv ?_)
       | (refine S0 rfl (ε 112) (ε 113) (ε 114) 126 rfl M7 Tryz.underlying126 rfl fl (by unfold ϐ;omega) Xu s rfl q6 (.agg D3) rfl ?_;intro sd q7 ee))
      have q8:=q4.grown ee (λk e=>by injection e with e;omega);have q9:=Z ((qz.o.keptm ee fl.block).put s (qx.o.keptm ee fl.block));have ra:=Ξ q5 ee.size;clear ee fl;go_roundw
      case rel=>exact⟨s+1,cnt+1,_,_,by omega,by omega,by go_num,q8,ra,q7,q9,qy⟩
      simp[intOf]<;>omega
 obtain rfl:n=s:=by omega
 have et:=gb.o wr hE;have se:=ku.o wr hE;have n0:WVal a.cls a.n (ζ a.n.length Ε):=⟨aa.o.val.pos,by simp,aa.o.val.row,aa.o.val.tgt,aa.o.val.parts⟩;have kc:GRho a b a.n.length ρ:=by rw[HN.o];exact HG.o
 have be:=ao.o.t hE;have dv:IsW wr #[U (I ⟨G,H,J⟩) m T,U (I ⟨bn,on,J⟩) n cn] a.cls a.n:=by
  obtain⟨vc,vn,re,hv,h1,h2,-⟩:=eg.o.ext be;rw[<-ek.o] at hv;injection hv with hv
  have hv:(#[U (I ⟨G,H,J⟩) m T,U (I ⟨bn,on,J⟩) n cn,U (I ⟨ba,oa,J⟩) n ca]:Array Δ)=#[vc,vn,re]:=hv;simp only[Array.mk.injEq,ó,and_true] at hv;obtain⟨rfl,rfl,-⟩:=hv;exact⟨_,_,rfl,h1,h2⟩
 have f150:=Z (Zc a.cls a.n n0 (by rw[HN.o];omega) _ bm cnt f ρ (QF kc) (λx hx=>aa.o.reach x hx) wr (ef.o wr be) (Ξ de be.size) dv bf (λx _=>gf.o x));have rf:=Z kc;have ew:=Z (R7 (I ⟨G,H,J⟩) (I ⟨bn,on,J⟩) m n T cn);clear n0 kc dv;go_wp2_with (first
  | (refine Bj rfl 128 _ rfl #[U (I ⟨G,H,J⟩) m T,U (I ⟨bn,on,J⟩) n cn] ?_ ?_;(simp[ß];with_reducible exact ew.o))
  | (go_at_call 57;(with_reducible refine f150.o.mono ?_);rintro e E ⟨ke,cy⟩;obtain⟨v2,k2,rfl⟩:=ke.form;have rh:=Z ke;clear ke))
 go_ret2;refine⟨?_,be.trans cy⟩;rcases rh.o with⟨os,v,he,h1,h2,h3⟩|⟨he,d,hb⟩
 ·exact .inl ⟨os,v,he,QE aa.o.val rf.o h1,h2,h3⟩
 exact absurd hb (PP aa.o.val (by rw[HN.o];exact kf) ρ d)
end Go.Proofs.YtilncahcpjlfnaaGreatDoor
