/-
  The walk of PatternCases.
-/
import Derived.Test.YtilncahcpjlfnaaGreatDoorN01
import Derived.Test.YtilncahcpjlfnaaGreatDoorN14
import Derived.Test.YtilncahcpjlfnaaGreatDoorN13
import Derived.Test.YtilncahcpjlfnaaGreatDoorN11
import Derived.Maps.AppendAt
set_option linter.unusedVariables false
set_option linter.unusedSimpArgs false
set_option maxRecDepth 100000
set_option maxHeartbeats 8000000
open And renaming intro → í
open Bool renaming true → Α, and_eq_true → ς, false → Ε
open Go renaming TypeId → ϫ, Value → Δ, World → Γ, maxLen → ϐ, undef → δ, Calls → Ϟ, info_parts → ϑ
open Go.Act renaming put → θ
open Go.Ending renaming returned → Ω
open Go.IntKind renaming i64 → Χ
open Go.Lib renaming hid → Z
open Go.Obj renaming cells → Β
open Go.Proofs.Tryz renaming prog → Ι, underlying22 → ϡ, underlying40 → Ρ
open Go.RowKit renaming Hid → ϟ
open Go.Value renaming slice → U
open Go.World renaming ownsRow → ϣ, ownsRow_lit → Ê
open List renaming getElem?_eq_some_iff → ν, pairwise_iff_getElem → Ϧ, getElem?_eq_getElem → Θ, getD_eq_getElem?_getD → Ζ, getElem?_map → υ, length_map → ι, getElem_mem → ϯ, drop_eq_getElem_cons → ϱ, drop_zero → À, setIfInBounds_toArray → Η, set_cons_zero → Μ, set_cons_succ → Λ, mem_map → Ϫ, nil_append → Ú, map_append → ϥ, length_append → Ν, getElem?_append_left → ϊ, mem_cons_of_mem → ç, getElem?_append_right → χ
open Nat renaming le_refl → Υ, lt_of_lt_of_le → Ξ, zero_add → Ϣ
open Ne renaming symm → þ
open Option renaming some → I, none → J
open Option.some renaming inj → ϓ
namespace Go.Proofs.YtilncahcpjlfnaaGreatDoor
open Go.RowKit
inductive Ch where
 | row (e:ϫ) (size:Nat) (v:Δ) (n:Nat) (xs:List Δ)
 | obj (g:Nat) (o:Obj)
def Ch.At (base:Nat) (W:Γ):Ch->Prop
 | .row e size v n xs=>W.ownsRow base e size v n xs
 | .obj g o=>base<=g/\W.heap[g]? = I o
def Ch.own:Ch->Option Nat
 | .row _ _ v _ _=>v.ownBlock
 | .obj g _=>I g
theorem Ch.lt {base:Nat} {W:Γ} {c:Ch} (h:c.At base W) (g:Nat) (hg:c.own=I g):base<=g/\g<W.heap.size:=by
 cases c with
 | row e size v n xs=>exact ϣ.lt h g hg
 | obj G o=>
  obtain⟨h1,E⟩:=h;cases hg
  exact⟨h1,Al E⟩
theorem Ch.kept {base:Nat} {W W':Γ} {c:Ch} {row:Option Nat} (h:c.At base W) (hg:W.grownBy W' row) (E:∀ g,c.own=I g->row≠I g):c.At base W':=by
 cases c with
 | row e size v n xs=>
  refine ϣ.kept h hg ?_;cases G:v.ownBlock with
  | none=>exact .inl rfl
  | some g=>exact .inr (þ (E g G))
 | obj g o=>exact⟨h.1,(hg.block g (Al h.2) (þ (E g rfl))).trans h.2⟩
structure Hp (w0 W:Γ) (L:List Ch):Prop where
 ext:Ext w0 W
 at_:∀ c∈L,c.At w0.heap.size W
 far:L.Pairwise λc d=>∀ g,c.own=I g->d.own≠I g
section
variable {w0 W W':World} {L:List Ch}
theorem Hp.nil (w:Γ):Hp w w []:=⟨Κ w,λc hc=>(by cases hc),List.Pairwise.nil⟩
theorem Hp.nth (h:Hp w0 W L) (i:Nat) {c:Ch} (hc:L[i]? = I c):c.At w0.heap.size W:=h.at_ c (List.mem_of_getElem? hc)
theorem Hp.row (h:Hp w0 W L) (i:Nat) {e:ϫ} {size:Nat} {v:Δ} {n:Nat} {xs:List Δ} (hc:L[i]? = I (.row e size v n xs)):W.ownsRow w0.heap.size e size v n xs:=h.nth i hc
theorem Hp.symm {c d:Ch} (h:∀ g,c.own=I g->d.own≠I g):∀ g,d.own=I g->c.own≠I g:=λg hd hc=>h g hc hd
theorem Hp.farAt (h:Hp w0 W L) {i j:Nat} (H:i≠j) {c d:Ch} (hc:L[i]? = I c) (hd:L[j]? = I d):∀ g,c.own=I g->d.own≠I g:=by
 obtain⟨hi,rfl⟩:=ν.1 hc;obtain⟨G,rfl⟩:=ν.1 hd;have:=Ϧ.1 h.far;rcases Nat.lt_or_gt_of_ne H with E|E
 ·exact this i j hi G E
 exact Hp.symm (this j i G hi E)
theorem Hp.extW (h:Hp w0 W L) (E:Ext W W'):Hp w0 W' L:=⟨h.ext.trans E,λc hc=>Ch.kept (h.at_ c hc) (E.grownBy J) (λ_ _=>by simp),h.far⟩
theorem Hp.alloc (h:Hp w0 W L) (o:Obj):Hp w0 (W.alloc o) L:=h.extW ((Κ W).alloc o)
theorem Hp.grow (h:Hp w0 W L) (i:Nat) {c c':Ch} (hc:L[i]? = I c) (hg:W.grownBy W' c.own) (ad:c'.At w0.heap.size W') (X:∀ g,c'.own=I g->c.own=I g\/W.heap.size<=g):Hp w0 W' (L.set i c'):=by
 have hi:=(ν.1 hc).1;refine⟨h.ext.grown hg (λk e=>(Ch.lt (h.nth i hc) k e).1),λd hd=>?_,?_⟩
 ·obtain⟨j,H⟩:=List.getElem?_of_mem hd;rw[List.getElem?_set] at H;by_cases e:i=j
  ·rw[if_pos e,if_pos (by omega)] at H;cases H
   exact ad
  rw[if_neg e] at H;exact Ch.kept (h.nth j H) hg (λg ae=>(h.farAt (þ e) H hc) g ae)
 rw[Ϧ];intro a b T hb af g G E;rw[List.length_set] at T hb;rw[List.getElem_set] at G E;by_cases ea:i=a
 ·rw[if_pos ea] at G;rw[if_neg (by omega)] at E;rcases X g G with e|e
  ·exact h.farAt (i:=i) (j:=b) (by omega) hc (Θ hb) g e E
  have:=(Ch.lt (h.nth b (Θ hb)) g E).2;omega
 rw[if_neg ea] at G;by_cases eb:i=b
 ·rw[if_pos eb] at E;rcases X g E with e|e
  ·exact h.farAt (i:=a) (j:=i) (by omega) (Θ T) hc g G e
  have:=(Ch.lt (h.nth a (Θ T)) g G).2;omega
 rw[if_neg eb] at E;exact h.farAt (i:=a) (j:=b) (by omega) (Θ T) (Θ hb) g G E
theorem Hp.add (h:Hp w0 W L) {c:Ch} (hg:W.grownBy W' J) (hc:c.At w0.heap.size W') (E:∀ g,c.own=I g->W.heap.size<=g):Hp w0 W' (c::L):=by
 have G:Ext w0 W':=h.ext.grown hg (λk e=>by cases e);refine⟨G,λd hd=>?_,List.pairwise_cons.2 ⟨λd hd g h1 H=>?_,h.far⟩⟩
 ·rcases List.mem_cons.1 hd with rfl|hd
  ·exact hc
  exact Ch.kept (h.at_ d hd) hg (λ_ _=>by simp)
 have:=(Ch.lt (h.at_ d hd) g H).2;have:=E g h1;omega
theorem Hp.perm {E:List Ch} (h:Hp w0 W L) (G:E.Perm L):Hp w0 W E:=
 ⟨h.ext,λd hd=>h.at_ d (G.mem_iff.1 hd),(G.pairwise_iff (λ{_ _} h=>Hp.symm h)).2 h.far⟩
theorem Hp.swap {c d:Ch} (h:Hp w0 W (c::d::L)):Hp w0 W (d::c::L):=h.perm (List.Perm.swap c d L)
theorem Hp.third {a b c:Ch} (h:Hp w0 W (a::b::c::L)):Hp w0 W (c::a::b::L):=h.perm ((List.Perm.swap a c (b::L)).trans ((List.Perm.swap b c L).cons a))
theorem Hp.app (h:Hp w0 W L) (i:Nat) {e:ϫ} {size:Nat} {v:Δ} {n:Nat} {xs:List Δ} (hc:L[i]? = I (.row e size v n xs)) {g E G:Nat} {H:List Δ} (T:W'.ownsRow w0.heap.size e size (U (I ⟨g,0,J⟩) E G) E H) (hg:W.grownBy W' v.ownBlock) (X:v.ownBlock=I g\/g=W.heap.size):Hp w0 W' (L.set i (.row e size (U (I ⟨g,0,J⟩) E G) E H)):=
 h.grow i hc hg T (λk hk=>by
  have:g=k:=ϓ hk;subst this;rcases X with e|e
  ·exact .inl e
  exact .inr (by omega))
theorem Hp.lit (h:Hp w0 W L) (e:ϫ) (size:Nat) (cs:Array Δ) (n:Nat) (hm:n<=ϐ) (E:cs.size=n*size):Hp w0 (W.alloc (Β cs e)) (.row e size (U (I ⟨W.heap.size,0,J⟩) n n) n cs.toList::L):=
 h.add (Γ.grownBy_alloc W _ J) (Ê W cs n h.ext.size hm E) (λg hg=>by cases hg;exact Υ _)
theorem Hp.size (h:Hp w0 W L):w0.heap.size<=W.heap.size:=h.ext.size
end
def A3V (W:Γ) (v:Δ) (l:List (List UInt8)):Prop:=∃ v0 E G,v=.agg #[v0,E,G]/\ByW W v0 (l.getD 0 [])/\ByW W E (l.getD 1 [])/\ByW W G (l.getD 2 [])
open Go.RowKit Go.Shelf
structure CsAt (W:Γ) (g gh gr ch cr i N:Nat) (c:List Opt):Prop where
 c1:W.cell? ⟨g,i*2,J⟩=I (U (I ⟨gh,0,J⟩) N ch)
 c2:W.cell? ⟨g,i*2+1,J⟩=I (U (I ⟨gr,0,J⟩) N cr)
 hd:∀ k,k<N->∃ A:Array Δ,W.rangeAt gh (k*3) A.toList/\A.size=3/\IsD W (.agg A) (c.getD k oN).head
 rs:∀ k,k<N->∃ A:Array Δ,W.rangeAt gr (k*3) A.toList/\A.size=3/\IsD W (.agg A) (c.getD k oN).rest
theorem CsAt.ext {W W':Γ} {g gh gr ch cr i N:Nat} {c:List Opt} (h:CsAt W g gh gr ch cr i N c) (E:Ext W W'):CsAt W' g gh gr ch cr i N c where
 c1:=E.cell h.c1
 c2:=E.cell h.c2
 hd:=λk G=>by obtain⟨A,h1,H,T⟩:=h.hd k G;exact⟨A,λj v X=>E.cell (h1 j v X),H,T.ext E⟩
 rs:=λk G=>by obtain⟨A,h1,H,T⟩:=h.rs k G;exact⟨A,λj v X=>E.cell (h1 j v X),H,T.ext E⟩
theorem HdV.row {W:Γ} {v:Δ} {ds:List Dfa} (h:HdV W v ds) (h0:0<ds.length):∃ g c,v=U (I ⟨g,0,J⟩) ds.length c/\∀ k,k<ds.length->∃ A:Array Δ,W.rangeAt g (k*3) A.toList/\A.size=3/\IsD W (.agg A) (ds.getD k dN):=by
 obtain⟨a,c,rfl,h⟩:=h;obtain⟨g,_,_,_,rfl,_,_⟩:=h 0 h0;refine⟨g,c,rfl,λk E=>?_⟩;obtain⟨g',G,H,T,e,X,hd⟩:=h k E;injection e with e
 injection e with e
 subst e;exact⟨#[G,H,T],X,rfl,hd⟩
theorem Wp {c:List Opt} {N:Nat} (E:c.length=N) (f:Opt->Dfa) (d0:Dfa) (G:f oN=d0) (k:Nat) (H:k<N):(c.map f).getD k d0=f (c.getD k oN):=by rw[Ζ,Ζ,υ,Θ (by omega:k<c.length)];rfl
theorem CsV.row {W:Γ} {a:Option Addr} {n c:Nat} {cs:List (List Opt)} (h:CsV W (U a n c) cs) {i N:Nat} (hi:i<cs.length) (X:0<N) (E:(cs.getD i []).length=N):∃ g gh gr ch cr,a=I ⟨g,0,J⟩/\CsAt W g gh gr ch cr i N (cs.getD i []):=by
 obtain⟨a',c',e,h⟩:=h;injection e with e
 subst e;obtain⟨g,v1,v2,rfl,k1,k2,h1,G⟩:=h i hi;obtain⟨gh,ch,rfl,r1⟩:=h1.row (by rw[ι,E];exact X);obtain⟨gr,cr,rfl,r2⟩:=G.row (by rw[ι,E];exact X);rw[ι,E] at k1 k2 r1 r2;refine⟨g,gh,gr,ch,cr,rfl,k1,k2,λk H=>?_,λk H=>?_⟩
 ·obtain⟨A,h1,G,T⟩:=r1 k H;rw[Wp E (·.head) dN rfl k H] at T;exact⟨A,h1,G,T⟩
 obtain⟨A,h1,G,T⟩:=r2 k H;rw[Wp E (·.rest) dN rfl k H] at T;exact⟨A,h1,G,T⟩
theorem Rj {ps:List Pt} {l:List (List Opt)} (h:Er ps l) {i:Nat} (hi:i<(Ar l).length):(Ar l).getD i []∈Ar l/\((Ar l).getD i []).length=ps.length:=by
 have hm:(Ar l).getD i []∈Ar l:=by rw[Ζ,Θ hi];exact ϯ hi
 exact⟨hm,by rw[(Nq l _ hm).1,WC h]⟩
theorem SM {l:List (List Opt)} {N:Nat} (E:∀ c∈Ar l,∀ o∈c,(Cano o.head/\o.head.n.length<=64)/\Cano o.rest/\o.rest.n.length<=64) {c:List Opt} (hc:c∈Ar l) (G:c.length=N) {k:Nat} (H:k<N):(Cano (c.getD k oN).head/\(c.getD k oN).head.n.length<=64)/\Cano (c.getD k oN).rest/\(c.getD k oN).rest.n.length<=64:=
 E c hc _ (by rw[Ζ,Θ (by omega)];exact ϯ _)
structure UInv (ok V:Nat->Nat->Prop) (n c0 c1:Nat):Prop where
 z:n=0->∀ a b,V a b->¬ ok a b
 p:0<n->ok c0 c1
 u:n=1->∀ a b,V a b->ok a b->a=c0/\b=c1
theorem UInv.hit {ok V G:Nat->Nat->Prop} {n c0 c1 i k:Nat} (h:UInv ok V n c0 c1) (T:ok i k) (X:∀ a b,G a b->ok a b->V a b\/(a=i/\b=k)):UInv ok G (n+1) i k where
 z:=λe=>by omega
 p:=λ_=>T
 u:=λe a b h1 H=>by
  rcases X a b h1 H with E|E
  ·exact absurd H (h.z (by omega) a b E)
  exact E
theorem UInv.next {ok V G:Nat->Nat->Prop} {n c0 c1:Nat} (h:UInv ok V n c0 c1) (H:∀ a b,G a b->ok a b->V a b):UInv ok G n c0 c1:=
 ⟨λe a b h1 E=>h.z e a b (H a b h1 E) E,h.p,λe a b h1 E=>h.u e a b (H a b h1 E) E⟩
theorem X5 {ps:List PtN} {ds:List Dfa} (X:PatOk ps) (G:DsOf ps ds) {E:List (List UInt8)} (hl:E.length=ps.length) (h:∀ i,i<ps.length->Hd (ps.getD i pN).xs (E.getD i [])=Α):InR (pts ps ds) E:=by
 have key:∀ k i,i+k=ps.length->InR ((pts ps ds).drop i) (E.drop i):=by
  intro k;induction k with
  | zero=>
   intro i hi;have e1:(pts ps ds).drop i=[]:=List.drop_eq_nil_of_le (by have:=congrArg List.length (Gb (ps:=ps) G.len);rw[ι] at this;rw[this,G.len];omega)
   have e2:E.drop i=[]:=List.drop_eq_nil_of_le (by omega);rw[e1,e2];rfl
  | succ k ih=>
   intro i hi;have H:i<ds.length:=by rw[G.len];omega
   have T:i<E.length:=by omega
   rw[Pf G.len H,ϱ T];refine⟨_,_,rfl,?_,ih (i+1) (by omega)⟩;have:=h i (by omega);rw[X7 (X.part i (by omega)).1 (G.at_ i H).1,Ζ (l:=E),Θ T] at this;exact this
 have:=key ps.length 0 (by omega)
 rwa [À,À] at this
def MchI (c:List Opt) (E:List (List UInt8)) (j:Nat) (z:Bool):Prop:=z=Α↔∀ k,j<=k->k<E.length->(c.getD k oN).head.has (E.getD k [])=Α/\(c.getD k oN).rest.has (E.drop (k+1)).flatten=Α
theorem MchI.start (c:List Opt) (E:List (List UInt8)):MchI c E E.length Α:=⟨λ_ k h1 G=>by omega,λ_=>rfl⟩
theorem MchI.step {c:List Opt} {E:List (List UInt8)} {j:Nat} {z:Bool} (H:j<E.length) (h:MchI c E (j+1) z):MchI c E j (z&&((c.getD j oN).head.has (E.getD j [])&&(c.getD j oN).rest.has (E.drop (j+1)).flatten)):=by
 unfold MchI at h ⊢;rw[ς,ς,h];constructor
 ·rintro⟨h1,T⟩ k X G;by_cases e:k=j
  ·subst e;exact T
  exact h1 k (by omega) G
 exact λh=>⟨λk X G=>h k (by omega) G,h j (Υ _) H⟩
theorem MchI.cnt {cs:List (List Opt)} {E:List (List UInt8)} {i:Nat} {z:Bool} (H:(cs.getD i []).length=E.length) (h:MchI (cs.getD i []) E 0 z):C6 cs E (i+1)=C6 cs E i+(if z=Α then 1 else 0):=by
 have hd:Eb (cs.getD i []) E↔z=Α:=by unfold MchI at h;rw[Rf,h];exact⟨λh k _ G=>h.2 k G,λh=>⟨H,λk G=>h k (by omega) G⟩⟩
 rw[C6];by_cases e:Eb (cs.getD i []) E
 ·rw[if_pos e,if_pos (hd.1 e)]
 rw[if_neg e,if_neg λh=>e (hd.2 h)]
def WsAt (W:Γ) (g:Nat) (E:List (List UInt8)):Prop:=∀ i,i<E.length->∃ b c,W.cell? ⟨g,i,J⟩=I (U (I ⟨b,0,J⟩) (E.getD i []).length c)/\By W (U (I ⟨b,0,J⟩) (E.getD i []).length c) (E.getD i [])
theorem WsAt.ext {W W':Γ} {g:Nat} {E:List (List UInt8)} (h:WsAt W g E) (G:Ext W W'):WsAt W' g E:=λi hi=>by obtain⟨b,c,h1,H⟩:=h i hi;exact⟨b,c,G.cell h1,H.ext G⟩
theorem R4 {W:Γ} {base m:Nat} {v:Δ} {x:List UInt8} (h:W.ownsRow base 5 1 v m (x.map bv)) (hm:x.length=m) (E:v≠U J 0 0) (hx:m<=1000):∃ g c,v=U (I ⟨g,0,J⟩) m c/\By W (U (I ⟨g,0,J⟩) x.length c) x:=by
 subst hm;have h1:=Sl.of_owns h (by omega) δ;rcases h.2 with⟨e,_⟩|⟨g,c,cur,rfl,_⟩
 ·exact absurd e E
 exact⟨g,c,rfl,Sl.congr h1 λi hi=>by
  have hi:i<x.length:=by simpa using hi
  show (x.map bv).getD i δ=bv (x.getD i 0);rw[Ζ,υ,Θ hi,Ζ,Θ hi];rfl⟩
theorem LM (cs:List (List Opt)) (T:List (List UInt8)) (h0:0<T.length) (h6:T.length<=6) (hw:∀ i,i<T.length->(T.getD i []).length<=4) (hl:∀ i,i<cs.length->(cs.getD i []).length=T.length) (hn:cs.length<=256)
  (hs:∀ i,i<cs.length->∀ k,k<T.length->(Val ((cs.getD i []).getD k oN).head/\((cs.getD i []).getD k oN).head.n.length<=64)/\Val ((cs.getD i []).getD k oN).rest/\((cs.getD i []).getD k oN).rest.n.length<=64)
  (a:Option Addr) (cc gw cw:Nat) (w:Γ) (hT:Tab w) (cv:0<w.heap.size) (dt:CsV w (U a cs.length cc) cs) (au:WsAt w gw T) :
  Ϟ Ι 23 #[U a cs.length cc,U (I ⟨gw,0,J⟩) T.length cw] w λe w'=>e=Ω (.int Χ (C6 cs T cs.length))/\Ext w w':=by
 have eu:=Z (λW (hW:Ext w W)=>hT.below hW.below cv);have ev:=Z (λW (hW:Ext w W)=>Ξ cv hW.size);have du:=Z dt;have ew:=Z au;have HL:=Z hl;have HS:=Z hs;have dv:=Z hw;obtain⟨i5,bl,bm,bn,bo⟩:=ϑ Lg;obtain⟨n,cf⟩:=Xq (cs.length);obtain⟨N,hN⟩:=Xq (T.length);have Hn:=Z cf;have HN:=Z hN;have ez:=Z (λm (h:C6 cs T cs.length=m)=>h);rw[cf] at du HL HS hn;rw[hN] at h0 h6 HL HS dv;rw[cf,hN];obtain⟨M,hM⟩:=Xq (C6 cs T n);have e0:=Z hM;rw[hM];clear hT cv dt au hl hs hw cf hN hM ez;have H:=Κ w;have dw:ϟ (C6 cs T 0=0):=Z rfl;go_enter Tryz.func23,Tryz.ntmps23;go_wp2_with (fail);go_loopw [5,6] (λvn vi W=>∃ (i m:Nat),i<=n/\m<=i/\vn=.int Χ m/\vi=.int Χ i/\Ext w W/\ϟ (C6 cs T i=m))
  (λ_ vi _=>n-(intOf vi).toNat)
 case atStart=>exact⟨0,0,by omega,by omega,rfl,rfl,H,dw⟩
 clear H dw;obtain⟨i,m,fa,fb,rfl,rfl,H,HM⟩:=hrel;have fc:(m:Int)<=256:=by omega
 by_cases cj:i<n
 ·have fe:(i:Int)<(n:Int):=by omega
  obtain⟨g,gh,gr,ch,cr,rfl,dy⟩:=du.o.row (by rw[Hn.o];exact cj) h0 (HL.o i cj);have HC:=Z (λV (E:Ext w V)=>dy.ext E);have q1:=(HC.o wr H).c1;have q2:=(HC.o wr H).c2;clear dy;go_upto_region 8 with (fail)
  clear q1 q2;have dz:=H.alloc (Β #[] 5);have ea:ϟ (By (wr.alloc (Β #[] 5)) (U (I ⟨wr.heap.size,0,J⟩) ([]:List UInt8).length 0) []):=Z ⟨by simp,.inl ⟨rfl,_,_,rfl⟩⟩;have eb:ϟ (MchI (cs.getD i []) T N Α):=Z (by rw[<-HN.o];exact MchI.start _ _);have ec:ϟ ([]=(T.drop N).flatten):=Z (by rw[List.drop_eq_nil_of_le (by rw[HN.o];omega)];rfl);clear H;go_wp2_with (fail);go_loopw [7,8,9] (λvo vr vk W=>∃ (j:Nat) (z:Bool) (r:List UInt8) (m8 g8 c8:Nat),j<=N/\m8+4*j<=4*N/\vo=.bool z/\vr=U (I ⟨g8,0,J⟩) m8 c8/\vk=.int Χ ((j:Int)-1)/\Ext w W/\ϟ (MchI (cs.getD i []) T j z)/\ϟ (r=(T.drop j).flatten)/\ϟ (r.length=m8)/\ϟ (By W (U (I ⟨g8,0,J⟩) r.length c8) r))
   (λ_ _ vk _=>(intOf vk+1).toNat)
  case atStart=>exact⟨N,Α,[],0,_,_,by omega,by omega,rfl,rfl,by go_num,dz,eb,ec,Z rfl,ea⟩
  clear dz ea eb ec;obtain⟨j,z,r8,m8,g8,c8,ff,fg,rfl,rfl,rfl,H,HZ,cl,an,ed⟩:=hrel;by_cases fh:0<j
  ·obtain⟨k,rfl⟩:∃ k,j=k+1:=⟨j-1,by omega⟩;rw[show ((k+1:Nat):Int)-1=(k:Int) by omega];have ag:k<N:=by omega
   have fj:(k:Int)<(N:Int):=by omega
   have fk:(0:Int)<=(k:Int):=by omega
   obtain⟨A,ee,e4,ef⟩:=(HC.o w (Κ w)).hd k ag;obtain⟨B,eg,e5,eh⟩:=(HC.o w (Κ w)).rs k ag;have e6:(Ι.info? 40).map (·.size)=I A.toList.length:=by rw[Array.length_toList,e4];kernel_rfl
   have e7:(Ι.info? 40).map (·.size)=I B.toList.length:=by rw[Array.length_toList,e5];kernel_rfl
   obtain⟨gk,ck,cp,br⟩:=ew.o k (by rw[HN.o];exact ag);have ei:=dv.o k ag;obtain⟨⟨d1,d2⟩,d3,d4⟩:=HS.o i cj k ag;obtain⟨wk,cq⟩:=Xq (T.getD k []);have c5:=Z cq.symm;rw[cq] at cp br ei;obtain⟨mk,c7⟩:=Xq (wk.length);have ao:=Z c7;have c9:=Z (λV (E:Ext w V)=>AA (br.ext E));rw[c7] at cp br ei;have HW:=Z (λV (E:Ext w V)=>í (E.cell cp) (br.ext E));have da:=Z (λV (E:Ext wr V)=>AA (ed.o.ext E));have ej:=ed.o;rw[an.o] at ej;obtain⟨a1,db⟩:=Xq (((cs.getD i []).getD k oN).head.has wk);obtain⟨a2,dc⟩:=Xq (((cs.getD i []).getD k oN).rest.has r8);have e9:=(Κ wr);have bt:=Z (λV (E:Ext wr V)=>HC.o V (H.t E));have bu:=Z (λV (E:Ext wr V)=>show V.rangeAt gh (k*3) A.toList/\IsD V (.agg A) _ from⟨λj v hj=>(H.t E).cell (ee j v hj),ef.ext (H.t E)⟩);have bw:=Z (λV (E:Ext wr V)=>show V.rangeAt gr (k*3) B.toList/\IsD V (.agg B) _ from⟨λj v hj=>(H.t E).cell (eg j v hj),eh.ext (H.t E)⟩);have bz:=Z (λV (E:Ext wr V)=>HW.o V (H.t E));have bj:=Z (λV (E:Ext wr V)=>í (eu.o V (H.t E)) (ev.o V (H.t E)));have f35:∀ W,Ext wr W->Ϟ Ι 24 #[.agg A,U (I ⟨gk,0,J⟩) mk ck] W λe w'=>e=Ω (.bool a1)/\Ext W w':=λW hW=>(N8 _ d1 d2 (.agg A) wk _ W (bj.o W hW).1 (bj.o W hW).2 (bu.o W hW).2 (bz.o W hW).2).mono λe w' ⟨h1,h2⟩=>⟨by rw[h1,db],h2⟩
   have cu:∀ W,Ext wr W->Ϟ Ι 24 #[.agg B,U (I ⟨g8,0,J⟩) m8 c8] W λe w'=>e=Ω (.bool a2)/\Ext W w':=λW hW=>(N8 _ d3 d4 (.agg B) r8 _ W (bj.o W hW).1 (bj.o W hW).2 (bw.o W hW).2 (ej.ext hW)).mono λe w' ⟨h1,h2⟩=>⟨by rw[h1,dc],h2⟩
   have bp:=HZ.o.step (j:=k) (by rw[HN.o];exact ag);rw[<-cl.o,cq,db,dc] at bp;replace bp:=Z bp;clear ee ef eg eh cp br d1 d2 d3 d4 cq c7 db dc HZ;go_upto_region 12 with (fail)
   refine Bq 28 [(0,Α),(1,Α),(2,Α),(3,Α),(4,Α),(5,Α),(6,Α),(7,Α),(8,Α),(9,Α),(10,Α),(11,Α),(12,Α),(13,Α),(14,Ε),(15,Α),(16,Α),(17,Α),(18,Α),(19,Α),(20,Α),(21,Α),(22,Α),(23,Α),(24,Α),(25,Α),(26,Ε),(27,Α),(28,Ε)] (by kernel_rfl) (by kernel_rfl) (λ_ _ _ _ h=>h) (λV=>Ext wr V) (Κ wr).drew ?_;have aq:=(Κ wr).drew;obtain⟨wy,df⟩:=Xq (wr.drew);rw[df] at aq;rw[df];clear df e9;cases z with
   | false=>
    iterate 2
     refine Ai (v:=?_) rfl rfl (λV E=>?_) ?_
     rotate_left
     ·clear E;go_simp;first|done|with_reducible rfl
     simp only[θ,Η,Μ,Λ]
    iterate 12
     refine Iy rfl rfl ?_;simp only[θ,Η,Μ,Λ]
    refine Ki rfl rfl (λ_=>aq) ?_;simp only[θ,Η,Μ,Λ];iterate 2
     refine Ai (v:=?_) rfl rfl (λV E=>?_) ?_
     rotate_left
     ·clear E;go_simp;first|done|with_reducible rfl
     simp only[θ,Η,Μ,Λ]
    iterate 9
     refine Iy rfl rfl ?_;simp only[θ,Η,Μ,Λ]
    refine Ki rfl rfl (λ_=>aq) ?_;simp only[θ,Η,Μ,Λ];refine Ai (v:=?_) rfl rfl (λV E=>?_) ?_
    rotate_left
    ·clear E;go_simp;first|done|with_reducible rfl
    simp only[θ,Η,Μ,Λ];refine Ao rfl (λKk hK=>?_);go_simp;refine hK _ _ (λh=>absurd h (by omega)) ?_;clear hK Kk;refine Bn ?_;obtain⟨G,dg⟩:∃ V,V=wy:=⟨_,rfl⟩;subst dg;have ah:=aq;clear aq f35 cu bu bw bz bt bj;replace H:=H.t ah;have aj:ϣ (G.alloc (Β #[] 5)) G.heap.size 5 1 (U (I ⟨G.heap.size,0,J⟩) 0 0) 0 []:=Ê (base:=G.heap.size) (e:=5) (size:=1) G #[] 0 (Υ _) (by unfold ϐ;omega) rfl;have ad:=(Κ G).alloc (Β #[] 5);have au:=(HW.o (G.alloc (Β #[] 5)) (H.t ad)).1;have aw:=c9.o (G.alloc (Β #[] 5)) (H.t ad);have ax:G.heap.size<=(G.alloc (Β #[] 5)).heap.size:=ad.size;go_upto_region 14 with (at_builtin;refine wpList_append_own _ rfl _ _ 22 rfl G.heap.size 5 i5 (.int .u8 0) 1 1 ϡ bl bm bn bo rfl (by decide) _ _ _ rfl aj ⟨gk,0,J⟩ mk ck (wk.map bv) rfl (by rw[ι,ao.o];omega) aw (by intro u hu;obtain⟨b,_,rfl⟩:=Ϫ.1 hu;rfl) (by unfold ϐ;omega) (by omega) ax ?_;intro v5 w5 ae ay az)
    have X:=ad.grown ay (λk e=>(aj.lt k e).1);clear aj au aw;have a6:v5≠U J 0 0:=λe=>by have:=(az.1 e).1;cases this
    have a7:=da.o w5 (ah.trans X);have a8:G.heap.size<=w5.heap.size:=X.size;rw[Ϣ,Ú] at ae;go_upto_region 11 with (at_builtin;refine wpList_append_own _ rfl _ _ 22 rfl G.heap.size 5 i5 (.int .u8 0) 1 1 ϡ bl bm bn bo rfl (by decide) _ _ _ rfl ae ⟨g8,0,J⟩ m8 c8 (r8.map bv) rfl (by rw[ι,an.o];omega) a7 (by intro u hu;obtain⟨b,_,rfl⟩:=Ϫ.1 hu;rfl) (by unfold ϐ;omega) (by omega) a8 ?_;intro v6 w6 ba bb bc)
    have bd:=X.grown bb (λk e=>(ae.lt k e).1);have be:v6≠U J 0 0:=λe=>a6 (bc.1 e).1
    obtain⟨g6,c6,rfl,bf⟩:=R4 (x:=wk++r8) (by rw[ϥ];exact ba) (by rw[Ν,ao.o,an.o]) be (by omega);have b7:=Z bf;have b8:ϟ (wk++r8=(T.drop k).flatten):=Z (by rw[c5.o,cl.o,ϱ (show k<T.length by rw[HN.o];exact ag),List.flatten_cons,Ζ,Θ (show k<T.length by rw[HN.o];exact ag)];rfl)
    have b9:ϟ ((wk++r8).length=mk+m8):=Z (by rw[Ν,ao.o,an.o]);replace H:=H.t bd;clear ae ba ay bb az bc X bd bf a6 be a7 ax a8 ad ah;go_wp2_with (fail);go_roundw
    case rel=>exact⟨k,_,wk++r8,mk+m8,g6,c6,by omega,by omega,rfl,rfl,by go_num,H,bp,b8,b9,b7⟩
    simp[intOf]<;>omega
   | true=>
    iterate 2
     refine Ai (v:=?_) rfl rfl (λV E=>?_) ?_
     rotate_left
     ·clear E;go_simp;first|done|with_reducible rfl
     simp only[θ,Η,Μ,Λ]
    iterate 7
     refine Ai (v:=?_) rfl rfl (λV E=>?_) ?_
     rotate_left
     ·have q1:=(bt.o V E).c1;clear E;go_simp;first|done|with_reducible rfl
     simp only[θ,Η,Μ,Λ]
    refine Ai (v:=.agg A) rfl rfl (λV E=>?_) ?_
    ·exact Cj 40 (.tmp 53) rfl gh (k*3) rfl _ _ (bu.o V E).1 Ρ rfl e6
    simp only[θ,Η,Μ,Λ];iterate 4
     refine Ai (v:=?_) rfl rfl (λV E=>?_) ?_
     rotate_left
     ·have q1:=(bz.o V E).1;clear E;go_simp;first|done|with_reducible rfl
     simp only[θ,Η,Μ,Λ]
    refine Ao rfl (λKk hK=>?_);go_simp
    (with_reducible refine (f35 wy aq).mono ?_)
    rintro e w5 ⟨rfl,ca⟩;have X:=aq.t ca;refine hK _ _ (λ_=>X) ?_;clear hK Kk ca f35;cases a1 with
    | false=>
     iterate 2
      refine Ai (v:=?_) rfl rfl (λV E=>?_) ?_
      rotate_left
      ·clear E;go_simp;first|done|with_reducible rfl
      simp only[θ,Η,Μ,Λ]
     iterate 9
      refine Iy rfl rfl ?_;simp only[θ,Η,Μ,Λ]
     refine Ki rfl rfl (λ_=>X) ?_;simp only[θ,Η,Μ,Λ];refine Ai (v:=?_) rfl rfl (λV E=>?_) ?_
     rotate_left
     ·clear E;go_simp;first|done|with_reducible rfl
     simp only[θ,Η,Μ,Λ];refine Ao rfl (λKk hK=>?_);go_simp;refine hK _ _ (λh=>absurd h (by omega)) ?_;clear hK Kk;refine Bn ?_;obtain⟨G,dg⟩:∃ V,V=w5:=⟨_,rfl⟩;subst dg;have ah:=X;clear aq X cu bu bw bz bt bj;replace H:=H.t ah;have aj:ϣ (G.alloc (Β #[] 5)) G.heap.size 5 1 (U (I ⟨G.heap.size,0,J⟩) 0 0) 0 []:=Ê (base:=G.heap.size) (e:=5) (size:=1) G #[] 0 (Υ _) (by unfold ϐ;omega) rfl;have ad:=(Κ G).alloc (Β #[] 5);have au:=(HW.o (G.alloc (Β #[] 5)) (H.t ad)).1;have aw:=c9.o (G.alloc (Β #[] 5)) (H.t ad);have ax:G.heap.size<=(G.alloc (Β #[] 5)).heap.size:=ad.size;go_upto_region 14 with (at_builtin;refine wpList_append_own _ rfl _ _ 22 rfl G.heap.size 5 i5 (.int .u8 0) 1 1 ϡ bl bm bn bo rfl (by decide) _ _ _ rfl aj ⟨gk,0,J⟩ mk ck (wk.map bv) rfl (by rw[ι,ao.o];omega) aw (by intro u hu;obtain⟨b,_,rfl⟩:=Ϫ.1 hu;rfl) (by unfold ϐ;omega) (by omega) ax ?_;intro v5 w5 ae ay az)
     have X:=ad.grown ay (λk e=>(aj.lt k e).1);clear aj au aw;have a6:v5≠U J 0 0:=λe=>by have:=(az.1 e).1;cases this
     have a7:=da.o w5 (ah.trans X);have a8:G.heap.size<=w5.heap.size:=X.size;rw[Ϣ,Ú] at ae;go_upto_region 11 with (at_builtin;refine wpList_append_own _ rfl _ _ 22 rfl G.heap.size 5 i5 (.int .u8 0) 1 1 ϡ bl bm bn bo rfl (by decide) _ _ _ rfl ae ⟨g8,0,J⟩ m8 c8 (r8.map bv) rfl (by rw[ι,an.o];omega) a7 (by intro u hu;obtain⟨b,_,rfl⟩:=Ϫ.1 hu;rfl) (by unfold ϐ;omega) (by omega) a8 ?_;intro v6 w6 ba bb bc)
     have bd:=X.grown bb (λk e=>(ae.lt k e).1);have be:v6≠U J 0 0:=λe=>a6 (bc.1 e).1
     obtain⟨g6,c6,rfl,bf⟩:=R4 (x:=wk++r8) (by rw[ϥ];exact ba) (by rw[Ν,ao.o,an.o]) be (by omega);have b7:=Z bf;have b8:ϟ (wk++r8=(T.drop k).flatten):=Z (by rw[c5.o,cl.o,ϱ (show k<T.length by rw[HN.o];exact ag),List.flatten_cons,Ζ,Θ (show k<T.length by rw[HN.o];exact ag)];rfl)
     have b9:ϟ ((wk++r8).length=mk+m8):=Z (by rw[Ν,ao.o,an.o]);replace H:=H.t bd;clear ae ba ay bb az bc X bd bf a6 be a7 ax a8 ad ah;go_wp2_with (fail);go_roundw
     case rel=>exact⟨k,_,wk++r8,mk+m8,g6,c6,by omega,by omega,rfl,rfl,by go_num,H,bp,b8,b9,b7⟩
     simp[intOf]<;>omega
    | true=>
     iterate 2
      refine Ai (v:=?_) rfl rfl (λV E=>?_) ?_
      rotate_left
      ·clear E;go_simp;first|done|with_reducible rfl
      simp only[θ,Η,Μ,Λ]
     iterate 7
      refine Ai (v:=?_) rfl rfl (λV E=>?_) ?_
      rotate_left
      ·have q1:=(bt.o V E).c2;clear E;go_simp;first|done|with_reducible rfl
      simp only[θ,Η,Μ,Λ]
     refine Ai (v:=.agg B) rfl rfl (λV E=>?_) ?_
     ·exact Cj 40 (.tmp 68) rfl gr (k*3) rfl _ _ (bw.o V E).1 Ρ rfl e7
     simp only[θ,Η,Μ,Λ];refine Ai (v:=?_) rfl rfl (λV E=>?_) ?_
     rotate_left
     ·clear E;go_simp;first|done|with_reducible rfl
     simp only[θ,Η,Μ,Λ];refine Ao rfl (λKk hK=>?_);go_simp
     (with_reducible refine (cu w5 X).mono ?_)
     rintro e G ⟨rfl,ca⟩;have ah:=X.t ca;refine hK _ _ (λ_=>ah) ?_;clear hK Kk ca cu;refine Ai (v:=?_) rfl rfl (λV E=>?_) ?_
     rotate_left
     ·clear E;go_simp;first|done|with_reducible rfl
     simp only[θ,Η,Μ,Λ];refine Ao rfl (λKk hK=>?_);go_simp;refine hK _ _ (λh=>absurd h (by omega)) ?_;clear hK Kk;refine Bn ?_;clear aq X bu bw bz bt bj;replace H:=H.t ah;have aj:ϣ (G.alloc (Β #[] 5)) G.heap.size 5 1 (U (I ⟨G.heap.size,0,J⟩) 0 0) 0 []:=Ê (base:=G.heap.size) (e:=5) (size:=1) G #[] 0 (Υ _) (by unfold ϐ;omega) rfl;have ad:=(Κ G).alloc (Β #[] 5);have au:=(HW.o (G.alloc (Β #[] 5)) (H.t ad)).1;have aw:=c9.o (G.alloc (Β #[] 5)) (H.t ad);have ax:G.heap.size<=(G.alloc (Β #[] 5)).heap.size:=ad.size;go_upto_region 14 with (at_builtin;refine wpList_append_own _ rfl _ _ 22 rfl G.heap.size 5 i5 (.int .u8 0) 1 1 ϡ bl bm bn bo rfl (by decide) _ _ _ rfl aj ⟨gk,0,J⟩ mk ck (wk.map bv) rfl (by rw[ι,ao.o];omega) aw (by intro u hu;obtain⟨b,_,rfl⟩:=Ϫ.1 hu;rfl) (by unfold ϐ;omega) (by omega) ax ?_;intro v5 w5 ae ay az)
     have X:=ad.grown ay (λk e=>(aj.lt k e).1);clear aj au aw;have a6:v5≠U J 0 0:=λe=>by have:=(az.1 e).1;cases this
     have a7:=da.o w5 (ah.trans X);have a8:G.heap.size<=w5.heap.size:=X.size;rw[Ϣ,Ú] at ae;go_upto_region 11 with (at_builtin;refine wpList_append_own _ rfl _ _ 22 rfl G.heap.size 5 i5 (.int .u8 0) 1 1 ϡ bl bm bn bo rfl (by decide) _ _ _ rfl ae ⟨g8,0,J⟩ m8 c8 (r8.map bv) rfl (by rw[ι,an.o];omega) a7 (by intro u hu;obtain⟨b,_,rfl⟩:=Ϫ.1 hu;rfl) (by unfold ϐ;omega) (by omega) a8 ?_;intro v6 w6 ba bb bc)
     have bd:=X.grown bb (λk e=>(ae.lt k e).1);have be:v6≠U J 0 0:=λe=>a6 (bc.1 e).1
     obtain⟨g6,c6,rfl,bf⟩:=R4 (x:=wk++r8) (by rw[ϥ];exact ba) (by rw[Ν,ao.o,an.o]) be (by omega);have b7:=Z bf;have b8:ϟ (wk++r8=(T.drop k).flatten):=Z (by rw[c5.o,cl.o,ϱ (show k<T.length by rw[HN.o];exact ag),List.flatten_cons,Ζ,Θ (show k<T.length by rw[HN.o];exact ag)];rfl)
     have b9:ϟ ((wk++r8).length=mk+m8):=Z (by rw[Ν,ao.o,an.o]);replace H:=H.t bd;clear ae ba ay bb az bc X bd bf a6 be a7 ax a8 ad ah;go_wp2_with (fail);go_roundw
     case rel=>exact⟨k,_,wk++r8,mk+m8,g6,c6,by omega,by omega,rfl,rfl,by go_num,H,bp,b8,b9,b7⟩
     simp[intOf]<;>omega
  obtain rfl:j=0:=by omega
  rw[show (((0:Nat):Int)-1)=-1 from rfl];have cb:=HZ.o.cnt (by rw[HL.o i cj,HN.o]);rw[HM.o] at cb;cases z with
  | false=>
   have dh:ϟ (C6 cs T (i+1)=m):=Z cb;clear cb;go_wp2_with (fail);go_roundw
   case rel=>exact⟨i+1,m,by omega,by omega,rfl,by go_num,H,dh⟩
   simp[intOf]<;>omega
  | true=>
   have dh:ϟ (C6 cs T (i+1)=m+1):=Z cb;clear cb;go_wp2_with (fail);go_roundw
   case rel=>exact⟨i+1,m+1,by omega,by omega,by go_num,by go_num,H,dh⟩
   simp[intOf]<;>omega
 obtain rfl:n=i:=by omega
 obtain rfl:M=m:=by rw[<-e0.o,HM.o]
 go_wp2_with (fail);go_ret;exact⟨rfl,H⟩
theorem OQ:(Ι.info? 22).map (λi=>(i.zero,i.size,i.bytes))=I (I (U J 0 0),1,24):=by kernel_rfl
theorem RA (n:Nat) (k:Int) (E:k=n) (G:n<=1000) (l:List UInt8) (v:Δ) (w:Γ) (H:ByW w v l) :
  Ϟ Ι 19 #[v,.int Χ k] w λe w'=>∃ (x:List UInt8) (g c:Nat),e=Ω (U (I ⟨g,0,J⟩) x.length c)/\x.length<=n/\w'.ownsRow w.heap.size 5 1 (U (I ⟨g,0,J⟩) x.length c) x.length (x.map bv)/\Ext w w':=by
 subst E;exact RB l v n G w H
def WRow (xs:List Δ) (E:List (List UInt8)) (G:List Ch):Prop:=∀ k,k<E.length->∃ b c,xs.getD k δ=U (I ⟨b,0,J⟩) (E.getD k []).length c/\Ch.row 5 1 (U (I ⟨b,0,J⟩) (E.getD k []).length c) (E.getD k []).length ((E.getD k []).map bv)∈G
theorem WRow.snoc {xs:List Δ} {E:List (List UInt8)} {H:List Ch} (h:WRow xs E H) (hx:xs.length=E.length) {b c:Nat} {x:List UInt8}:WRow (xs++[U (I ⟨b,0,J⟩) x.length c]) (E++[x]) (.row 5 1 (U (I ⟨b,0,J⟩) x.length c) x.length (x.map bv)::H):=λk T=>by
 by_cases e:k<E.length
 ·obtain⟨b',X,h1,h2⟩:=h k e;have G:(E++[x]).getD k []=E.getD k []:=by rw[Ζ,ϊ e,<-Ζ]
  rw[G];refine⟨b',X,?_,ç _ h2⟩;rw[Ζ,ϊ (by omega),<-Ζ,h1]
 obtain rfl:k=E.length:=by rw[Ν,List.length_singleton] at T;omega
 have G:(E++[x]).getD E.length []=x:=by rw[Ζ,χ (Υ _),Nat.sub_self];rfl
 rw[G];refine⟨b,c,?_,List.mem_cons_self ..⟩;rw[Ζ,χ (by omega),hx,Nat.sub_self];rfl
theorem QA {E:List (List UInt8)} {x:List UInt8} {n:Nat} (G:E.length=n) {Q:Nat->List UInt8->Prop} (h:∀ k,k<n->Q k (E.getD k [])) (hx:Q n x):∀ k,k<n+1->Q k ((E++[x]).getD k []):=λk H=>by
 by_cases e:k<n
 ·rw[Ζ,ϊ (by omega),<-Ζ];exact h k e
 obtain rfl:k=n:=by omega
 rw[Ζ,χ (by omega),G,Nat.sub_self];exact hx
theorem Qy (E:List (List UInt8)) (x:List UInt8):(E++[x]).flatten=E.flatten++x:=by rw[List.flatten_append,List.flatten_singleton]
theorem DP (E:List (List UInt8)) (i:Nat) (hi:i<E.length):(E.take (i+1)).flatten.length=(E.take i).flatten.length+(E.getD i []).length:=by rw[List.take_succ_eq_append_getElem hi,Qy,Ν,Ζ,Θ hi];rfl
theorem O7 {l:List (Nat × Nat)} {f:Nat->Nat} {i:Nat} {z:Bool} (h:z=Α↔∀ j,j<i->(l.getD j (0,0)).2=f j) {y:Bool} (E:y=Α↔z=Α/\(l.getD i (0,0)).2=f i):y=Α↔∀ j,j<i+1->(l.getD j (0,0)).2=f j:=by
 rw[E,h];constructor
 ·rintro⟨h1,G⟩ j H;by_cases e:j=i
  ·rw[e];exact G
  exact h1 j (by omega)
 exact λh=>⟨λj H=>h j (by omega),h i (by omega)⟩
theorem TP (l:List UInt8) (vl:Δ) (x3:List (List UInt8)) (vx:Δ) (w:Γ) (hT:Tab w) (ca:0<w.heap.size) (hl:ByW w vl l) (hx:A3V w vx x3) :
  Ϟ Ι 6 #[vl,vx] w λe w'=>e=Ω (.bool Α)/\Ext w w':=by
 obtain⟨v0,v1,v2,rfl,dg,dh,dk⟩:=hx;obtain⟨i5,e8,fa,fb,fc⟩:=ϑ Lg;obtain⟨fe,ff,fg,fh,fj⟩:=ϑ OQ;have cc:=Z (λW (hW:Ext w W)=>hT.below hW.below ca);have dm:=Z (λW (hW:Ext w W)=>Ξ ca hW.size);have HL:=Z (λW (hW:Ext w W)=>hl.ext hW);have fl:=Z (λi (hi:i<3) W (hW:Ext w W)=>show ByW W ([v0,v1,v2].getD i δ) (x3.getD i []) from by
  match i,hi with
  | 0,_=>exact dg.ext hW
  | 1,_=>exact dh.ext hW
  | 2,_=>exact dk.ext hW)
 have E:=(Κ w).alloc (Β #[v0,v1,v2] 62);have H0:=Ad w (Β #[v0,v1,v2] 62);clear hl hT ca dg dh dk;go_enter Tryz.func6,Tryz.ntmps6;go_upto_region 1 with (fail)
 obtain⟨w0,cd⟩:=Xq (w.alloc (Β #[v0,v1,v2] 62));rw[cd] at E H0;rw[cd];obtain⟨gb,cf⟩:=Xq (w.heap.size);rw[cf] at H0;rw[cf];clear cd cf;have fm:=Z (λi (hi:i<3) W (hW:Ext w0 W)=>show W.cell? ⟨gb,i,J⟩=I ([v0,v1,v2].getD i δ) from by
  rw[cell_of_row W gb i _ _ _ (hW.heap H0)]
  match i,hi with
  | 0,_=>rfl
  | 1,_=>rfl
  | 2,_=>rfl)
 have an:=Z E;have f50:=Z (FP w0 (cc.o w0 E) (dm.o w0 E));clear H0 E;go_upto_region 2 with (go_at_call 9;(with_reducible refine f50.o.mono ?_);rintro e w1 ⟨rfl,E⟩)
 clear f50;have f51:=Z (LT l vl w1 (HL.o w1 (an.o.t E)));go_upto_region 3 with (go_at_call 10;(with_reducible refine f51.o.mono ?_);rintro e w2 ⟨ps,gp,cp,rfl,hp,fo,dr,X⟩)
 clear f51;have HP:=Z hp;have bd:=Z dr;have fp:=hp.pos;obtain⟨N,hN⟩:=Xq (ps.length);have HN:=Z hN;rw[hN] at fo fp;rw[hN];have ao:=Z (E.t X);clear hp dr X hN E;go_upto_region 4 with (fail)
 have H:=(Hp.nil w2).lit 22 1 #[] 0 (by unfold ϐ;omega) rfl;obtain⟨w3,cj⟩:=Xq (w2.alloc (Β #[] 22));rw[cj] at H;rw[cj];obtain⟨g7,dt⟩:=Xq (w2.heap.size);rw[dt] at H;rw[dt];clear cj;go_upto_region 5 with (fail)
 have H:=(H.lit 5 1 #[] 0 (by unfold ϐ;omega) rfl).swap;obtain⟨w4,cl⟩:=Xq (w3.alloc (Β #[] 5));rw[cl] at H;rw[cl];clear cl;have du:ϟ (∀ k,k<0->Hd (ps.getD k pN).xs (([]:List (List UInt8)).getD k [])=Α/\(([]:List (List UInt8)).getD k []).length<=4):=Z λk T=>by omega
 have dv:ϟ (WRow [] [] []):=Z λk T=>absurd T (by simp)
 have dw:ϟ (([]:List (List UInt8)).length=0/\([]:List (List UInt8)).flatten.length=0):=Z ⟨rfl,rfl⟩;go_wp2_with (fail);go_loopw [7,8,9] (λvw vq vi W=>∃ (i g c M:Nat) (va:Δ) (xs:List Δ) (G:List (List UInt8)) (Bs:List Ch),i<=N/\M<=4*i/\vw=U (I ⟨g,0,J⟩) i c/\va=vq/\vi=.int Χ i/\Hp w2 W (.row 22 1 (U (I ⟨g,0,J⟩) i c) i xs::.row 5 1 va M (G.flatten.map bv)::Bs)/\ϟ (G.length=i/\G.flatten.length=M)/\ϟ (WRow xs G Bs)/\ϟ (∀ k,k<i->Hd (ps.getD k pN).xs (G.getD k [])=Α/\(G.getD k []).length<=4))
  (λ_ _ vi _=>N-(intOf vi).toNat)
 case atStart=>exact⟨0,g7,0,0,_,[],[],[],by omega,by omega,rfl,rfl,rfl,H,dw,dv,du⟩
 clear H du dv dw;obtain⟨i,g,c,M,va,xs,G,Bs,fv,hM,rfl,rfl,rfl,H,ah,cn,HQ⟩:=hrel;have E:=H.ext;by_cases ar:i<N
 ·have fw:(i:Int)<(N:Int):=by omega
  have dx:i<3:=by omega
  have ht:(i:Int)<3:=by omega
  have q0:=fm.o i dx wr (ao.o.t E);have f33:=RA 4 4 rfl (by decide) (x3.getD i []) ([v0,v1,v2].getD i δ) wr (fl.o i dx wr (an.o.t (ao.o.t E)));obtain⟨vx,dy⟩:=Xq ([v0,v1,v2].getD i δ);rw[dy] at q0 f33;have f33:=Z f33;clear dy;go_upto_region 9 with (go_at_call 19;(with_reducible refine f33.o.mono ?_);rintro e w5 ⟨x,gx,cx,rfl,dz,br,X⟩)
  clear f33 q0;have a1:=H.add (X.grownBy J) (c:=.row 5 1 (U (I ⟨gx,0,J⟩) x.length cx) x.length (x.map bv)) (E9 br H.size) (λk e=>(br.lt k e).1);obtain⟨b',o',c',eb,ec⟩:=bd.o i (by rw[HN.o];exact ar);have ed:=(HP.o.part i (by rw[HN.o];exact ar)).1;have k1:=a1.ext.cell (eb 0 _ rfl);simp only[Ϣ,Nat.add_zero] at k1;have f49:=LN (ps.getD i pN).xs ed (U (I ⟨b',o',J⟩) (ps.getD i pN).xs.length c') x (by omega) (U (I ⟨gx,0,J⟩) x.length cx) w5 ⟨b',o',c',rfl,ec.ext a1.ext⟩ (By.of_owns br (by omega));have HX:=Z (WRow.snoc cn.o (by rw[(H.row 0 rfl).1,ah.o.1,Nat.mul_one]) (b:=gx) (c:=cx) (x:=x));obtain⟨m,hm⟩:=Xq (x.length);have HM:=Z hm;obtain⟨nx,ct⟩:=Xq ((ps.getD i pN).xs.length);obtain⟨z,hz⟩:=Xq (An (A3 (ps.getD i pN).xs ((ps.getD i pN).xs.length-1)) x 0 x.length);rw[hz,ct,hm] at f49;have HZ:ϟ (Hd (ps.getD i pN).xs x=z):=Z hz;rw[hm] at a1 dz;rw[ct] at k1;rw[hm];have f49:=Z f49;clear H E X br eb ec ed hm ct hz;cases z with
  | false=>have fy:=a1.ext;go_wp2_with (go_at_call 22;(with_reducible refine f49.o.mono ?_);rintro e w6 ⟨rfl,X⟩);go_ret;exact⟨rfl,an.o.t (ao.o.t (fy.t X))⟩
  | true=>
   go_upto_region 11 with (go_at_call 22;(with_reducible refine f49.o.mono ?_);rintro e w6 ⟨rfl,X⟩)
   have bt:=(a1.extW X).alloc (Β #[U (I ⟨gx,0,J⟩) m cx] 22);have ee:=bt.size;clear f49 k1 a1 X;go_upto_region 12 with (at_builtin;refine wpList_append_lies _ rfl _ _ 63 rfl w2.heap.size 22 fe (U J 0 0) 1 24 Tryz.underlying63 ff fg fh fj rfl (by decide) _ _ _ rfl (bt.row 1 rfl) _ 1 1 [U (I ⟨gx,0,J⟩) m cx] rfl rfl (cell_one_new _ _ _) (by simp[Δ.oneCell']) (by decide) (by unfold ϐ;omega) (by omega) ee _ rfl ?_;intro gq c8 w8 ef eg eh _)
   have bh:=bt.app 1 rfl ef eg eh;have ei:=bh.size;have ej:∀ j u,(x.map bv)[j]? = I u->w8.cell? ((⟨gx,0,J⟩:Addr).add j)=I u:=λj u hj=>by rw[J4,Ϣ,ϣ.cellAt (bh.row 0 rfl) j (by have:=(ν.1 hj).1;rw[ι,HM.o] at this;omega)];exact hj
   have ek:=Z ej;clear ef eg eh bt ee ej;go_upto_region 7 with (at_builtin;refine wpList_append_own_at _ rfl _ _ 22 rfl w2.heap.size 5 i5 (.int .u8 0) 1 1 ϡ e8 fa fb fc rfl (by decide) _ _ _ rfl (bh.row 2 rfl) ⟨gx,0,J⟩ m cx (x.map bv) rfl (by rw[ι,HM.o];omega) ek.o (by intro u hu;obtain⟨b,_,rfl⟩:=Ϫ.1 hu;rfl) (by unfold ϐ;omega) (by omega) ei ?_;intro v9 w9 cy en _ eo)
   rw[<-ϥ,<-Qy] at cy;have gd:=((bh.grow 2 rfl en (c':=.row 5 1 v9 (M+m) ((G++[x]).flatten.map bv)) cy (λk e=>by
    rcases eo with h|h
    ·exact .inl (by rw[<-e];exact h.symm)
    right
    have e:v9.ownBlock=I k:=e;rw[h] at e;injection e with e
    omega)).third).third
   have gf:=Z (show (G++[x]).length=i+1/\(G++[x]).flatten.length=M+m from⟨by rw[Ν,ah.o.1];rfl,by rw[Qy,Ν,ah.o.2,HM.o]⟩);have gg:=Z (QA ah.o.1 (Q:=λk u=>Hd (ps.getD k pN).xs u=Α/\u.length<=4) HQ.o ⟨HZ.o,by rw[HM.o];exact dz⟩);replace HX:=HX.o;rw[HM.o] at HX;replace HX:=Z HX;clear bh cy en eo ek ei;go_wp2_with (fail);go_roundw
   case rel=>exact⟨i+1,gq,c8,M+m,v9,_,G++[x],_,by omega,by omega,rfl,rfl,by go_num,gd,gf,HX,gg⟩
   simp[intOf]<;>omega
 obtain rfl:N=i:=by omega
 have bk:=ah.o.1;have ep:By wr va G.flatten:=By.of_owns (by rw[ah.o.2];exact H.row 1 rfl) (by rw[ah.o.2];omega);have er:WsAt wr g G:=λk T=>by obtain⟨b,cb,h1,h2⟩:=cn.o k T;refine⟨b,cb,?_,By.of_owns (H.at_ _ (ç _ (ç _ h2))) (by have:=(HQ.o k (by rw[<-bk];exact T)).2;omega)⟩;rw[(H.row 0 rfl).cellAt k (by rw[<-bk];omega),<-h1,Ζ,Θ (by rw[(H.row 0 rfl).1,<-bk];omega)];rfl
 have gj:=Z (λV (hV:Ext wr V)=>ep.ext hV);have eu:=Z (λV (hV:Ext wr V)=>er.ext hV);have ev:=Z (λk (T:k<N)=>(HQ.o k T).2);have gk:=Z ah.o.2;have ag:=Z bk;have gl:=Z (cc.o wr (an.o.t (ao.o.t E)));have cz:=Z (λV (hV:Ext wr V)=>cc.o V (an.o.t (ao.o.t (E.t hV))));have c3:=Z (λV (hV:Ext wr V)=>dm.o V (an.o.t (ao.o.t (E.t hV))));have c4:=Z (an.o.t (ao.o.t E));replace bd:=Z (bd.o.ext E);clear H ep er bk cn E gl;obtain⟨w5,gm⟩:∃ V,V=wr:=⟨_,rfl⟩;subst gm;have f52:=Z0 ps HP.o gp 0 cp w5 (cz.o w5 (Κ _)) (c3.o w5 (Κ _)) bd.o;rw[HN.o] at f52;have f52:=Z f52;go_upto_region 14 with (go_at_call 11;(with_reducible refine f52.o.mono ?_);rintro e w6 ⟨hm,a8⟩;have HM:=Z hm;obtain⟨ak,nk,ck,kk,rfl⟩:=hm.ans.form;clear hm)
 have f56:=Wn ps HP.o G.flatten (by rw[gk.o];omega) gp 0 cp va w6 (cz.o w6 a8) (c3.o w6 a8) (bd.o.ext a8) (gj.o w6 a8);rw[HN.o] at f56;have f56:=Z f56;clear f52;go_upto_region 15 with (go_at_call 21;(with_reducible refine f56.o.mono ?_);rintro e w7 ⟨hm,c5⟩;obtain⟨ds,aw,⟨gv,rfl⟩|⟨ll,bs,os,ss,ba,c6,bw,rfl⟩⟩:=hm.cases HP.o)
 ·have ax:=X5 HP.o aw (by rw[ag.o,HN.o]) (λk T=>(HQ.o k (by rw[<-HN.o];exact T)).1);have:=OU ax;rw[Gb aw.len] at this;exact absurd this gv
 rw[HN.o] at bw c6;rw[HN.o];have ax:=X5 HP.o aw (by rw[ag.o,HN.o]) (λk T=>(HQ.o k (by rw[<-HN.o];exact T)).1);have bz:=GA ax ba;have bb:(pts ps ds).length=N:=by have:=congrArg List.length (Gb (ps:=ps) aw.len);rw[ι] at this;rw[this,aw.len,HN.o]
 rw[bb] at bz;have gw:=Z bz;have h7:=Z ax;have gy:=Z bw;have h8:=Z bb;have ey:=Z HM.o.ans;have bc:=a8.t c5;have c7:=Z bc;obtain⟨h9,ez,⟨L,a9,c9,hL,e0,hv,e9,e2⟩|⟨e9,-⟩⟩:=HM.o.ans
 rotate_left
 ·injection e9 with e9
  injection e9 with e9
  simp at e9;obtain⟨⟨rfl,rfl,rfl⟩,rfl⟩:=e9;clear f56 hm bz ax ba bw bb c6 HM ey;go_wp2_with (fail);go_ret;exact⟨rfl,c4.o.t bc⟩
 obtain rfl:=aw.unique ez;injection e9 with e9
 injection e9 with e9
 simp at e9;obtain⟨⟨rfl,rfl,rfl⟩,rfl⟩:=e9;obtain⟨n,hn⟩:=Xq ((Ar L).length);have e3:=Z (TO hL ax);have f57:=LM (Ar L) G (by rw[ag.o];omega) (by rw[ag.o];omega) (λk T=>ev.o k (by rw[<-ag.o];exact T)) (λk T=>by rw[(Rj hL T).2,bb,ag.o]) e0
  (λk T j hj=>by have:=SM hv (Rj hL T).1 (Rj hL T).2 (k:=j) (by rw[bb,<-ag.o];exact hj);exact⟨⟨this.1.1.val,this.1.2⟩,this.2.1.val,this.2.2⟩) ak ck g c
 have db:=Z (λV (hV:Ext w7 V)=>f57 V (cz.o V (bc.t hV)) (c3.o V (bc.t hV)) (e2.ext (c5.t hV)) (eu.o V (bc.t hV)));rw[hn] at e3 db;rw[ag.o] at db;rw[hn];clear f56 f57 hm bz ax ba bw bb c6 HM ey hL hv e2 e0 hn bc a8 c5 aw ez;have E:=Κ w7;have e4:ϟ (0=(G.take 0).flatten.length):=Z rfl;have gz:=Z (λV (hV:Ext w7 V)=>eu.o V (c7.o.t hV));go_wp2_with (fail);go_loopw [15,16,17] (λvz vt vi W=>∃ (i t:Nat) (z:Bool),i<=N/\t<=4*i/\vz=.bool z/\vt=.int Χ t/\vi=.int Χ i/\Ext w7 W/\ϟ (t=(G.take i).flatten.length)/\ϟ (z=Α↔∀ j,j<i->(ll.getD j (0,0)).2=(G.take (j+1)).flatten.length))
  (λ_ _ vi _=>N-(intOf vi).toNat)
 case atStart=>exact⟨0,0,Α,by omega,by omega,rfl,rfl,rfl,E,e4,Z ⟨λ_ j hj=>by omega,λ_=>rfl⟩⟩
 clear E e4;obtain⟨i,t,z,fv,ic,rfl,rfl,rfl,E,hh,b0⟩:=hrel;by_cases ar:i<N
 ·have fw:(i:Int)<(N:Int):=by omega
  obtain⟨b,cb,h1,-⟩:=gz.o wr E i (by rw[ag.o];exact ar);have h4:=ev.o i ar;have b4:=DP G i (by rw[ag.o];exact ar);rw[<-hh.o] at b4;have k2:=E.cell (gy.o i ar).2;obtain⟨m,hm⟩:=Xq ((G.getD i []).length);rw[hm] at h1 h4 b4;obtain⟨q,hq⟩:=Xq ((ll.getD i (0,0)).2);rw[hq] at k2;have e5:=Z hq;have bm:=Z b4;clear hm hq b4;cases z with
  | false=>
   have bn:=Z (O7 (f:=λj=>(G.take (j+1)).flatten.length) b0.o (y:=Ε) ⟨λh=>(by cases h),λh=>(by cases h.1)⟩);go_wp2_with (fail);go_roundw
   case rel=>exact⟨i+1,t+m,Ε,by omega,by omega,rfl,by go_num,by go_num,E,Z bm.o.symm,bn⟩
   simp[intOf]<;>omega
  | true=>
   by_cases e6:q=t+m
   ·have dd:((q:Int)=(t:Int)+(m:Int))=True:=eq_true (by omega);have bn:=Z (O7 (f:=λj=>(G.take (j+1)).flatten.length) b0.o (y:=Α) ⟨λ_=>⟨rfl,by rw[e5.o,e6];exact bm.o.symm⟩,λ_=>rfl⟩);go_wp2_with (fail);go_roundw
    case rel=>exact⟨i+1,t+m,Α,by omega,by omega,(by simp[dd]),by go_num,by go_num,E,Z bm.o.symm,bn⟩
    simp[intOf]<;>omega
   have dd:((q:Int)=(t:Int)+(m:Int))=False:=eq_false (by omega);have bn:=Z (O7 (f:=λj=>(G.take (j+1)).flatten.length) b0.o (y:=Ε) ⟨λh=>(by cases h),λh=>absurd (by rw[<-e5.o,h.2];exact bm.o) e6⟩);go_wp2_with (fail);go_roundw
   case rel=>exact⟨i+1,t+m,Ε,by omega,by omega,(by simp[dd]),by go_num,by go_num,E,Z bm.o.symm,bn⟩
   simp[intOf]<;>omega
 obtain rfl:N=i:=by omega
 have b5:=b0.o.trans gw.o;obtain⟨ba,b6⟩:=e3.o;have f57:=db.o wr E;cases z with
 | false=>
  have bo:C6 (Ar L) G n=0:=by
   by_cases e:C6 (Ar L) G n=1
   ·have:=b5.2 (b6.1 e);cases this
   omega
  rw[bo] at f57;have f57:=Z f57;clear b5 ba b6 bo;go_wp2_with (go_at_call 23;(with_reducible refine f57.o.mono ?_);rintro e w8 ⟨rfl,X⟩);go_ret;exact⟨rfl,c4.o.t (c7.o.t (E.t X))⟩
 | true=>have bo:C6 (Ar L) G n=1:=b6.2 (b5.1 rfl);rw[bo] at f57;have f57:=Z f57;clear b5 ba b6 bo;go_wp2_with (go_at_call 23;(with_reducible refine f57.o.mono ?_);rintro e w8 ⟨rfl,X⟩);go_ret;exact⟨rfl,c4.o.t (c7.o.t (E.t X))⟩
end Go.Proofs.YtilncahcpjlfnaaGreatDoor
