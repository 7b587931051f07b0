import Derived.Test.YtilncahcpjlfnaaGreatDoorN13
import Derived.Test.YtilncahcpjlfnaaGreatDoorN07
import Derived.Test.YtilncahcpjlfnaaGreatDoorN11
import Derived.Test.YtilncahcpjlfnaaGreatDoorN12
import Derived.Lib.SlBytesConst
import Derived.Test.YtilncahcpjlfnaaGreatDoorN08
set_option linter.unusedVariables false
set_option linter.unusedSimpArgs false
set_option maxRecDepth 100000
set_option maxHeartbeats 8000000
open And renaming intro → í
open Bool renaming true → Α, false → Ε
open Go renaming World → Γ, Value → Δ, undef → δ, Calls → Ϟ, wpList_make_full → Ϛ, Operand → á, execOp → ö
open Go.Act renaming put → θ
open Go.Ending renaming returned → Ω
open Go.IntKind renaming i64 → Χ
open Go.Lib renaming hid → Z
open Go.Obj renaming cells → Β
open Go.Operand renaming tmp → ε
open Go.Proofs.Tryz renaming prog → Ι, underlying40 → Ρ
open Go.Value renaming slice → U, tuple → ϙ, slice → ό, int → ϲ, pointer → η
open List renaming mem_iff_getElem → Û, getD_eq_getElem?_getD → Ζ, getElem?_eq_getElem → Θ, length_map → ι, length_set → ο, getElem_mem → ϯ, replicate → ζ, setIfInBounds_toArray → Η, set_cons_zero → Μ, set_cons_succ → Λ, mem_map → Ϫ, mem_singleton → ϖ
open List.cons renaming injEq → ó
open Nat renaming zero_add → Ϣ, le_refl → Υ, le_trans → μ, lt_of_lt_of_le → Ξ
open Option renaming some → I, none → J, getD_some → Ç
namespace Go.Proofs.YtilncahcpjlfnaaGreatDoor
theorem VRx.wrx {xs:List RNode} (h:VRx xs):WRx xs:=⟨h.pos,h.node,h.par⟩
theorem X7 {xs:List RNode} (h:VRx xs) {d:Dfa} (hd:Dj xs [] (I d)) (u:List UInt8):Hd xs u=d.has u:=Fv (by unfold Hd;rw[hitB_true,PC,(UX h.wrx hd).2 u];unfold Xl A3;rw[Qh,List.length_nil,Ϣ])
theorem RY {ps:List PtN} {ds:List Dfa} (h:DsOf ps ds):∀ d∈ds,Cano d/\d.n.length<=64:=λd hd=>by
 obtain⟨i,hi,rfl⟩:=Û.1 hd;have:=(h.at_ i hi).2
 rwa [Ζ,Θ hi] at this
theorem Vc {ps:List PtN} {ds:List Dfa} (h:ds.length=ps.length) {i:Nat} (hi:i<ps.length) (z:Pt):(pts ps ds).getD i z=⟨ds.getD i dN,(ps.getD i pN).lz⟩:=by have h1:=congrArg (λl:List Pt=>l[0]?) (Pf (ps:=ps) h (show i<ds.length by omega));simp only[List.getElem?_drop,Nat.add_zero,List.getElem?_cons_zero] at h1;rw[Ζ,h1];rfl
theorem SA {ps:List PtN} {ds:List Dfa} {x:List UInt8} (hp:PatOk ps) (G:DsOf ps ds) {l:List (Nat × Nat)} (H:Cw (pts ps ds) x 0 l) :
  l.length=ps.length/\∀ i,i<ps.length->(l.getD i (0,0)).1=(if i=0 then 0 else (l.getD (i-1) (0,0)).2)/\(l.getD i (0,0)).1<=(l.getD i (0,0)).2/\(l.getD i (0,0)).2<=x.length/\Hd (ps.getD i pN).xs (seg x (l.getD i (0,0)).1 (l.getD i (0,0)).2)=Α:=by
 have ab:=Gb G.len;have T:(pts ps ds).length=ps.length:=by have:=congrArg List.length ab;rw[ι] at this;rw[this,G.len]
 have X:=LO H;rw[T] at X;refine⟨X,λi hi=>?_⟩;have key:∀ (E:List Pt) (f:Nat) (l:List (Nat × Nat)),Cw E x f l->∀ i,i<E.length->(l.getD i (0,0)).1=(if i=0 then f else (l.getD (i-1) (0,0)).2)/\(l.getD i (0,0)).1<=(l.getD i (0,0)).2/\(l.getD i (0,0)).2<=x.length/\(E.getD i ⟨dN,Ε⟩).d.has (seg x (l.getD i (0,0)).1 (l.getD i (0,0)).2)=Α:=by
  intro E;induction E with
  | nil=>intro f l _ i hi;exact absurd hi (by simp)
  | cons p E ih=>
   rintro f l ⟨q,l',rfl,h1,h2⟩ i hi;cases i with
   | zero=>exact⟨rfl,h1.1.1,h1.1.2.1,h1.1.2.2.1⟩
   | succ i=>
    have:=ih q l' h2 i (by simpa using hi);simp only[List.getD_cons_succ,Nat.add_sub_cancel];refine⟨?_,this.2.1,this.2.2.1,this.2.2.2⟩;rw[this.1];cases i with
    | zero=>simp
    | succ i=>rw[if_neg (by omega),if_neg (by omega)];simp
 obtain⟨k1,k2,k3,k4⟩:=key _ _ _ H i (by rw[T];exact hi);refine⟨k1,k2,k3,?_⟩;have ah:i<ds.length:=by rw[G.len];exact hi
 rw[X7 (hp.part i hi).1 (G.at_ i ah).1];have e:((pts ps ds).getD i ⟨dN,Ε⟩).d=ds.getD i dN:=by rw[Vc G.len hi]
 rw[<-e];exact k4
open Go.RowKit Go.Shelf
theorem OR:(Ι.info? 78).map (λi=>(i.zero,i.size,i.bytes))=I (I (U J 0 0),1,24):=by kernel_rfl
def CasOut (W:Γ) (e:Ending) (ps:List PtN):Prop:=∃ ds,DsOf ps ds/\((∃ l v,Er (pts ps ds) l/\(∀ os∈l,∀ o∈os,o.head.n.length<=64/\o.rest.n.length<=64)/\(Ar l).length<=256/\e=Ω (ϙ #[v,.int Χ 0])/\CasV W v (Ar l))\/(e=Ω (ϙ #[U J 0 0,.int Χ 2])/\Gp ps ds))
structure RstI (W:Γ) (xs:List Δ) (ds:List Dfa) (i:Nat):Prop where
 done:∀ q,i<=q->q<ds.length->∃ r,Dv (ds.drop (q+1)) (I r)/\Cano r/\r.n.length<=64/\IsD W (.agg #[xs.getD (q*3) δ,xs.getD (q*3+1) δ,xs.getD (q*3+2) δ]) r
 todo:∀ j,j<i*3->xs.getD j δ=U J 0 0
theorem RstI.ext {W W':Γ} {xs:List Δ} {ds:List Dfa} {i:Nat} (h:RstI W xs ds i) (E:Ext W W'):RstI W' xs ds i:=
 ⟨λq h1 G=>by obtain⟨r,H,T,X,h6⟩:=h.done q h1 G;exact⟨r,H,T,X,h6.ext E⟩,h.todo⟩
theorem RstI.nilx {W W':Γ} {xs:List Δ} {ds:List Dfa} {i:Nat} (h:RstI W xs ds i) (G:NilX W W'):RstI W' xs ds i:=
 ⟨λq h1 H=>by obtain⟨r,T,E,X,h6⟩:=h.done q h1 H;exact⟨r,T,E,X,h6.nilx E.val G⟩,h.todo⟩
theorem RstI.step {W:Γ} {xs:List Δ} {ds:List Dfa} {i:Nat} {a b c:Δ} {r:Dfa} (h:RstI W xs ds (i+1)) (hl:i*3+2<xs.length) (E:Dv (ds.drop (i+1)) (I r)) (hc:Cano r) (G:r.n.length<=64) (hd:IsD W (.agg #[a,b,c]) r):RstI W (((xs.set (i*3) a).set (i*3+1) b).set (i*3+1+1) c) ds i where
 done:=λq h1 H=>by
  by_cases e:q=i
  ·subst e;refine⟨r,E,hc,G,?_⟩;rw[Be (by omega),Be (by omega),B6 (by omega),Be (by omega),B6 (by rw[ο];omega),B6 (by rw[ο,ο];omega)];exact hd
  obtain⟨T,X,h4,h5,h6⟩:=h.done q (by omega) H;refine⟨T,X,h4,h5,?_⟩;rw[Be (by omega),Be (by omega),Be (by omega),Be (by omega),Be (by omega),Be (by omega),Be (by omega),Be (by omega),Be (by omega)];exact h6
 todo:=λj hj=>by rw[Be (by omega),Be (by omega),Be (by omega)];exact h.todo j (by omega)
theorem LS (n:Nat):(madeCells #[ό J 0 0,ό J 0 0,ό J 0 0] (n*3)).toList.length=n*3/\∀ j,j<n*3->(madeCells #[ό J 0 0,ό J 0 0,ό J 0 0] (n*3)).toList.getD j δ=U J 0 0:=by
 refine⟨by simp[madeCells],λj E=>?_⟩;rw[Ζ,Array.getElem?_toList];unfold madeCells;simp only[Array.getElem?_map,Array.getElem?_range];have hm:j % 3=0\/j % 3=1\/j % 3=2:=by omega
 rcases hm with h|h|h<;>simp[E,h]
theorem OpsV.setc {W:Γ} {u:Δ} {os:List Opt} (h:OpsV W u os) (hv:∀ o∈os,Val o.head/\Val o.rest) {g i:Nat} {x:Δ} (hi:i<6) (G:NilX W (W.setCell ⟨g,i,J⟩ x)):OpsV (W.setCell ⟨g,i,J⟩ x) u os:=by
 obtain⟨a,c,hu,h⟩:=h;refine⟨a,c,hu,λk T=>?_⟩;obtain⟨g',h1,h2,h3,r1,r2,r3,la,ln,lc,ha,H,X,aa⟩:=h k T;obtain⟨ab,ad⟩:=hv _ (ϯ T);have ao:=X.nilx ab G;have aq:=aa.nilx ad G;obtain⟨_,_,_,_,_,_,_,_,_,e1,-⟩:=X.opened ab;obtain⟨_,_,_,_,_,_,_,_,_,e2,-⟩:=aa.opened ad;simp only[dA,Δ.agg.injEq,Array.mk.injEq,ó,and_true] at e1 e2;obtain⟨rfl,rfl,rfl⟩:=e1;obtain⟨rfl,rfl,rfl⟩:=e2;refine⟨g',_,_,_,_,_,_,la,ln,lc,ha,λj v E=>?_,ao,aq⟩
 match j,E with
 | 0,E=>exact G.cell _ _ (H 0 v E) (by injection E with E;rw[<-E];intro e;cases e) (by injection E with E;rw[<-E];intro e;cases e)
 | 1,E=>exact G.cell _ _ (H 1 v E) (by injection E with E;rw[<-E];intro e;cases e) (by injection E with E;rw[<-E];intro e;cases e)
 | 2,E=>exact G.cell _ _ (H 2 v E) (by injection E with E;rw[<-E];intro e;cases e) (by injection E with E;rw[<-E];intro e;cases e)
 | 3,E=>exact G.cell _ _ (H 3 v E) (by injection E with E;rw[<-E];intro e;cases e) (by injection E with E;rw[<-E];intro e;cases e)
 | 4,E=>exact G.cell _ _ (H 4 v E) (by injection E with E;rw[<-E];intro e;cases e) (by injection E with E;rw[<-E];intro e;cases e)
 | 5,E=>exact G.cell _ _ (H 5 v E) (by injection E with E;rw[<-E];intro e;cases e) (by injection E with E;rw[<-E];intro e;cases e)
 | 6,E=>rw[Γ.cell?_setCell_other _ _ _ _ (by intro e;injection e with _ e _;omega)];exact H 6 v E
 | j+7,E=>simp at E
def FindOut (W:Γ) (e:Ending) (lz:Bool) (d r:Dfa):Prop:=
 (∃ os a c,e=Ω (ϙ #[U a os.length c,.int Χ 0])/\OptsOf lz (wd1 d) (wd1 r) os/\(os.length<=65536/\∀ o∈os,o.head.n.length<=64/\o.rest.n.length<=64)/\OpsV W (U a os.length c) os)\/
 (e=Ω (ϙ #[U J 0 0,.int Χ 2])/\if lz=Α then Ir d r else Is d r)
theorem GreOut.find {W:Γ} {e:Ending} {d r:Dfa} (h:GreOut W e d r):FindOut W e Ε d r:=by
 rcases h with⟨os,v,he,h1,G,E⟩|⟨he,h⟩
 ·have H:=E;obtain⟨a,c,rfl,_⟩:=E;exact .inl ⟨os,a,c,he,h1,G,H⟩
 exact .inr ⟨he,by rw[if_neg (by decide)];exact h⟩
theorem LazOut.find {W:Γ} {e:Ending} {d r:Dfa} (h:LazOut W e d r):FindOut W e Α d r:=by
 rcases h with⟨os,v,he,h1,G,E⟩|⟨he,h⟩
 ·have H:=E;obtain⟨a,c,rfl,_⟩:=E;exact .inl ⟨os,a,c,he,h1,G,H⟩
 exact .inr ⟨he,by rw[if_pos rfl];exact h⟩
theorem FindOut.form {W:Γ} {e:Ending} {lz:Bool} {d r:Dfa} (h:FindOut W e lz d r):∃ a n c k,e=Ω (ϙ #[U a n c,.int Χ k]):=by
 rcases h with⟨os,a,c,he,_⟩|⟨he,_⟩
 ·exact⟨_,_,_,_,he⟩
 exact⟨_,_,_,_,he⟩
structure OptI (W:Γ) (ps:List PtN) (ds:List Dfa) (ys:List Δ) (ls:List (List Opt)) (i:Nat):Prop where
 len:ls.length=i
 at_:∀ q,q<i->OpsV W (ys.getD q δ) (ls.getD q [])/\((ls.getD q []).length<=65536/\∀ o∈ls.getD q [],o.head.n.length<=64/\o.rest.n.length<=64)/\OptsOf (ps.getD q pN).lz (wd1 (ds.getD q dN)) (Bv (ds.drop (q+1))) (ls.getD q [])
 todo:∀ q,i<=q->q<ys.length->ys.getD q δ=U J 0 0
theorem OptI.ext {W W':Γ} {ps:List PtN} {ds:List Dfa} {ys:List Δ} {ls:List (List Opt)} {i:Nat} (h:OptI W ps ds ys ls i) (G:Ext W W'):OptI W' ps ds ys ls i:=
 ⟨h.len,λq E=>⟨(h.at_ q E).1.ext G,(h.at_ q E).2⟩,h.todo⟩
theorem OptI.step {W:Γ} {ps:List PtN} {ds:List Dfa} {ys:List Δ} {ls:List (List Opt)} {i g:Nat} {v:Δ} {os:List Opt} (h:OptI W ps ds ys ls i) (hi:i<ys.length) (H:i<6) (T:NilX W (W.setCell ⟨g,i,J⟩ v)) (hv:OpsV W v os) (hs:os.length<=65536/\∀ o∈os,o.head.n.length<=64/\o.rest.n.length<=64) (E:OptsOf (ps.getD i pN).lz (wd1 (ds.getD i dN)) (Bv (ds.drop (i+1))) os):OptI (W.setCell ⟨g,i,J⟩ v) ps ds (ys.set i v) (ls++[os]) (i+1) where
 len:=by rw[List.length_append,h.len];rfl
 at_:=λq hq=>by
  have X:∀ {lz:Bool} {A B:Af} {os:List Opt},OptsOf lz A B os->∀ o∈os,Val o.head/\Val o.rest:=λE o hm=>⟨(E.hc o hm).1.val,(E.hc o hm).2.val⟩
  by_cases e:q=i
  ·subst e;have e2:(ls++[os]).getD q []=os:=by rw[<-h.len];exact Dt _ _ _
   rw[B6 hi,e2];exact⟨hv.setc (X E) H T,hs,E⟩
  obtain⟨h1,G,h3⟩:=h.at_ q (by omega);rw[Be e,B9 _ _ _ _ (by rw[h.len];omega)];exact⟨h1.setc (X h3) H T,G,h3⟩
 todo:=λq h1 G=>by rw[ο] at G;rw[Be (by omega)];exact h.todo q (by omega) G
theorem OptI.all {W:Γ} {ps:List PtN} {ds:List Dfa} {ys:List Δ} {ls:List (List Opt)} (E:DsOf ps ds) (h:OptI W ps ds ys ls ps.length):Er (pts ps ds) ls:=by
 have G:(pts ps ds).length=ps.length:=by have:=congrArg List.length (Gb E.len);rw[ι] at this;rw[this,E.len]
 refine BC _ _ (by rw[G];exact h.len) λi hi=>?_
 rw[G] at hi;rw[Vc E.len hi,U9 E.len];exact (h.at_ i hi).2.2
theorem Y9 (l:List (List Opt)) (h:∀ k,k<l.length->0<(l.getD k []).length):∀ d j,j+d=l.length->(Ar (l.take j)).length<=(Ar l).length
 | 0,j,e=>by rw[List.take_of_length_le (by omega)];exact Υ _
 | d+1,j,e=>by have h1:=Y9 l h d (j+1) (by omega);rw[Hr l j [] (by omega),Rh] at h1;exact μ (Nat.le_mul_of_pos_right _ (h j (by omega))) h1
theorem SW {ls:List (List Opt)} {q:Nat} (E:q<ls.length) (h0:0<(ls.getD q []).length):min (min (Ar (ls.take q)).length 257*(ls.getD q []).length) 257=min (Ar (ls.take (q+1))).length 257:=by rw[LG h0,Hr ls q [] E,Rh]
theorem LF (x:Nat):(if (257:Int)<(x:Int) then (257:Int) else (x:Int))=((min x 257:Nat):Int):=by
 by_cases h:x<=257
 ·rw[Nat.min_eq_left h,if_neg (by omega)]
 rw[Nat.min_eq_right (by omega),if_pos (by omega)];rfl
theorem Z0 (ps:List PtN) (hp:PatOk ps) (b o fj:Nat) (w:Γ) (hT:Tab w) (c3:0<w.heap.size) (h:PatAt w b o ps) :
  Ϟ Ι 11 #[U (I ⟨b,o,J⟩) ps.length fj] w λe w'=>CasOut w' e ps/\Ext w w':=by
 have du:=Z (λW (hW:Ext w W)=>hT.below hW.below c3);have HP:=Z hp;have hh:=Z h;have f106:=Z (Sf ps hp b o fj w hT c3 h);obtain⟨m0,hm,hl,hn,hr⟩:=info_parts X2;obtain⟨j0,X,ht,hv,hy⟩:=info_parts OR;have hz:=hp.le;have h4:=hp.pos;obtain⟨N,hN⟩:=Xq (ps.length);rw[hN] at f106 hz h4;rw[hN];have HN:=Z hN;clear h hp hN hT;go_enter Tryz.func11,Tryz.ntmps11;go_upto_region 4 with (go_at_call 28;(with_reducible refine f106.o.mono ?_);rintro e w2 ⟨g6,ds,rfl,dw,fk,fl⟩)
 clear f106;have bw:=Z dw;have ek:=Z fk;have c4:ds.length=N:=by rw[dw.len,HN.o]
 have bf:=Z c4;have bz:=Z (RY dw);have bj:=Z fl;clear dw fk c4;have h5:=fl.size;go_upto_region 5 with (at_make;refine Ϛ _ rfl _ _ 75 rfl w2.heap.size 78 j0 (U J 0 0) 1 Tryz.underlying75 X ht hv Χ Χ _ _ N rfl rfl rfl rfl (by rw[hy];omega) (by unfold maxLen;omega) (Υ _) ?_;intro w3 fm fp)
 have eo:=(Κ w2).grown fp (λk e=>by cases e);have fq:w2.heap.size<=w3.heap.size:=eo.size;go_upto_region 6 with (at_make;refine Ϛ _ rfl _ _ 31 rfl w2.heap.size 40 m0 (.agg #[U J 0 0,U J 0 0,U J 0 0]) 3 Tryz.underlying31 hm hl hn Χ Χ _ _ N rfl rfl rfl rfl (by rw[hr];omega) (by unfold maxLen;omega) fq ?_;intro w4 fs er)
 have ft:=eo.grown er (λk e=>by cases e);have et:w4.ownsRow w2.heap.size 78 1 (U (I ⟨w2.heap.size,0,J⟩) N N) N (ζ N (U J 0 0)):=by rw[<-Jc];exact Bz fm er
 obtain⟨fu,eu⟩:=LS N;have dx:w4.ownsRow w2.heap.size 40 3 (U (I ⟨w3.heap.size,0,J⟩) N N) N (madeCells #[ό J 0 0,ό J 0 0,ό J 0 0] (N*3)).toList:=fs;obtain⟨zs,fw⟩:=Xq ((madeCells #[ό J 0 0,ό J 0 0,ό J 0 0] (N*3)).toList);rw[fw] at dx fu eu;obtain⟨gR,ev⟩:=Xq (w3.heap.size);obtain⟨gA,db⟩:=Xq (w2.heap.size);have jb:w2.heap.size<=gA:=Nat.le_of_eq db;rw[db,ev] at dx;rw[db] at et;simp only[ev,db];clear fm fp fs er fq eo ev db fw h5;have ar:Hid (RstI w4 zs ds N):=Z ⟨λq h1 h2=>by rw[bf.o] at h2;omega,eu⟩;clear eu fu;have jc:(0:Int)<(N:Int):=by omega
 go_wp2_with (fail);go_loopw [8] (λvi W=>∃ (i:Nat) (xs:List Δ),i<=N/\vi=.int Χ ((i:Int)-1)/\Ext w2 W/\W.ownsRow gA 40 3 (U (I ⟨gR,0,J⟩) N N) N xs/\W.ownsRow gA 78 1 (U (I ⟨gA,0,J⟩) N N) N (ζ N (U J 0 0))/\Hid (RstI W xs ds i))
  (λvi _=>(intOf vi+1).toNat)
 case atStart=>exact⟨N,zs,by omega,by go_num,ft,dx,et,ar⟩
 clear ft dx et ar;obtain⟨i,xs,h6,rfl,H,hR,hA,ar⟩:=hrel;by_cases jd:0<i
 ·obtain⟨q,rfl⟩:∃ q,i=q+1:=⟨i-1,by omega⟩;have fx:((q+1:Nat):Int)-1=(q:Int):=by omega
  rw[fx];clear fx;have je:(q:Int)<(N:Int):=by omega
  have jf:(0:Int)<=(q:Int):=by omega
  have dc:(ds.drop (q+1)).length=N-(q+1):=by rw[List.length_drop,bf.o]
  have c5:=Z (λ(a':Option Addr) (dd:Nat) (h7:q+1<N->a'=I ⟨g6,(q+1)*3,J⟩)=>show Ϟ Ι 29 #[U a' (N-(q+1)) dd] wr λe w'=>∃ r,ResOf w' e r/\Dv (ds.drop (q+1)) r/\Ext wr w' from by
   have h:=Uq (ds.drop (q+1)) (λi hi=>bz.o _ (List.mem_of_mem_drop (Jb hi))) (by rw[dc];omega) a' g6 ((q+1)*3) dd (λh0=>h7 (by rw[dc] at h0;omega)) wr (du.o wr (bj.o.t H)) (Ξ c3 (bj.o.t H).size) (λi hi=>by
    obtain⟨v1,v2,v3,h1,h2⟩:=ek.o (q+1+i) (by rw[dc] at hi;rw[bf.o];omega);refine⟨v1,v2,v3,λj v X=>?_,?_⟩
    ·have h3:=H.cell (h1 j v X);rw[show 0+(q+1+i)*3+j=(q+1)*3+i*3+j by omega] at h3;exact h3
    have e:(ds.drop (q+1)).getD i dN=ds.getD (q+1+i) dN:=by rw[Ζ,List.getElem?_drop,<-Ζ]
    rw[e];exact h2.ext H)
   rw[dc] at h;exact h)
  clear dc;by_cases h8:q+1<N
  ·have jg:=Z h8;go_upto_region 10 with (first
    | (go_at_call 29;(with_reducible refine (c5.o _ _ (λ_=>rfl)).mono ?_);rintro e w5 ⟨r,bl,bm,ab⟩;obtain⟨au,aw,ax,ay,az,a6,a7,a8,ba,k1,rfl⟩:=bl.form;have b4:=Z bl;have bg:=Z bm;have aj:=Z ab;have G:=Aa hR ab;have de:=Z (show w5.there gR (q*3) 3 from λx hx=>I8 G (q*3) x (by omega));clear bl bm ab)
    | (refine wpList_store_mid rfl 40 (ε 45) (ε 43) rfl gR (q*3) (dA (U au aw ax) (U ay az a6) (U a7 a8 ba)) rfl rfl de.o Ae (Aw _ _ _ rfl rfl rfl) ?_))
   have df:(dA (U au aw ax) (U ay az a6) (U a7 a8 ba)).toList=[U au aw ax,U ay az a6,U a7 a8 ba]:=rfl;rw[df];clear df de c5;have dg:xs.length=N*3:=hR.1;have T:=Aa hA aj.o;have b5:=ar.o.ext aj.o;have ae:=Px (a:=U au aw ax) (b:=U ay az a6) (c:=U a7 a8 ba) (o:=q*3) G (by decide) (λj X=>by rw[G.cellAt (q*3+j) (by omega),Θ (by omega)];have h:=b5.todo (q*3+j) (by omega);rw[Ζ,Θ (by omega)] at h;exact congrArg I h) (by omega)
   obtain⟨ah,an⟩:=Pn G (q*3) (U au aw ax) (U ay az a6) (U a7 a8 ba);have h9:gA<=gR:=(G.lt gR rfl).1;have ao:=T.kept an (Aj T G (by decide));have ad:=(H.t aj.o).grown an (λk e=>by injection e;omega);obtain⟨w6,cj⟩:=Xq (w5.setCells gR (q*3) [U au aw ax,U ay az a6,U a7 a8 ba]);rw[cj] at ae ah ao ad;rw[cj];clear cj an T G H hR hA aj;cases r with
   | none=>obtain⟨rfl,-⟩:=b4.o.none_inv;have HW:=Z (show Gp ps ds from .inl ⟨q+1,by rw[bf.o];omega,bg.o⟩);have b6:=Z (bj.o.t ad);clear ad ah ao b5 ae;go_wp2_with (fail);go_ret2;exact⟨⟨ds,bw.o,.inr ⟨rfl,HW.o⟩⟩,b6.o⟩
   | some r=>
    obtain⟨rfl,hD⟩:=b4.o.some_inv;have aq:=Kq (ds.drop (q+1)) (λd hd=>(bz.o d (List.mem_of_mem_drop hd)).1) bg.o;have dk:=Ut (ds.drop (q+1)) (λd hd=>(bz.o d (List.mem_of_mem_drop hd)).2) bg.o aq.1;have b7:=Z ((b5.nilx ae).step (by omega) bg.o aq.1 dk (hD.nilx aq.1.val ae));clear b5 ae hD aq dk dg;go_wp2_with (fail);go_roundw
    case rel=>exact⟨q,_,by omega,by go_num,ad,ah,ao,b7⟩
    simp[intOf]<;>omega
  have jh:q+1=N:=by omega
  have c5:=Z (λ(a':Option Addr) (dd:Nat)=>show Ϟ Ι 29 #[U a' 0 dd] wr λe w'=>∃ r,ResOf w' e r/\Dv (ds.drop (q+1)) r/\Ext wr w' from by have h:=c5.o a' dd (λh=>absurd h (by omega));rw[show N-(q+1)=0 by omega] at h;exact h)
  go_upto_region 10 with (first
   | (go_at_call 29;(with_reducible refine (c5.o _ _).mono ?_);rintro e w5 ⟨r,bl,bm,ab⟩;obtain⟨au,aw,ax,ay,az,a6,a7,a8,ba,k1,rfl⟩:=bl.form;have b4:=Z bl;have bg:=Z bm;have aj:=Z ab;have G:=Aa hR ab;have de:=Z (show w5.there gR (q*3) 3 from λx hx=>I8 G (q*3) x (by omega));clear bl bm ab)
   | (refine wpList_store_mid rfl 40 (ε 45) (ε 43) rfl gR (q*3) (dA (U au aw ax) (U ay az a6) (U a7 a8 ba)) rfl rfl de.o Ae (Aw _ _ _ rfl rfl rfl) ?_))
  have df:(dA (U au aw ax) (U ay az a6) (U a7 a8 ba)).toList=[U au aw ax,U ay az a6,U a7 a8 ba]:=rfl;rw[df];clear df de c5;have dg:xs.length=N*3:=hR.1;have T:=Aa hA aj.o;have b5:=ar.o.ext aj.o;have ae:=Px (a:=U au aw ax) (b:=U ay az a6) (c:=U a7 a8 ba) (o:=q*3) G (by decide) (λj X=>by rw[G.cellAt (q*3+j) (by omega),Θ (by omega)];have h:=b5.todo (q*3+j) (by omega);rw[Ζ,Θ (by omega)] at h;exact congrArg I h) (by omega)
  obtain⟨ah,an⟩:=Pn G (q*3) (U au aw ax) (U ay az a6) (U a7 a8 ba);have h9:gA<=gR:=(G.lt gR rfl).1;have ao:=T.kept an (Aj T G (by decide));have ad:=(H.t aj.o).grown an (λk e=>by injection e;omega);obtain⟨w6,cj⟩:=Xq (w5.setCells gR (q*3) [U au aw ax,U ay az a6,U a7 a8 ba]);rw[cj] at ae ah ao ad;rw[cj];clear cj an T G H hR hA aj;cases r with
  | none=>obtain⟨rfl,-⟩:=b4.o.none_inv;have HW:=Z (show Gp ps ds from .inl ⟨q+1,by rw[bf.o];omega,bg.o⟩);have b6:=Z (bj.o.t ad);clear ad ah ao b5 ae;go_wp2_with (fail);go_ret2;exact⟨⟨ds,bw.o,.inr ⟨rfl,HW.o⟩⟩,b6.o⟩
  | some r=>
   obtain⟨rfl,hD⟩:=b4.o.some_inv;have aq:=Kq (ds.drop (q+1)) (λd hd=>(bz.o d (List.mem_of_mem_drop hd)).1) bg.o;have dk:=Ut (ds.drop (q+1)) (λd hd=>(bz.o d (List.mem_of_mem_drop hd)).2) bg.o aq.1;have b7:=Z ((b5.nilx ae).step (by omega) bg.o aq.1 dk (hD.nilx aq.1.val ae));clear b5 ae hD aq dk dg;go_wp2_with (fail);go_roundw
   case rel=>exact⟨q,_,by omega,by go_num,ad,ah,ao,b7⟩
   simp[intOf]<;>omega
 obtain rfl:i=0:=by omega
 rw[show (((0:Nat):Int)-1)=-1 from rfl];have ew:=bj.o.t H;have f107:=Uq ds (λi hi=>bz.o _ (Jb hi)) (by rw[bf.o];omega) (I ⟨g6,0,J⟩) g6 0 N (λ_=>rfl) wr (du.o wr ew) (Ξ c3 ew.size) (ek.o.ext H);rw[bf.o] at f107;have f107:=Z f107;go_upto_region 13 with (go_at_call 29;(with_reducible refine f107.o.mono ?_);rintro e w5 ⟨r,bl,bm,ab⟩;obtain⟨au,aw,ax,ay,az,a6,a7,a8,ba,k1,rfl⟩:=bl.form;have b4:=Z bl;have bg:=Z bm;have aj:=Z ab;clear bl bm ab)
 clear f107 ew;cases r with
 | none=>obtain⟨rfl,-⟩:=b4.o.none_inv;have HW:=Z (show Gp ps ds from .inl ⟨0,by omega,by rw[List.drop_zero];exact bg.o⟩);have b6:=Z (bj.o.t (H.t aj.o));clear H hR hA;go_wp2_with (fail);go_ret2;exact⟨⟨ds,bw.o,.inr ⟨rfl,HW.o⟩⟩,b6.o⟩
 | some r0=>
  obtain⟨rfl,-⟩:=b4.o.some_inv;have G:=Aa hR aj.o;have T:=Aa hA aj.o;have ca:=Z (ar.o.ext aj.o);have ab:=H.t aj.o;have bh:Hid (OptI w5 ps ds (ζ N (U J 0 0)) [] 0):=Z ⟨rfl,λq hq=>by omega,λq _ hq=>Jl _ _ _ _ (by simpa using hq)⟩;clear H hR hA ar aj b4 bg;go_wp2_with (fail);go_loopw [59] (λvi W=>∃ (i:Nat) (ys:List Δ) (ls:List (List Opt)),i<=N/\vi=.int Χ i/\Ext w2 W/\W.ownsRow gA 40 3 (U (I ⟨gR,0,J⟩) N N) N xs/\W.ownsRow gA 78 1 (U (I ⟨gA,0,J⟩) N N) N ys/\Hid (RstI W xs ds 0)/\Hid (OptI W ps ds ys ls i))
   (λvi _=>N-(intOf vi).toNat)
  case atStart=>exact⟨0,_,[],by omega,rfl,ab,G,T,ca,bh⟩
  clear ab G T ca bh;obtain⟨i,ys,ls,h6,rfl,H,hR,hA,ar,bp⟩:=hrel;by_cases c7:i<N
  ·have ji:(i:Int)<(N:Int):=by omega
   obtain⟨v1,v2,v3,fy,ey⟩:=ek.o i (by rw[bf.o];exact c7);obtain⟨r,bm,dy,ez,e0⟩:=ar.o.done i (by omega) (by rw[bf.o];exact c7);obtain⟨b',o',c',fz,-⟩:=hh.o i (by rw[HN.o];exact c7);obtain⟨e1,c4⟩:=bz.o (ds.getD i dN) (Jb (by rw[bf.o];exact c7));have dg:xs.length=N*3:=hR.1;have bq:ys.length=N*1:=hA.1;have hq:=H.t (Κ wr);have kl:=(bj.o.t H).cell (fz 1 _ rfl);have ga:∀ V:Γ,Ext w2 V->V.rangeAt g6 (i*3) [v1,v2,v3]:=λV E j v X=>by have h:=E.cell (fy j v X);rw[Ϣ] at h;exact h
   have gb:∀ V:Γ,V.ownsRow gA 40 3 (U (I ⟨gR,0,J⟩) N N) N xs->V.rangeAt gR (i*3) [xs.getD (i*3) δ,xs.getD (i*3+1) δ,xs.getD (i*3+2) δ]:=λV E j v X=>by
    have hx:∀ k,k<N*3->V.cell? ⟨gR,k,J⟩=I (xs.getD k δ):=λk hk=>by rw[E.cellAt k hk,Ζ,Θ (by omega)];rfl
    match j,X with
    | 0,X=>injection X with X;rw[<-X];exact hx _ (by omega)
    | 1,X=>injection X with X;rw[<-X];exact hx _ (by omega)
    | 2,X=>injection X with X;rw[<-X];exact hx _ (by omega)
    | j+3,X=>simp at X
   have c8:=Z ga;have ck:=Z gb;have dm:=bj.o.t H;have dz:=Z (λV (E:Ext wr V)=>(PQ (ds.getD i dN) r e1 dy c4 ez _ _ V (du.o V (dm.trans E)) (Ξ c3 (dm.trans E).size) (ey.ext (H.t E)) (e0.ext E)).mono λe w' h=>í h.1.find h.2);have ea:=Z (λV (E:Ext wr V)=>(NK (ds.getD i dN) r e1 dy c4 ez _ _ V (du.o V (dm.trans E)) (Ξ c3 (dm.trans E).size) (ey.ext (H.t E)) (e0.ext E)).mono λe w' h=>í h.1.find h.2);have ib:=enters_of Tryz.func30 (by kernel_rfl) rfl;have ic:=enters_of Tryz.func31 (by kernel_rfl) rfl;have eb:=Z bm;have jl:=Z dy;have gd:=Z bq;obtain⟨x1,gf⟩:=Xq (xs.getD (i*3) δ);obtain⟨x2,gg⟩:=Xq (xs.getD (i*3+1) δ);obtain⟨x3,gi⟩:=Xq (xs.getD (i*3+2) δ);rw[gf,gg,gi] at ck dz ea;have gj:i<6:=by omega
   clear fy ey bm dy ez e0 fz e1 c4 dg bq hq ga gb gf gg gi dm;obtain⟨lz,e4⟩:=Xq ((ps.getD i pN).lz);have ef:=Z e4;rw[e4] at kl;clear e4;cases lz with
   | false=>
    clear ea ic;go_upto_region 21 with (fail)
    clear kl;have dn:=c8.o wr.drew (H.t (Κ wr).drew);have dp:=ck.o wr.drew (Aa hR (Κ wr).drew);refine Bq 17 [(0,Α),(1,Α),(2,Α),(3,Α),(4,Α),(5,Α),(6,Α),(7,Α),(8,Α),(9,Α),(10,Α),(11,Ε),(12,Α),(13,Α),(14,Α),(15,Α),(16,Ε),(17,Ε)] (by kernel_rfl) (by kernel_rfl) (λ_ _ _ _ h=>h)
     (λV=>V.rangeAt g6 (i*3) [v1,v2,v3]/\V.rangeAt gR (i*3) [x1,x2,x3]) ⟨dn,dp⟩ ?_
    clear dn dp;have ai:=(Κ wr).drew;obtain⟨wy,cl⟩:=Xq (wr.drew);rw[cl] at ai;rw[cl];clear cl;iterate 6
     refine Ai (v:=?_) rfl rfl (λV E=>?_) ?_
     rotate_left
     ·clear E;go_simp;first|done|with_reducible rfl
     simp only[θ,Η,Μ,Λ]
    refine Ai (v:=.agg #[v1,v2,v3]) rfl rfl (λV E=>Cj 40 (ε 73) rfl g6 (i*3) rfl _ _ E.1 Ρ rfl (Dg _ _ _)) ?_;simp only[θ,Η,Μ,Λ];iterate 3
     refine Ai (v:=?_) rfl rfl (λV E=>?_) ?_
     rotate_left
     ·clear E;go_simp;first|done|with_reducible rfl
     simp only[θ,Η,Μ,Λ]
    refine Ai (v:=.agg #[x1,x2,x3]) rfl rfl (λV E=>Cj 40 (ε 77) rfl gR (i*3) rfl _ _ E.2 Ρ rfl (Dg _ _ _)) ?_;simp only[θ,Η,Μ,Λ];refine Ao rfl (λK hK=>?_);go_simp
    (with_reducible refine (dz.o wy ai).mono ?_)
    rintro e wz ⟨cm,bc⟩;obtain⟨oa,cq,ct,k1,rfl⟩:=cm.form;have ab:=(H.t ai).trans bc;have G:=Aa hR (ai.t bc);have T:=Aa hA (ai.t bc);refine hK _ _ (λ_=>⟨c8.o wz ab,ck.o wz G⟩) ?_;have cu:=Z cm;have ca:=ar.o.ext (ai.t bc);have bh:=bp.o.ext (ai.t bc);clear hK K cm H hR hA ar bp ai bc dz;iterate 4
     refine Ai (v:=?_) rfl rfl (λV E=>?_) ?_
     rotate_left
     ·clear E;go_simp;first|done|with_reducible rfl
     simp only[θ,Η,Μ,Λ]
    have bq:=gd.o;have co:wz.cell? ⟨gA,i,J⟩=I (U J 0 0):=by rw[T.cellAt i (by omega),Θ (by omega)];have h:=bh.todo i (Υ _) (by omega);rw[Ζ,Θ (by omega)] at h;exact congrArg I h
    have fo:=T.frozenAt i;have ae:=(NilX.refl wz).set (v:=U oa cq ct) T (by decide) co (.inl rfl);obtain⟨ao,an⟩:=T.stored i (U oa cq ct);have e7:gA<=gR:=(G.lt gR rfl).1;have ad:=ab.grown an (λk e=>by injection e;omega);have ah:=G.kept an (Aj G T (by decide));have b7:=Z (ca.nilx ae);have cv:=Z ae;have dq:=ck.o _ ah;have dr:=c8.o _ ad;refine Ao rfl (λK hK=>?_);go_simp;refine hK _ _ (λ_=>⟨dr,dq⟩) ?_;clear hK K dr dq fo an G ab ca e7 ae;obtain⟨wf,b8⟩:=Xq (wz.setCell ⟨gA,i,J⟩ (U oa cq ct));rw[b8] at ao ad ah b7;rw[b8];have cw:=Z b8;clear b8;refine Ao rfl (λK hK=>?_);go_simp;refine hK _ _ (λh=>absurd h (by omega)) ?_;clear hK K;refine Bn ?_;rcases cu.o with⟨os,a1,c1,he,h1,h2,h3⟩|⟨he,e8⟩
    ·simp only[Ending.returned.injEq,Δ.tuple.injEq,Array.mk.injEq,ó,ό.injEq,ϲ.injEq,and_true,true_and] at he;obtain⟨⟨rfl,rfl,rfl⟩,rfl⟩:=he;have aq:=Kq (ds.drop (i+1)) (λd hd=>(bz.o d (List.mem_of_mem_drop hd)).1) eb.o;rw[D9 aq,<-ef.o] at h1;have cy:=bh.step (by omega) gj cv.o h3 h2 h1;rw[cw.o] at cy;have e9:=Z cy;clear cy aq h1 h2 h3 bh cv cu cw bq co T;go_wp2_with (fail);go_roundw
     case rel=>exact⟨i+1,_,_,by omega,by go_num,ad,ah,ao,b7,e9⟩
     simp[intOf]<;>omega
    simp only[Ending.returned.injEq,Δ.tuple.injEq,Array.mk.injEq,ó,ό.injEq,ϲ.injEq,and_true,true_and] at he;obtain⟨⟨rfl,rfl,rfl⟩,rfl⟩:=he;have HW:=Z (show Gp ps ds from .inr (.inl ⟨i,by rw[bf.o];exact c7,r,eb.o,by rw[ef.o];exact e8⟩));have b6:=Z (bj.o.t ad);clear ad ah ao cv cu cw bq co T bh;go_wp2_with (fail);go_ret2;exact⟨⟨ds,bw.o,.inr ⟨rfl,HW.o⟩⟩,b6.o⟩
   | true=>
    clear dz ib;go_upto_region 21 with (fail)
    clear kl;have dn:=c8.o wr.drew (H.t (Κ wr).drew);have dp:=ck.o wr.drew (Aa hR (Κ wr).drew);refine Bq 17 [(0,Α),(1,Α),(2,Α),(3,Α),(4,Α),(5,Α),(6,Α),(7,Α),(8,Α),(9,Α),(10,Α),(11,Ε),(12,Α),(13,Α),(14,Α),(15,Α),(16,Ε),(17,Ε)] (by kernel_rfl) (by kernel_rfl) (λ_ _ _ _ h=>h)
     (λV=>V.rangeAt g6 (i*3) [v1,v2,v3]/\V.rangeAt gR (i*3) [x1,x2,x3]) ⟨dn,dp⟩ ?_
    clear dn dp;have ai:=(Κ wr).drew;obtain⟨wy,cl⟩:=Xq (wr.drew);rw[cl] at ai;rw[cl];clear cl;iterate 6
     refine Ai (v:=?_) rfl rfl (λV E=>?_) ?_
     rotate_left
     ·clear E;go_simp;first|done|with_reducible rfl
     simp only[θ,Η,Μ,Λ]
    refine Ai (v:=.agg #[v1,v2,v3]) rfl rfl (λV E=>Cj 40 (ε 73) rfl g6 (i*3) rfl _ _ E.1 Ρ rfl (Dg _ _ _)) ?_;simp only[θ,Η,Μ,Λ];iterate 3
     refine Ai (v:=?_) rfl rfl (λV E=>?_) ?_
     rotate_left
     ·clear E;go_simp;first|done|with_reducible rfl
     simp only[θ,Η,Μ,Λ]
    refine Ai (v:=.agg #[x1,x2,x3]) rfl rfl (λV E=>Cj 40 (ε 77) rfl gR (i*3) rfl _ _ E.2 Ρ rfl (Dg _ _ _)) ?_;simp only[θ,Η,Μ,Λ];refine Ao rfl (λK hK=>?_);go_simp
    (with_reducible refine (ea.o wy ai).mono ?_)
    rintro e wz ⟨cm,bc⟩;obtain⟨oa,cq,ct,k1,rfl⟩:=cm.form;have ab:=(H.t ai).trans bc;have G:=Aa hR (ai.t bc);have T:=Aa hA (ai.t bc);refine hK _ _ (λ_=>⟨c8.o wz ab,ck.o wz G⟩) ?_;have cu:=Z cm;have ca:=ar.o.ext (ai.t bc);have bh:=bp.o.ext (ai.t bc);clear hK K cm H hR hA ar bp ai bc ea;iterate 4
     refine Ai (v:=?_) rfl rfl (λV E=>?_) ?_
     rotate_left
     ·clear E;go_simp;first|done|with_reducible rfl
     simp only[θ,Η,Μ,Λ]
    have bq:=gd.o;have co:wz.cell? ⟨gA,i,J⟩=I (U J 0 0):=by rw[T.cellAt i (by omega),Θ (by omega)];have h:=bh.todo i (Υ _) (by omega);rw[Ζ,Θ (by omega)] at h;exact congrArg I h
    have fo:=T.frozenAt i;have ae:=(NilX.refl wz).set (v:=U oa cq ct) T (by decide) co (.inl rfl);obtain⟨ao,an⟩:=T.stored i (U oa cq ct);have e7:gA<=gR:=(G.lt gR rfl).1;have ad:=ab.grown an (λk e=>by injection e;omega);have ah:=G.kept an (Aj G T (by decide));have b7:=Z (ca.nilx ae);have cv:=Z ae;have dq:=ck.o _ ah;have dr:=c8.o _ ad;refine Ao rfl (λK hK=>?_);go_simp;refine hK _ _ (λ_=>⟨dr,dq⟩) ?_;clear hK K dr dq fo an G ab ca e7 ae;obtain⟨wf,b8⟩:=Xq (wz.setCell ⟨gA,i,J⟩ (U oa cq ct));rw[b8] at ao ad ah b7;rw[b8];have cw:=Z b8;clear b8;refine Ao rfl (λK hK=>?_);go_simp;refine hK _ _ (λh=>absurd h (by omega)) ?_;clear hK K;refine Bn ?_;rcases cu.o with⟨os,a1,c1,he,h1,h2,h3⟩|⟨he,e8⟩
    ·simp only[Ending.returned.injEq,Δ.tuple.injEq,Array.mk.injEq,ó,ό.injEq,ϲ.injEq,and_true,true_and] at he;obtain⟨⟨rfl,rfl,rfl⟩,rfl⟩:=he;have aq:=Kq (ds.drop (i+1)) (λd hd=>(bz.o d (List.mem_of_mem_drop hd)).1) eb.o;rw[D9 aq,<-ef.o] at h1;have cy:=bh.step (by omega) gj cv.o h3 h2 h1;rw[cw.o] at cy;have e9:=Z cy;clear cy aq h1 h2 h3 bh cv cu cw bq co T;go_wp2_with (fail);go_roundw
     case rel=>exact⟨i+1,_,_,by omega,by go_num,ad,ah,ao,b7,e9⟩
     simp[intOf]<;>omega
    simp only[Ending.returned.injEq,Δ.tuple.injEq,Array.mk.injEq,ó,ό.injEq,ϲ.injEq,and_true,true_and] at he;obtain⟨⟨rfl,rfl,rfl⟩,rfl⟩:=he;have HW:=Z (show Gp ps ds from .inr (.inl ⟨i,by rw[bf.o];exact c7,r,eb.o,by rw[ef.o];exact e8⟩));have b6:=Z (bj.o.t ad);clear ad ah ao cv cu cw bq co T bh;go_wp2_with (fail);go_ret2;exact⟨⟨ds,bw.o,.inr ⟨rfl,HW.o⟩⟩,b6.o⟩
  obtain rfl:N=i:=by omega
  have gk:=OptI.all bw.o (by rw[HN.o];exact bp.o);have fa:=Z gk;have gl:=bp.o.len;have br:=Z gl;clear gk gl;obtain⟨wX,ih⟩:∃ V,V=wr:=⟨_,rfl⟩;subst ih;have bq:=hA.1;have ij:BS wX gA 0 ls:=λq hq=>by rw[br.o] at hq;refine⟨ys.getD q δ,?_,(bp.o.at_ q hq).1⟩;rw[Ϣ,hA.cellAt q (by omega),Ζ,Θ (by omega)];rfl
  have gn:=Z ij;have HE:=Z (bj.o.t H);clear H hR ar bq;go_wp2_with (fail);go_loopw [11,89] (λvc vi W=>∃ (j cn:Nat),j<=N/\cn<=257/\vi=.int Χ j/\vc=.int Χ cn/\W=wX/\Hid (cn=min (Ar (ls.take j)).length 257)/\Hid (∀ q,q<j->0<(ls.getD q []).length))
   (λ_ vi _=>N-(intOf vi).toNat)
  case atStart=>exact⟨0,1,by omega,by omega,rfl,rfl,rfl,Z rfl,Z λq hq=>by omega⟩
  obtain⟨j,cn,jm,ik,rfl,rfl,rfl,HC,gq⟩:=hrel;by_cases eg:j<N
  ·have jn:(j:Int)<(N:Int):=by omega
   obtain⟨u,hu,il⟩:=gn.o j (by rw[br.o];exact eg);rw[Ϣ] at hu;obtain⟨a,c,rfl,-⟩:=il;obtain⟨gu,-⟩:=(bp.o.at_ j eg).2.1;obtain⟨nj,fc⟩:=Xq ((ls.getD j []).length);have eh:=Z fc;rw[fc] at hu gu;clear fc;by_cases h0:nj=0
   ·subst h0;have gv:=Z (Zb ls j (by rw[br.o];exact eg) (List.length_eq_zero_iff.1 eh.o));have cz:=Z (λos (ho:os∈ls)=>by obtain⟨q,hq⟩:=Û.1 ho;obtain⟨dt,fe⟩:=hq;have h:=(bp.o.at_ q (by rw[<-br.o];exact dt)).2.1.2;rw[Ζ,Θ dt,Ç,fe] at h;exact h)
    go_wp2_with (fail);go_ret2;exact⟨⟨ds,bw.o,.inl ⟨ls,_,fa.o,cz.o,by rw[gv.o];decide,rfl,0,0,by rw[gv.o];exact CaO.nil _ _ _⟩⟩,HE.o⟩
   have jo:((nj:Int)=0)=False:=by simp;omega
   have gw:=LF (cn*nj);have im:cn*nj<=257*65536:=Nat.mul_le_mul ik gu;rw[Int.natCast_mul] at gw;have ff:=SW (ls:=ls) (q:=j) (by rw[br.o];exact eg) (by rw[eh.o];omega);rw[eh.o,<-HC.o] at ff;have ir:=Z ff;have iu:Hid (∀ q,q<j+1->0<(ls.getD q []).length):=Z λq hq=>by
    by_cases e:q=j
    ·subst e;rw[eh.o];omega
    exact gq.o q (by omega)
   clear ff;have jq:(cn:Int)*(nj:Int)<=257*65536:=by rw[<-Int.natCast_mul];omega
   have jr:(0:Int)<=(cn:Int)*(nj:Int):=by rw[<-Int.natCast_mul];omega
   have js:min ((cn:Int)*(nj:Int)) 257=((min (cn*nj) 257:Nat):Int):=by rw[<-Int.natCast_mul];omega
   clear im gw;go_wp2_with (fail);go_roundw
   case rel=>exact⟨j+1,_,by omega,Nat.min_le_right _ _,by go_num,rfl,trivial,ir,iu⟩
   simp[intOf]<;>omega
  obtain rfl:N=j:=by omega
  have gx:ls.take N=ls:=by rw[<-br.o];exact List.take_length
  have fg:=HC.o;rw[gx] at fg;have gy:=Z fg;clear fg gx;by_cases jt:256<cn
  ·have iw:(256:Int)<(cn:Int):=by omega
   have HW:=Z (show Gp ps ds from .inr (.inr ⟨ls,fa.o,by have:=gy.o;omega⟩));go_wp2_with (fail);go_ret2;exact⟨⟨ds,bw.o,.inr ⟨rfl,HW.o⟩⟩,HE.o⟩
  have iw:¬ (256:Int)<(cn:Int):=by omega
  have fh:(Ar ls).length<=256:=by have:=gy.o;omega
  have cz:=Z (λos (ho:os∈ls)=>by obtain⟨q,hq⟩:=Û.1 ho;obtain⟨dt,fe⟩:=hq;have h:=(bp.o.at_ q (by rw[<-br.o];exact dt)).2;rw[Ζ,Θ dt,Ç,fe] at h;exact í h.1.2 λo ho=>h.2.hc o ho)
  have f110:=Z (IG ls (by rw[br.o];omega) (λos c9 o ho=>⟨⟨((cz.o os c9).2 o ho).1.val,((cz.o os c9).1 o ho).1⟩,((cz.o os c9).2 o ho).2.val,((cz.o os c9).1 o ho).2⟩)
   (λj X=>μ (Y9 ls (λk hk=>gq.o k (by rw[<-br.o];exact hk)) (ls.length-j) j (by omega)) fh) gA 0 N wr gn.o)
  rw[br.o] at f110;have ix:=Z fh;clear fh;go_wp2_with (first|(go_at_call 32;(with_reducible refine f110.o.mono ?_);rintro e w9 ⟨v,rfl,gz,ha⟩;have iy:=Z gz;have iz:=Z ha;clear gz ha));go_ret2;exact⟨⟨ds,bw.o,.inl ⟨ls,v,fa.o,λos c9=>(cz.o os c9).1,ix.o,rfl,_,_,iy.o⟩⟩,HE.o.t iz.o⟩
def HdV (W:Γ) (v:Δ) (ds:List Dfa):Prop:=∃ a c,v=U a ds.length c/\∀ i,i<ds.length->∃ g h1 E G,a=I ⟨g,0,J⟩/\W.rangeAt g (i*3) [h1,E,G]/\IsD W (.agg #[h1,E,G]) (ds.getD i dN)
theorem HdV.ext {W W':Γ} {v:Δ} {ds:List Dfa} (h:HdV W v ds) (E:Ext W W'):HdV W' v ds:=by obtain⟨a,c,G,h⟩:=h;refine⟨a,c,G,λi hi=>?_⟩;obtain⟨g,h1,H,T,X,hr,hd⟩:=h i hi;exact⟨g,h1,H,T,X,λj v hj=>E.cell (hr j v hj),hd.ext E⟩
def CsV (W:Γ) (v:Δ) (cs:List (List Opt)):Prop:=∃ a c,v=U a cs.length c/\∀ i,i<cs.length->∃ g E G,a=I ⟨g,0,J⟩/\W.cell? ⟨g,i*2,J⟩=I E/\W.cell? ⟨g,i*2+1,J⟩=I G/\HdV W E ((cs.getD i []).map (·.head))/\HdV W G ((cs.getD i []).map (·.rest))
theorem CsV.ext {W W':Γ} {v:Δ} {cs:List (List Opt)} (h:CsV W v cs) (E:Ext W W'):CsV W' v cs:=by obtain⟨a,c,G,h⟩:=h;refine⟨a,c,G,λi hi=>?_⟩;obtain⟨g,H,T,X,aa,ab,h1,h2⟩:=h i hi;exact⟨g,H,T,X,E.cell aa,E.cell ab,h1.ext E,h2.ext E⟩
theorem HdO.view {W:Γ} {Bo:Nat} {v:Δ} {ds:List Dfa} (h:HdO W Bo v ds) (G:∀ d∈ds,Val d/\d.n.length<=64):HdV W v ds:=by
 obtain⟨xs,h1,H⟩:=h;obtain⟨a,c,rfl⟩:=Kt h1;refine⟨a,c,rfl,λi hi=>?_⟩;obtain⟨g,rfl⟩:=G5 h1 (by omega);have hl:=h1.1;have hx:∀ k,k<ds.length*3->W.cell? ⟨g,k,J⟩=I (xs.getD k δ):=λk T=>by rw[h1.cellAt k T,Ζ,Θ (by omega)];rfl
 obtain⟨X,e2⟩:=G _ (by rw[Ζ,Θ hi];exact ϯ hi:ds.getD i dN∈ds);refine⟨g,_,_,_,rfl,λj u E=>?_,(H i hi).isD X e2⟩
 match j,E with
 | 0,E=>injection E with E;rw[<-E];exact hx _ (by omega)
 | 1,E=>injection E with E;rw[<-E];exact hx _ (by omega)
 | 2,E=>injection E with E;rw[<-E];exact hx _ (by omega)
 | j+3,E=>simp at E
theorem CasV.view {W:Γ} {v:Δ} {cs:List (List Opt)} (h:CasV W v cs) (G:∀ c∈cs,∀ o∈c,(Val o.head/\o.head.n.length<=64)/\Val o.rest/\o.rest.n.length<=64):CsV W v cs:=by
 obtain⟨X,Bo,xs,h1,H⟩:=h;obtain⟨a,c,rfl⟩:=Kt h1;refine⟨a,c,rfl,λi hi=>?_⟩;obtain⟨g,rfl⟩:=G5 h1 (by omega);have hl:=h1.1;have hx:∀ k,k<cs.length*2->W.cell? ⟨g,k,J⟩=I (xs.getD k δ):=λk T=>by rw[h1.cellAt k T,Ζ,Θ (by omega)];rfl
 have hm:cs.getD i []∈cs:=by rw[Ζ,Θ hi];exact ϯ hi
 refine⟨g,_,_,rfl,hx _ (by omega),hx _ (by omega),(H i hi).1.view λd hd=>?_,(H i hi).2.view λd hd=>?_⟩
 ·obtain⟨o,E,rfl⟩:=Ϫ.1 hd;exact (G _ hm o E).1
 obtain⟨o,E,rfl⟩:=Ϫ.1 hd;exact (G _ hm o E).2
theorem SN {l:List (List Opt)} {P:Opt->Prop} (h:∀ os∈l,∀ o∈os,P o) {c:List Opt} (hc:c∈Ar l):∀ o∈c,P o:=λo H=>by
 obtain⟨h1,T⟩:=Nq l c hc;obtain⟨k,X,rfl⟩:=Û.1 H;have E:=T k (by omega);have G:k<l.length:=by omega
 rw[Ζ,Ζ,Θ X,Θ G] at E;exact h _ (ϯ G) _ E
theorem Sm:∀ {ps:List Pt} {l:List (List Opt)},Er ps l->∀ os∈l,∀ o∈os,Cano o.head/\Cano o.rest
 | [],l,h,os,E=>by have:l=[]:=h;subst this;cases E
 | p::ps,l,h,os,E=>by
  obtain⟨H,t,rfl,h0,G⟩:=h;rcases List.mem_cons.1 E with rfl|h1
  ·exact h0.hc
  exact Sm G os h1
def CasAns (W:Γ) (e:Ending) (ps:List PtN):Prop:=∃ ds,DsOf ps ds/\((∃ l a c,Er (pts ps ds) l/\(Ar l).length<=256/\(∀ c∈Ar l,∀ o∈c,(Cano o.head/\o.head.n.length<=64)/\Cano o.rest/\o.rest.n.length<=64)/\e=Ω (ϙ #[U a (Ar l).length c,.int Χ 0])/\CsV W (U a (Ar l).length c) (Ar l))\/(e=Ω (ϙ #[U J 0 0,.int Χ 2])/\Gp ps ds))
theorem CasOut.ans {W:Γ} {e:Ending} {ps:List PtN} (h:CasOut W e ps):CasAns W e ps:=by
 obtain⟨ds,T,⟨l,v,h1,X,h3,rfl,h5⟩|h⟩:=h
 ·have G:∀ c∈Ar l,∀ o∈c,(Cano o.head/\o.head.n.length<=64)/\Cano o.rest/\o.rest.n.length<=64:=λc hc=>SN (λos H o E=>⟨⟨(Sm h1 os H o E).1,(X os H o E).1⟩,(Sm h1 os H o E).2,(X os H o E).2⟩) hc
  have h6:=h5.view λc hc o E=>⟨⟨(G c hc o E).1.1.val,(G c hc o E).1.2⟩,(G c hc o E).2.1.val,(G c hc o E).2.2⟩
  have h7:=h6;obtain⟨a,c,rfl,_⟩:=h7;exact⟨ds,T,.inl ⟨l,a,c,h1,h3,G,rfl,h6⟩⟩
 exact⟨ds,T,.inr h⟩
theorem CasAns.form {W:Γ} {e:Ending} {ps:List PtN} (h:CasAns W e ps):∃ a n c k,e=Ω (ϙ #[U a n c,.int Χ k]):=by
 obtain⟨ds,E,⟨l,a,c,_,_,_,rfl,_⟩|⟨rfl,_⟩⟩:=h
 ·exact⟨_,_,_,_,rfl⟩
 exact⟨_,_,_,_,rfl⟩
theorem MatOut.form {W:Γ} {e:Ending} {ps:List PtN} {x:List UInt8} (h:MatOut W e ps x):∃ a n c k,e=Ω (ϙ #[U a n c,.bool k]):=by
 obtain⟨ds,G,⟨_,rfl⟩|⟨l,v,_,E,rfl⟩⟩:=h
 ·exact⟨_,_,_,_,rfl⟩
 obtain⟨a,c,rfl⟩:=Sl.len E;exact⟨_,_,_,_,rfl⟩
theorem Id:Cc [0,1]=[⟨exQ 0,Ε⟩,⟨exQ 1,Ε⟩]:=rfl
theorem Kz:Cc [10,1]=[⟨exQ 10,Α⟩,⟨exQ 1,Ε⟩]:=rfl
theorem FU {W:Γ} {e:Ending} (h:MatOut W e (Cc [0,1]) [97,97,98]):∃ v,e=Ω (ϙ #[v,.bool Α])/\SpV W v [(0,2),(2,3)]:=by
 rw[Id] at h;obtain⟨ds,G,h⟩:=h;obtain⟨d0,d1,rfl,f0,f1⟩:=Lm G;have hm:Cw (pts [⟨exQ 0,Ε⟩,⟨exQ 1,Ε⟩] [d0,d1]) [97,97,98] 0 [(0,2),(2,3)]:=FR f0 f1;rcases h with⟨h,_⟩|⟨l,v,h1,E,rfl⟩
 ·exact absurd (P5 (Nat.zero_le _) hm) (by rw[Gb (by rfl)];exact h)
 rw[P3 h1 hm] at E;exact⟨v,rfl,E⟩
theorem FT {W:Γ} {e:Ending} (h:MatOut W e (Cc [10,1]) [97,97,98]):∃ v,e=Ω (ϙ #[v,.bool Α])/\SpV W v [(0,0),(0,3)]:=by
 rw[Kz] at h;obtain⟨ds,G,h⟩:=h;obtain⟨d0,d1,rfl,f0,f1⟩:=Lm G;have hm:Cw (pts [⟨exQ 10,Α⟩,⟨exQ 1,Ε⟩] [d0,d1]) [97,97,98] 0 [(0,0),(0,3)]:=FQ f0 f1;rcases h with⟨h,_⟩|⟨l,v,h1,E,rfl⟩
 ·exact absurd (P5 (Nat.zero_le _) hm) (by rw[Gb (by rfl)];exact h)
 rw[P3 h1 hm] at E;exact⟨v,rfl,E⟩
theorem FV {W:Γ} {e:Ending} (h:MatOut W e (Cc [0,1]) [99]):e=Ω (ϙ #[U J 0 0,.bool Ε]):=by
 rw[Id] at h;obtain⟨ds,E,h⟩:=h;obtain⟨d0,d1,rfl,f0,f1⟩:=Lm E;rcases h with⟨_,h⟩|⟨l,v,h1,G,rfl⟩
 ·exact h
 have:=P5 (Nat.zero_le _) h1;rw[Gb (by rfl)] at this;exact absurd this (FS f0 f1)
structure San2 (W:Γ) (g gh gr ch cr:Nat) (h0 h1 r0 r1:Array Δ) (o0 o1:Opt):Prop where
 c0:W.cell? ⟨g,0,J⟩=I (U (I ⟨gh,0,J⟩) 2 ch)
 c1:W.cell? ⟨g,1,J⟩=I (U (I ⟨gr,0,J⟩) 2 cr)
 h0:W.rangeAt gh 0 h0.toList/\IsD W (.agg h0) o0.head/\h0.size=3
 h1:W.rangeAt gh 3 h1.toList/\IsD W (.agg h1) o1.head/\h1.size=3
 r0:W.rangeAt gr 0 r0.toList/\IsD W (.agg r0) o0.rest/\r0.size=3
 r1:W.rangeAt gr 3 r1.toList/\IsD W (.agg r1) o1.rest/\r1.size=3
theorem San2.ext {W W':Γ} {g gh gr ch cr:Nat} {h0 h1 r0 r1:Array Δ} {o0 o1:Opt} (h:San2 W g gh gr ch cr h0 h1 r0 r1 o0 o1) (E:Ext W W'):San2 W' g gh gr ch cr h0 h1 r0 r1 o0 o1 where
 c0:=E.cell h.c0
 c1:=E.cell h.c1
 h0:=⟨λj v G=>E.cell (h.h0.1 j v G),h.h0.2.1.ext E,h.h0.2.2⟩
 h1:=⟨λj v G=>E.cell (h.h1.1 j v G),h.h1.2.1.ext E,h.h1.2.2⟩
 r0:=⟨λj v G=>E.cell (h.r0.1 j v G),h.r0.2.1.ext E,h.r0.2.2⟩
 r1:=⟨λj v G=>E.cell (h.r1.1 j v G),h.r1.2.1.ext E,h.r1.2.2⟩
theorem HdV.two {W:Γ} {v:Δ} {d0 d1:Dfa} (h:HdV W v [d0,d1]):∃ g c a0 E,v=U (I ⟨g,0,J⟩) 2 c/\(W.rangeAt g 0 (a0:Array Δ).toList/\IsD W (.agg a0) d0/\a0.size=3)/\(W.rangeAt g 3 (E:Array Δ).toList/\IsD W (.agg E) d1/\E.size=3):=by
 obtain⟨a,c,rfl,h⟩:=h;obtain⟨g,G,H,T,rfl,X,hd⟩:=h 0 (by simp);obtain⟨g',y1,y2,y3,e,ae,af⟩:=h 1 (by simp);injection e with e
 injection e with e
 subst e;exact⟨g,c,#[G,H,T],#[y1,y2,y3],rfl,⟨X,hd,rfl⟩,ae,af,rfl⟩
theorem Uj {W:Γ} {v:Δ} {o0 o1:Opt} (h:CsV W v [[o0,o1]]):∃ g c gh gr ch cr h0 h1 r0 r1,v=U (I ⟨g,0,J⟩) 1 c/\San2 W g gh gr ch cr h0 h1 r0 r1 o0 o1:=by obtain⟨a,c,rfl,h⟩:=h;obtain⟨g,v1,v2,rfl,E,G,h1,H⟩:=h 0 (by simp);obtain⟨gh,ch,a0,T,rfl,k1,X⟩:=HdV.two h1;obtain⟨gr,cr,b0,b1,rfl,k3,k4⟩:=HdV.two H;exact⟨g,c,gh,gr,ch,cr,a0,T,b0,b1,rfl,E,G,k1,X,k3,k4⟩
theorem FX {W:Γ} {e:Ending} (h:CasAns W e (Cc [0,1])):∃ g c gh gr ch cr h0 h1 r0 r1 o0 o1,e=Ω (ϙ #[U (I ⟨g,0,J⟩) 1 c,.int Χ 0])/\San2 W g gh gr ch cr h0 h1 r0 r1 o0 o1/\(Cano o0.rest/\o0.rest.n.length<=64/\o0.rest.has []=Α/\o0.rest.has [98,97]=Α/\o0.rest.has [97,98]=Ε)/\Cano o1.rest/\∀ v,o1.rest.has v=Α↔v=[]:=by
 rw[Id] at h;obtain⟨ds,H,h⟩:=h;obtain⟨d0,d1,rfl,f0,f1⟩:=Lm H;rcases h with⟨l,a,c,h1,h2,E,rfl,G⟩|⟨_,h⟩
 ·obtain⟨o0,o1,e,k1,T,k3,k4⟩:=Ui f0 f1 (l:=l) h1;rw[e] at E G ⊢;obtain⟨g,X,gh,gr,ch,cr,x0,x1,y0,y1,e2,h6⟩:=Uj G;obtain⟨_,m1,m2⟩:=E _ (ϖ.2 rfl) o0 (by simp);obtain⟨_,n1,_⟩:=E _ (ϖ.2 rfl) o1 (by simp);exact⟨g,X,gh,gr,ch,cr,x0,x1,y0,y1,o0,o1,by rw[e2],h6,⟨m1,m2,k1,T,k3⟩,n1,k4⟩
 exact absurd h (Ug f0 f1 λl hl=>by obtain⟨o0,o1,e,_⟩:=Ui f0 f1 (l:=l) hl;rw[e];rfl)
theorem FW {W:Γ} {e:Ending} (h:CasAns W e (Cc [10,1])):∃ g c gh gr ch cr h0 h1 r0 r1 o0 o1,e=Ω (ϙ #[U (I ⟨g,0,J⟩) 1 c,.int Χ 0])/\San2 W g gh gr ch cr h0 h1 r0 r1 o0 o1/\Cano o0.head/\∀ v,o0.head.has v=Α↔v=[]:=by
 rw[Kz] at h;obtain⟨ds,H,h⟩:=h;obtain⟨d0,d1,rfl,f0,f1⟩:=Lm H;rcases h with⟨l,a,c,h1,h2,E,rfl,G⟩|⟨_,h⟩
 ·obtain⟨o0,o1,e,k1⟩:=Uh f0 f1 (l:=l) h1;rw[e] at E G ⊢;obtain⟨g,T,gh,gr,ch,cr,X,x1,y0,y1,e2,h6⟩:=Uj G;obtain⟨⟨m1,_⟩,_⟩:=E _ (ϖ.2 rfl) o0 (by simp);exact⟨g,T,gh,gr,ch,cr,X,x1,y0,y1,o0,o1,by rw[e2],h6,m1,k1⟩
 exact absurd h (Ug f0 f1 λl hl=>by obtain⟨o0,o1,e,_⟩:=Uh f0 f1 (l:=l) hl;rw[e];rfl)
theorem CI {P:Program} {ops:Array Oper} {rest:List Oper} {o:Oper} {a:Act} {w:Γ} {Q:Exit->Act->Γ->Prop} (E:Region.wanted o (yielded ops a.tmps)=Α) (ty:TypeId) (x:á) (G:o.op=.load ty x)
  (g:Nat) (hx:a.eval x=η (I ⟨g,0,J⟩)) (t:TypeId) (cs:Array Δ) (fr:Nat × Nat) (d:TypeDesc) (hg:w.heap[g]? = I (Β cs t fr))
  (hu:P.underlying ty=I d) (hd:(match d with|.struct _|.array _ _=>Α|_=>Ε)=Α) (hi:(P.info? ty).map (·.size)=I cs.size)
  (h:wpList P ops Q rest (a.put o.dst (.agg cs)) w):wpList P ops Q (o::rest) a w:=
 wpList_step λK hK=>by rw[if_pos E];exact wp_load_row ty x G g hx t cs fr d hg hu hd hi (hK _ _ h)
theorem By.w {W:Γ} {v:Δ} {l:List UInt8} (h:By W v l):ByW W v l:=by
 obtain⟨h1,E⟩:=h;refine⟨by omega,?_⟩;rcases E with E|⟨G,b,o,c,H,T,X⟩
 ·exact .inl E
 exact .inr ⟨G,b,o,c,H,T,λi hi=>X i (by omega)⟩
theorem Wt (l:List UInt8) (X:l.length<=62) (fr:Nat × Nat) (W:Γ) (C:Array Δ) (E:C=(l.map bv).toArray) (n m:Nat) (G:n=l.length) (hm:(Cc l).length=m) :
  Ϟ Ι 10 #[U (I ⟨W.heap.size,0,J⟩) n n] (W.alloc (Β C 5 fr)) λe w'=>∃ g c,e=Ω (U (I ⟨g,0,J⟩) m c)/\PatAt w' g 0 (Cc l)/\Ext W w':=by
 subst E G hm;exact (Ws l _ _ (R6 W l fr (by omega)).w).mono λe w' ⟨g,c,h1,H,T⟩=>⟨g,c,h1,H,((Κ W).alloc _).trans T⟩
theorem P1 (p:List UInt8) (m:Nat) (hm:(Cc p).length=m) (g c:Nat) (l:List UInt8) (hl:l.length<=62) (fr:Nat × Nat) (W:Γ) (H:Tab W) (G:0<W.heap.size) (h:PatAt W g 0 (Cc p)) (C:Array Δ) (T:C=(l.map bv).toArray) (n:Nat) (X:n=l.length) :
  Ϟ Ι 21 #[U (I ⟨g,0,J⟩) m c,U (I ⟨W.heap.size,0,J⟩) n n] (W.alloc (Β C 5 fr)) λe w'=>MatOut w' e (Cc p) l/\Ext W w':=by
 subst T X hm;have E:=(Κ W).alloc (Β (l.map bv).toArray 5 fr);exact (Wn _ (M5 p) l (by omega) g 0 c _ _ (H.below E.below G) (Ξ G E.size) (h.ext E) (R6 W l fr (by omega))).mono λe w' ⟨h1,h2⟩=>⟨h1,E.t h2⟩
theorem Z1 (p:List UInt8) (m:Nat) (hm:(Cc p).length=m) (g c:Nat) (W:Γ) (E:Tab W) (G:0<W.heap.size) (h:PatAt W g 0 (Cc p)) :
  Ϟ Ι 11 #[U (I ⟨g,0,J⟩) m c] W λe w'=>CasAns w' e (Cc p)/\Ext W w':=by
 subst hm;exact (Z0 _ (M5 p) g 0 c W E G h).mono λe w' ⟨h1,H⟩=>⟨h1.ans,H⟩
theorem BL (d:Dfa) (H:Val d) (T:d.n.length<=64) (v:Δ) (l:List UInt8) (hl:l.length<=62) (b:Bool) (hb:d.has l=b) (fr:Nat × Nat) (W:Γ) (X:Tab W) (G:0<W.heap.size) (h:IsD W v d) (C:Array Δ) (hC:C=(l.map bv).toArray) (n:Nat) (hn:n=l.length) :
  Ϟ Ι 24 #[v,U (I ⟨W.heap.size,0,J⟩) n n] (W.alloc (Β C 5 fr)) λe w'=>e=Ω (.bool b)/\Ext W w':=by
 subst hC hn hb;have E:=(Κ W).alloc (Β (l.map bv).toArray 5 fr);exact (N8 d H T v l _ _ (X.below E.below G) (Ξ G E.size) (h.ext E) (R6 W l fr (by omega))).mono λe w' ⟨h1,h2⟩=>⟨h1,E.t h2⟩
theorem CK (W:Γ):Ϟ Ι 16 #[U J 0 0] W λe w'=>∃ d v,e=Ω (ϙ #[v,.int Χ 0])/\IsD w' v d/\Cano d/\(∀ u,d.has u=Α↔u=[])/\Ext W w':=
 (Ma [] (by decide) _ W (Sl.nil _ _ _)).mono λe w' ⟨d,⟨v,h1,E⟩,G,H,T⟩=>⟨d,v,h1,E,G,H,T⟩
theorem Z2 {a b:Dfa} (E:Cano a) (hb:Cano b) {l:List UInt8} (h1:∀ v,a.has v=Α↔v=l) (G:∀ v,b.has v=Α↔v=l):a=b:=Ip E hb h1 G
theorem ND (ρ:á->Δ) (o:Oper) (W:Γ) (x:á) (b k:Nat) (v:Δ) (hc:W.cell? ⟨b,k,J⟩=I v) (E:o.op=.load 31 x) (hx:ρ x=η (I ⟨b,k,J⟩)):(ö ρ o).run Ι W=.ok (.value v) W:=by unfold ö;simp only[E,hx];go_simp
def Xe {w:Γ} (x:á) (b k:Nat) (v:Δ) (hc:∀ W,Ext w W->W.cell? ⟨b,k,J⟩=I v):Sc Ι w:=
 .gen (.load 31 x) [.c (η (I ⟨b,k,J⟩))] (.c v) (AV.mono_c _) λρ o W E G H=>⟨_,ND ρ o W x b k v (hc W G) E (Pv H),rfl⟩
theorem NC (ρ:á->Δ) (op:Oper) (W:Γ) (x:á) (b k:Nat) (A:Array Δ) (E:A.size=3) (hc:W.rangeAt b k A.toList) (G:op.op=.load 40 x) (hx:ρ x=η (I ⟨b,k,J⟩)):(ö ρ op).run Ι W=.ok (.value (.agg A)) W:=by unfold ö;simp only[G,hx,Instr.loadAt,Instr.sureAddr,Sem.run_bind,Sem.run_pure,Result.andThen_ok,run_loadVar_mid W b k 40 A.toList _ hc Ρ rfl (by rw[Array.length_toList,E];kernel_rfl)]
def ldR {w:Γ} (x:á) (b k:Nat) (A:Array Δ) (E:A.size=3) (hc:∀ W,Ext w W->W.rangeAt b k A.toList):Sc Ι w:=
 .gen (.load 40 x) [.c (η (I ⟨b,k,J⟩))] (.c (.agg A)) (AV.mono_c _) λρ o W G H T=>⟨_,NC ρ o W x b k A E (hc W H) G (Pv T),rfl⟩
theorem FC (W:Γ) (E G H T:Nat):SpV (W.alloc (Β #[iv E,iv G,iv H,iv T] 60)) (U (I ⟨W.heap.size,0,J⟩) 2 2) [(E,G),(H,T)]:=by
 refine⟨by simp,.inr ⟨by simp,W.heap.size,0,2,rfl,by rw[Γ.size_alloc];omega,λi hi=>?_⟩⟩;have hi:i<4:=hi;rw[Ϣ,cell_of_row _ _ _ _ _ _ (Ad W _)]
 match i,hi with
 | 0,_=>rfl
 | 1,_=>rfl
 | 2,_=>rfl
 | 3,_=>rfl
theorem T3 (E G H T:Nat) (v:Δ) (W:Γ) (h:SpV W v [(E,G),(H,T)]) (C:Array Δ) (hC:C=#[iv E,iv G,iv H,iv T]) :
  Ϟ Ι 25 #[v,U (I ⟨W.heap.size,0,J⟩) 2 2] (W.alloc (Β C 60)) λe w'=>e=Ω (.bool Α)/\Ext W w':=by
 subst hC;have X:=(Κ W).alloc (Β #[iv E,iv G,iv H,iv T] 60);exact (FY _ _ _ _ _ (SpV.ext h X) (FC W E G H T)).mono λe w' ⟨h1,h2⟩=>⟨by rw[h1,decide_eq_true rfl],X.t h2⟩
theorem FP (w:Γ) (hT:Tab w) (bp:0<w.heap.size) :
  Ϟ Ι 9 #[] w λe w'=>e=Ω (.bool Α)/\Ext w w':=by
 have ao:=Z (λW (E:Ext w W)=>hT.below E.below bp);have aq:=Z (λW (E:Ext w W)=>Ξ bp E.size);have kc:=λ(w:Γ) (C:Array Δ) (n c:Nat)=>Lib.run_convert_bytes_const (P:=Ι) w 22 5 C n c Tryz.underlying22 Tryz.underlying5
 have f51:=Z (Wt [0,1] (by decide) (0,0) w #[.int .u8 0,.int .u8 1] rfl 2 2 rfl (by rw[Id];rfl));clear hT bp;go_enter Tryz.func9,Tryz.ntmps9;go_upto_region 2 with (go_at_call 10;(with_reducible refine f51.o.mono ?_);rintro e w1 ⟨gp,cp,rfl,ba,H⟩)
 have T:=Z ba;clear ba f51;have f51:=Z (Wt [10,1] (by decide) (0,0) w1 #[.int .u8 10,.int .u8 1] rfl 2 2 rfl (by rw[Kz];rfl));go_upto_region 3 with (go_at_call 10;(with_reducible refine f51.o.mono ?_);rintro e w2 ⟨gq,cq,rfl,ba,G⟩)
 have ai:=Z ba;replace T:=Z (T.o.ext G);replace H:=H.t G;clear ba f51 G;have f56:=Z (P1 [0,1] 2 (by rw[Id];rfl) gp cp [97,97,98] (by decide) (3,4) w2 (ao.o w2 H) (aq.o w2 H) T.o #[.int .u8 97,.int .u8 97,.int .u8 98] rfl 3 rfl);go_upto_region 4 with (go_at_call 21;(with_reducible refine f56.o.mono ?_);rintro e w3 ⟨hm,G⟩;obtain⟨v3,rfl,hs⟩:=FU hm;obtain⟨a3,c3,rfl⟩:=Sl.len hs;have ae:=Z (show SpV w3 (U a3 2 c3) _ from hs);clear hs hm)
 replace T:=Z (T.o.ext G);replace ai:=Z (ai.o.ext G);replace H:=H.t G;clear f56 G;have f56:=Z (P1 [10,1] 2 (by rw[Kz];rfl) gq cq [97,97,98] (by decide) (3,4) w3 (ao.o w3 H) (aq.o w3 H) ai.o #[.int .u8 97,.int .u8 97,.int .u8 98] rfl 3 rfl);go_upto_region 5 with (go_at_call 21;(with_reducible refine f56.o.mono ?_);rintro e w4 ⟨hm,G⟩;obtain⟨v4,rfl,hs⟩:=FT hm;obtain⟨a4,c4,rfl⟩:=Sl.len hs;have ag:=Z (show SpV w4 (U a4 2 c4) _ from hs);clear hs hm)
 replace T:=Z (T.o.ext G);replace ai:=Z (ai.o.ext G);replace ae:=Z (ae.o.ext G);replace H:=H.t G;clear f56 G;have f56:=Z (P1 [0,1] 2 (by rw[Id];rfl) gp cp [99] (by decide) (1,2) w4 (ao.o w4 H) (aq.o w4 H) T.o #[.int .u8 99] rfl 1 rfl);go_upto_region 6 with (go_at_call 21;(with_reducible refine f56.o.mono ?_);rintro e w5 ⟨hm,G⟩;obtain rfl:=FV hm;clear hm)
 replace T:=Z (T.o.ext G);replace ai:=Z (ai.o.ext G);replace ae:=Z (ae.o.ext G);replace ag:=Z (ag.o.ext G);replace H:=H.t G;clear f56 G;have f52:=Z (Z1 [0,1] 2 (by rw[Id];rfl) gp cp w5 (ao.o w5 H) (aq.o w5 H) T.o);go_upto_region 7 with (go_at_call 11;(with_reducible refine f52.o.mono ?_);rintro e w6 ⟨hm,G⟩;obtain⟨g1,k1,ec,bw,ed,de,x0,x1,y0,y1,o0,o1,rfl,bb,bc,cf⟩:=FX hm;have X:=Z bb;have ar:=Z bc;have cg:=Z cf;clear hm bb bc cf)
 replace T:=Z (T.o.ext G);replace ai:=Z (ai.o.ext G);replace ae:=Z (ae.o.ext G);replace ag:=Z (ag.o.ext G);replace H:=H.t G;clear f52 G;have f52:=Z (Z1 [10,1] 2 (by rw[Kz];rfl) gq cq w6 (ao.o w6 H) (aq.o w6 H) ai.o);go_upto_region 8 with (go_at_call 11;(with_reducible refine f52.o.mono ?_);rintro e w7 ⟨hm,G⟩;obtain⟨g2,k2,cj,eh,dh,ei,X0,X1,Y0,Y1,p0,p1,rfl,bb,bc⟩:=FW hm;have aj:=Z bb;have ck:=Z bc;clear hm bb bc)
 replace T:=Z (T.o.ext G);replace ae:=Z (ae.o.ext G);replace ag:=Z (ag.o.ext G);replace X:=Z (X.o.ext G);replace H:=H.t G;clear f52 G ai;have c1:=X.o.c0;have c2:=X.o.c1;have c3:=aj.o.c0;go_upto_region 10 with (fail)
 clear c1 c2 c3;have f54:=Z (CK w7);go_upto_region 11 with (first
  | (go_at_call 16;(with_reducible refine f54.o.mono ?_);rintro e w8 ⟨d,v,rfl,hD,cl,cm,G⟩;obtain⟨ac,lc,cc,an,cn,aa,la,ca,rfl⟩:=hD.agg)
  | (refine Sr 40 (ε 13) (ε 95) rfl (Ad w8 _) Ae rfl (Aw _ _ _ rfl rfl rfl) ?_))
 clear f54;obtain⟨af,ak,aw⟩:=Y8 hD;obtain⟨V,hV⟩:=Xq (dA (U ac lc cc) (U an d.n.length cn) (U aa la ca));have ct:(Ι.info? 40).map (·.size)=I V.size:=by rw[<-hV];exact Ae
 rw[hV] at af ak aw;rw[hV];obtain⟨w9,hw⟩:=Xq ((w8.alloc (Β #[U J 0 0,U J 0 0,U J 0 0] 40)).setRow w8.heap.size V);rw[hw] at af ak aw;simp only[hw];obtain⟨gv,hg⟩:=Xq (w8.heap.size);rw[hg] at ak;rw[hg];replace G:=G.t af;have HX:=Z ak;have HD:=Z aw;have bn:=Z (í cl cm);replace T:=Z (T.o.ext G);replace ae:=Z (ae.o.ext G);replace ag:=Z (ag.o.ext G);replace X:=Z (X.o.ext G);replace aj:=Z (aj.o.ext G);replace H:=H.t G;clear hD af ak aw hV hw hg G cl cm;have c2:=X.o.c1;have hr:=X.o.r0.1;have bo:=X.o.r0.2.2;have cv:(Ι.info? 40).map (·.size)=I y0.toList.length:=by rw[Array.length_toList,bo];kernel_rfl
 have cw:(Ι.info? 40).map (·.size)=I y0.size:=by rw[bo];kernel_rfl
 have cy:y0.all (·.oneCell')=Α:=by
  obtain⟨_,_,_,_,_,_,_,_,b5⟩:=X.o.r0.2.1.agg;injection b5 with b5
  rw[b5];exact Aw _ _ _ rfl rfl rfl
 go_upto_region 12 with (first
  | (refine wpList_load_mid rfl 40 (ε 101) rfl bw 0 rfl _ _ hr Ρ rfl cv ?_)
  | (refine Sr 40 (ε 15) (ε 102) rfl (Ad w9 _) cw bo.symm cy ?_))
 clear cv c2 hr;obtain⟨af,ak,aw⟩:=Y8 X.o.r0.2.1;obtain⟨wB,hw⟩:=Xq ((w9.alloc (Β #[U J 0 0,U J 0 0,U J 0 0] 40)).setRow w9.heap.size y0);rw[hw] at af ak aw;simp only[hw];obtain⟨gb,hg⟩:=Xq (w9.heap.size);rw[hg] at ak;rw[hg];have a6:=Z ak;have b6:=Z aw;replace T:=Z (T.o.ext af);replace ae:=Z (ae.o.ext af);replace ag:=Z (ag.o.ext af);replace X:=Z (X.o.ext af);replace aj:=Z (aj.o.ext af);replace HX:=Z (af.heap HX.o);replace HD:=Z (HD.o.ext af);replace H:=H.t af;clear af ak aw hw hg bo cy;have ab:=Κ wB;have cz:=λW (E:Ext wB W)=>Z (show Ϟ Ι 24 #[.agg y0,U J 0 0] W λe w'=>e=Ω (.bool Α)/\Ext W w' from (N8 _ ar.o.1.val ar.o.2.1 (.agg y0) [] (U J 0 0) W (ao.o W (H.t E)) (aq.o W (H.t E)) (b6.o.ext E) (Sl.nil _ _ _)).mono λe w' ⟨h1,h2⟩=>⟨by rw[h1,ar.o.2.2.1],h2⟩)
 have c5:=λW (E:Ext wB W)=>Z (BL _ ar.o.1.val ar.o.2.1 (.agg y0) [98,97] (by decide) Α ar.o.2.2.2.1 (2,3) W (ao.o W (H.t E)) (aq.o W (H.t E)) (b6.o.ext E) #[.int .u8 98,.int .u8 97] rfl 2 rfl)
 have c6:=λW (E:Ext wB W)=>Z (BL _ ar.o.1.val ar.o.2.1 (.agg y0) [97,98] (by decide) Ε ar.o.2.2.2.2 (2,3) W (ao.o W (H.t E)) (aq.o W (H.t E)) (b6.o.ext E) #[.int .u8 97,.int .u8 98] rfl 2 rfl)
 go_upto_region 13 with (first
  | (refine CI rfl 40 (ε 15) rfl _ rfl _ _ _ _ a6.o Ρ rfl cw ?_)
  | (go_at_call 24;(with_reducible refine (cz _ ab).o.mono ?_);rintro e wA ⟨rfl,ad⟩;have ab:=ab.t ad;have a6:=Z (ad.heap a6.o);clear ad cz)
  | (go_at_call 24;(with_reducible refine (c5 _ ab).o.mono ?_);rintro e wA ⟨rfl,ad⟩;have ab:=ab.t ad;have a6:=Z (ad.heap a6.o);clear ad c5)
  | (go_at_call 24;(with_reducible refine (c6 _ ab).o.mono ?_);rintro e wA ⟨rfl,ad⟩;have ab:=ab.t ad;have a6:=Z (ad.heap a6.o);clear ad c6))
 replace T:=Z (T.o.ext ab);replace ae:=Z (ae.o.ext ab);replace ag:=Z (ag.o.ext ab);replace X:=Z (X.o.ext ab);replace aj:=Z (aj.o.ext ab);replace HX:=Z (ab.heap HX.o);replace HD:=Z (HD.o.ext ab);replace H:=H.t ab;clear ab;have c7:=λW (E:Ext wA W)=>Z (T3 0 2 2 3 _ W (ae.o.ext E) #[.int Χ 0,.int Χ 2,.int Χ 2,.int Χ 3] rfl)
 have c8:=λW (E:Ext wA W)=>Z (T3 0 0 0 3 _ W (ag.o.ext E) #[.int Χ 0,.int Χ 0,.int Χ 0,.int Χ 3] rfl)
 have ah:=Κ wA;go_upto_region 14 with (first
  | (go_at_call 25;(with_reducible refine (c7 _ ah).o.mono ?_);rintro e wB ⟨rfl,ad⟩;have ah:=ah.t ad;clear ad c7)
  | (go_at_call 25;(with_reducible refine (c8 _ ah).o.mono ?_);rintro e wC ⟨rfl,ad⟩;have ah:=ah.t ad;clear ad c8))
 replace T:=Z (T.o.ext ah);replace X:=Z (X.o.ext ah);replace aj:=Z (aj.o.ext ah);replace HX:=Z (ah.heap HX.o);replace HD:=Z (HD.o.ext ah);replace H:=H.t ah;clear ah;have c9:Enters Ι 26:=enters_of Tryz.func26 (by kernel_rfl) rfl;have b7:=λW (E:Ext wC W)=>X.o.ext E
 have b8:=λW (E:Ext wC W)=>aj.o.ext E
 have du:∀ W,Ext wC W->Ϟ Ι 14 [.agg y1,.agg V].toArray W λe w'=>e=Ω (.bool Α)/\Ext W w':=λW E=>(Uk _ _ _ _ W (b7 W E).r1.2.1 (HD.o.ext E)).mono λe w' ⟨h1,h2⟩=>⟨by rw[h1,decide_eq_true (Z2 cg.o.1 bn.o.1 cg.o.2 bn.o.2)],h2⟩
 have dv:∀ W,Ext wC W->Ϟ Ι 14 [.agg X0,.agg V].toArray W λe w'=>e=Ω (.bool Α)/\Ext W w':=λW E=>(Uk _ _ _ _ W (b8 W E).h0.2.1 (HD.o.ext E)).mono λe w' ⟨h1,h2⟩=>⟨by rw[h1,decide_eq_true (Z2 ck.o.1 bn.o.1 ck.o.2 bn.o.2)],h2⟩
 have f104:∀ W,Ext wC W->Ϟ Ι 26 [U (I ⟨gp,0,J⟩) 2 cp].toArray W λe w'=>e=Ω (.int Χ 0)/\Ext W w':=λW E=>CV (Cc [0,1]) (M5 _) gp 0 cp W (ao.o W (H.t E)) (aq.o W (H.t E)) (T.o.ext E)
 refine CH 177 Α 0 (.bool Α) [.keep,.keep,.keep,.pure,.keep,.keep,.pure,.pure,.keep,.keep,.pure,.pure,Xe (ε 151) g1 1 (U (I ⟨bw,0,J⟩) 2 de) (λW E=>(b7 W E).c1),.pure,ldR (ε 153) bw 3 y1 X.o.r1.2.2 (λW E=>(b7 W E).r1.1),ldA HX.o ct,Nz 14 Yy [.agg y1,.agg V] _ λW E=>du W E,.pure,.keep,.keep,.pure,.pure,Xe (ε 161) g2 0 (U (I ⟨cj,0,J⟩) 2 dh) (λW E=>(b8 W E).c0),.pure,ldR (ε 163) cj 0 X0 aj.o.h0.2.2 (λW E=>(b8 W E).h0.1),ldA HX.o ct,Nz 14 Yy [.agg X0,.agg V] _ λW E=>dv W E,.pure,.keep,Nz 26 c9 [U J 0 0] _ λW E=>CW W,.pure,.pure,.keep,.keep,Nz 26 c9 [U (I ⟨gp,0,J⟩) 2 cp] _ λW E=>f104 W E,.pure,.pure,.keep] (λ_=>rfl) (by kernel_rfl) rfl rfl (λW=>by kernel_rfl) (by kernel_rfl) ?_;intro a' W' dw dx ht;go_wp2;refine bodyPost_ret (results_tmp rfl _ _ _) dx ?_;rw[ht];exact⟨rfl,H.t dw⟩
theorem LT (l:List UInt8) (v:Δ) (w:Γ) (E:ByW w v l):Ϟ Ι 10 #[v] w λe w'=>∃ ps g c,e=Ω (U (I ⟨g,0,J⟩) ps.length c)/\PatOk ps/\ps.length<=3/\PatAt w' g 0 ps/\Ext w w':=
 (Ws l v w E).mono λe w' ⟨g,c,h1,G,H⟩=>⟨_,g,c,h1,M5 l,(Wu l).2,G,H⟩
theorem MatOut.cases {W:Γ} {e:Ending} {ps:List PtN} {x:List UInt8} (H:PatOk ps) (h:MatOut W e ps x):∃ ds,DsOf ps ds/\((¬ Bv ds x/\e=Ω (ϙ #[U J 0 0,.bool Ε]))\/∃ l b o c,Cw (pts ps ds) x 0 l/\l.length=ps.length/\(∀ i,i<ps.length->W.cell? ⟨b,o+i*2,J⟩=I (iv (l.getD i (0,0)).1)/\W.cell? ⟨b,o+i*2+1,J⟩=I (iv (l.getD i (0,0)).2))/\e=Ω (ϙ #[U (I ⟨b,o,J⟩) ps.length c,.bool Α])):=by
 obtain⟨ds,G,h|⟨l,v,h1,T,rfl⟩⟩:=h
 ·exact⟨ds,G,.inl h⟩
 have E:=(SA H G h1).1;obtain⟨b,o,c,rfl,hc⟩:=Ü T (by rw[E];exact H.pos);refine⟨ds,G,.inr ⟨l,b,o,c,h1,E,λi hi=>⟨?_,?_⟩,by rw[E]⟩⟩
 ·rw[hc _ (by rw[E];omega),Oy]
 rw[Nat.add_assoc,hc _ (by rw[E];omega),Ox]
end Go.Proofs.YtilncahcpjlfnaaGreatDoor
