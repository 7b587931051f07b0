import Derived.Test.YtilncahcpjlfnaaGreatDoorN11
import Derived.Test.YtilncahcpjlfnaaGreatDoorN02
import Derived.Test.YtilncahcpjlfnaaGreatDoorN07
import Derived.Test.YtilncahcpjlfnaaGreatDoorN10
import Derived.Test.YtilncahcpjlfnaaGreatDoorN08
import Derived.Test.YtilncahcpjlfnaaGreatDoorN09
set_option linter.unusedVariables false
set_option linter.unusedSimpArgs false
set_option maxRecDepth 100000
set_option maxHeartbeats 8000000
open And renaming intro → í
open BitVec renaming getLsbD_zero → ï
open Bool renaming true → Α, false → Ε
open Go renaming Value → Δ, World → Γ, undef → δ, Calls → Ϟ, info_parts → ϑ, maxLen → ϐ, wpList_load_mid → é, setRow_heap → Φ, size_setRow → ì, cell_of_row → Τ, wpList_append_lies → ϕ, heap_alloc2_new → ύ, cell_one_new → Õ, frozen_of_row → Â, setCell_eq_setRow → ϧ, bodyPost_ret → ω, Program → Ö, wpQuiet_step → Á, wpQuiet_nil → Ë
open Go.Act renaming put → θ
open Go.Ending renaming returned → Ω
open Go.IntKind renaming i64 → Χ, i64 → å, u64 → γ
open Go.Lib renaming hid → Z
open Go.Obj renaming cells → Β
open Go.Operand renaming tmp → ε
open Go.Proofs.Tryz renaming prog → Ι, underlying40 → Ρ, underlying134 → ø
open Go.RowKit renaming Hid → ϟ
open Go.Value renaming slice → U, pointer → η, slice → ό, oneCell' → ξ, int → ϲ, tuple → ϙ, bool → ψ
open Go.World renaming ownsRow_lit → Ê, size_alloc → Ο, ownsRow_nil → ϰ, ownsRow → ϣ
open List renaming length_eq_zero_iff → ϵ, getElem?_eq_some_iff → ν, getD_eq_getElem?_getD → Ζ, getElem?_eq_getElem → Θ, length_append → Ν, length_map → ι, length_take → Ï, getElem_mem → ϯ, map_append → ϥ, drop_succ_cons → ϸ, drop_zero → À, getElem?_toArray → Ϸ, getElem?_cons_zero → Ϻ, getElem?_cons_succ → ϻ, setIfInBounds_toArray → Η, set_cons_zero → Μ, set_cons_succ → Λ, take_of_length_le → Ø, getElem?_append_left → ϊ, getElem?_append_right → χ, getElem?_eq_none → û, length_set → ο, getElem?_map → υ, take_succ_cons → î, replicate → ζ, drop_eq_getElem_cons → ϱ
open List.cons renaming injEq → ó
open Nat renaming le_refl → Υ, le_trans → μ, lt_of_lt_of_le → Ξ, pow_le_pow_right → ϳ, le_of_eq → Ñ
open Ne renaming symm → þ
open Option renaming some → I, none → J, bind_some → ò, getD_some → Ç, isSome → æ
open Option.some renaming inj → ϓ
open UInt8 renaming ofNat → ϔ
namespace Go.Proofs.YtilncahcpjlfnaaGreatDoor
open Go.RowKit Go.Shelf
theorem UF:Ι.built 33 []=I #[U J 0 0,U J 0 0]:=by kernel_rfl
theorem UG (a E:Option Addr) (n c G H:Nat):Ι.built 33 [(0,U a n c),(1,U E G H)]=I #[U a n c,U E G H]:=by kernel_rfl
theorem Qm:(Ι.info? 33).map (·.size)=I 2:=by kernel_rfl
theorem OI (E G:Δ):(Ι.info? 33).map (·.size)=I [E,G].length:=by kernel_rfl
theorem OJ:(Ι.info? 33).map (λi=>(i.zero,i.size,i.bytes))=I (I (.agg #[U J 0 0,U J 0 0]),2,48):=by kernel_rfl
theorem X2:(Ι.info? 40).map (λi=>(i.zero,i.size,i.bytes))=I (I (.agg #[U J 0 0,U J 0 0,U J 0 0]),3,72):=by kernel_rfl
theorem ON (E G H T X v6 v7:Δ):(Ι.info? 141).map (·.size)=I [E,G,H,T,X,v6,v7].length:=by kernel_rfl
theorem OM:(Ι.info? 141).map (·.size)=I 7:=by kernel_rfl
theorem Vs {W:Γ} {base e size n c:Nat} {a:Option Addr} {xs:List Δ} (h:W.ownsRow base e size (U a n c) n xs):(∀ G,a=I G->∀ j v,xs[j]? = I v->W.cell? (G.add j)=I v)/\(a=J->xs=[]):=by
 have H:xs.length=n*size:=h.1;have X:=h;rcases h.2 with⟨E,h0⟩|⟨g,aa,cur,E,_⟩
 ·injection E with E _ _
  subst E;refine⟨λG e=>(by cases e),λ_=>?_⟩;first
   | exact h0
   | (rw[h0,Nat.zero_mul] at H;exact ϵ.1 H)
 injection E with E _ hc
 subst E hc;refine⟨λG e j v T=>?_,λe=>(by cases e)⟩;injection e with e
 rw[<-e,J4,Nat.zero_add,X.cellAt j (by rw[<-H];exact (ν.1 T).1)];exact T
theorem Yb {W:Γ} {Bo:Nat} {xs:List Δ} {ds:List Dfa} (T:xs.length=ds.length*3) (h:∀ i,i<ds.length->OwnD W Bo (.agg #[xs.getD (i*3) δ,xs.getD (i*3+1) δ,xs.getD (i*3+2) δ]) (ds.getD i dN)):∀ v∈xs,v.oneCell'=Α:=λv H=>by
 obtain⟨j,X,rfl⟩:=List.mem_iff_getElem.1 H;obtain⟨A,E,_,h1⟩:=(h (j / 3) (by omega)).agg;injection E with E
 rw[<-E] at h1;have hg:∀ k (G:k<xs.length),xs.getD k δ=xs[k]:=λk G=>by rw[Ζ,Θ G];rfl
 simp only[List.all_toArray,List.all_cons,List.all_nil,Bool.and_true,Bool.and_eq_true] at h1;have hm:j % 3=0\/j % 3=1\/j % 3=2:=by omega
 rcases hm with hm|hm|hm
 ·have:=h1.1;rw[hg _ (by omega)] at this
  simpa [show j / 3*3=j by omega] using this
 ·have:=h1.2.1;rw[hg _ (by omega)] at this
  simpa [show j / 3*3+1=j by omega] using this
 have:=h1.2.2;rw[hg _ (by omega)] at this
 simpa [show j / 3*3+2=j by omega] using this
def Rm (G k:Nat):Nat->Δ->Γ->Prop
 | 0,v,_=>v=iv k
 | 1,v,_=>v=iv (k+1)
 | 2,v,W=>∃ g,v=U (I ⟨g,0,J⟩) (k+1) (k+1)/\∃ E,W.ownsRow G 40 3 v (k+1) E
 | 3,v,_=>v=iv k
 | 4,v,_=>v=iv (k+1)
 | 5,v,W=>∃ g,v=U (I ⟨g,0,J⟩) (k+1) (k+1)/\∃ E,W.ownsRow G 40 3 v (k+1) E
 | 6,v,W=>∃ H T,H≠T/\v=.agg #[U (I ⟨H,0,J⟩) (k+1) (k+1),U (I ⟨T,0,J⟩) (k+1) (k+1)]/\(∃ E,W.ownsRow G 40 3 (U (I ⟨H,0,J⟩) (k+1) (k+1)) (k+1) E)/\∃ E,W.ownsRow G 40 3 (U (I ⟨T,0,J⟩) (k+1) (k+1)) (k+1) E
 | _,v,W=>∃ g,v=η (I ⟨g,0,J⟩)/\W.heap[g]? = I (Β #[U J 0 0,U J 0 0] 33 (0,0))/\G<=g
theorem SP (X k:Nat):∀ (i:Nat) (v:Δ) (w w':Γ),Rm X k i v w->Ext w w'->Rm X k i v w'
 | 0,_,_,_,h,_=>h
 | 1,_,_,_,h,_=>h
 | 2,_,_,_,⟨g,h1,H,G⟩,E=>⟨g,h1,H,Aa G E⟩
 | 3,_,_,_,h,_=>h
 | 4,_,_,_,h,_=>h
 | 5,_,_,_,⟨g,h1,H,G⟩,E=>⟨g,h1,H,Aa G E⟩
 | 6,_,_,_,⟨g1,g2,ad,h1,⟨H,G⟩,⟨ae,T⟩⟩,E=>⟨g1,g2,ad,h1,⟨H,Aa G E⟩,⟨ae,Aa T E⟩⟩
 | _+7,_,_,_,⟨g,h1,G,T⟩,E=>⟨g,h1,E.heap G,T⟩
def Rl (i j:Nat) (v u:Δ):Prop:=(i=2/\j=5\/i=5/\j=2)->v≠u
theorem SO (i j:Nat) (v u:Δ) (h:Rl i j v u):Rl j i u v:=λE=>(h (by omega)).symm
def Fs (cs:List (List Opt)) (os:List Opt):List (List Opt):=cs.flatMap λc=>os.map λo=>c++[o]
theorem SJ (cs:List (List Opt)) (c:List Opt) (os:List Opt):Fs (cs++[c]) os=Fs cs os++os.map λo=>c++[o]:=by unfold Fs;rw[List.flatMap_append];simp
theorem SK (cs:List (List Opt)) (os:List Opt):(Fs cs os).length=cs.length*os.length:=by
 unfold Fs;induction cs with
 | nil=>simp
 | cons c cs E=>rw[List.flatMap_cons,Ν,E,ι,List.length_cons,Nat.succ_mul,Nat.add_comm]
theorem Kt {W:Γ} {base e size n:Nat} {v:Δ} {xs:List Δ} (h:W.ownsRow base e size v n xs):∃ a c,v=U a n c:=by
 rcases h.2 with⟨E,h0⟩|⟨g,T,cur,E,_⟩
 ·have G:=h.1;subst E;have H:n=0:=by
   first
    | exact h0
    | (subst h0;rw[List.length_nil] at G;rcases Nat.mul_eq_zero.1 G.symm with h|h<;>omega)
  rw[H];exact⟨_,_,rfl⟩
 exact⟨_,_,E⟩
theorem IG (L:List (List Opt)) (l8:L.length<=6) (iz:∀ os∈L,∀ o∈os,(Val o.head/\o.head.n.length<=64)/\Val o.rest/\o.rest.n.length<=64) (ja:∀ j,j<=L.length->(Ar (L.take j)).length<=256) (b o c:Nat) (w:Γ) (h:BS w b o L) :
  Ϟ Ι 32 #[U (I ⟨b,o,J⟩) L.length c] w λe w'=>∃ v,e=Ω v/\CaO w' w.heap.size w.heap.size v (Ar L)/\Ext w w':=by
 have HV:=Z h;have ma:=Z iz;have jb:=Z ja;obtain⟨m0,hm,jc,dc,jd⟩:=ϑ X2;obtain⟨j0,hj,me,mf,mg⟩:=ϑ OJ;obtain⟨n,hn⟩:=Xq (L.length);have HN:=Z hn;rw[hn] at l8;rw[hn];clear h iz ja hn;have jf:=Z UF;go_enter Tryz.func32,Tryz.ntmps32;go_upto_region 2 with (refine Bj rfl 33 _ rfl #[U J 0 0,U J 0 0] ?_ ?_;(simp;with_reducible exact jf.o))
 have fb:=(Κ w).alloc (Β #[U J 0 0,U J 0 0] 33);have fc:CaO (w.alloc (Β #[U J 0 0,U J 0 0] 33)) w.heap.size w.heap.size (U (I ⟨w.heap.size,0,J⟩) 1 1) [[]]:=
  CaO.one (Ê (base:=w.heap.size) (e:=33) (size:=2) w #[U J 0 0,U J 0 0] 1 (Υ _) (by unfold ϐ;omega) rfl) (HdO.nil _ _) (HdO.nil _ _)
 obtain⟨w1,fe⟩:=Xq (w.alloc (Β #[U J 0 0,U J 0 0] 33));rw[fe] at fb fc;simp only[fe];clear fe jf;have ay:=Z fc;clear fc;go_wp2_with (fail);go_loopw [3,17] (λz vi W=>∃ (j:Nat) (vo:Δ),j<=n/\vi=.int Χ j/\vo=z/\Ext w W/\ϟ (CaO W w.heap.size w.heap.size vo (Ar (L.take j))))
  (λ_ vi _=>n-(intOf vi).toNat)
 case atStart=>exact⟨0,_,by omega,rfl,rfl,fb,ay⟩
 clear fb ay;obtain⟨j,vo,oc,rfl,rfl,hE,HC⟩:=hrel;by_cases mh:j<n
 ·have od:(j:Int)<(n:Int):=by omega
  have ff:j<L.length:=by rw[HN.o];exact mh
  obtain⟨u,jg,jh⟩:=HV.o j ff;have fg:=Z (Hr L j [] ff);have fh:L.getD j []∈L:=Jb ff;obtain⟨os,ji⟩:=Xq (L.getD j []);rw[ji] at jh fg fh;obtain⟨ao,co,rfl,jj⟩:=jh;have mi:=Z jj;have mj:=Z fh;have cu:=hE.cell jg;obtain⟨cs,de⟩:=Xq (Ar (L.take j));have jl:=Z de;have jm:=Z (show cs.length*os.length<=256 from by have h:=jb.o (j+1) (by omega);rw[fg.o,Rh,de] at h;exact h)
  rw[de] at HC;have ml:cs.length<=256:=by rw[<-de];exact jb.o j (by omega)
  clear de ji jj fh jg;obtain⟨xs,hx,fj⟩:=HC.o;obtain⟨av,cv,mm⟩:=Kt hx;subst mm;obtain⟨M,hM⟩:=Xq (cs.length);have HM:=Z hM;rw[hM] at hx fj ml;simp only[hM];have ed:=Z hx;have mo:=Z fj;clear HC hM hx fj;obtain⟨wL,mq⟩:∃ W,W=wr:=⟨_,rfl⟩;subst mq;obtain⟨N,fk⟩:=Xq (os.length);have dg:=Z fk;rw[fk] at cu;have oh:0<M->N<=256:=λh0=>by have h:=jm.o;rw[HM.o,fk] at h;exact μ (Nat.le_mul_of_pos_left N h0) h
  go_wp2_with (fail);clear cu;go_loopw [6,23] (λz vi W=>∃ (i:Nat) (vm:Δ),i<=M/\vi=.int Χ i/\vm=z/\Ext wL W/\ϟ (CaO W wL.heap.size w.heap.size vm (Fs (cs.take i) os)))
   (λ_ vi _=>M-(intOf vi).toNat)
  case atStart=>exact⟨0,_,by omega,rfl,rfl,Κ _,Z (CaO.nil _ _ _)⟩
  obtain⟨i,vm,om,rfl,rfl,ai,HC⟩:=hrel;by_cases ee:i<M
  ·have oo:(i:Int)<(M:Int):=by omega
   obtain⟨ca,dh⟩:=Xq (cs.getD i []);obtain⟨cg,jn⟩:=mo.o i ee;rw[dh] at cg jn;obtain⟨gO,mr⟩:∃ g,av=I ⟨g,0,J⟩:=by
    rcases ed.o.2 with⟨X,h0⟩|⟨g,ot,cur,X,_⟩
    ·exfalso
     injection X with _ X _
     omega
    injection X with X _ _
    exact⟨g,X⟩
   subst mr;obtain⟨x1,cj,ef⟩:=cg;obtain⟨x2,ck,eg⟩:=jn;rw[ι] at cj ck ef eg;obtain⟨k,hk⟩:=Xq (ca.length);have HK:=Z hk;have ou:=Z dh;rw[hk] at cj ck ef eg;obtain⟨a1,c1,cm⟩:=Kt cj;obtain⟨a2,c2,cp⟩:=Kt ck;have mu:=ed.o.1;have jq:wr.rangeAt gO (i*2) [U a1 k c1,U a2 k c2]:=λq v X=>by
    match q,X with
    | 0,X=>have X:I (ό a1 k c1)=I v:=X;rw[<-X,<-cm];have h:=(Aa ed.o ai).cellAt (i*2) (by omega);rw[Nat.add_zero,h,Ζ,Θ (by omega)];rfl
    | 1,X=>have X:I (ό a2 k c2)=I v:=X;rw[<-X,<-cp];have h:=(Aa ed.o ai).cellAt (i*2+1) (by omega);rw[h,Ζ,Θ (by omega)];rfl
    | q+2,X=>simp at X
   rw[cm] at cj;rw[cp] at ck;have jr:=Z cj;have fm:=Z ck;have js:=Z ef;have jt:=Z eg;have ow:k<=6:=by
    have h1:ca∈Ar (L.take j):=by rw[jl.o,<-dh];exact Jb (by rw[HM.o];exact ee)
    have h2:=(Nq _ _ h1).1;rw[Ï] at h2;omega
   have ju:ϟ (Fs (cs.take (i+1)) os=Fs (cs.take i) os++os.map λo=>ca++[o]):=Z (by rw[Hr cs i [] (by rw[HM.o];exact ee),dh,SJ]);have mv:(Fs (cs.take i) os).length<=i*N:=by rw[SK,Ï,dg.o];exact Nat.mul_le_mul_right _ (Nat.min_le_left _ _)
   have oy:i*N+N<=256:=by have h:=jm.o;rw[HM.o,dg.o] at h;have h2:(i+1)*N<=M*N:=Nat.mul_le_mul_right _ ee;rw[Nat.succ_mul] at h2;omega
   clear mu dh cj ck ef eg cm cp hk;go_upto_region 9 with (first
    | (refine é rfl 33 (ε 25) rfl gO (i*2) rfl _ _ jq Tryz.underlying33 rfl (OI _ _) ?_)
    | (refine Sr 33 (ε 8) (ε 26) rfl (Ad wr (Β #[U J 0 0,U J 0 0] 33)) Qm rfl (by simp[ξ]) ?_))
   clear jq;have eh:=((Κ wr).alloc (Β #[U J 0 0,U J 0 0] 33)).setRow (Υ _) #[U a1 k c1,U a2 k c2];have ei:=Φ (wr.alloc (Β #[U J 0 0,U J 0 0] 33)) wr.heap.size _ #[U a1 k c1,U a2 k c2] _ _ (Ad wr _);have fo:((wr.alloc (Β #[U J 0 0,U J 0 0] 33)).setRow wr.heap.size #[U a1 k c1,U a2 k c2]).heap.size=wr.heap.size+1:=by rw[ì,Ο]
   obtain⟨w5,ej⟩:=Xq ((wr.alloc (Β #[U J 0 0,U J 0 0] 33)).setRow wr.heap.size #[U a1 k c1,U a2 k c2]);have jw:(wr.alloc (Β #[U J 0 0,U J 0 0] 33)).setRow wr.heap.size [ό a1 k c1,ό a2 k c2].toArray=w5:=ej;rw[ej] at eh ei fo;simp only[ej,jw];have fp:ϟ (vm.ownBlock≠I wr.heap.size):=Z (λe=>by obtain⟨ys,hy,_⟩:=HC.o;have:=(hy.lt _ e).2;omega)
   obtain⟨gC,fq⟩:=Xq (wr.heap.size);rw[fq] at ei fo fp;simp only[fq];have ek:gC<w5.heap.size:=by omega
   have oz:wL.heap.size<=gC:=by have:=ai.size;omega
   clear ej jw fq fo;have jx:=Z ei;have fs:=Z (HC.o.ext eh);have jy:=ai.t eh;clear ei HC ai eh;obtain⟨ms,jz⟩:=Xq (Fs (cs.take i) os);rw[jz] at fs ju mv;clear jz;go_wp2_with (fail);go_loopw [6,29] (λz vi W=>∃ (q:Nat) (vm:Δ),q<=N/\vi=.int Χ q/\vm=z/\Ext wL W/\gC<W.heap.size/\ϟ (W.heap[gC]? = I (Β #[U a1 k c1,U a2 k c2] 33 (0,0)))/\ϟ (vm.ownBlock≠I gC)/\ϟ (CaO W wL.heap.size w.heap.size vm (ms++(os.take q).map λo=>ca++[o])))
    (λ_ vi _=>N-(intOf vi).toNat)
   case atStart=>exact⟨0,_,by omega,rfl,rfl,jy,ek,jx,fp,Z (by rw[List.take_zero,List.map_nil,List.append_nil];exact fs.o)⟩
   clear jy ek jx fp fs;obtain⟨q,vm,o2,rfl,rfl,ai,ek,HB,j1,HC⟩:=hrel;by_cases my:q<N
   ·have o3:(q:Int)<(N:Int):=by omega
    obtain⟨wB,mz⟩:∃ W,W=wr:=⟨_,rfl⟩;subst mz;have fu:q<os.length:=by rw[dg.o];exact my
    obtain⟨gp,h1,h2,h3,r1,r2,r3,la,ln,lc,nc,hr,cq,ct⟩:=mi.o q fu;subst nc;have cw:=hE.t ai;have j4:wB.rangeAt gp (q*7) [h1,h2,h3,r1,r2,r3,U la ln lc]:=λx v hx=>cw.cell (hr x v hx)
    have cq:=cq.ext cw;have ct:=ct.ext cw;have fv:os[q]∈os:=ϯ fu;have j5:ϟ ((os.take (q+1)).map (λo=>ca++[o])=(os.take q).map (λo=>ca++[o])++[ca++[os[q]]]):=Z (by rw[List.take_succ_eq_append_getElem fu,ϥ];rfl);obtain⟨T,j6⟩:=Xq (os[q]);rw[j6] at cq ct fv j5;obtain⟨⟨cm,j7⟩,cp,j8⟩:=ma.o os mj.o T fv;obtain⟨ac,ba,cc,an,cn,aa,bf,bg,j9⟩:=cq.agg;obtain⟨bh,bj,bk,bl,bm,bn,bo,bp,ka⟩:=ct.agg;simp only[dA,Δ.agg.injEq,Array.mk.injEq,ó,and_true] at j9 ka;obtain⟨rfl,rfl,rfl⟩:=j9;obtain⟨rfl,rfl,rfl⟩:=ka;have o4:=cw.size;clear hr fv j6;go_upto_region 12 with (first
     | (refine é rfl 141 (ε 31) rfl gp (q*7) rfl _ _ j4 Tryz.underlying141 rfl (ON _ _ _ _ _ _ _) ?_)
     | (refine Sr 141 (ε 10) (ε 32) rfl (Ad wB (Β #[U J 0 0,U J 0 0,U J 0 0,U J 0 0,U J 0 0,U J 0 0,U J 0 0] 141)) OM rfl (by simp[ξ]) ?_))
    have en:=((Κ wB).alloc (Β #[U J 0 0,U J 0 0,U J 0 0,U J 0 0,U J 0 0,U J 0 0,U J 0 0] 141)).setRow (Υ _) #[U ac ba cc,U an T.head.n.length cn,U aa bf bg,U bh bj bk,U bl T.rest.n.length bm,U bn bo bp,U la ln lc];have eo:=Φ (wB.alloc (Β #[U J 0 0,U J 0 0,U J 0 0,U J 0 0,U J 0 0,U J 0 0,U J 0 0] 141)) wB.heap.size _ #[U ac ba cc,U an T.head.n.length cn,U aa bf bg,U bh bj bk,U bl T.rest.n.length bm,U bn bo bp,U la ln lc] _ _ (Ad wB _);obtain⟨w6,ep⟩:=Xq ((wB.alloc (Β #[U J 0 0,U J 0 0,U J 0 0,U J 0 0,U J 0 0,U J 0 0,U J 0 0] 141)).setRow wB.heap.size #[U ac ba cc,U an T.head.n.length cn,U aa bf bg,U bh bj bk,U bl T.rest.n.length bm,U bn bo bp,U la ln lc]);rw[ep] at en eo;simp only[ep];obtain⟨gX,fw⟩:=Xq (wB.heap.size);rw[fw] at eo;simp only[fw];clear ep fw j4;have nd:=Z eo;have nf:=Z cq;have ng:=Z ct;have fx:=Z (en.heap HB.o);have bq:=Z en;clear eo cq ct;have k8:w6.cell? ⟨gC,0,J⟩=I (U a1 k c1):=Τ w6 gC 0 _ _ _ fx.o;go_upto_region 13 with (fail)
    clear k8 en;refine CG 8 76 (by kernel_rfl) (by kernel_rfl) rfl (Rm w6.heap.size k) Rl SO (SP _ _) (λi nh=>?_) (λvs w7 kb hF hN=>?_)
    ·have cg:=(Κ w6).drew
     match i,nh with
     | 0,_=>
      refine He _ _ rfl rfl rfl λc W hW ak bt bz=>?_
      have h3:c.tmps.getD 11 δ=iv k:=bt 11 (by kernel_rfl);go_simp;exact⟨_,rfl,Κ W,rfl,λ_ _ _ _ _ aq=>absurd aq (by omega)⟩
     | 1,_=>
      refine He _ _ rfl rfl rfl λc W hW ak bt bz=>?_
      have h3:c.tmps.getD 36 δ=iv k:=ak 0 36 (by kernel_rfl);have kc:(k:Int)<7:=by omega
      go_simp;exact⟨_,rfl,Κ W,(by show ϲ å (å.wrap ((k:Int)+1))=iv (k+1);rw[IntWalk.i64_in _ ⟨by omega,by omega⟩];rfl),λ_ _ _ _ _ aq=>absurd aq (by omega)⟩
     | 2,_=>
      refine He _ _ rfl rfl rfl λc W hW ak bt bz=>?_
      have h3:c.tmps.getD 37 δ=iv (k+1):=ak 1 37 (by kernel_rfl);refine Gq W _ _ 31 rfl w6.heap.size 40 m0 (.agg #[U J 0 0,U J 0 0,U J 0 0]) 3 Tryz.underlying31 hm jc dc Χ Χ _ _ (k+1) h3 h3 rfl rfl (by rw[jd];omega) (by unfold ϐ;omega) (cg.t hW).size ?_;intro W' fy fz;refine⟨_,rfl,(Κ W).grown fz (λk e=>by cases e),⟨_,rfl,_,fy⟩,λj u hj nj ga aq=>?_⟩;obtain rfl:j=5:=by omega
      obtain⟨g,h4,zs,h5⟩:=ga;rw[h4] at h5 ⊢;intro e;injection e with e _ _
      injection e with e
      injection e with e
      have:=(h5.lt g rfl).2;omega
     | 3,_=>
      refine He _ _ rfl rfl rfl λc W hW ak bt bz=>?_
      have h3:c.tmps.getD 11 δ=iv k:=bt 11 (by kernel_rfl);go_simp;exact⟨_,rfl,Κ W,rfl,λ_ _ _ _ _ aq=>absurd aq (by omega)⟩
     | 4,_=>
      refine He _ _ rfl rfl rfl λc W hW ak bt bz=>?_
      have h3:c.tmps.getD 39 δ=iv k:=ak 3 39 (by kernel_rfl);have kc:(k:Int)<7:=by omega
      go_simp;exact⟨_,rfl,Κ W,(by show ϲ å (å.wrap ((k:Int)+1))=iv (k+1);rw[IntWalk.i64_in _ ⟨by omega,by omega⟩];rfl),λ_ _ _ _ _ aq=>absurd aq (by omega)⟩
     | 5,_=>
      refine He _ _ rfl rfl rfl λc W hW ak bt bz=>?_
      have h3:c.tmps.getD 40 δ=iv (k+1):=ak 4 40 (by kernel_rfl);refine Gq W _ _ 31 rfl w6.heap.size 40 m0 (.agg #[U J 0 0,U J 0 0,U J 0 0]) 3 Tryz.underlying31 hm jc dc Χ Χ _ _ (k+1) h3 h3 rfl rfl (by rw[jd];omega) (by unfold ϐ;omega) (cg.t hW).size ?_;intro W' fy fz;refine⟨_,rfl,(Κ W).grown fz (λk e=>by cases e),⟨_,rfl,_,fy⟩,λj u hj nj ga aq=>?_⟩;obtain rfl:j=2:=by omega
      obtain⟨g,h4,zs,h5⟩:=ga;rw[h4] at h5 ⊢;intro e;injection e with e _ _
      injection e with e
      injection e with e
      have:=(h5.lt g rfl).2;omega
     | 6,_=>
      refine He _ _ rfl rfl rfl λc W hW ak bt bz=>?_
      obtain⟨E,kd,gd,cy⟩:∃ g,c.tmps.getD 38 δ=U (I ⟨g,0,J⟩) (k+1) (k+1)/\∃ zs,W.ownsRow w6.heap.size 40 3 (c.tmps.getD 38 δ) (k+1) zs:=ak 2 38 (by kernel_rfl);obtain⟨G,ke,gf,cz⟩:∃ g,c.tmps.getD 41 δ=U (I ⟨g,0,J⟩) (k+1) (k+1)/\∃ zs,W.ownsRow w6.heap.size 40 3 (c.tmps.getD 41 δ) (k+1) zs:=ak 5 41 (by kernel_rfl);have gg:c.tmps.getD 38 δ≠c.tmps.getD 41 δ:=bz 2 5 38 41 (by omega) (by kernel_rfl) (by kernel_rfl) (.inl ⟨rfl,rfl⟩);rw[kd] at cy gg;rw[ke] at cz gg;refine Cy (Gi 33 _ rfl (A:=#[U (I ⟨E,0,J⟩) (k+1) (k+1),U (I ⟨G,0,J⟩) (k+1) (k+1)]) ?_ W) ?_
      ·have e:(Array.map (λ(i,x)=>(i,c.eval x)) #[(0,Operand.tmp 38),(1,Operand.tmp 41)]).toList=[(0,c.eval (ε 38)),(1,c.eval (ε 41))]:=by simp
       rw[e,show c.eval (ε 38)=_ from kd,show c.eval (ε 41)=_ from ke];exact UG _ _ _ _ _ _
      exact⟨_,rfl,Κ W,⟨E,G,λe=>gg (by rw[e]),rfl,⟨gd,cy⟩,⟨gf,cz⟩⟩,λ_ _ _ _ _ aq=>absurd aq (by omega)⟩
     | 7,_=>
      refine He _ _ rfl rfl rfl λc W hW ak bt bz=>?_
      go_simp;exact⟨_,rfl,(Κ W).alloc _,⟨_,rfl,Ad W _,(cg.t hW).size⟩,λ_ _ _ _ _ aq=>absurd aq (by omega)⟩
    have kf:vs 0=iv k:=hF 0 (by omega);have kg:vs 1=iv (k+1):=hF 1 (by omega);obtain⟨_,kh,-⟩:∃ g,vs 2=U (I ⟨g,0,J⟩) (k+1) (k+1)/\_:=hF 2 (by omega);have ki:vs 3=iv k:=hF 3 (by omega);have kj:vs 4=iv (k+1):=hF 4 (by omega);obtain⟨_,kk,-⟩:∃ g,vs 5=U (I ⟨g,0,J⟩) (k+1) (k+1)/\_:=hF 5 (by omega);obtain⟨E,G,er,kl,⟨gd,cy⟩,gf,cz⟩:∃ E G,E≠G/\vs 6=.agg #[U (I ⟨E,0,J⟩) (k+1) (k+1),U (I ⟨G,0,J⟩) (k+1) (k+1)]/\(∃ zs,w7.ownsRow w6.heap.size 40 3 (U (I ⟨E,0,J⟩) (k+1) (k+1)) (k+1) zs)/\∃ zs,w7.ownsRow w6.heap.size 40 3 (U (I ⟨G,0,J⟩) (k+1) (k+1)) (k+1) zs:=hF 6 (by omega);obtain⟨gY,km,H7,kn⟩:∃ g,vs 7=η (I ⟨g,0,J⟩)/\_/\_:=hF 7 (by omega);simp only[Bm,ϸ,À,kf,kg,kh,ki,kj,kk,kl,km,Ϸ,Ϻ,ϻ,ò,θ,Η,Μ,Λ];clear hF hN kf kg kh ki kj kk kl km;go_upto_region 14 with (refine Sr 33 (ε 12) (ε 42) rfl H7 Qm rfl (by simp[ξ]) ?_)
    have c3:=((Κ w6).drew.t kb).setRow kn #[U (I ⟨E,0,J⟩) (k+1) (k+1),U (I ⟨G,0,J⟩) (k+1) (k+1)];have c4:=Z (Φ w7 gY _ #[U (I ⟨E,0,J⟩) (k+1) (k+1),U (I ⟨G,0,J⟩) (k+1) (k+1)] _ _ H7);have gi:=Ca w7 gY #[U (I ⟨E,0,J⟩) (k+1) (k+1),U (I ⟨G,0,J⟩) (k+1) (k+1)];have b9:=cy.kept gi (B2 cy H7 (by decide));have c5:=cz.kept gi (B2 cz H7 (by decide));obtain⟨w8,gj⟩:=Xq (w7.setRow gY #[U (I ⟨E,0,J⟩) (k+1) (k+1),U (I ⟨G,0,J⟩) (k+1) (k+1)]);rw[gj] at c3 c4 b9 c5;simp only[gj];clear gj gi cy cz H7 kb kn;have o5:=ai;have nk:=c3;have gk:=(ai.t bq.o).trans c3;have ko:=Aa jr.o gk;have nl:=Aa fm.o gk;have gl:x1.length=k*3:=jr.o.1;have gm:x2.length=k*3:=fm.o.1;have kq:Nat.min k (k+1)=k:=Nat.min_eq_left (by omega);have ay:=Z (λj (hj:j<x1.length)=>I8 b9 0 j (by omega));have dq:=Z (λj (hj:j<x1.length)=>(ay.o j hj).1);have dr:=Z (λj (hj:j<x1.length)=>(ay.o j hj).2);have kr:=Z (Yb (ds:=ca.map (·.head)) (by rw[ι,HK.o];exact gl) (λi hi=>js.o i (by rw[ι,HK.o] at hi;exact hi)));have ks:=Z (Yb (ds:=ca.map (·.rest)) (by rw[ι,HK.o];exact gm) (λi hi=>jt.o i (by rw[ι,HK.o] at hi;exact hi)));have gq:=Z (Vs ko);have gu:w8.cell? ⟨gY,0,J⟩=I (U (I ⟨E,0,J⟩) (k+1) (k+1)):=Τ w8 gY 0 _ _ _ c4.o;have gv:w8.cell? ⟨gC,0,J⟩=I (U a1 k c1):=Τ w8 gC 0 _ _ _ (c3.heap fx.o);have kt:=Z gl;have gw:=Z gm;have ku:=Z kq;clear gl gm kq;go_upto_region 15 with (with_reducible refine S3 rfl (ε 44) (ε 46) 31 31 rfl 40 3 Tryz.underlying31 Ae E 0 (k+1) (k+1) a1 k c1 k rfl rfl ku.o x1 kt.o gq.o.1 gq.o.2 dq.o dr.o kr.o ?_)
    clear gu gv ay dq dr gq;obtain⟨et,eu⟩:=Hv x1 w8 gd 0 b9;have o6:w6.heap.size<=E:=(b9.lt E rfl).1;have o7:w6.heap.size<=G:=(c5.lt G rfl).1;have dt:=c3.grown eu (λk e=>by injection e;omega);have du:=c5.kept eu (Cb c5 (þ er));have c7:=Z ((eu.block gY (Al c4.o) (Fb b9 c4.o (by decide))).trans c4.o);have dc:=b9.1;have kv:=c5.1;obtain⟨w9,gx⟩:=Xq (w8.setCells E 0 x1);rw[gx] at et dt du c7;simp only[gx];have kx:=(ai.t bq.o).trans dt;clear gx eu b9 c5 c4 c3 nk gk ko nl;have ky:=Aa fm.o kx;have nm:=Z dc;have nn:=Z kv;clear dc kv;have ay:=Z (λj (hj:j<x2.length)=>I8 du 0 j (by have:=gw.o;omega));have dq:=Z (λj (hj:j<x2.length)=>(ay.o j hj).1);have dr:=Z (λj (hj:j<x2.length)=>(ay.o j hj).2);have gy:=Z (Vs ky);have gu:w9.cell? ⟨gY,1,J⟩=I (U (I ⟨G,0,J⟩) (k+1) (k+1)):=Τ w9 gY 1 _ _ _ c7.o;have gv:w9.cell? ⟨gC,1,J⟩=I (U a2 k c2):=Τ w9 gC 1 _ _ _ (dt.heap fx.o);clear ky;go_upto_region 16 with (with_reducible refine S3 rfl (ε 49) (ε 51) 31 31 rfl 40 3 Tryz.underlying31 Ae G 0 (k+1) (k+1) a2 k c2 k rfl rfl ku.o x2 gw.o gy.o.1 gy.o.2 dq.o dr.o ks.o ?_)
    clear gu gv ay dq dr gy kr ks;obtain⟨gz,ev⟩:=Hv x2 w9 gf 0 du;have ew:=dt.grown ev (λk e=>by injection e;omega);have ha:=et.kept ev (Cb et er);have hf:=Z ((ev.block gY (Al c7.o) (Fb du c7.o (by decide))).trans c7.o);obtain⟨ey,hh⟩:=Xq (w9.setCells G 0 x2);rw[hh] at gz ew ha hf;simp only[hh];clear hh ev et du c7 dt kx;have kz:∀ V,Ext w6 V->Ext wL V:=λV H=>(ai.t bq.o).trans H
    have np:=Z kz;have nq:=Z cm;have nr:=Z cp;have ns:=Z j7;have nt:=Z j8;have ep:=bq.o.size;clear kz cm cp j7 j8;have nu:=Z (λ(V:Γ) (H:V.heap[gY]? = I (Β #[U (I ⟨E,0,J⟩) (k+1) (k+1),U (I ⟨G,0,J⟩) (k+1) (k+1)] 33 (0,0))/\V.heap[gX]? = I (Β #[U ac ba cc,U an T.head.n.length cn,U aa bf bg,U bh bj bk,U bl T.rest.n.length bm,U bn bo bp,U la ln lc] 141 (0,0)))=>í (Τ V gY 0 _ _ _ H.1) (Τ V gY 1 _ _ _ H.1));have k0:=Z (λ(V:Γ) (H:V.heap[gX]? = I (Β #[U ac ba cc,U an T.head.n.length cn,U aa bf bg,U bh bj bk,U bl T.rest.n.length bm,U bn bo bp,U la ln lc] 141 (0,0)))=>í
     (show V.rangeAt gX 0 [U ac ba cc,U an T.head.n.length cn,U aa bf bg] from λx v hx=>by
      match x,hx with
      | 0,hx=>exact (Τ V gX 0 _ _ _ H).trans hx
      | 1,hx=>exact (Τ V gX 1 _ _ _ H).trans hx
      | 2,hx=>exact (Τ V gX 2 _ _ _ H).trans hx
      | x+3,hx=>simp at hx)
     (show V.rangeAt gX 3 [U bh bj bk,U bl T.rest.n.length bm,U bn bo bp] from λx v hx=>by
      match x,hx with
      | 0,hx=>exact (Τ V gX 3 _ _ _ H).trans hx
      | 1,hx=>exact (Τ V gX 4 _ _ _ H).trans hx
      | 2,hx=>exact (Τ V gX 5 _ _ _ H).trans hx
      | x+3,hx=>simp at hx))
    have ez:=(Κ ey).drew.heap (ew.heap nd.o);have e0:=(Κ ey).drew.heap hf.o;refine Bq 15 [(0,Α),(1,Α),(2,Α),(3,Α),(4,Α),(5,Α),(6,Α),(7,Α),(9,Α),(10,Α),(8,Ε),(11,Ε),(12,Α),(13,Ε),(14,Α),(15,Ε)] (by kernel_rfl) (by kernel_rfl) (λ_ _ _ _ h=>h)
     (λV=>V.heap[gY]? = I (Β #[U (I ⟨E,0,J⟩) (k+1) (k+1),U (I ⟨G,0,J⟩) (k+1) (k+1)] 33 (0,0))/\V.heap[gX]? = I (Β #[U ac ba cc,U an T.head.n.length cn,U aa bf bg,U bh bj bk,U bl T.rest.n.length bm,U bn bo bp,U la ln lc] 141 (0,0))) ⟨e0,ez⟩ ?_
    have dv:=(Κ ey).drew;obtain⟨wy,hl⟩:=Xq (ey.drew);rw[hl] at dv ez e0;rw[hl];have e1:=ew.t dv;have k5:=Z (Aa ha dv);have k6:=Z (Aa gz dv);clear hl dv ew ha gz hf;have ho:=Z ez;have hp:=Z e0;clear ez e0;have kc:(k:Int)<(k:Int)+1:=by omega
    iterate 7
     refine Ai (v:=?_) rfl rfl (λV H=>?_) ?_
     rotate_left
     ·obtain⟨y0,y1⟩:=nu.o V H;clear H;go_simp;first|done|with_reducible rfl
     simp only[θ,Η,Μ,Λ]
    refine Ai (v:=.agg #[U ac ba cc,U an T.head.n.length cn,U aa bf bg]) rfl rfl (λV H=>Cj 40 (ε 59) rfl gX 0 rfl _ _ (k0.o V H.2).1 Ρ rfl (Dg _ _ _)) ?_;simp only[θ,Η,Μ,Λ];refine Ai (v:=?_) rfl rfl (λV H=>?_) ?_
    rotate_left
    ·clear H;go_simp;first|done|with_reducible rfl
    simp only[θ,Η,Μ,Λ];refine Ai (v:=.agg #[U bh bj bk,U bl T.rest.n.length bm,U bn bo bp]) rfl rfl (λV H=>Cj 40 (ε 62) rfl gX 3 rfl _ _ (k0.o V H.2).2 Ρ rfl (Dg _ _ _)) ?_;simp only[θ,Η,Μ,Λ];have f154:=Z (Vl T.head nq.o ns.o (.agg #[U ac ba cc,U an T.head.n.length cn,U aa bf bg]) wy (nf.o.ext (bq.o.t e1)));refine Ao rfl (λK hK=>?_);go_simp
    (with_reducible refine f154.o.mono ?_)
    rintro e wz ⟨v1,rfl,hq,b0⟩;obtain⟨A1,rfl,k9,lb⟩:=hq.agg;refine hK _ _ (λ_=>⟨b0.heap hp.o,b0.heap ho.o⟩) ?_;clear hK K f154;have e3:=e1.t b0;have hs:=Z (b0.heap hp.o);have ht:=Z (b0.heap ho.o);have lf:=Z (Aa k5.o b0);have lg:=Z (Aa k6.o b0);have lh:=Z (hq.base (show w.heap.size<=wy.heap.size by have:=(cw.trans (bq.o.t e1)).size;omega));have hz:=Z k9;have nv:=Z lb;clear hq b0 hp ho k5 k6 e1 k9 lb;have f154:=Z (Vl T.rest nr.o nt.o (.agg #[U bh bj bk,U bl T.rest.n.length bm,U bn bo bp]) wz (ng.o.ext (bq.o.t e3)));refine Ao rfl (λK hK=>?_);go_simp
    (with_reducible refine f154.o.mono ?_)
    rintro e wu ⟨v2,rfl,h7,bw⟩;obtain⟨A2,rfl,lj,lk⟩:=h7.agg;refine hK _ _ (λ_=>⟨bw.heap hs.o,bw.heap ht.o⟩) ?_;clear hK K f154;have ll:=e3.t bw;have e5:=bw.heap hs.o;have e6:=bw.heap ht.o;have cb:=Aa lf.o bw;have h8:=Aa lg.o bw;have lo:=lh.o.ext bw;have lp:=h7.base (show w.heap.size<=wz.heap.size by have:=(cw.trans (bq.o.t e3)).size;omega);have h9:=Z lj;have nw:=Z lk;clear h7 bw hs ht lf lg e3 lh lj lk;refine Ai (v:=?_) rfl rfl (λV H=>?_) ?_
    rotate_left
    ·clear H;go_simp;first|done|with_reducible rfl
    simp only[θ,Η,Μ,Λ];have lq:=Z (show wu.there E (k*3) A1.size from λx hx=>I8 cb (k*3) x (by have:=hz.o;omega));obtain⟨e7,cd⟩:=Hv A1.toList wu _ (k*3) cb;refine Ao rfl (λK hK=>?_);refine Kj 40 (ε 65) (ε 61) rfl rfl E (k*3) A1 (by first|rfl|(go_simp;done)) rfl lq.o (by rw[hz.o];exact Ae) nv.o ?_;have c9:=(cd.block gY (Al e5) (Fb cb e5 (by decide))).trans e5;have ia:=(cd.block gX (Al e6) (Fb cb e6 (by decide))).trans e6;refine hK _ _ (λ_=>⟨c9,ia⟩) ?_;clear hK K lq;have ib:=ll.grown cd (λk e=>by injection e;omega);have cf:=h8.kept cd (Cb h8 (þ er));have ic:=lo.keptT cb (by decide) cd;have ie:=lp.keptT cb (by decide) cd;obtain⟨wv,ih⟩:=Xq (wu.setCells E (k*3) A1.toList);rw[ih] at e7 c9 ia ib cf ic ie;rw[ih];clear ih cd ll e5 e6 cb h8 lo lp;refine Ai (v:=?_) rfl rfl (λV H=>?_) ?_
    rotate_left
    ·clear H;go_simp;first|done|with_reducible rfl
    simp only[θ,Η,Μ,Λ];have lr:=Z (show wv.there G (k*3) A2.size from λx hx=>I8 cf (k*3) x (by have:=h9.o;omega));obtain⟨ij,da⟩:=Hv A2.toList wv _ (k*3) cf;refine Ao rfl (λK hK=>?_);refine Kj 40 (ε 66) (ε 64) rfl rfl G (k*3) A2 (by first|rfl|(go_simp;done)) rfl lr.o (by rw[h9.o];exact Ae) nw.o ?_;refine hK _ _ (λh=>absurd h (by omega)) ?_;clear hK K lr;refine Bn ?_;have ik:=(da.block gY (Al c9) (Fb cf c9 (by decide))).trans c9;have e8:=ib.grown da (λk e=>by injection e;omega);have il:=e7.kept da (Cb e7 er);have im:=ic.keptT cf (by decide) da;have ir:=ie.keptT cf (by decide) da;obtain⟨wf,iu⟩:=Xq (wv.setCells G (k*3) A2.toList);rw[iu] at ij ik e8 il im ir;rw[iu];clear iu da ib c9 ia e7 cf ic ie;have dw:=np.o wf e8;have e9:=bq.o.t e8;have lu:w.heap.size<=w6.heap.size:=by omega
    have lv:ϟ (HdO wf w.heap.size (U (I ⟨E,0,J⟩) (k+1) (k+1)) ((ca++[T]).map (·.head))):=Z (by rw[ϥ];exact HdO.mk' (by rw[ι,HK.o]) nm.o kt.o hz.o (E9 il lu) (λi hi=>(js.o i hi).ext dw) im)
    have lx:ϟ (HdO wf w.heap.size (U (I ⟨G,0,J⟩) (k+1) (k+1)) ((ca++[T]).map (·.rest))):=Z (by rw[ϥ];exact HdO.mk' (by rw[ι,HK.o]) nn.o gw.o h9.o (E9 ij lu) (λi hi=>(jt.o i hi).ext dw) ir)
    have ly:=Z ik;obtain⟨xm,dx,iw⟩:=HC.o.ext e9;obtain⟨cnt,fa⟩:=Xq ((ms++(os.take q).map λo=>ca++[o]).length);have pc:cnt<=256:=by rw[<-fa,Ν,ι,Ï];have:=dg.o;omega
    have n0:=Z fa;rw[fa] at dx iw;have l2:=Z iw;have l3:gC<wf.heap.size:=Ξ ek e9.size;have ix:=Z (e9.heap HB.o);have n1:=dw.size;clear ik e8 il ij im ir fa iw HB HC e9;go_upto_region 18 with (first
     | (refine Lr 33 (ε 12) ly.o Tryz.underlying33 Qm ?_)
     | (at_builtin;refine ϕ _ rfl _ _ 27 rfl wL.heap.size 33 j0 (.agg #[U J 0 0,U J 0 0]) 2 48 Tryz.underlying27 hj me mf mg rfl (by decide) vm cnt xm rfl (dx.alloc _) _ 1 1 [U (I ⟨E,0,J⟩) (k+1) (k+1),U (I ⟨G,0,J⟩) (k+1) (k+1)] rfl rfl (Γ.news_of_block (Ad wf _)) (by simp[ξ]) (by decide) (by unfold ϐ;omega) (by omega) (by rw[Ο];omega) _ rfl ?_;intro gn l4 wn l5 dy l6 n2))
    have al:=(Κ wf).alloc (Β #[ό (I ⟨E,0,J⟩) (k+1) (k+1),ό (I ⟨G,0,J⟩) (k+1) (k+1)] 33);have l7:=Aa dx al;have n3:ϟ (CaO wn wL.heap.size w.heap.size (U (I ⟨gn,0,J⟩) (cnt+1) l4) (ms++(os.take (q+1)).map λo=>ca++[o])):=Z (by rw[j5.o,<-List.append_assoc];exact CaO.snoc n0.o l7 (λi hi=>⟨(l2.o i hi).1.ext al,(l2.o i hi).2.ext al⟩) dy l5 (lv.o.ext al) (lx.o.ext al))
    have n4:=(dw.trans al).grown dy (λx e=>(dx.lt x e).1);have n5:=Z ((dy.block gC (Al (al.heap ix.o)) (λe=>j1.o e.symm)).trans (al.heap ix.o));have n9:ϟ ((ό (I ⟨gn,0,J⟩) (cnt+1) l4).ownBlock≠I gC):=Z (λe=>by
     have e:I gn=I gC:=e;injection e with e
     subst e;rcases l6 with h|h
     ·exact j1.o h
     have:=al.size;omega)
    have oa:gC<wn.heap.size:=Ξ (Ξ l3 al.size) dy.size;clear dy l5 l6 n2 al l7 dx ix l3 dw ly lv lx n1;go_wp2_with (fail);go_roundw
    case rel=>exact⟨q+1,_,by omega,by go_num,rfl,n4,oa,n5,n9,n3⟩
    simp[intOf]<;>omega
   obtain rfl:N=q:=by omega
   have dz:ϟ (CaO wr wL.heap.size w.heap.size vm (Fs (cs.take (i+1)) os)):=Z (by have h:=HC.o;rw[Ø (by rw[dg.o];exact Υ _)] at h;rw[ju.o];exact h)
   clear HC;go_wp2_with (fail);go_roundw
   case rel=>exact⟨i+1,_,by omega,by go_num,rfl,ai,dz⟩
   simp[intOf]<;>omega
  obtain rfl:M=i:=by omega
  have hC:CaO wr w.heap.size w.heap.size vm (Ar (L.take (j+1))):=by have h:=HC.o;rw[Ø (by rw[HM.o];exact Υ _)] at h;rw[fg.o,Za,jl.o];exact h.base hE.size
  have dz:=Z hC;have ob:=hE.t ai;clear hC HC;go_wp2_with (fail);go_roundw
  case rel=>exact⟨j+1,_,by omega,by go_num,rfl,ob,dz⟩
  simp[intOf]<;>omega
 obtain rfl:n=j:=by omega
 have hC:CaO wr w.heap.size w.heap.size vo (Ar L):=by have h:=HC.o;rw[Ø (by rw[HN.o];exact Υ _)] at h;exact h
 have dz:=Z hC;clear hC HC;go_wp2_with (fail);go_ret;exact⟨_,rfl,dz.o,hE⟩
structure KInv (x:Nat) (c:Nat->Nat) (n:Nat) (C:List Cls):Prop where
 len:C.length=n
 bit:∀ k,k<n->∀ b,b<256->((C.getD k 0#256).getLsbD b=Α↔b<x/\c b=k)
theorem NY (c:Nat->Nat):KInv 0 c 0 []:=⟨rfl,λk E=>by omega⟩
theorem OA {x:Nat} {c:Nat->Nat} {n:Nat} {C:List Cls} (h:KInv x c n C) (hc:∀ y,y<x->c y<n):KInv x c (n+1) (C++[0#256]):=by
 refine⟨by simp[h.len],λk G b hb=>?_⟩;have E:=h.len;by_cases e:k<n
 ·rw[<-h.bit k e b hb,Ζ,ϊ (by omega),<-Ζ]
 obtain rfl:k=n:=by omega
 rw[Ζ,χ (by omega),E,Nat.sub_self];simp only[Ϻ,Ç,ï];constructor
 ·intro h;cases h
 rintro⟨h1,H⟩;have:=hc b h1;omega
theorem Xo {x:Nat} {c:Nat->Nat} {n:Nat} {C:List Cls} (h:KInv x c n C) (hx:x<256) (i:Nat) (hi:i<n):KInv (x+1) (λy=>if y=x then i else c y) n (C.set i (Ax (C.getD i 0#256) (x:Int))):=by
 have H:=h.len;refine⟨by simp[H],λk T b hb=>?_⟩;by_cases e:i=k
 ·subst e;rw[Qv _ _ _ _ (by omega),Jk _ _ _ hx,Bool.or_eq_true,h.bit i hi b hb,decide_eq_true_eq];constructor
  ·rintro (⟨h1,E⟩|h1)
   ·exact⟨by omega,by rw[if_neg (by omega)];exact E⟩
   subst h1;exact⟨by omega,if_pos rfl⟩
  rintro⟨h1,E⟩;by_cases e:b=x
  ·exact .inr e
  rw[if_neg e] at E;exact .inl ⟨by omega,E⟩
 rw[Qw _ _ _ _ _ e,h.bit k T b hb];constructor
 ·rintro⟨h1,E⟩;exact⟨by omega,by rw[if_neg (by omega)];exact E⟩
 rintro⟨h1,E⟩;by_cases G:b=x
 ·rw[if_pos G] at E;exact absurd E e
 rw[if_neg G] at E;exact⟨by omega,E⟩
theorem NZ {a b c:Nat->Nat} {bs:List Nat} {C:List Cls} (h:KInv 256 c bs.length C) (H:Joint a b c bs):Parts C/\(∀ y,y<256->Am C y=c y)/\Joint a b (Am C) bs:=by
 have hl:=h.len;have hP:Parts C:=by
  refine⟨λz hz e=>?_,?_,λy E=>?_⟩
  ·obtain⟨k,T,rfl⟩:=List.getElem_of_mem hz;have h1:=H.byte k (by omega);have G:=(h.bit k (by omega) _ h1.1).2 ⟨h1.1,h1.2⟩;rw[Ζ,Θ T,Ç,e,ï] at G;cases G
  ·rw[List.pairwise_iff_getElem];rintro i k hi T ae y ⟨h1,G⟩;have E:y<256:=by
    rcases Nat.lt_or_ge y 256 with h|h
    ·exact h
    rw[BitVec.getLsbD_of_ge _ _ h] at h1;cases h1
   have e1:=(h.bit i (by omega) y E).1 (by rw[Ζ,Θ hi];exact h1);have e2:=(h.bit k (by omega) y E).1 (by rw[Ζ,Θ T];exact G);omega
  have h1:=H.lt y E;have G:=(h.bit (c y) h1 y E).2 ⟨E,rfl⟩;refine⟨C.getD (c y) 0#256,?_,G⟩;rw[Ζ,Θ (by omega)];exact ϯ _
 have X:∀ y,y<256->Am C y=c y:=λy E=>((h.bit _ (by rw[<-hl];exact cell_lt hP E) y E).1 (Gn hP E)).2.symm
 refine⟨hP,X,⟨λy E=>by rw[X y E];exact H.lt y E,λk T=>?_,λy z E hz=>by rw[X y E,X z hz];exact H.same y z E hz⟩⟩;have h1:=H.byte k T;exact⟨h1.1,by rw[X _ h1.1];exact h1.2⟩
theorem Ym (C:List Cls) (i x:Nat) (hi:i<C.length) (hx:x<256) :
  (Ci C).set (i*4+x / 64) (.int γ (wd (Ax (C.getD i 0#256) (x:Int)) (x / 64)))=Ci (C.set i (Ax (C.getD i 0#256) (x:Int))):=by
 have G:=Ih C;apply List.ext_getElem?;intro j;by_cases E:j<C.length*4
 ·rw[Fr _ j (by simpa using E),List.getElem?_set,G];by_cases hd:j / 4=i
  ·subst hd;rw[Qv _ _ _ _ hi];by_cases e:j % 4=x / 64
   ·rw[if_pos (by omega),if_pos (by omega),e]
   rw[if_neg (by omega),Fr _ _ E]
   congr 2
   unfold wd;rw[Ss _ _ _ (by omega) (by omega),if_neg e]
  rw[Qw _ _ _ _ _ (þ hd),if_neg (by omega),Fr _ j E]
 rw[û (by rw[ο,G];omega),û (by rw[Ih,ο];omega)]
theorem CP (d1 d2:Dfa) (b9:Val d1) (cd:Val d2) (ga gb:Nat) (w:Γ) (h1:MachAt w ga d1) (h2:MachAt w gb d2) :
  Ϟ Ι 58 #[η (I ⟨ga,0,J⟩),η (I ⟨gb,0,J⟩)] w λe w'=>∃ vc v C bs,e=Ω (ϙ #[.agg #[vc,U J 0 0],v])/\Cs w' vc C/\Parts C/\C.length=bs.length/\Joint (Am d1.cls) (Am d2.cls) (Am C) bs/\By w' v (bs.map ϔ)/\Ext w w':=by
 obtain⟨_,_,_,_,_,_,-,-,eb,-,-⟩:=h1.opened b9;obtain⟨_,_,_,_,_,_,-,-,ec,-,-⟩:=h2.opened cd;have ed:=(λ(b:Nat) (hb:b<256)=>í (Ξ (cell_lt b9.parts hb) b9.parts.le) (Ξ (cell_lt cd.parts hb) cd.parts.le));clear h1 h2 b9 cd;generalize Am d1.cls=cg at *;generalize Am d2.cls=cj at *;have e4:=Z ed;clear ed;obtain⟨i0,hi,e8,e9,fa⟩:=ϑ Lg;obtain⟨j0,hj,fe,ff,fg⟩:=ϑ Qn;have fh:=@run_makeMap Ι;have ee:=((Κ w).alloc (Β #[U J 0 0,U J 0 0] 128)).alloc (Β #[U J 0 0,U J 0 0] 128);have H0:=Ag (Ad w (Β #[U J 0 0,U J 0 0] 128)) (Β #[U J 0 0,U J 0 0] 128);have H1:=ύ w (Β #[U J 0 0,U J 0 0] 128) (Β #[U J 0 0,U J 0 0] 128);have fj:=Z (λ(W:Γ) (hW:Ext w W) (b:Nat) (hb:b<256)=>hW.cell (eb b hb));have fk:=Z (λ(W:Γ) (hW:Ext w W) (b:Nat) (hb:b<256)=>hW.cell (ec b hb));clear eb ec;go_enter Tryz.func58,Tryz.ntmps58;go_upto_region 4 with (fail)
 clear fh;have R0:=Ag H0 (.map #[] 0);have R1:=Ag H1 (.map #[] 0);have ad:=Ig ((w.alloc (Β #[U J 0 0,U J 0 0] 128)).alloc (Β #[U J 0 0,U J 0 0] 128)) 158 C2;have fl:=ee.alloc (.map #[] 0);have gi:((((w.alloc (Β #[U J 0 0,U J 0 0] 128)).alloc (Β #[U J 0 0,U J 0 0] 128)).alloc (.map #[] 0))).heap.size=w.heap.size+1+1+1:=by rw[Ο,Ο,Ο]
 rw[Ο,Ο] at ad;obtain⟨w1,eh⟩:=Xq (((w.alloc (Β #[U J 0 0,U J 0 0] 128)).alloc (Β #[U J 0 0,U J 0 0] 128)).alloc (.map #[] 0));simp only[eh] at *;clear eh H0 H1 ee;have hI:=ϰ w1 w1.heap.size 5 1;have G:=ϰ w1 w1.heap.size 91 4;have R0:=Z R0;have R1:=Z R1;go_wp2_with (fail);go_loopw [7,14] (λv i W=>∃ (x:Nat) (bs:List Nat) (C:List Cls) (a:Option Addr) (cp:Nat) (ac:Option Addr) (cc:Nat) (c:Nat->Nat) (f:Nat × Nat->Option Nat),x<=256/\i=.int Χ x/\v=U a bs.length cp/\Ext w W/\w1.heap.size<=W.heap.size/\W.ownsRow w1.heap.size 5 1 v bs.length (bs.map λ(z:Nat)=>ϲ .u8 z)/\Row W w1.heap.size (U ac C.length cc) C/\IsMp W 158 C2 (w.heap.size+1+1) bs.length f/\ϟ (W.heap[w.heap.size]? = I (Β #[U J 0 0,U J 0 0] 128 (0,0)))/\ϟ (W.heap[w.heap.size+1]? = I (Β #[U ac C.length cc,U J 0 0] 128 (0,0)))/\ϟ (JInv cg cj x c bs f)/\ϟ (KInv x c bs.length C))
  (λ_ i _=>256-(intOf i).toNat)
 case atStart=>exact⟨0,[],[],J,0,J,0,_,_,by omega,rfl,rfl,fl,Υ _,hI,G,ad,R0,R1,Z (Xp _ _),Z (NY _)⟩
 clear hI G ad R0 R1;obtain⟨x,bs,C,a,cp,ac,cc,c,f,hx,rfl,rfl,hE,ei,hI,G,ad,H,E,HJ,aq⟩:=hrel;have gj:=HJ.o.le;have bm:=aq.o.len;by_cases be:x<256
 ·have ej:(x:Int)<256:=by omega
  have ka:=fj.o wr hE x be;have kb:=fk.o wr hE x be;obtain⟨ha,hb⟩:=e4.o x be;have c4:=Vo (cg x,cj x) (by show cg x<_;omega) (by show cj x<_;omega);generalize eo:cg x=ca at *;generalize ep:cj x=cb at *;have c5:=Z eo;have c6:=Z ep;clear eo ep;go_upto_region 7 with (fail)
  have na:=Γ.new_ne wr _ ka;have nb:=Γ.new_ne wr _ kb;go_region_held (λW=>W.cell? ⟨ga,3+x,J⟩=I (iv ca)/\W.cell? ⟨gb,3+x,J⟩=I (iv cb)) (go_keep) (fail)
  have e5:Ext wr (wr.alloc (Β #[iv ca,iv cb] 158)).drew:=((Κ wr).alloc _).drew;have K5:ϟ ((wr.alloc (Β #[iv ca,iv cb] 158)).drew.heap[wr.heap.size]? = I (Β #[iv ca,iv cb] 158 (0,0))):=Z (Ad wr _);obtain⟨w5,er⟩:=Xq ((wr.alloc (Β #[iv ca,iv cb] 158)).drew);simp only[er] at *;clear er ka kb na nb;rename_i fp
  clear fp;have bo:=hE.t e5;have bp:=μ ei e5.size;have hI:=Aa hI e5;have G:=Aa G e5;have ad:=ad.ext e5;have H:=Z (e5.heap H.o);have E:=Z (e5.heap E.o);have gl:w1.heap.size<=wr.heap.size:=ei;cases bq:f (ca,cb) with
  | some i=>
   have HN:=Z (Xr HJ.o i (by rw[c5.o,c6.o];exact bq));have gm:i<bs.length:=by obtain⟨z,hz,_,rfl⟩:=HJ.o.from_ _ _ bq;exact HJ.o.lt z hz
   clear HJ;obtain⟨g,gn,he,fs,gp,-,-⟩:=Row.cells G (by omega);injection he with he _ ft
   subst he ft;go_upto_region 14 with (first
    | (refine Lr 158 (ε 10) K5.o Tryz.underlying158 Ji ?_)
    | (at_lookup;refine Dx rfl _ _ 157 rfl Jh Tryz.underlying157 rfl ad (ca,cb) rfl c4 ?_;rw[bq];dsimp only [æ,Option.getD]))
   have c1:w5.drew.cell? ⟨w.heap.size+1,0,J⟩=I (U (I ⟨g,0,J⟩) C.length cc):=Τ w5.drew (w.heap.size+1) 0 _ _ _ E.o;have c2:w5.drew.cell? ⟨g,i*4+x / 64,J⟩=I (.int γ (wd (C.getD i 0#256) (x / 64))):=(by have h1:=G.cellAt (i*4+x / 64) (by omega);rw[Fr _ _ (by omega)] at h1;rw[show (i*4+x / 64) / 4=i by omega,show (i*4+x / 64) % 4=x / 64 by omega] at h1;exact h1)
   have hf:=G.frozenAt (i*4+x / 64);have aj:=G.stored (i*4+x / 64) (.int γ (wd (Ax (C.getD i 0#256) (x:Int)) (x / 64)));rw[Ym C i x (by omega) be] at aj;have da:å.wrap ((x:Int) / 64)=((x / 64:Nat):Int):=by simp[IntKind.wrap,IntKind.signed,IntKind.bits];omega
   have db:(x:Int).tmod 64=(x:Int) % 64:=Int.tmod_eq_emod_of_nonneg (by omega);have dc:0<=(x:Int) % 64:=by omega
   have dd:(x:Int) % 64<=64:=by omega
   have de:((x / 64:Nat):Int)<4:=by omega
   have br:=N7 (C.getD i 0#256) (x:Int) (by omega) ej;rw[show ((x:Int) / 64).toNat=x / 64 by omega] at br;have ⟨df,dg⟩:=Gs (C.getD i 0#256) (x / 64);have dh:=Z (Xo aq.o be i (by omega));have bt:=Z (show (C.set i (Ax (C.getD i 0#256) (x:Int))).length=C.length by simp);have dk:(i:Int)<(C.length:Int):=by omega
   generalize Ax (C.getD i 0#256) (x:Int)=zz at *;generalize C.getD i 0#256=z at *;have aj:=Z aj;have bu:=Z G;have bg:=Z hI;have bw:=Z ad;clear G hI ad;generalize hq:x / 64=q at *;refine Bq 14 [(0,Α),(1,Α),(2,Α),(3,Α),(4,Α),(5,Α),(6,Α),(7,Α),(8,Α),(9,Α),(10,Α),(11,Α),(12,Α),(13,Α),(14,Ε)] (by kernel_rfl) (by kernel_rfl) (λ_ _ _ _ h=>h)
    (λX=>X.cell? ⟨w.heap.size+1,0,J⟩=I (U (I ⟨g,0,J⟩) C.length cc)/\X.cell? ⟨g,i*4+q,J⟩=I (.int γ (wd z q))) ⟨c1,c2⟩ ?_
   iterate 14
    refine Ai (v:=?_) rfl rfl (λX hX=>?_) ?_
    rotate_left
    ·obtain⟨k1,k2⟩:=hX;go_simp;first|done|with_reducible rfl
    simp only[θ,Η,Μ,Λ]
   refine Ao rfl (λK hK=>?_);go_simp;refine hK _ _ (λh=>absurd h (by omega)) ?_;clear hK K hf;refine Bn ?_;clear br da db dc dd de df dg dk c1 c2;obtain⟨ax,af⟩:=aj.o;have a8:=bo.grown af (λk e=>by cases e;omega);have ai:=bg.o.kept af (Aj bg.o bu.o (by decide));have ba:=bw.o.kept af (λe=>by injection e;omega);have bz:=(af.block _ (Al H.o) (λe=>by injection e;omega)).trans H.o;have b0:=(af.block _ (Al E.o) (λe=>by injection e;omega)).trans E.o;have e6:=(Κ (w5.setCell ⟨g,i*4+q,J⟩ (.int γ (wd zz q)))).drew;have bb:w1.heap.size<=(w5.setCell ⟨g,i*4+q,J⟩ (.int γ (wd zz q))).drew.heap.size:=μ (μ bp af.size) e6.size;have bc:=a8.t e6;have ay:=Aa ai e6;have ag:=Aa ax e6;have bd:=ba.ext e6;have b4:=Z (e6.heap bz);have b5:=Z (e6.heap b0);clear ax af a8 ai ba bz b0 e6 aj bu bg bw;obtain⟨w7,bh⟩:=Xq ((w5.setCell ⟨g,i*4+q,J⟩ (.int γ (wd zz q))).drew);rw[bh] at bb bc ay ag bd b4 b5;rw[bh];clear bh;go_wp2;go_roundw
   case rel=>
    refine⟨x+1,bs,C.set i zz,_,_,I ⟨g,0,J⟩,cc,_,_,by omega,by go_num,rfl,bc,bb,ay,?_,bd,b4,?_,HN,dh⟩
    ·show ϣ _ _ _ _ _ _ _;rw[bt.o];exact ag
    rw[bt.o];exact b5
   case measure=>simp[intOf]<;>omega
  | none=>
   have HN:=Xs HJ.o (by rw[c5.o,c6.o];exact bq);rw[c5.o,c6.o] at HN;have HN:=Z HN;have aq:=Z (OA aq.o (λy hy=>HJ.o.lt y hy));clear HJ;go_upto_region 11 with (first
    | (refine Lr 158 (ε 10) K5.o Tryz.underlying158 Ji ?_)
    | (at_lookup;refine Dx rfl _ _ 157 rfl Jh Tryz.underlying157 rfl ad (ca,cb) rfl c4 ?_;rw[bq];dsimp only [æ,Option.getD]))
   go_upto_region 12 with (first
    | (refine Lr 158 (ε 10) K5.o Tryz.underlying158 Ji ?_)
    | (at_mapUpdate;refine Gr rfl _ _ _ 157 rfl Jh Tryz.underlying157 rfl ad (by unfold ϐ;omega) Pk (ca,cb) rfl c4 bs.length rfl (by omega) ?_;intro w6 ba bj))
   clear ad;have ai:=hI.kept bj (Az hI (by omega));have ax:=G.kept bj (Az G (by omega));have H:ϟ (w6.heap[w.heap.size]? = _):=Z ((bj.block _ (Al H.o) (by simp;omega)).trans H.o);have E:ϟ (w6.heap[w.heap.size+1]? = _):=Z ((bj.block _ (Al E.o) (by simp)).trans E.o);have a8:=bo.grown bj (λk e=>by cases e;omega);have bb:w1.heap.size<=w6.heap.size:=μ bp bj.size;clear bj hI G K5 e5;go_upto_region 13 with (at_builtin;refine ϕ _ rfl _ _ 22 rfl w1.heap.size 5 i0 (.int .u8 0) 1 1 Tryz.underlying22 hi e8 e9 fa rfl (by decide) _ _ _ rfl (ai.alloc _) _ 1 1 [.int .u8 x] rfl rfl (Õ _ _ _) (by simp[ξ]) (by decide) (by unfold ϐ;omega) (by omega) (by simp;omega) _ rfl ?_;intro g7 c7 w7 ay bk _ _)
   have et:=Al H.o;have dp:=Al E.o;have H:ϟ (w7.heap[w.heap.size]? = _):=Z ((bk.block _ (Ξ et (by rw[Ο];omega)) (λe=>by have:=(ai.lt _ e.symm).1;omega)).trans (Ag H.o _));have E:ϟ (w7.heap[w.heap.size+1]? = _):=Z ((bk.block _ (Ξ dp (by rw[Ο];omega)) (λe=>by have:=(ai.lt _ e.symm).1;omega)).trans (Ag E.o _));have bd:=(ba.alloc (Β #[.int .u8 x] 5)).kept bk (λe=>by have:=(ai.lt _ e.symm).1;omega);have bc:=(a8.alloc (Β #[.int .u8 x] 5)).grown bk (λk e=>by have:=(ai.lt k e).1;omega);have ag:=(ax.alloc (Β #[.int .u8 x] 5)).kept bk (Aj (ax.alloc (Β #[.int .u8 x] 5)) (ai.alloc (Β #[.int .u8 x] 5)) (by decide));have eu:w1.heap.size<=w7.heap.size:=μ bb (by have:=bk.size;rw[Ο] at this;omega);clear bk ai ba ax et dp;have ag:w7.ownsRow w1.heap.size 91 4 (U ac bs.length cc) bs.length (Ci C):=by rw[<-bm];exact ag
   have E:ϟ (w7.heap[w.heap.size+1]? = I (Β #[U ac bs.length cc,U J 0 0] 128 (0,0))):=by rw[<-bm];exact E
   have k7:w7.cell? ⟨w.heap.size+1,0,J⟩=I (U ac bs.length cc):=Τ w7 (w.heap.size+1) 0 _ _ _ E.o;have dq:=Z bm;clear bm;go_upto_region 14 with (at_builtin;refine ϕ _ rfl _ _ 36 rfl w1.heap.size 91 j0 (.agg zA) 4 32 Tryz.underlying36 hj fe ff fg rfl (by decide) (U ac bs.length cc) _ _ rfl (ag.alloc _) _ 1 1 [.int γ 0,.int γ 0,.int γ 0,.int γ 0] rfl rfl (Γ.news_of_block (Ad _ _)) (by simp[ξ]) (by decide) (by unfold ϐ;omega) (by omega) (by simp;omega) _ rfl ?_;intro T c8 w8 dr bl _ _;have b6:=(bl.block _ (Ξ (Al E.o) (by rw[Ο];omega)) (λe=>by have:=(ag.lt _ e.symm).1;omega)).trans (Ag E.o _);have k8:=Τ w8 (w.heap.size+1) 0 _ _ _ b6;have f8:=Â w8 (w.heap.size+1) 0 _ _ b6)
   rw[ϧ w8 _ _ _ _ _ _ b6];have cq:=Ca w8 (w.heap.size+1) (#[U (I ⟨T,0,J⟩) (bs.length+1) c8,U J 0 0]);have a1:=(Κ w7).alloc (Β #[ϲ γ 0,ϲ γ 0,ϲ γ 0,ϲ γ 0] 91);have ev:=(bc.t a1).grown bl (λk e=>by have:=(ag.lt k e).1;omega);have dt:=(Aa ay a1).kept bl (Aj (Aa ay a1) (Aa ag a1) (by decide));have ew:=(bd.ext a1).kept bl (λe=>by have:=(ag.lt _ e.symm).1;omega);have ey:=(bl.block _ (Ξ (Al H.o) a1.size) (λe=>by have:=(ag.lt _ e.symm).1;omega)).trans (a1.heap H.o);have ez:w1.heap.size<=w8.heap.size:=μ (μ eu a1.size) bl.size;have du:=ev.setRow (show w.heap.size<=w.heap.size+1 by omega) (#[U (I ⟨T,0,J⟩) (bs.length+1) c8,U J 0 0]);have dv:=dt.kept cq (Az dt (by omega));have ct:=dr.kept cq (Az dr (by omega));have dw:=ew.kept cq (by simp);have dx:=Bk ey (show w.heap.size≠w.heap.size+1 by omega) (#[U (I ⟨T,0,J⟩) (bs.length+1) c8,U J 0 0]);have cu:=Φ w8 (w.heap.size+1) _ (#[U (I ⟨T,0,J⟩) (bs.length+1) c8,U J 0 0]) _ _ b6;have dy:w1.heap.size<=(w8.setRow (w.heap.size+1) (#[U (I ⟨T,0,J⟩) (bs.length+1) c8,U J 0 0])).heap.size:=by rw[ì];exact ez
   clear bl a1 ev dt ew ey ez k8 f8 b6 dr cq bc ay bd ag E H a8 bo bp bb eu k7;obtain⟨w9,dz⟩:=Xq (w8.setRow (w.heap.size+1) (#[U (I ⟨T,0,J⟩) (bs.length+1) c8,U J 0 0]));have e0:w8.setRow (w.heap.size+1) ((#[U ac bs.length cc,U J 0 0]:Array Δ).setIfInBounds 0 (U (I ⟨T,0,J⟩) (bs.length+1) c8))=w9:=dz;rw[e0];rw[dz] at du dv ct dw dx cu dy;clear dz e0;have fs:w1.heap.size<=T:=(ct.lt T rfl).1;obtain⟨b7,b8⟩:=Xq (bs++[x]);have ea:b7.length=bs.length+1:=by rw[<-b8,Ν];rfl
   obtain⟨C9,cv⟩:=Xq (C++[0#256]);have e1:C9.length=bs.length+1:=by rw[<-cv,Ν,dq.o];rfl
   have dp:(bs.length:Int)<(bs.length:Int)+1:=by omega
   have hI:w9.ownsRow w1.heap.size 5 1 (U (I ⟨g7,0,J⟩) (bs.length+1) c7) b7.length (b7.map λ(z:Nat)=>ϲ .u8 z):=by rw[<-b8,Ν,ϥ];exact dv
   have G:Row w9 w1.heap.size (U (I ⟨T,0,J⟩) C9.length c8) C9:=by show ϣ _ _ _ _ _ _ _;rw[e1,<-cv,Nk,Nj];unfold Cm;rw[Kb,Kb,Kb,Kb];exact ct
   have ad:=dw;rw[<-ea] at ad;have aq:ϟ (KInv x c b7.length C9):=by rw[ea,<-cv];exact aq
   rw[<-e1] at cu;have H:=Z dx;have E:=Z cu;rw[b8] at HN;have gq:=Z b8;have bo:=du;have bp:=dy;clear b8 dv ct dw dx cu cv du dy;have c1:w9.drew.cell? ⟨w.heap.size+1,0,J⟩=I (U (I ⟨T,0,J⟩) C9.length c8):=Τ w9.drew (w.heap.size+1) 0 _ _ _ E.o;have c2:w9.drew.cell? ⟨T,bs.length*4+x / 64,J⟩=I (.int γ (wd (C9.getD bs.length 0#256) (x / 64))):=(by have h1:=G.cellAt (bs.length*4+x / 64) (by omega);rw[Fr _ _ (by omega)] at h1;rw[show (bs.length*4+x / 64) / 4=bs.length by omega,show (bs.length*4+x / 64) % 4=x / 64 by omega] at h1;exact h1)
   have hf:=G.frozenAt (bs.length*4+x / 64);have aj:=G.stored (bs.length*4+x / 64) (.int γ (wd (Ax (C9.getD bs.length 0#256) (x:Int)) (x / 64)));rw[Ym C9 bs.length x (by omega) be] at aj;have da:å.wrap ((x:Int) / 64)=((x / 64:Nat):Int):=by simp[IntKind.wrap,IntKind.signed,IntKind.bits];omega
   have db:(x:Int).tmod 64=(x:Int) % 64:=Int.tmod_eq_emod_of_nonneg (by omega);have dc:0<=(x:Int) % 64:=by omega
   have dd:(x:Int) % 64<=64:=by omega
   have de:((x / 64:Nat):Int)<4:=by omega
   have br:=N7 (C9.getD bs.length 0#256) (x:Int) (by omega) ej;rw[show ((x:Int) / 64).toNat=x / 64 by omega] at br;have ⟨df,dg⟩:=Gs (C9.getD bs.length 0#256) (x / 64);have dh:=Z (Xo aq.o be bs.length (by omega));have bt:=Z (show (C9.set bs.length (Ax (C9.getD bs.length 0#256) (x:Int))).length=C9.length by simp);have dk:(bs.length:Int)<(C9.length:Int):=by omega
   generalize Ax (C9.getD bs.length 0#256) (x:Int)=zz at *;generalize C9.getD bs.length 0#256=z at *;have aj:=Z aj;have bu:=Z G;have bg:=Z hI;have bw:=Z ad;clear G hI ad;generalize hq:x / 64=q at *;refine Bq 14 [(0,Α),(1,Α),(2,Α),(3,Α),(4,Α),(5,Α),(6,Α),(7,Α),(8,Α),(9,Α),(10,Α),(11,Α),(12,Α),(13,Α),(14,Ε)] (by kernel_rfl) (by kernel_rfl) (λ_ _ _ _ h=>h)
    (λX=>X.cell? ⟨w.heap.size+1,0,J⟩=I (U (I ⟨T,0,J⟩) C9.length c8)/\X.cell? ⟨T,bs.length*4+q,J⟩=I (.int γ (wd z q))) ⟨c1,c2⟩ ?_
   iterate 14
    refine Ai (v:=?_) rfl rfl (λX hX=>?_) ?_
    rotate_left
    ·obtain⟨k1,k2⟩:=hX;go_simp;first|done|with_reducible rfl
    simp only[θ,Η,Μ,Λ]
   refine Ao rfl (λK hK=>?_);go_simp;refine hK _ _ (λh=>absurd h (by omega)) ?_;clear hK K hf;refine Bn ?_;clear br da db dc dd de df dg dk c1 c2;obtain⟨ax,af⟩:=aj.o;have a8:=bo.grown af (λk e=>by cases e;omega);have ai:=bg.o.kept af (Aj bg.o bu.o (by decide));have ba:=bw.o.kept af (λe=>by injection e;omega);have bz:=(af.block _ (Al H.o) (λe=>by injection e;omega)).trans H.o;have b0:=(af.block _ (Al E.o) (λe=>by injection e;omega)).trans E.o;have e6:=(Κ (w9.setCell ⟨T,bs.length*4+q,J⟩ (.int γ (wd zz q)))).drew;have bb:w1.heap.size<=(w9.setCell ⟨T,bs.length*4+q,J⟩ (.int γ (wd zz q))).drew.heap.size:=μ (μ bp af.size) e6.size;have bc:=a8.t e6;have ay:=Aa ai e6;have ag:=Aa ax e6;have bd:=ba.ext e6;have b4:=Z (e6.heap bz);have b5:=Z (e6.heap b0);clear ax af a8 ai ba bz b0 e6 aj bu bg bw;obtain⟨w7,bh⟩:=Xq ((w9.setCell ⟨T,bs.length*4+q,J⟩ (.int γ (wd zz q))).drew);rw[bh] at bb bc ay ag bd b4 b5;rw[bh];clear bh;go_wp2;go_roundw
   case rel=>
    refine⟨x+1,b7,C9.set bs.length zz,_,_,I ⟨T,0,J⟩,c8,_,_,by omega,by go_num,by rw[ea],bc,bb,ay,?_,bd,b4,?_,HN,dh⟩
    ·show ϣ _ _ _ _ _ _ _;rw[bt.o];exact ag
    rw[bt.o];exact b5
   case measure=>simp[intOf]<;>omega
 obtain rfl:x=256:=by omega
 have dq:=Z bm;clear bm;have e2:=Xt HJ.o;obtain⟨hP,_,hJ⟩:=NZ aq.o e2;have gu:=H.o;have gv:=E.o;go_wp2_with (first
  | (refine Lr 128 (ε 6) E.o Tryz.underlying128 Fp ?_)
  | (refine Sr 128 (ε 4) (ε 69) rfl H.o Fp rfl (by simp[ξ]) ?_))
 refine ω (v:=ϙ #[.agg #[U ac C.length cc,U J 0 0],U a bs.length cp]) (Bi rfl _ _ _ _ _ _ _ rfl _ rfl (Φ wr _ _ _ 128 (0,0) H.o) Tryz.underlying128 rfl Fp) rfl ?_;have e3:=Ca wr w.heap.size #[U ac C.length cc,U J 0 0];refine⟨_,_,C,bs,rfl,Row.toCs (G.kept e3 (Az G (by omega))) (by rw[dq.o];omega),hP,aq.o.len,hJ,?_,hE.setRow (by omega) _⟩;have h1:=hI.kept e3 (Az hI (by omega));have h2:=Sl.of_owns h1 (by omega) (.int .u8 0);unfold By;rw[ι];refine Sl.congr h2 (λi hi=>?_);have hi:i<bs.length:=by omega
 have h3:=e2.byte i hi;rw[Ζ,Ζ,υ,υ] at *;rw[Θ hi] at *;simp at h3 ⊢;omega
open Go.RowKit Go.Shelf Go.WideMaps
open Go.Maps (Keyed)
def F8 (x:Nat × Nat):List Δ:=[iv x.1,.int γ (x.2:Int)]
def Gu (x:Nat × Nat):Array Δ:=#[iv x.1,.int γ (x.2:Int)]
def stK (x:Nat × Nat):Δ:=.agg (Gu x)
theorem Ov (x y:Nat × Nat) (h:stK x=stK y):x=y:=by
 cases x;cases y
 simp[stK,Gu] at h;simp;omega
theorem Ie:Keyed Ι 134:=Keyed.of_law (deep_law_laid M9 (m:=3) (by omega) (of_decide_eq_true (by kernel_rfl)) (by kernel_rfl) (by rw[ø]))
theorem NU:Ι.keyType 134=Α:=by kernel_rfl
theorem Zf:Ι.cellsOf 134=2:=by kernel_rfl
theorem Ou (x:Nat × Nat) (h1:x.1<9223372036854775808) (E:x.2<18446744073709551616):∃ l,keyOf Ι 134 (stK x)=I l:=by
 obtain⟨m,hm⟩:=O1;refine⟨.string (keyBytes [.int Χ x.1,.int γ x.2]),?_⟩;unfold keyOf;simp only[ø];rw[if_pos (by simp[NU,Δ.formed,stK,Gu,ø,Zf]),hm];have e:(stK x).cells.toList=[iv x.1,.int γ (x.2:Int)]:=rfl;rw[e];have:Ι.keyLits (m+3+1) 134 [iv x.1,.int γ (x.2:Int)]=I [.int Χ x.1,.int γ x.2]:=by show Ö.keyLits Ι ((m+3)+1) 134 _=_;unfold Ö.keyLits;simp only[ø];rw[if_pos (by rw[Zf];exact⟨rfl,by kernel_rfl⟩)];rw[List.mapM_cons,List.mapM_cons,List.mapM_nil];simp only[co3,Ze,À,ϸ,î,List.take_zero];rw[show m+3=(m+2)+1 by omega,kl3 _ _ h1,Xn _ _ E];rfl
 rw[this];rfl
theorem Ge:(Ι.info? 134).map (·.size)=I 2:=by kernel_rfl
theorem OP:(Ι.info? 134).map (λi=>(i.zero,i.size,i.bytes))=I (I (.agg #[.int Χ 0,.int γ 0]),2,16):=by kernel_rfl
theorem Ty (x:Nat × Nat):(Gu x).all (·.oneCell')=Α:=by simp[Gu,ξ]
theorem AD:Ι.built 134 []=I #[.int Χ 0,.int γ 0]:=by kernel_rfl
theorem UN (p:Int):Ι.built 134 [(0,.int Χ p)]=I #[.int Χ p,.int γ 0]:=by kernel_rfl
def flK (l:List (Nat × Nat)):List Δ:=l.flatMap F8
theorem QP (l m:List (Nat × Nat)):flK (l++m)=flK l++flK m:=by simp[flK]
theorem QN (x:Nat × Nat):flK [x]=F8 x:=by simp[flK]
theorem QO (l:List (Nat × Nat)) (k:Nat) (x:Nat × Nat) (h:l[k]? = I x):(flK l)[k*2]? = I (iv x.1)/\(flK l)[k*2+1]? = I (.int γ (x.2:Int)):=by
 induction l generalizing k with
 | nil=>simp at h
 | cons y l G=>
  have e:flK (y::l)=F8 y++flK l:=rfl;cases k with
  | zero=>
   have:y=x:=by simpa using h
   subst this;rw[e];exact⟨rfl,rfl⟩
  | succ k=>
   have H:l[k]? = I x:=by simpa using h
   obtain⟨h1,T⟩:=G k H;have E:(F8 y).length=2:=rfl;rw[e];refine⟨?_,?_⟩
   ·rw[χ (by rw[E];omega),E,show (k+1)*2-2=k*2 by omega];exact h1
   rw[χ (by rw[E];omega),E,show (k+1)*2+1-2=k*2+1 by omega];exact T
abbrev J6 (W:Γ) (base:Nat) (v:Δ) (l:List (Nat × Nat)):Prop:=W.ownsRow base 134 2 v l.length (flK l)
theorem Tv {W:Γ} {base g E:Nat} {l:List (Nat × Nat)} (h:J6 W base (U (I ⟨g,0,J⟩) l.length E) l) (k:Nat) (x:Nat × Nat) (hx:l[k]? = I x) :
  W.cell? ⟨g,k*2,J⟩=I (iv x.1)/\W.cell? ⟨g,k*2+1,J⟩=I (.int γ (x.2:Int)):=by
 have H:k<l.length:=(ν.1 hx).1;obtain⟨h1,G⟩:=QO l k x hx;rw[h.cellAt _ (by omega),h.cellAt _ (by omega)];exact⟨h1,G⟩
theorem Ja {κ:Type} {W:Γ} {k:TypeId} {key:κ->Δ} {b n:Nat} {f:κ->Option Δ} {base e size:Nat} {v:Δ} {m:Nat} {xs:List Δ} (h:IsMv W k key b n f) (T:W.ownsRow base e size v m xs):I b≠v.ownBlock:=λE=>by
 obtain⟨es,c,hb⟩:=h.block;rcases T.2 with⟨G,_⟩|⟨X,aa,cur,G,_,H,_⟩
 ·rw[G] at E;cases E
 rw[G] at E;have E:I b=I X:=E;injection E with E
 subst E;rw[hb] at H;cases H
theorem M2 {κ:Type} {W:Γ} {k:TypeId} {key:κ->Δ} {b n:Nat} {f:κ->Option Nat} (h:IsMp W k key b n f):∃ es c,W.heap[b]? = I (.map es c):=by obtain⟨_,⟨es,c,hb,_⟩,_⟩:=h;exact⟨es,c,hb⟩
structure LzO (W:Γ) (Bo gW bI bR:Nat) (vc:Δ) (cnt:Nat) (l:List (Nat × Nat)) (f:Nat × Nat->Option Nat) (go co:Nat) (vnx:Δ) (vs:List Δ) (N:List (List Nat)) (av:Option Nat->Prop):Prop where
 mp:IsMp W 134 stK bI cnt f
 L:J6 W Bo (U (I ⟨go,0,J⟩) l.length co) l
 D:W.heap[gW]? = I (Β #[vc,vnx] 128 (0,0))
 Nx:W.ownsRow Bo 54 1 vnx vs.length vs
 V:RowsO W Bo vs N av
 MR:IsMv W 3 iv bR 0 (λ_=>J)
 sz:Bo<=W.heap.size
section
variable {W W':World} {Bo gW bI bR cnt go co:Nat} {vc vnx:Value} {l:List (Nat × Nat)} {f:Nat × Nat->Option Nat} {vs:List Value} {N:List (List Nat)} {av:Option Nat->Prop}
theorem LzO.ext (h:LzO W Bo gW bI bR vc cnt l f go co vnx vs N av) (E:Ext W W'):LzO W' Bo gW bI bR vc cnt l f go co vnx vs N av:=
 ⟨h.mp.ext E,Aa h.L E,E.heap h.D,Aa h.Nx E,h.V.kept (E.grownBy J) (λv l _ _=>by cases v.ownBlock<;>simp),h.MR.ext E,μ h.sz E.size⟩
theorem LzO.avs {av':Option Nat->Prop} (h:LzO W Bo gW bI bR vc cnt l f go co vnx vs N av) (E:∀ v l,OwnI W Bo v l->¬ av v.ownBlock->¬ av' v.ownBlock):LzO W Bo gW bI bR vc cnt l f go co vnx vs N av':=
 ⟨h.mp,h.L,h.D,h.Nx,h.V.av E,h.MR,h.sz⟩
theorem LzO.keptQ {gr m c:Nat} {xs:List Δ} (h:LzO W Bo gW bI bR vc cnt l f go co vnx vs N (λo=>o=I gr)) (E:W.ownsRow Bo 3 1 (U (I ⟨gr,0,J⟩) m c) m xs) (hg:W.grownBy W' (I gr)):LzO W' Bo gW bI bR vc cnt l f go co vnx vs N (λo=>o=I gr):=
 ⟨h.mp.kept hg (h.mp.ne_row E),h.L.kept hg (Aj h.L E (by decide)),(hg.block gW (Al h.D) (Fb E h.D (by decide))).trans h.D,h.Nx.kept hg (Aj h.Nx E (by decide)),h.V.kept hg (λv l _ G=>.inr G),h.MR.kept hg (Ja h.MR E),μ h.sz hg.size⟩
theorem LzO.mput {E:Nat} {G:Nat × Nat->Option Nat} (h:LzO W Bo gW bI bR vc cnt l f go co vnx vs N av) (hb:bR≠bI) (H:IsMp W' 134 stK bI E G) (hg:W.grownBy W' (I bI)):LzO W' Bo gW bI bR vc E l G go co vnx vs N av:=
 ⟨H,h.L.kept hg (h.mp.far h.L),Dr hg (M2 h.mp) h.D,h.Nx.kept hg (h.mp.far h.Nx),h.V.kept hg (λv l T _=>h.mp.far T),h.MR.kept hg (λe=>hb (ϓ e)),μ h.sz hg.size⟩
theorem LzO.app {y:Nat × Nat} {E G:Nat} (h:LzO W Bo gW bI bR vc cnt l f go co vnx vs N av) (hg:W.grownBy W' (ό (I ⟨go,0,J⟩) l.length co).ownBlock) (H:W'.ownsRow Bo 134 2 (U (I ⟨E,0,J⟩) (l.length+1) G) (l.length+1) (flK l++F8 y)):LzO W' Bo gW bI bR vc cnt (l++[y]) f E G vnx vs N av where
 mp:=h.mp.kept hg (h.mp.ne_row h.L)
 L:=by show ϣ _ _ _ _ _ _ _;rw[Ν,QP,QN];exact H
 D:=(hg.block gW (Al h.D) (Fb h.L h.D (by decide))).trans h.D
 Nx:=h.Nx.kept hg (Aj h.Nx h.L (by decide))
 V:=h.V.kept hg (λv l T _=>Aj T h.L (by decide))
 MR:=h.MR.kept hg (Ja h.MR h.L)
 sz:=μ h.sz hg.size
theorem LzO.keptN (h:LzO W Bo gW bI bR vc cnt l f go co vnx vs N av) (hg:W.grownBy W' vnx.ownBlock):IsMp W' 134 stK bI cnt f/\J6 W' Bo (U (I ⟨go,0,J⟩) l.length co) l/\W'.heap[gW]? = I (Β #[vc,vnx] 128 (0,0))/\RowsO W' Bo vs N av/\IsMv W' 3 iv bR 0 (λ_=>J)/\Bo<=W'.heap.size:=
 ⟨h.mp.kept hg (h.mp.ne_row h.Nx),h.L.kept hg (Aj h.L h.Nx (by decide)),(hg.block gW (Al h.D) (Fb h.Nx h.D (by decide))).trans h.D,h.V.kept hg (λv l E _=>Aj E h.Nx (by decide)),h.MR.kept hg (Ja h.MR h.Nx),μ h.sz hg.size⟩
theorem LzO.row {gr m c:Nat} {r:List Nat} {G:Δ} {H:List Δ} (h1:IsMp W 134 stK bI cnt f) (T:J6 W Bo (U (I ⟨go,0,J⟩) l.length co) l) (E:W.heap[gW]? = I (Β #[vc,vnx] 128 (0,0))) (h4:RowsO W Bo vs N (λo=>o=I gr)) (X:IsMv W 3 iv bR 0 (λ_=>J)) (h6:Bo<=W.heap.size)
  (hQ:W.ownsRow Bo 3 1 (U (I ⟨gr,0,J⟩) m c) m (r.map iv)) (hr:r.length=m) (hN:W.ownsRow Bo 54 1 G H.length H) (ag:H=vs++[U (I ⟨gr,0,J⟩) m c]) :
  LzO (W.setRow gW #[vc,G]) Bo gW bI bR vc cnt l f go co G H (N++[r]) (λ_=>False):=by
 have hg:=Ca W gW #[vc,G];refine⟨h1.kept hg (λe=>?_),T.kept hg (B2 T E (by decide)),Φ W gW _ _ _ _ E,hN.kept hg (B2 hN E (by decide)),?_,X.kept hg (λe=>?_),μ h6 hg.size⟩
 ·obtain⟨es,c',hb⟩:=M2 h1;injection e with e
  rw[e,E] at hb;cases hb
 ·rw[ag];have h7:OwnI W Bo (U (I ⟨gr,0,J⟩) m c) r:=by show W.ownsRow Bo 3 1 _ r.length _;rw[hr];exact hQ
  exact ((h4.av (av':=λ_=>False) (λ_ _ _ _ h=>h)).snoc h7 (λh=>h)).kept hg (λv l ho _=>B2 ho E (by decide))
 obtain⟨es,c',hb⟩:=X.block;injection e with e
 rw[e,E] at hb;cases hb
end
def Qf (E G:Array Δ) (a b:Dfa):Nat->Δ->Γ->Prop
 | 0,v,_=>v=.agg E
 | 1,v,W=>∃ g,v=η (I ⟨g,0,J⟩)/\MachAt W g a
 | 2,v,_=>v=.agg G
 | 3,v,W=>∃ g,v=η (I ⟨g,0,J⟩)/\MachAt W g b
 | 4,v,W=>∃ g,v=η (I ⟨g,0,J⟩)/\MachAt W g a
 | _,v,W=>∃ g,v=η (I ⟨g,0,J⟩)/\MachAt W g b
theorem NM (H T:Array Δ) (a b:Dfa):∀ (i:Nat) (v:Δ) (w w':Γ),Qf H T a b i v w->Ext w w'->Qf H T a b i v w'
 | 0,_,_,_,h,_=>h
 | 1,_,_,_,⟨g,h1,E⟩,G=>⟨g,h1,E.ext G⟩
 | 2,_,_,_,h,_=>h
 | 3,_,_,_,⟨g,h1,E⟩,G=>⟨g,h1,E.ext G⟩
 | 4,_,_,_,⟨g,h1,E⟩,G=>⟨g,h1,E.ext G⟩
 | _+5,_,_,_,⟨g,h1,E⟩,G=>⟨g,h1,E.ext G⟩
def LazOut (W:Γ) (e:Ending) (a b:Dfa):Prop:=
 (∃ os v,e=Ω (ϙ #[v,.int Χ 0])/\OptsOf Α (wd1 a) (wd1 b) os/\(os.length<=65536/\∀ o∈os,o.head.n.length<=64/\o.rest.n.length<=64)/\OpsV W v os)\/
 (e=Ω (ϙ #[U J 0 0,.int Χ 2])/\Ir a b)
theorem NK (a b:Dfa) (ha:Cano a) (hb:Cano b) (j7:a.n.length<=64) (j8:b.n.length<=64) (va vb:Δ) (w:Γ) (hT:Tab w) (gl:0<w.heap.size) (gm:IsD w va a) (fa:IsD w vb b) :
  Ϟ Ι 31 #[va,vb] w λe w'=>LazOut w' e a b/\Ext w w':=by
 have kb:=Z (λW (hW:Ext w W)=>hT.below hW.below gl);have cv:=Z ha;have ao:=Z hb;have kc:=Z gm;have gn:=Z fa;have oz:=Z j7;have cl:=Z j8;obtain⟨bc,oc,cc,bn,on,cn,ba,oa,ca,rfl,hC,hR,kg⟩:=gm.opened ha.val;obtain⟨pa,pb,pc,kh,ki,kj,pd,pe,pf,rfl,-,-,-⟩:=fa.opened hb.val;have HA:=Z kg;have pg:=ha.val.pos;obtain⟨i0,hi,pj,pk,pn⟩:=ϑ Ds;obtain⟨k0,hk,pr,pt,px⟩:=ϑ Lf;obtain⟨j0,hj,kl,km,kn⟩:=ϑ OP;obtain⟨n,fb⟩:=Xq (a.n.length);obtain⟨nb,fc⟩:=Xq (b.n.length);have HN:=Z fb;have dz:=Z fc;rw[fb] at j7 HA;rw[fc] at j8;obtain⟨Va,ea⟩:=Xq (dA (U (I ⟨bc,oc,J⟩) a.cls.length cc) (U (I ⟨bn,on,J⟩) a.n.length cn) (U (I ⟨ba,oa,J⟩) a.n.length ca));obtain⟨Vb,eb⟩:=Xq (dA (U (I ⟨pa,pb,J⟩) b.cls.length pc) (U (I ⟨kh,ki,J⟩) b.n.length kj) (U (I ⟨pd,pe,J⟩) b.n.length pf));have py:(Ι.info? 40).map (·.size)=I Va.size:=by rw[<-ea];exact Ae
 have kq:(Ι.info? 40).map (·.size)=I Vb.size:=by rw[<-eb];exact Ae
 have kr:Va[2]? = I (U (I ⟨ba,oa,J⟩) n ca):=by rw[<-ea,<-fb];rfl
 have ks:Vb[1]? = I (U (I ⟨kh,ki,J⟩) nb kj):=by rw[<-eb,<-fc];rfl
 rw[ea] at kc;rw[eb] at gn;rw[ea,eb];clear ea eb hT ha hb gm fa hC hR kg fb fc pg;have gq:=((Κ w).alloc (Β Va 40)).alloc (Β Vb 40);have H2:=Ag (Ad w (Β Va 40)) (Β Vb 40);have H3:=ύ w (Β Va 40) (Β Vb 40);have gu:=@run_makeMap Ι;go_enter Tryz.func31,Tryz.ntmps31;go_upto_region 1 with (fail)
 obtain⟨w0,cm⟩:=Xq ((w.alloc (Β Va 40)).alloc (Β Vb 40));rw[cm] at gq H2 H3;simp only[cm];clear cm;have ec:=Z gq;have kt:=Z (λV (hV:Ext w0 V)=>(Τ V w.heap.size 2 _ _ _ (hV.heap H2)).trans kr);have pz:=Z (λV (hV:Ext w0 V)=>(Τ V (w.heap.size+1) 1 _ _ _ (hV.heap H3)).trans ks);have p0:=Z (λV (hV:Ext w0 V)=>hV.heap H2);have ku:=Z (λV (hV:Ext w0 V)=>hV.heap H3);clear H2 H3 gq ks kr;refine Hk 4 171 (by kernel_rfl) (by kernel_rfl) rfl (Qf Va Vb a b) Hz Kv (NM _ _ _ _) (λi p1=>?_) (λvs w2 fg hF hN=>?_)
 ·have fh:=(Κ w0).drew
  match i,p1 with
  | 0,_=>
   refine Av _ _ rfl rfl rfl λc W hW ee ef=>?_
   have h3:c.tmps.getD 2 δ=η (I ⟨w.heap.size,0,J⟩):=ef 2 (by kernel_rfl);refine Cy (Ei 40 (ε 2) rfl w.heap.size h3 _ _ _ _ (p0.o W (fh.t hW)) Ρ rfl py) ?_;exact⟨_,rfl,Κ W,rfl,λ_ _ _ _ _=>trivial⟩
  | 1,_=>
   refine Av _ _ rfl rfl rfl λc W hW ee ef=>?_
   have h3:c.tmps.getD 25 δ=.agg Va:=ee 0 25 (by kernel_rfl);have f111:=P6 a cv.o.val (.agg Va) W (kc.o.ext (ec.o.t (fh.t hW)));go_simp
   (with_reducible refine f111.mono ?_)
   rintro e W' ⟨g,rfl,hM,gv⟩;exact⟨_,rfl,gv,⟨g,rfl,hM⟩,λ_ _ _ _ _=>trivial⟩
  | 2,_=>
   refine Av _ _ rfl rfl rfl λc W hW ee ef=>?_
   have h3:c.tmps.getD 3 δ=η (I ⟨w.heap.size+1,0,J⟩):=ef 3 (by kernel_rfl);refine Cy (Ei 40 (ε 3) rfl (w.heap.size+1) h3 _ _ _ _ (ku.o W (fh.t hW)) Ρ rfl kq) ?_;exact⟨_,rfl,Κ W,rfl,λ_ _ _ _ _=>trivial⟩
  | 3,_=>
   refine Av _ _ rfl rfl rfl λc W hW ee ef=>?_
   have h3:c.tmps.getD 27 δ=.agg Vb:=ee 2 27 (by kernel_rfl);have f111:=P6 b ao.o.val (.agg Vb) W (gn.o.ext (ec.o.t (fh.t hW)));go_simp
   (with_reducible refine f111.mono ?_)
   rintro e W' ⟨g,rfl,hM,gv⟩;exact⟨_,rfl,gv,⟨g,rfl,hM⟩,λ_ _ _ _ _=>trivial⟩
 have kv:vs 0=.agg Va:=hF 0 (by omega);obtain⟨ga,ky,gw⟩:∃ g,vs 1=η (I ⟨g,0,J⟩)/\MachAt w2 g a:=hF 1 (by omega);have kz:vs 2=.agg Vb:=hF 2 (by omega);obtain⟨gb,k9,gz⟩:∃ g,vs 3=η (I ⟨g,0,J⟩)/\MachAt w2 g b:=hF 3 (by omega);simp only[Bm,ϸ,À,kv,ky,kz,k9,Ϸ,Ϻ,ϻ,ò,θ,Η,Μ,Λ];clear hF hN kv ky kz k9;have la:=(Κ w0).drew.t fg;have p3:=Z (λV (hV:Ext w2 V)=>gw.ext hV);have lb:=Z (λV (hV:Ext w2 V)=>gz.ext hV);have f151:=Z (CP a b cv.o.val ao.o.val ga gb w2 gw gz);clear gw gz fg;go_upto_region 2 with (fail)
 go_upto_region 3 with (first
  | (go_at_call 58;(with_reducible refine f151.o.mono ?_);rintro e wJ ⟨vc,vb,C,bs,rfl,hh,hP,lg,hJ,lj,lk⟩;obtain⟨ac,au,rfl⟩:=Sl.len hh;obtain⟨ab,bb,ob,cb,rfl,ll,ln⟩:=lj.split;have lo:=Z hh;have HP:=Z hP;have lq:=Z lg;have HJ:=Z hJ;have lr:=Z ll;have lu:=Z ln;have fj:=Z lk;clear hh hP lg hJ ll ln lk lj)
  | (refine Sr 128 (ε 8) (ε 33) rfl (Ad wJ (Β #[U J 0 0,U J 0 0] 128)) Fp rfl (by simp[ξ]) ?_))
 clear f151;have lv:0<bs.length:=by have:=HJ.o.lt 0 (by omega);omega
 have p6:bs.length<=256:=by have h1:=HP.o.le;rw[lq.o] at h1;exact h1
 obtain⟨m,hm⟩:=Xq (bs.length);obtain⟨lc,fk⟩:=Xq (C.length);have fl:(bs.map ϔ).length=m:=by rw[ι,hm]
 have HM:=Z hm;have rv:=Z fk;have p7:=lr.o (by rw[fl,<-hm];exact lv);subst p7;have p8:=Z (λV (hV:Ext wJ V) k (dp:k<m)=>show V.cell? ⟨bb,ob+k,J⟩=I (bv (ϔ (bs.getD k 0))) from by
  have h:=hV.cell (lu.o k (by rw[fl];exact dp));rw[h]
  congr 2
  rw[Ζ,υ,Θ (by rw[hm];exact dp),Ζ,Θ (by rw[hm];exact dp)];rfl)
 have hp:=Z (λk (dp:k<m)=>(HJ.o.byte k (by rw[hm];exact dp)).1);rw[fk] at lo;rw[hm] at lv p6;simp only[fl,hm,fk];clear fl hm fk lr lu;have lx:=la.t fj.o;have cw:=Z lx;have hs:=((Κ wJ).alloc (Β #[U J 0 0,U J 0 0] 128)).setRow (Υ _) #[U ac lc au,U J 0 0];have ht:=Φ (wJ.alloc (Β #[U J 0 0,U J 0 0] 128)) wJ.heap.size _ #[U ac lc au,U J 0 0] _ _ (Ad wJ _);have fm:((wJ.alloc (Β #[U J 0 0,U J 0 0] 128)).setRow wJ.heap.size #[U ac lc au,U J 0 0]).heap.size=wJ.heap.size+1:=by rw[ì,Ο]
 obtain⟨wW,hz⟩:=Xq ((wJ.alloc (Β #[U J 0 0,U J 0 0] 128)).setRow wJ.heap.size #[U ac lc au,U J 0 0]);rw[hz] at hs ht fm;simp only[hz];clear hz la lx;have eg:=Ig wW 134 stK;have h7:=hs.alloc (.map #[] 0);have eh:=Ag ht (.map #[] 0);have h8:(wW.alloc (.map #[] 0)).heap.size=wJ.heap.size+1+1:=by rw[Ο,fm]
 rw[fm] at eg;obtain⟨gW,h9⟩:=Xq (wJ.heap.size);obtain⟨wb,ly⟩:=Xq (wW.alloc (.map #[] 0));rw[ly] at eg h7 eh h8;rw[h9] at eg eh h8;have l3:=Ou (0,0) (by decide) (by decide);have ei:=Z AD;go_upto_region 4 with (first
  | (refine Bj rfl 134 _ rfl #[.int Χ 0,.int γ 0] ?_ ?_;(simp;with_reducible exact ei.o))
  | (refine S2 rfl _ _ _ 135 rfl Ie Tryz.underlying135 rfl eg (by unfold ϐ;omega) Ov (0,0) rfl l3 0 rfl (by omega) ?_;intro wc l4 fo))
 clear gu ly eg ei fm;have l5:=h7.grown fo (λk e=>by injection e;omega);have l6:=(fo.block gW (Al eh) (by simp)).trans eh;have l7:gW+2<=wc.heap.size:=by have:=fo.size;omega
 clear fo eh h7 h8 hs ht;have ei:=Z AD;go_upto_region 5 with (refine Bj rfl 134 _ rfl #[.int Χ 0,.int γ 0] ?_ ?_;(simp;with_reducible exact ei.o))
 have ia:=l5.alloc (Β #[.int Χ 0,.int γ 0] 134);have ib:=Ag l6 (Β #[.int Χ 0,.int γ 0] 134);have fp:=l4.alloc (Β #[.int Χ 0,.int γ 0] 134);have fs:J6 (wc.alloc (Β #[.int Χ 0,.int γ 0] 134)) (gW+2) (U (I ⟨wc.heap.size,0,J⟩) 1 1) [(0,0)]:=Ê (base:=gW+2) (e:=134) (size:=2) wc #[.int Χ 0,.int γ 0] 1 l7 (by unfold ϐ;omega) rfl;obtain⟨dq,ft⟩:=Xq (wc.alloc (Β #[.int Χ 0,.int γ 0] 134));have p9:gW+2<=dq.heap.size:=by rw[<-ft,Ο];omega
 obtain⟨l8,ic⟩:=Xq (wc.heap.size);rw[ft] at ia ib fp fs;rw[ic] at fs;simp only[ft,ic];clear ft ic ei l5 l6 l4 l7 l3;have l9:=Qj dq 3 iv;have qa:=fp.lt;have gu:=@run_makeMap Ι;have ie:=ia.alloc (.map #[] 0);have hO:LzO (dq.alloc (.map #[] 0)) (gW+2) gW (gW+1) dq.heap.size (U ac lc au) 1 [(0,0)] (λx=>if x=(0,0) then I 0 else J) l8 1 (U J 0 0) [] [] (λ_=>False):=
  ⟨fp.alloc _,fs.alloc _,Ag ib _,ϰ _ _ _ _,⟨rfl,λj hj=>by simp at hj⟩,l9,by rw[Ο];omega⟩
 obtain⟨bR,ig⟩:=Xq (dq.heap.size);have rz:gW+2<=bR:=by omega
 have ma:bR≠gW+1:=by omega
 go_upto_region 6 with (fail)
 clear gu;obtain⟨we,ih⟩:=Xq (dq.alloc (.map #[] 0));rw[ih] at ie hO;rw[ig] at hO;simp only[ih,ig];clear ih ig l9 qa ia ib fp fs p9;have mc:=Z hO;have ij:=Z h9;clear hO h9;go_wp2_with (fail);go_loopw [11,13] (λvo vi W=>∃ (i:Nat) (l:List (Nat × Nat)) (f:Nat × Nat->Option Nat) (N:List (List Nat)) (vs:List Δ) (go co:Nat) (vnx:Δ),i<=l.length/\l.length<=4096/\vi=.int Χ i/\vo=U (I ⟨go,0,J⟩) l.length co/\Ext wJ W/\ϟ (LzO W (gW+2) gW (gW+1) bR (U ac lc au) l.length l f go co vnx vs N (λ_=>False))/\ϟ (EInv bs (0,0) (lnx a b) i 0 l f N (ζ bs.length 0)))
  (λ_ vi _=>4096-(intOf vi).toNat)
 case atStart=>exact⟨0,[(0,0)],_,[],[],l8,1,_,by omega,by simp,rfl,rfl,ie,mc,Z (Y3 bs (0,0) (lnx a b) _ (by simp))⟩
 clear ie mc;obtain⟨i,l,f,N,vs,go,co,vnx,r2,qb,rfl,rfl,E,HO,HI⟩:=hrel;by_cases me:i<l.length
 ·obtain⟨wo,qc⟩:∃ W,W=wr:=⟨_,rfl⟩;subst qc;obtain⟨⟨p,S⟩,cp⟩:∃ s,l[i]? = I s:=⟨l[i],by simp[me]⟩;have fu:=Z cp;obtain⟨dt,ek⟩:p<a.n.length/\S<2 ^ b.n.length:=by obtain⟨u,hu⟩:=HI.o.reach (p,S) (List.mem_of_getElem? cp);have h:=W4 cv.o.val ao.o.val u;rw[hu] at h;exact h
  have mf:=Z dt;have il:S<18446744073709551616:=Ξ ek (ϳ (by omega) cl.o);have im:p<n:=by rw[<-HN.o];exact dt
  clear cp dt ek;go_upto_region 10 with (at_make;refine wpList_make_full _ rfl _ _ 54 rfl (gW+2) 3 i0 (.int Χ 0) 1 Tryz.underlying54 hi pj pk Χ Χ _ _ m rfl rfl rfl rfl (by rw[pn];omega) (by unfold ϐ;omega) HO.o.sz ?_;intro w5 mg ir)
  have ae:=E.grown ir (λk e=>by cases e);have iu:w5.ownsRow (gW+2) 3 1 (U (I ⟨wo.heap.size,0,J⟩) m m) m ((ζ m 0).map iv):=by rw[<-B7];exact mg
  have mh:=Z ((HO.o.avs (av':=λo=>o=I wo.heap.size) (λv l ho r4 e=>by have:=(ho.lt _ e).2;omega)).ext ((Κ wo).grown ir (λk e=>by cases e)))
  have r5:=(iu.lt wo.heap.size rfl).1;generalize wo.heap.size=gr at *;clear mg ir HO E;go_wp2_with (fail);go_loopw [11,52] (λvo vi W=>∃ (k:Nat) (G:List (Nat × Nat)) (f2:Nat × Nat->Option Nat) (r:List Nat) (b0 cy:Nat),k<=m/\G.length<=4096+k/\vi=.int Χ k/\vo=U (I ⟨b0,0,J⟩) G.length cy/\Ext wJ W/\ϟ (LzO W (gW+2) gW (gW+1) bR (U ac lc au) G.length G f2 b0 cy vnx vs N (λo=>o=I gr))/\W.ownsRow (gW+2) 3 1 (U (I ⟨gr,0,J⟩) m m) m (r.map iv)/\ϟ (EInv bs (0,0) (lnx a b) i k G f2 N r/\i<G.length/\∀ j,j<=i->G[j]? = l[j]?))
   (λ_ vi _=>m-(intOf vi).toNat)
  case atStart=>exact⟨0,l,f,_,go,co,by omega,by omega,rfl,rfl,ae,mh,iu,Z ⟨by have h:=HI.o;rw[HM.o] at h;exact h,me,λ_ _=>rfl⟩⟩
  clear ae mh iu;obtain⟨k,G,f2,r,b0,cy,dp,r6,rfl,rfl,E,HO,hQ,aq⟩:=hrel;have b4:ϟ (r.length=m):=Z (by rw[<-HM.o];exact aq.o.1.lenr);have qd:=aq.o.2.1;have eo:ϟ (G[i]? = I (p,S)):=Z (by rw[aq.o.2.2 i (Υ _)];exact fu.o);obtain⟨wq,qe⟩:∃ W,W=wr:=⟨_,rfl⟩;subst qe;by_cases bq:k<m
  ·have cb:=p8.o wq E k bq;obtain⟨x,ix⟩:=Xq (ϔ (bs.getD k 0));have mi:ϟ (x.toNat=bs.getD k 0):=Z (by rw[<-ix];exact u8n _ (hp.o k bq));rw[ix] at cb;clear ix;have du:=x.toNat_lt;obtain⟨s0,s1⟩:=Tv HO.o.L i (p,S) eo.o;replace s0:wq.cell? ⟨b0,i*2,J⟩=I (iv p):=s0;replace s1:wq.cell? ⟨b0,i*2+1,J⟩=I (.int γ (S:Int)):=s1;have mj:=Z s1;have ml:=Z s0;have f152:=Z (Ke a cv.o.val ga p mf.o x wq (p3.o wq (fj.o.t E)));obtain⟨p',iy⟩:=Xq (a.stp p x.toNat);have iz:=Z iy;rw[iy] at f152;clear iy s1;have mm:=Z (UN (p':Int));go_upto_region 14 with (first
    | (go_at_call 59;(with_reducible refine f152.o.mono ?_);rintro e w6 ⟨rfl,a8⟩)
    | (refine Bj rfl 134 _ rfl #[iv p',.int γ 0] ?_ ?_;(simp;with_reducible exact mm.o))
    | (refine wpList_store_row rfl 134 (ε 17) (ε 65) rfl _ #[iv p',.int γ 0] rfl rfl _ _ (Ad w6 (Β #[.int Χ 0,.int γ 0] 134)) Ge rfl (Ty (p',0)) ?_))
   clear f152 mm s0 cb;have mo:=Z (HO.o.ext a8);have mq:=Z (Aa hQ a8);have c5:=E.t a8;have qf:=Z (a8.cell mj.o);have qg:=Z (a8.cell ml.o);have c6:=((Κ w6).alloc (Β #[.int Χ 0,.int γ 0] 134)).setRow (Υ _) #[iv p',.int γ 0];have fv:=Φ (w6.alloc (Β #[.int Χ 0,.int γ 0] 134)) w6.heap.size _ #[iv p',.int γ 0] _ _ (Ad w6 _);obtain⟨w7,ja⟩:=Xq ((w6.alloc (Β #[.int Χ 0,.int γ 0] 134)).setRow w6.heap.size #[iv p',.int γ 0]);obtain⟨H,jb⟩:=Xq (w6.heap.size);have mr:w6.heap.size<=H:=by omega
   rw[ja] at c6 fv;simp only[ja];rw[jb] at fv;simp only[jb];clear ja jb ml mj HO hQ E a8;have mu:ϟ (w7.heap[H]? = I (Β #[iv p',.int γ (B8 b S x.toNat 0:Nat)] 134 (0,0))):=Z fv;clear fv;have k1:=pz.o w7 (cw.o.t (c5.t c6));go_wp2_with (fail);clear k1;go_loopw [69] (λvi W=>∃ q:Nat,q<=nb/\vi=.int Χ q/\Ext w6 W/\ϟ (W.heap[H]? = I (Β #[iv p',.int γ (B8 b S x.toNat q:Nat)] 134 (0,0))))
    (λvi _=>nb-(intOf vi).toNat)
   case atStart=>exact⟨0,by omega,rfl,c6,mu⟩
   clear c6 mu;obtain⟨q,r7,rfl,E,HY⟩:=hrel;by_cases mv:q<nb
   ·have r8:(q:Int)<(nb:Int):=by omega
    have r9:(q:Int)<64:=by omega
    have s1:=E.cell qf.o;have fw:=O3 S q il;obtain⟨bt,mw⟩:=Xq (S.testBit q);have ep:=Z (show B8 b S x.toNat (q+1)=if S.testBit q=Α then B8 b S x.toNat q ||| 2 ^ b.stp q x.toNat else B8 b S x.toNat q from by rw[B8]);rw[mw] at fw ep;clear mw;have qi:B8 b S x.toNat q<18446744073709551616:=Ξ (Nc ao.o.val S x.toNat du q (by rw[dz.o];omega)) (ϳ (by omega) cl.o);have my:(0:Int)<=(S:Int):=by omega
    have mz:(S:Int)<18446744073709551616:=by omega
    cases bt with
    | false=>
     generalize (S:Int)=qj at s1 fw my mz;go_wp2_with (fail);go_roundw
     case rel=>exact⟨q+1,by omega,by go_num,E,by rw[ep.o];exact HY⟩
     simp[intOf]<;>omega
    | true=>
     have f152:=λ(e:EW wr)=>Z (Ke b ao.o.val gb q (by rw[dz.o];exact mv) x e.W (lb.o e.W (fj.o.t (c5.t (E.t e.ext)))))
     have hr:=ao.o.val.stp_lt (show q<b.n.length by rw[dz.o];exact mv) du;obtain⟨rr,et⟩:=Xq (b.stp q x.toNat);rw[et] at hr ep f152;clear et;have jc:rr<64:=by have:=cl.o;omega
     have qk:(rr:Int)<=64:=by omega
     have ql:=Z (show B8 b S x.toNat (q+1)=B8 b S x.toNat q ||| 2 ^ rr from ep.o.trans (if_pos rfl));clear ep hr;have eu:=Z (My (B8 b S x.toNat q) rr qi jc);generalize jd:B8 b S x.toNat q=cu at *;clear jd;generalize (S:Int)=qj at s1 fw my mz;go_upto_region 18 with (fail)
     clear s1 fw;have co:=A4 (Τ wr H 1 _ _ _ HY.o);replace co:∀ e:EW wr,e.W.cell? ⟨H,1,J⟩=I (.int γ (cu:Nat)):=co;refine I4 9 (by kernel_rfl) (by kernel_rfl) ?_;simp only[î,List.take_zero,ϸ,À];iterate 9 (with_reducible refine Á (λK hK=>?_);go_simp;first|(refine hK _ ?_;clear hK K)|(apply Exists.intro;refine⟨λ_=>?_,hK _ ?_⟩;(with_reducible exact E0 (f152 _).o);clear hK K))
     refine Ë ?_;rintro _ ⟨e,rfl⟩;have ae:=E.t e.ext;have bd:=Z (e.ext.heap HY.o);clear f152 co E HY;obtain⟨w8,an⟩:=Xq (e.W);rw[an] at ae bd;simp only[an];clear an;have k8:w8.cell? ⟨H,1,J⟩=I (.int γ (cu:Nat)):=Τ w8 H 1 _ _ _ bd.o;have f8:=Â w8 H 1 _ _ bd.o;have c8:w8.setCell ⟨H,1,J⟩ (.int γ ((cu ||| 2 ^ rr:Nat):Int))=w8.setRow H #[iv p',.int γ ((cu ||| 2 ^ rr:Nat):Int)]:=by rw[ϧ w8 _ _ _ _ _ _ bd.o];rfl
     have qm:ϟ (Ext w6 (w8.setCell ⟨H,1,J⟩ (.int γ ((cu ||| 2 ^ rr:Nat):Int)))):=Z (by rw[c8];exact ae.setRow mr _);have c9:ϟ ((w8.setCell ⟨H,1,J⟩ (.int γ ((cu ||| 2 ^ rr:Nat):Int))).heap[H]? = I (Β #[iv p',.int γ ((cu ||| 2 ^ rr:Nat):Int)] 134 (0,0))):=Z (by rw[c8];exact Φ w8 H _ _ _ _ bd.o);clear c8 ae bd;go_wp2_with (fail);go_roundw
     case rel=>exact⟨q+1,by omega,by go_num,by rw[eu.o];exact qm.o,by rw[eu.o,ql.o];exact c9⟩
     simp[intOf]<;>omega
   obtain rfl:nb=q:=by omega
   have qo:(p:Int)<(n:Int):=by omega
   have c2:=A4 (kt.o wr (cw.o.t (c5.t E)));have c3:=A4 ((ec.o.t (cw.o.t (c5.t E))).cell (HA.o p im));have c4:=A4 (E.cell qg.o);obtain⟨fx,da⟩:=Xq (a.ok p);rw[da] at c3;have fy:=Z da;clear da;go_upto_region 20 with (fail)
   refine Cl (by kernel_rfl) (by kernel_rfl) ?_;iterate 9 (with_reducible refine Á (λK hK=>?_);go_simp;(refine hK _ ?_;clear hK K))
   refine Ë ?_;rintro _ ⟨e,rfl⟩;have ae:=E.t e.ext;have bd:=Z (e.ext.heap HY.o);clear c2 c3 c4 E HY;obtain⟨w5,bk⟩:=Xq (e.W);rw[bk] at ae bd;simp only[bk];clear bk;have je:wJ.heap.size<=gW:=Ñ ij.o;have qq:ϟ (Et a b p S x.toNat<18446744073709551616):=Z (Ξ (M6 ao.o.val p S x.toNat du) (ϳ (by omega) cl.o));have nc:ϟ (p'<9223372036854775808):=Z (by have h:=cv.o.val.stp_lt mf.o du;rw[iz.o] at h;have:=oz.o;omega)
   have fz:B8 b S x.toNat nb<18446744073709551616:=Ξ (Nc ao.o.val S x.toNat du nb (by rw[dz.o];exact Υ _)) (ϳ (by omega) cl.o);have dw:ϟ (Et a b p S x.toNat=if fx=Α then B8 b S x.toNat nb ||| 2 ^ b.stp 0 x.toNat else B8 b S x.toNat nb):=Z (by rw[<-fy.o,<-dz.o,Et]);generalize jd:B8 b S x.toNat nb=cu at *;clear jd;cases fx with
   | false=>
    obtain⟨y,bl⟩:=Xq ((p',cu));have db:ϟ (lnx a b (p,S) (bs.getD k 0)=y):=Z (by rw[<-mi.o,<-bl];show (a.stp p x.toNat,Et a b p S x.toNat)=_;rw[iz.o,dw.o];rfl)
    have dc:=Ou y (by rw[<-bl];exact nc.o) (by rw[<-bl];exact fz);have b6:ϟ (w5.heap[H]? = I (Β #[iv y.1,.int γ (y.2:Int)] 134 (0,0))):=Z (by rw[<-bl];exact bd.o);obtain⟨w8,an⟩:∃ W,W=w5:=⟨_,rfl⟩;subst an;have T:=ae;clear bl bd ae fz dw;have be:=mo.o.ext T;have a1:=Aa mq.o T;have bf:=c5.t T;clear T;cases hf:f2 y with
    | some v=>
     have dd:=Z (Rc aq.o.1 (by rw[HM.o];exact bq) eo.o v (by rw[db.o];exact hf));have cq:=Aq 0 a1 b4.o.symm k (by rw[b4.o];exact bq);have fq:=a1.frozenAt k;obtain⟨b8,ah⟩:=Ba a1 k v;have b9:=bf.grown ah (λk e=>by injection e;omega);have cd:=Z (be.keptQ a1 ah);have X:=be.mp;clear ah a1 be bf;go_wp2_with (first
      | (refine Lr 134 (ε 17) b6.o ø Ge ?_)
      | (at_lookup;refine Dx rfl _ _ 135 rfl Ie Tryz.underlying135 rfl X y rfl dc ?_;rw[hf];dsimp only [æ,Option.getD]))
     go_roundw
     case rel=>exact⟨k+1,G,f2,r.set k v,b0,cy,by omega,by omega,by go_num,rfl,b9,cd,b8,Z ⟨dd.o,aq.o.2⟩⟩
     simp[intOf]<;>omega
    | none=>
     have de:=Rd aq.o.1 (by rw[HM.o];exact bq) (λq hq=>hp.o q (by rw[<-HM.o];exact hq)) eo.o (by rw[db.o];exact hf);rw[db.o] at de;have dd:=Z de;clear de;have X:=be.mp;have ct:=Z be;have df:=Z a1;clear be a1;go_upto_region 26 with (first
      | (refine Lr 134 (ε 17) b6.o ø Ge ?_)
      | (at_lookup;refine Dx rfl _ _ 135 rfl Ie Tryz.underlying135 rfl X y rfl dc ?_;rw[hf];dsimp only [æ,Option.getD])
      | (at_mapUpdate;refine Gr rfl _ _ _ 135 rfl Ie Tryz.underlying135 rfl X (by unfold ϐ;omega) Ov y rfl dc G.length rfl (by omega) ?_;intro w9 ew ah))
     have cf:=ct.o.mput ma ew ah;have b8:=df.o.kept ah (X.far df.o);have b9:=bf.grown ah (λk e=>by injection e;omega);have c9:=Z (Dr ah (M2 X) b6.o);have cg:=cf.L;have ji:=cf.sz;have cd:=Z cf;have dg:=Z b8;clear ah ew X ct df b6 bf cf b8;go_upto_region 27 with (first
      | (refine Lr 134 (ε 17) c9.o ø Ge ?_)
      | (at_builtin;refine ϕ _ rfl _ _ 136 rfl (gW+2) 134 j0 (.agg #[.int Χ 0,.int γ 0]) 2 16 Tryz.underlying136 hj kl km kn rfl (by decide) _ _ _ rfl (cg.alloc _) _ 1 1 (F8 y) rfl rfl (Γ.news_of_block (Ad w9 _)) (by simp[F8,ξ]) (by decide) (by unfold ϐ;omega) (by omega) (by rw[Ο];omega) _ rfl ?_;intro jj jk qs ey cj _ _))
     have al:=(Κ w9).alloc (Β #[iv y.1,.int γ (y.2:Int)] 134);have ez:=(cd.o.ext al).app cj ey;have bm:=(Aa dg.o al).kept cj (Aj (Aa dg.o al) (Aa cg al) (by decide));have e0:=(b9.t al).grown cj (λk e=>by have:=(cg.lt k e).1;omega);clear cj al cg ji cd dg c9 b9 ey;have cq:=Aq 0 bm b4.o.symm k (by rw[b4.o];exact bq);have fq:=bm.frozenAt k;obtain⟨jl,dh⟩:=Ba bm k G.length;have jm:=e0.grown dh (λk e=>by injection e;omega);have jn:=Z (ez.keptQ bm dh);clear dh bm ez e0;go_wp2_with (fail);go_roundw
     case rel=>
      refine⟨k+1,G++[y],_,r.set k G.length,jj,jk,by omega,by rw[Ν];simp;omega,by go_num,by rw[Ν];rfl,jm,?_,jl,Z ⟨dd.o,?_,λj hj=>?_⟩⟩
      ·rw[Ν];exact jn
      ·rw[Ν];have:=aq.o.2.1;omega
      rw[ϊ (by have:=aq.o.2.1;omega)];exact aq.o.2.2 j hj
     case measure=>simp[intOf]<;>omega
   | true=>
    have f152:=λ(e:EW w5)=>Z (Ke b ao.o.val gb 0 ao.o.val.pos x e.W (lb.o e.W (fj.o.t (c5.t (ae.t e.ext)))))
    have hr:=ao.o.val.stp_lt ao.o.val.pos du;obtain⟨rr,et⟩:=Xq (b.stp 0 x.toNat);rw[et] at hr dw f152;clear et;have jc:rr<64:=by have:=cl.o;omega
    have qk:(rr:Int)<=64:=by omega
    clear hr;have eu:=Z (My cu rr fz jc);go_upto_region 21 with (fail)
    have co:=A4 (Τ w5 H 1 _ _ _ bd.o);replace co:∀ e:EW w5,e.W.cell? ⟨H,1,J⟩=I (.int γ (cu:Nat)):=co;refine I4 8 (by kernel_rfl) (by kernel_rfl) ?_;simp only[î,List.take_zero,ϸ,À];iterate 8 (with_reducible refine Á (λK hK=>?_);go_simp;first|(refine hK _ ?_;clear hK K)|(apply Exists.intro;refine⟨λ_=>?_,hK _ ?_⟩;(with_reducible exact E0 (f152 _).o);clear hK K))
    refine Ë ?_;rintro _ ⟨e2,rfl⟩;have a8:=ae.t e2.ext;have dx:=Z (e2.ext.heap bd.o);clear f152 co ae bd;obtain⟨bu,jq⟩:=Xq (e2.W);rw[jq] at a8 dx;simp only[jq];clear jq;have k8:bu.cell? ⟨H,1,J⟩=I (.int γ (cu:Nat)):=Τ bu H 1 _ _ _ dx.o;have f8:=Â bu H 1 _ _ dx.o;have c8:bu.setCell ⟨H,1,J⟩ (.int γ ((cu ||| 2 ^ rr:Nat):Int))=bu.setRow H #[iv p',.int γ ((cu ||| 2 ^ rr:Nat):Int)]:=by rw[ϧ bu _ _ _ _ _ _ dx.o];rfl
    have T:Ext w6 (bu.setCell ⟨H,1,J⟩ (.int γ ((cu ||| 2 ^ rr:Nat):Int))):=by rw[c8];exact a8.setRow mr _
    have jr:(bu.setCell ⟨H,1,J⟩ (.int γ ((cu ||| 2 ^ rr:Nat):Int))).heap[H]? = I (Β #[iv p',.int γ ((cu ||| 2 ^ rr:Nat):Int)] 134 (0,0)):=by rw[c8];exact Φ bu H _ _ _ _ dx.o
    clear c8 a8 dx;obtain⟨w8,an⟩:=Xq (bu.setCell ⟨H,1,J⟩ (.int γ ((cu ||| 2 ^ rr:Nat):Int)));rw[an] at T jr;have nd:=Z an;have nf:=Z T;have ng:=Z jr;clear an T jr;go_upto_region 22 with (fail)
    rw[eu.o,nd.o];have T:=nf.o;clear k8 f8 nd nf;obtain⟨y,bl⟩:=Xq ((p',cu ||| 2 ^ rr));have db:ϟ (lnx a b (p,S) (bs.getD k 0)=y):=Z (by rw[<-mi.o,<-bl];show (a.stp p x.toNat,Et a b p S x.toNat)=_;rw[iz.o,dw.o];rfl)
    have dc:=Ou y (by rw[<-bl];exact nc.o) (by rw[<-bl];have h:=qq.o;rw[dw.o] at h;exact h)
    have b6:ϟ (w8.heap[H]? = I (Β #[iv y.1,.int γ (y.2:Int)] 134 (0,0))):=Z (by rw[<-bl];exact ng.o);clear bl ng dw eu fz;have be:=mo.o.ext T;have a1:=Aa mq.o T;have bf:=c5.t T;clear T;cases hf:f2 y with
    | some v=>
     have dd:=Z (Rc aq.o.1 (by rw[HM.o];exact bq) eo.o v (by rw[db.o];exact hf));have cq:=Aq 0 a1 b4.o.symm k (by rw[b4.o];exact bq);have fq:=a1.frozenAt k;obtain⟨b8,ah⟩:=Ba a1 k v;have b9:=bf.grown ah (λk e=>by injection e;omega);have cd:=Z (be.keptQ a1 ah);have X:=be.mp;clear ah a1 be bf;go_wp2_with (first
      | (refine Lr 134 (ε 17) b6.o ø Ge ?_)
      | (at_lookup;refine Dx rfl _ _ 135 rfl Ie Tryz.underlying135 rfl X y rfl dc ?_;rw[hf];dsimp only [æ,Option.getD]))
     go_roundw
     case rel=>exact⟨k+1,G,f2,r.set k v,b0,cy,by omega,by omega,by go_num,rfl,b9,cd,b8,Z ⟨dd.o,aq.o.2⟩⟩
     simp[intOf]<;>omega
    | none=>
     have de:=Rd aq.o.1 (by rw[HM.o];exact bq) (λq hq=>hp.o q (by rw[<-HM.o];exact hq)) eo.o (by rw[db.o];exact hf);rw[db.o] at de;have dd:=Z de;clear de;have X:=be.mp;have ct:=Z be;have df:=Z a1;clear be a1;go_upto_region 26 with (first
      | (refine Lr 134 (ε 17) b6.o ø Ge ?_)
      | (at_lookup;refine Dx rfl _ _ 135 rfl Ie Tryz.underlying135 rfl X y rfl dc ?_;rw[hf];dsimp only [æ,Option.getD])
      | (at_mapUpdate;refine Gr rfl _ _ _ 135 rfl Ie Tryz.underlying135 rfl X (by unfold ϐ;omega) Ov y rfl dc G.length rfl (by omega) ?_;intro w9 ew ah))
     have cf:=ct.o.mput ma ew ah;have b8:=df.o.kept ah (X.far df.o);have b9:=bf.grown ah (λk e=>by injection e;omega);have c9:=Z (Dr ah (M2 X) b6.o);have cg:=cf.L;have ji:=cf.sz;have cd:=Z cf;have dg:=Z b8;clear ah ew X ct df b6 bf cf b8;go_upto_region 27 with (first
      | (refine Lr 134 (ε 17) c9.o ø Ge ?_)
      | (at_builtin;refine ϕ _ rfl _ _ 136 rfl (gW+2) 134 j0 (.agg #[.int Χ 0,.int γ 0]) 2 16 Tryz.underlying136 hj kl km kn rfl (by decide) _ _ _ rfl (cg.alloc _) _ 1 1 (F8 y) rfl rfl (Γ.news_of_block (Ad w9 _)) (by simp[F8,ξ]) (by decide) (by unfold ϐ;omega) (by omega) (by rw[Ο];omega) _ rfl ?_;intro jj jk qs ey cj _ _))
     have al:=(Κ w9).alloc (Β #[iv y.1,.int γ (y.2:Int)] 134);have ez:=(cd.o.ext al).app cj ey;have bm:=(Aa dg.o al).kept cj (Aj (Aa dg.o al) (Aa cg al) (by decide));have e0:=(b9.t al).grown cj (λk e=>by have:=(cg.lt k e).1;omega);clear cj al cg ji cd dg c9 b9 ey;have cq:=Aq 0 bm b4.o.symm k (by rw[b4.o];exact bq);have fq:=bm.frozenAt k;obtain⟨jl,dh⟩:=Ba bm k G.length;have jm:=e0.grown dh (λk e=>by injection e;omega);have jn:=Z (ez.keptQ bm dh);clear dh bm ez e0;go_wp2_with (fail);go_roundw
     case rel=>
      refine⟨k+1,G++[y],_,r.set k G.length,jj,jk,by omega,by rw[Ν];simp;omega,by go_num,by rw[Ν];rfl,jm,?_,jl,Z ⟨dd.o,?_,λj hj=>?_⟩⟩
      ·rw[Ν];exact jn
      ·rw[Ν];have:=aq.o.2.1;omega
      rw[ϊ (by have:=aq.o.2.1;omega)];exact aq.o.2.2 j hj
     case measure=>simp[intOf]<;>omega
  obtain rfl:m=k:=by omega
  have nh:EInv bs (0,0) (lnx a b) i bs.length G f2 N r:=by rw[HM.o];exact aq.o.1
  have gd:=Z nh;have HW:=Z (λh:4096<G.length=>show Ir a b from .inl ⟨G,gd.o.nodup,gd.o.reach,h⟩);clear nh;have k1:wq.cell? ⟨gW,1,J⟩=I vnx:=Τ wq gW 1 _ _ _ HO.o.D;have e1:=HO.o.Nx;have sa:=HO.o.sz;have fa:vs.length<=4096:=by rw[HO.o.V.1,gd.o.lenN];omega
  have je:wJ.heap.size<=gW:=Ñ ij.o;by_cases qt:4096<G.length
  ·have qu:(4096:Int)<(G.length:Int):=by omega
   have js:=Z ((ec.o.t cw.o).trans E);clear E k1 e1;go_wp2_with (fail);go_ret2;exact⟨.inr ⟨rfl,HW.o qt⟩,js.o⟩
  have qu:¬ (4096:Int)<(G.length:Int):=by omega
  clear HW;go_upto_region 8 with (at_builtin;refine ϕ _ rfl _ _ 37 rfl (gW+2) 54 k0 (U J 0 0) 1 24 Tryz.underlying37 hk pr pt px rfl (by decide) vnx vs.length vs rfl (e1.alloc _) _ 1 1 [U (I ⟨gr,0,J⟩) m m] rfl rfl (Õ _ _ _) (by simp[ξ]) (by decide) (by unfold ϐ;omega) (by omega) (by rw[Ο];omega) _ rfl ?_;intro g7 c7 w7 nj gf _ _;obtain⟨h1,h2,h3,h4,h5,h6⟩:=(HO.o.ext ((Κ wq).alloc (Β #[ό (I ⟨gr,0,J⟩) m m] 54))).keptN gf;have k7:w7.cell? ⟨gW,1,J⟩=I vnx:=Τ w7 gW 1 _ _ _ h3;have f7:=Â w7 gW 1 _ _ h3)
  have nn:=(Aa hQ ((Κ wq).alloc (Β #[ό (I ⟨gr,0,J⟩) m m] 54))).kept gf (Aj hQ e1 (by decide));have np:∀ k,vnx.ownBlock=I k->gW+2<=k:=λk e=>(e1.lt k e).1
  have c6:=(E.alloc (Β #[ό (I ⟨gr,0,J⟩) m m] 54)).grown gf (λk e=>by have:=np k e;omega);rw[ϧ w7 _ _ _ _ _ _ h3];have T:=c6.setRow je #[U ac lc au,U (I ⟨g7,0,J⟩) (vs.length+1) c7];have ct:ϟ (LzO (w7.setRow gW #[U ac lc au,U (I ⟨g7,0,J⟩) (vs.length+1) c7]) (gW+2) gW (gW+1) bR (U ac lc au) G.length G f2 b0 cy (U (I ⟨g7,0,J⟩) (vs.length+1) c7) (vs++[U (I ⟨gr,0,J⟩) m m]) (N++[r]) (λ_=>False)):=
   Z (LzO.row h1 h2 h3 h4 h5 h6 nn b4.o (by rw[Ν];exact nj) rfl)
  have qw:ϟ (EInv bs (0,0) (lnx a b) (i+1) 0 G f2 (N++[r]) (ζ bs.length 0)):=Z (Y4 gd.o qd _ (by simp));clear h1 h2 h3 h4 h5 h6 nn np c6 gf k7 f7 nj e1 k1 E hQ HO;obtain⟨w8,an⟩:=Xq (w7.setRow gW #[U ac lc au,U (I ⟨g7,0,J⟩) (vs.length+1) c7]);have nq:w7.setRow gW ((#[U ac lc au,vnx]:Array Δ).setIfInBounds 1 (U (I ⟨g7,0,J⟩) (vs.length+1) c7))=w8:=an;rw[nq];rw[an] at T ct;clear an nq;go_wp2_with (fail);go_roundw
  case rel=>exact⟨i+1,G,f2,N++[r],_,b0,cy,_,by omega,by omega,by go_num,rfl,T,ct,qw⟩
  simp[intOf]<;>omega
 obtain rfl:i=l.length:=by omega
 have dy:=Z (NG cv.o.val ao.o.val HI.o HP.o lq.o HJ.o);obtain⟨ws,qx⟩:∃ W,W=wr:=⟨_,rfl⟩;subst qx;have je:wJ.heap.size<=gW:=Ñ ij.o;have nr:=E;have hO:=HO.o;have qy:=Z (λV (hV:ws.grownBy V (I bR))=>show J6 V (gW+2) (U (I ⟨go,0,J⟩) l.length co) l from hO.L.kept hV (.inr λe=>Ja hO.MR hO.L e.symm));have qz:=Z (λV (hV:ws.grownBy V (I bR))=>Dr hV hO.MR.block hO.D);have ns:N.length=l.length:=HI.o.lenN;have q4:vs.length=N.length:=hO.V.1;have q5:=Z (λV (hV:ws.grownBy V (I bR)) (q6:Ext wJ V)=>show IsW V #[U ac lc au,vnx] C N from by refine⟨_,_,rfl,lo.o.ext q6,?_⟩;have h1:=hO.Nx.kept hV (.inr λe=>Ja hO.MR hO.Nx e.symm);have h2:=hO.V.kept hV (λv l ho _=>.inr λe=>Ja hO.MR ho e.symm);exact h2.rows h1 (by omega) (λj hj=>by rw[HI.o.rows j (by omega),HM.o];omega))
 have nt:=Z qb;have dk:=hO.MR;have gg:=Z ((ec.o.t cw.o));have jt:=Z ns;clear hO HO E HI ns q4;go_wp2_with (fail);go_loopw [141] (λvi W=>∃ (j cnt:Nat) (f4:Nat->Option Δ) (ρ:Nat->Option Dfa),j<=l.length/\cnt<=j/\vi=iv j/\Ext wJ W/\ws.grownBy W (I bR)/\IsMv W 3 iv bR cnt f4/\ϟ (MpD W f4 ρ)/\ϟ (LRho a b l j ρ))
  (λvi _=>l.length-(intOf vi).toNat)
 case atStart=>exact⟨0,0,_,_,by omega,Υ _,rfl,nr,Γ.grownBy.refl _ _,dk,Z (Wi ws),Z (NO a b l)⟩
 clear nr dk;obtain⟨j,cnt,f4,ρ,sb,sc,rfl,E,hg,dk,ju,HG⟩:=hrel;by_cases nu:j<l.length
 ·obtain⟨⟨p,S⟩,cp⟩:∃ s,l[j]? = I s:=⟨l[j],by simp[nu]⟩;have fu:=Z cp;obtain⟨dt,ek⟩:p<a.n.length/\S<2 ^ b.n.length:=by
   obtain⟨u,hu⟩:=dy.o.reach j (by rw[jt.o];exact nu);have h:=dy.o.run u;rw[hu,cp] at h;injection h with h
   have h2:=W4 cv.o.val ao.o.val u;rw[<-h] at h2;exact h2
  have il:S<18446744073709551616:=Ξ ek (ϳ (by omega) cl.o);have im:p<n:=by rw[<-HN.o];exact dt
  clear ek dt;obtain⟨s0,s1⟩:=Tv (qy.o wr hg) j (p,S) cp;have nv:wr.rangeAt go (j*2) [iv p,.int γ (S:Int)]:=λo v hv=>by
   match o,hv with
   | 0,hv=>
    have hv:I (iv p)=I v:=hv;injection hv with hv
    rw[<-hv];exact s0
   | 1,hv=>
    have hv:I (ϲ γ (S:Int))=I v:=hv;injection hv with hv
    rw[<-hv];exact s1
   | o+2,hv=>simp at hv
  clear cp s0 s1;go_upto_region 35 with (first
   | (refine é rfl 134 (ε 144) rfl go (j*2) rfl _ _ nv ø rfl Ge ?_)
   | (refine Sr 134 (ε 22) (ε 145) rfl (Ad wr (Β #[.int Χ 0,.int γ 0] 134)) Ge rfl (Ty (p,S)) ?_))
  clear nv;have ae:=((Κ wr).alloc (Β #[.int Χ 0,.int γ 0] 134)).setRow (Υ _) (Gu (p,S));have gj:=Φ (wr.alloc (Β #[.int Χ 0,.int γ 0] 134)) wr.heap.size _ (Gu (p,S)) _ _ (Ad wr _);obtain⟨w5,bk⟩:=Xq ((wr.alloc (Β #[.int Χ 0,.int γ 0] 134)).setRow wr.heap.size (Gu (p,S)));have nw:(wr.alloc (Β #[.int Χ 0,.int γ 0] 134)).setRow wr.heap.size #[iv p,.int γ (S:Int)]=w5:=bk;rw[bk] at ae gj;obtain⟨e6,jv⟩:=Xq (wr.heap.size);rw[jv] at gj;rw[nw];simp only[jv];clear bk nw jv;have ny:ϟ (w5.heap[e6]? = I (Β #[iv p,.int γ (S:Int)] 134 (0,0))):=Z gj;clear gj;have dm:=E.t ae;have k2:=kt.o w5 (cw.o.t dm);have k3:w5.cell? ⟨e6,0,J⟩=I (iv p):=Τ w5 e6 0 _ _ _ ny.o;have k4:=(gg.o.trans dm).cell (HA.o p im);have qo:(p:Int)<(n:Int):=by omega
  have jw:=hg.trans (ae.grownBy (I bR));have jx:=dk.ext ae;have jy:=Z (ju.o.ext ae);have bk:=gg.o.trans dm;clear E ae hg dk ju;obtain⟨fx,da⟩:=Xq (a.ok p);rw[da] at k4;have fy:=Z da;clear da;cases fx with
  | false=>
   go_wp2_with (fail);go_roundw
   case rel=>exact⟨j+1,cnt,f4,ρ,by omega,by omega,by go_num,dm,jw,jx,jy,Z (NP HG.o fu.o fy.o)⟩
   simp[intOf]<;>omega
  | true=>
   have f153:=Z (WH b ao.o cl.o S il (.agg Vb) w5 (kb.o w5 bk) (Ξ gl bk.size) (gn.o.ext bk));have k5:=ku.o w5 (cw.o.t dm);have k6:w5.cell? ⟨e6,1,J⟩=I (.int γ (S:Int)):=Τ w5 e6 1 _ _ _ ny.o;go_upto_region 37 with (first
    | (refine Lr 40 (ε 3) k5 Ρ kq ?_)
    | (go_at_call 60;(with_reducible refine f153.o.mono ?_);rintro e w6 ⟨r1,jz,n2,a8⟩;obtain⟨n3,n4,n5,n9,od,oe,og,oh,om,k1,rfl⟩:=jz.form;have oo:=Z jz;have oq:=Z n2;have ot:=Z a8;clear jz n2 a8)
    | (refine Sr 40 (ε 23) (ε 157) rfl (Ad w6 (Β #[U J 0 0,U J 0 0,U J 0 0] 40)) Ae rfl (Aw _ _ _ rfl rfl rfl) ?_))
   clear f153 k5 k6 k2 k3 k4;obtain⟨j1,e7⟩:=Fm w6 (dA (U n3 n4 n5) (U n9 od oe) (U og oh om));have gk:=Z (oo.o.ext j1);have T:=ot.o.t j1;obtain⟨D1,j3⟩:=Xq (dA (U n3 n4 n5) (U n9 od oe) (U og oh om));have q8:(Ι.info? 40).map (·.size)=I D1.size:=by rw[<-j3];exact Ae
   simp only[j3] at e7 T gk ⊢;obtain⟨w8,an⟩:=Xq ((w6.alloc (Β #[U J 0 0,U J 0 0,U J 0 0] 40)).setRow w6.heap.size D1);rw[an] at e7 T gk;simp only[an];obtain⟨g9,j4⟩:=Xq (w6.heap.size);rw[j4] at e7;simp only[j4];clear an j4 j1 ot oo j3;have q9:=Z e7;have bf:=dm.t T;have j5:=jw.trans (T.grownBy (I bR));have X:=jx.ext T;have ra:=Z (jy.o.ext T);clear e7 T jw jx jy dm;cases r1 with
   | none=>obtain⟨rfl,-⟩:=gk.o.none_inv;have rb:=Z (show Ir a b from .inr (.inl oq.o));have js:=Z (gg.o.trans bf);clear bf j5 X;go_wp2_with (fail);go_ret2;exact⟨.inr ⟨rfl,rb.o⟩,js.o⟩
   | some d=>
    obtain⟨rfl,ou⟩:=gk.o.some_inv;have re:=Z (NQ HG.o fu.o fy.o oq.o);have rf:=Z ou;have rh:=Qk j (by have:=nt.o;omega);clear ou;go_wp2_with (first
     | (refine Lr 40 (ε 23) q9.o Ρ q8 ?_)
     | (refine S0 rfl (ε 162) (ε 163) (ε 164) 126 rfl M7 Tryz.underlying126 rfl X (by unfold ϐ;have:=nt.o;omega) Xu j rfl rh (.agg D1) rfl ?_;intro se ri e8))
    have rj:=bf.grown e8 (λk e=>by injection e with e;omega);have rl:=Z ((ra.o.keptm e8 X.block).put j (rf.o.keptm e8 X.block));have rm:=j5.trans e8;clear e8 X j5;go_roundw
    case rel=>exact⟨j+1,cnt+1,_,_,by omega,by omega,by go_num,rj,rm,ri,rl,re⟩
    simp[intOf]<;>omega
 obtain rfl:j=l.length:=by omega
 have cm:=gg.o.trans E;have sf:(#[U ac lc au,vnx]:Array Δ).size=2:=rfl;have ow:∀ s d,ρ s=I d->s<N.length/\Cano d/\d.n.length<=64:=by rw[jt.o];exact NS HG.o
 have f150:=Z (Zc C N dy.o.wval (by rw[jt.o];omega) #[U ac lc au,vnx] bR cnt f4 ρ ow dy.o.reach wr (kb.o wr cm) (Ξ gl cm.size) (q5.o wr hg E) dk (λx _=>ju.o x));have oy:=qz.o wr hg;have rn:=Z oy;have rp:=Z cm;clear ow oy dk cm E hg;go_wp2_with (first
  | (refine Lr 128 (ε 8) rn.o Tryz.underlying128 Fp ?_)
  | (go_at_call 57;(with_reducible refine f150.o.mono ?_);rintro e w2 ⟨j6,fg⟩;obtain⟨v2,k2,rfl⟩:=j6.form;have rq:=Z j6;clear j6))
 go_ret2;refine⟨?_,rp.o.trans fg⟩;rcases rq.o with⟨os,v,he,h1,h2,h3⟩|⟨he,d,hb⟩
 ·exact .inl ⟨os,v,he,NR ao.o.val dy.o HG.o h1,h2,h3⟩
 exact .inr ⟨he,NI dy.o hb⟩
theorem DZ {P:Ö} {ops:Array Oper} {Q:Exit->Act->Γ->Prop} {C:Γ->Prop} {n i:Nat} {is:List (Nat × Bool)} {o:Oper} {v:Δ} {a:Act} {w:Γ} (h0:ops.toList[i]? = I o) (E:Region.wanted o (yielded ops a.tmps)=Α) (hx:(execOp a.eval o).run P w=.ok (.value v) w)
  (G:C w) (h:Db P ops Q C n is (a.put o.dst v) w):Db P ops Q C n ((i,Ε)::is) a w:=by
 show wpOp P ops Q i _ a w;exact YieldsIf.wpOp (S:=λV=>V=w) (by rw[<-Array.getElem?_toList];exact h0) (.inl ⟨E,λW e=>by subst e;exact hx⟩) rfl ⟨λ_=>G,h⟩
theorem Ur {ds:List Dfa} {i:Nat} (hi:i+1<ds.length) {q:Dfa} {r:Option Dfa} (h:Dv (ds.drop (i+1)) (I q)) (hc:Cx (ds.getD i dN) q r):Dv (ds.drop i) r:=by
 have e:ds.drop i=ds.getD i dN::ds.drop (i+1):=by rw[ϱ (by omega),Ζ,Θ (by omega)];rfl
 have E:ds.drop (i+1)=ds.getD (i+1) dN::ds.drop (i+2):=by rw[ϱ hi,Ζ,Θ hi];rfl
 rw[e,E];rw[E] at h;exact⟨I q,h,hc⟩
theorem Us {ds:List Dfa}:∀ {i:Nat},i<ds.length->Dv (ds.drop i) J->Dv ds J
 | 0,_,h=>h
 | i+1,hi,h=>by
  refine Us (i:=i) (by omega) ?_;have e:ds.drop i=ds.getD i dN::ds.drop (i+1):=by rw[ϱ (by omega),Ζ,Θ (by omega)];rfl
  have E:ds.drop (i+1)=ds.getD (i+1) dN::ds.drop (i+2):=by rw[ϱ hi,Ζ,Θ hi];rfl
  rw[e,E];rw[E] at h;exact⟨J,h,rfl⟩
theorem Uq (ds:List Dfa) (hd:∀ i,i<ds.length->Cano (ds.getD i dN)/\(ds.getD i dN).n.length<=64) (c7:ds.length<=200) (a:Option Addr) (b o c8:Nat) (ha:0<ds.length->a=I ⟨b,o,J⟩) (w:Γ) (hT:Tab w) (ca:0<w.heap.size) (hD:DsAt w b o ds) :
  Ϟ Ι 29 #[U a ds.length c8] w λe w'=>∃ r,ResOf w' e r/\Dv ds r/\Ext w w':=by
 have c9:=Z (λW (hW:Ext w W)=>hT.below hW.below ca);have cc:=Z hD;have bk:=Z hd;have au:=(Κ w).alloc (Β #[U J 0 0,U J 0 0,U J 0 0] 40);have E:=Ad w (Β #[U J 0 0,U J 0 0,U J 0 0] 40);clear hD hd hT;go_enter Tryz.func29,Tryz.ntmps29;go_upto_region 1 with (fail)
 obtain⟨w1,bl⟩:=Xq (w.alloc (Β #[U J 0 0,U J 0 0,U J 0 0] 40));rw[bl] at au E;simp only[bl];clear bl;have E:=Z E;by_cases h0:ds.length=0
 ·have f54:=Z (Ma [] (by decide) (U J 0 0) w1 (by refine⟨by simp,.inl ⟨rfl,_,_,rfl⟩⟩));have da:ϟ (ds=[]):=Z (ϵ.1 h0);have du:((ds.length:Int)==0)=Α:=by simp[h0]
  clear ha;go_wp2_with (first
   | (go_at_call 16;(with_reducible refine f54.o.mono ?_);rintro e w5 ⟨r,aj,cd,hw,ah⟩;obtain⟨G,H,T,X,aa,ab,ad,ae,af,k1,rfl⟩:=aj.form;have ba:=Z aj;have cg:=Z cd;have HW:=Z hw;have ax:=Z (ah.heap E.o);clear aj cd hw)
   | (refine Sr 40 (ε 2) (ε 11) rfl ax.o Ae rfl (Aw _ _ _ rfl rfl rfl) ?_))
  refine ω (v:=ϙ #[.agg (dA (U G H T) (U X aa ab) (U ad ae af)),.int Χ k1]) (Bi rfl _ _ _ _ _ _ _ rfl _ rfl (Φ w5 _ _ (dA (U G H T) (U X aa ab) (U ad ae af)) 40 (0,0) ax.o) Ρ rfl Ae) rfl ?_;exact⟨I r,ba.o.setRow (λq e=>by injection e with e;rw[<-e];exact cg.o.val) ax.o _,by rw[da.o];exact⟨r,rfl,cg.o,HW.o⟩,(au.t ah).setRow (Υ _) _⟩
 have ha:=ha (by omega);subst ha;obtain⟨m,hm⟩:∃ m,ds.length=m+1:=⟨ds.length-1,by omega⟩;have HM:=Z hm;rw[hm] at c7;simp only[hm];obtain⟨x1,x2,x3,cj,bm⟩:=cc.o m (by omega);have ck:=Z (show w1.rangeAt b (o+m*3) [x1,x2,x3] from λj v hj=>au.cell (cj j v hj));have cl:(#[x1,x2,x3]:Array Δ).all (·.oneCell')=Α:=by
  obtain⟨_,_,_,_,_,_,_,_,he⟩:=bm.agg;injection he with he
  rw[he];exact Aw _ _ _ rfl rfl rfl
 have cm:=Z bm;clear hm h0 cj bm;go_upto_region 4 with (first
  | (refine é rfl 40 (ε 17) rfl b (o+m*3) rfl _ _ ck.o Ρ rfl (Dg _ _ _) ?_)
  | (refine Sr 40 (ε 4) (ε 18) rfl (Ad w1 _) Ae rfl cl ?_))
 have bb:=(au.alloc (Β #[U J 0 0,U J 0 0,U J 0 0] 40)).setRow (g:=w1.heap.size) au.size #[x1,x2,x3];have G4:=Φ _ _ _ #[x1,x2,x3] 40 (0,0) (Ad w1 (Β #[U J 0 0,U J 0 0,U J 0 0] 40));have dc:=Al E.o;have G2:=Bk (Ag E.o (Β #[U J 0 0,U J 0 0,U J 0 0] 40)) (g:=w1.heap.size) (by omega) #[x1,x2,x3];have bo:=cm.o.ext bb;obtain⟨w3,bp⟩:=Xq ((w1.alloc (Β #[U J 0 0,U J 0 0,U J 0 0] 40)).setRow w1.heap.size #[x1,x2,x3]);rw[bp] at bb G4 G2 bo;simp only[bp];obtain⟨g4,bq⟩:=Xq (w1.heap.size);have cn:ϟ (w.heap.size<g4):=Z (by omega);rw[bq] at G4;simp only[bq];clear bp bq E ck cl cm dc;have cp:ϟ (Dv (ds.drop m) (I (ds.getD m dN))):=Z (by rw[ϱ (by rw[HM.o];omega),List.drop_eq_nil_of_le (by rw[HM.o];omega),Ζ,Θ (by rw[HM.o];omega)];rfl)
 go_wp2_with (fail);go_loopw [5] (λvi W=>∃ (z:Int) (k:Nat) (q:Dfa) (A:Array Δ),z+1=(k:Int)/\k<=m/\vi=.int Χ z/\Ext w W/\ϟ (W.heap[g4]? = I (Β A 40 (0,0)))/\ϟ (W.heap[w.heap.size]? = I (Β #[U J 0 0,U J 0 0,U J 0 0] 40 (0,0)))/\ϟ (A.size=3)/\ϟ (IsD W (.agg A) q)/\ϟ (Val q/\q.n.length<=64)/\ϟ (Dv (ds.drop k) (I q)))
  (λvi _=>(intOf vi+1).toNat)
 case atStart=>exact⟨(m:Int)-1,m,_,_,by omega,by omega,by go_num,bb,Z G4,Z G2,Z rfl,Z bo,Z ⟨(bk.o m (by rw[HM.o];omega)).1.val,(bk.o m (by rw[HM.o];omega)).2⟩,cp⟩
 clear bb G4 G2 bo cp;obtain⟨z,k,q,A,hz,dw,rfl,hE,H4,E,HA,HI,HQ,HP⟩:=hrel;have bf:(Ι.info? 40).map (·.size)=I A.size:=by rw[HA.o];exact Ae
 obtain⟨dx,dy,dz,ea,eb,ec,ed,ee,az⟩:=HI.o.agg;injection az with az
 by_cases dd:z<0
 ·obtain rfl:k=0:=by omega
  have ef:¬ (0:Int)<=z:=by omega
  have de:A.all (·.oneCell')=Α:=by rw[az];exact Aw _ _ _ rfl rfl rfl
  clear az hz;go_wp2_with (first
   | (refine Lr 40 (ε 4) H4.o Ρ bf ?_)
   | (refine Sr 40 (ε 2) (ε 39) rfl E.o bf HA.o.symm de ?_))
  refine ω (v:=ϙ #[.agg A,.int Χ 0]) (Bi rfl _ _ _ _ _ _ _ rfl _ rfl (Φ wr _ _ A 40 (0,0) E.o) Ρ rfl bf) rfl ?_;exact⟨I q,⟨_,rfl,IsD.setRow HQ.o.1 HI.o E.o _⟩,HP.o,hE.setRow (Υ _) _⟩
 obtain⟨i,rfl⟩:∃ i:Nat,z=i:=⟨z.toNat,by omega⟩;obtain rfl:k=i+1:=by omega
 have eg:(i:Int)<(m:Int)+1:=by omega
 have eh:(0:Int)<=(i:Int):=by omega
 obtain⟨y1,y2,y3,cv,cw⟩:=cc.o i (by rw[HM.o];omega);have df:=Z (λV (hV:Ext w V)=>(show V.rangeAt b (o+i*3) [y1,y2,y3] from λj v hj=>hV.cell (cv j v hj)));have cy:=Z (bk.o i (by rw[HM.o];omega));have fc:=λW (hW:Ext w W) (hI:IsD W (.agg A) q)=>Z (Lp (ds.getD i dN) q cy.o.1.val HQ.o.1 cy.o.2 HQ.o.2 _ _ W (c9.o W hW) (Ξ ca hW.size) (cw.ext hW) hI)
 clear az hz dd cv cw;go_upto_region 8 with (fail)
 refine Bq 10 [(0,Α),(1,Α),(2,Α),(3,Α),(4,Ε),(5,Ε),(6,Α),(7,Α),(8,Α),(9,Ε),(10,Ε)] (by kernel_rfl) (by kernel_rfl) (λ_ _ _ _ h=>h)
  (λV=>Ext w V) (hE.t (Κ wr).drew) ?_
 have a6:=hE.t (Κ wr).drew;have bg:=Z ((Κ wr).drew.heap H4.o);have b0:=Z ((Κ wr).drew.heap E.o);have bh:=Z (HI.o.ext (Κ wr).drew);obtain⟨wy,b4⟩:=Xq (wr.drew);rw[b4] at a6 bg b0 bh;rw[b4];clear b4 H4 E HI;iterate 3
  refine Ai (v:=?_) rfl rfl (λV hV=>?_) ?_
  rotate_left
  ·clear hV;go_simp;first|done|with_reducible rfl
  simp only[θ,Η,Μ,Λ]
 refine Ai (v:=.agg #[y1,y2,y3]) rfl rfl (λV hV=>?_) ?_
 ·exact Cj 40 (ε 29) rfl b (o+i*3) rfl _ _ (df.o V hV) Ρ rfl (Dg _ _ _)
 simp only[θ,Η,Μ,Λ];refine DZ (v:=.agg A) rfl rfl (Ei 40 (ε 4) rfl g4 rfl 40 A (0,0) _ bg.o Ρ rfl bf) a6 ?_;simp only[θ,Η,Μ,Λ];refine Ao rfl (λKk hK=>?_);go_simp
 (with_reducible refine (fc wy a6 bh.o).o.mono ?_)
 rintro e w5 ⟨r,aj,hrel,ah⟩;obtain⟨G,H,T,X,aa,ab,ad,ae,af,k1,rfl⟩:=aj.form;have b5:=Z (ah.heap bg.o);have ax:=Z (ah.heap b0.o);have ba:=Z aj;have b6:=Z hrel;have c3:=Z (a6.t ah);have c4:=Z (λ(q':Dfa) (dk:Val q') (h:IsD w5 (.agg (dA (U G H T) (U X aa ab) (U ad ae af))) q')=>IsD.setBox dk h HQ.o.1 (bh.o.ext ah) b5.o (dA (U G H T) (U X aa ab) (U ad ae af)));clear aj hrel fc bg b0 a6 bh ah;refine hK _ _ (λ_=>c3.o) ?_;clear hK Kk;refine Ai (v:=?_) rfl rfl (λV _=>?_) ?_
 rotate_left
 ·go_simp;first|done|with_reducible rfl
 simp only[θ,Η,Μ,Λ];refine Ai (v:=.agg (dA (U G H T) (U X aa ab) (U ad ae af))) rfl rfl (λV _=>?_) ?_
 ·go_simp
 simp only[θ,Η,Μ,Λ];refine Ai (v:=.int Χ k1) rfl rfl (λV _=>?_) ?_
 ·go_simp
 simp only[θ,Η,Μ,Λ];refine Ao rfl (λKk hK=>?_);refine Hu 40 (ε 4) (ε 33) rfl rfl _ _ rfl rfl _ _ b5.o Ae HA.o (Aw _ _ _ rfl rfl rfl) ?_;have bj:=c3.o.setRow (Nat.le_of_lt cn.o) (dA (U G H T) (U X aa ab) (U ad ae af));have G4:=Φ w5 _ _ (dA (U G H T) (U X aa ab) (U ad ae af)) 40 (0,0) b5.o;have G2:=Bk ax.o (show w.heap.size≠g4 from Nat.ne_of_lt cn.o) (dA (U G H T) (U X aa ab) (U ad ae af));refine hK _ _ (λ_=>bj) ?_;clear hK Kk;obtain⟨w6,b7⟩:=Xq (w5.setRow g4 (dA (U G H T) (U X aa ab) (U ad ae af)));rw[b7] at bj G4 G2 c4;simp only[b7];clear b7;refine Ao rfl (λKk hK=>?_);go_simp;refine hK _ _ (λh=>absurd h (by omega)) ?_;clear hK Kk;refine Bn ?_;have b8:=Z G2;cases r with
 | none=>
  obtain⟨rfl,hz⟩:=ba.o.none_inv;have dn:=Z F1;have HF:=Z (Us (ds:=ds) (i:=i) (by rw[HM.o];omega) (Ur (by rw[HM.o];omega) HP.o b6.o));clear hz G4 G2;go_wp2_with (first
   | (refine Bj rfl 40 _ rfl #[U J 0 0,U J 0 0,U J 0 0] ?_ ?_;(simp;with_reducible exact dn.o))
   | (refine Sr 40 (ε 2) (ε 37) rfl b8.o Ae rfl Fa ?_))
  refine ω (v:=ϙ #[zD,.int Χ 2]) (Bi rfl _ _ _ _ _ _ _ rfl _ rfl (Φ w6 _ _ #[U J 0 0,U J 0 0,U J 0 0] 40 (0,0) b8.o) Ρ rfl Ae) rfl ?_;exact⟨J,rfl,HF.o,bj.setRow (Υ _) _⟩
 | some q'=>
  obtain⟨rfl,c5⟩:=ba.o.some_inv;obtain⟨c6,dq⟩:=Im b6.o q' rfl;have dr:=Z (c4.o q' c6 c5);have dt:=Z (Ur (by rw[HM.o];omega) HP.o b6.o);clear c5;go_wp2;go_roundw
  case rel=>exact⟨(i:Int)-1,i,q',_,by omega,by omega,by go_num,bj,Z G4,b8,Z rfl,dr,Z ⟨c6,dq⟩,dt⟩
  simp[intOf]<;>omega
def RowAt (W:Γ) (g:Nat) (l:List Bool):Prop:=∀ i,i<l.length->W.cell? ⟨g,i,J⟩=I (.bool (l.getD i Ε))
theorem RowAt.of_owns {W:Γ} {base g n c:Nat} {l:List Bool} (h:W.ownsRow base 4 1 (U (I ⟨g,0,J⟩) n c) n (l.map ψ)) (E:n=l.length):RowAt W g l:=λi hi=>by rw[h.cellAt i (by omega),υ,Θ hi,Ζ,Θ hi];rfl
theorem Kw {W:Γ} {g k:Nat} {p:Addr} {v:Δ} (E:p.block=g) (hc:W.cell? p=I v) (hm:∃ es c,W.heap[k]? = I (.map es c)):g≠k:=λe=>by obtain⟨es,c,hm⟩:=hm;subst e;simp[Γ.cell?,E,hm] at hc
theorem RowAt.keptm {W W':Γ} {g k:Nat} {l:List Bool} (h:RowAt W g l) (hg:W.grownBy W' (I k)) (E:g≠k):RowAt W' g l:=λi hi=>by have hc:=h i hi;rw[hg.cell_far ⟨g,i,J⟩ (Γ.block_lt_of_cell? W _ hc) (by simp;exact E)];exact hc
theorem RowAt.ext {W W':Γ} {g:Nat} {l:List Bool} (h:RowAt W g l) (E:Ext W W'):RowAt W' g l:=λi hi=>E.cell (h i hi)
theorem RowAt.lt {W:Γ} {g:Nat} {l:List Bool} (h:RowAt W g l) (h0:0<l.length):g<W.heap.size:=Γ.block_lt_of_cell? W _ (h 0 h0)
def Ls (N M:Nat) (f:Nat × Nat->Option Δ):Nat:=Du (N*M) λq=>(f (q / M,q % M)).isSome
theorem SZ {N M:Nat} {f:Nat × Nat->Option Δ} {y:Nat × Nat} (h1:y.1<N) (E:y.2<M) (T:f y=J) (v:Δ):Ls N M f+1<=Ls N M λz=>if z=y then I v else f z:=by
 unfold Ls;refine Rq _ (λx _ hx=>?_) ⟨y.1*M+y.2,?_,?_,?_⟩
 ·simp only;split
  ·rfl
  exact hx
 ·have:(y.1+1)*M<=N*M:=Nat.mul_le_mul_right M h1;rw[Nat.add_mul,Nat.one_mul] at this;omega
 ·have G:(y.1*M+y.2) / M=y.1:=by rw[Nat.mul_comm,Nat.mul_add_div (by omega),Nat.div_eq_of_lt E];rfl
  have H:(y.1*M+y.2) % M=y.2:=by rw[Nat.mul_comm,Nat.mul_add_mod,Nat.mod_eq_of_lt E]
  rw[G,H];simp
 have G:(y.1*M+y.2) / M=y.1:=by rw[Nat.mul_comm,Nat.mul_add_div (by omega),Nat.div_eq_of_lt E];rfl
 have H:(y.1*M+y.2) % M=y.2:=by rw[Nat.mul_comm,Nat.mul_add_mod,Nat.mod_eq_of_lt E]
 rw[G,H,T];rfl
structure Mq where
 xs:List RNode
 b:List UInt8
 W0:Γ
 gM:Nat
 gK:Nat
 bx:Nat
 ox:Nat
 cx:Nat
 vb:Δ
structure Mq.ok (q:Mq):Prop where
 hx:VRx q.xs
 hb:q.b.length<=1000
 hM:q.W0.heap[q.gM]? = I (Β #[U (I ⟨q.bx,q.ox,J⟩) q.xs.length q.cx,q.vb,.map (I q.gK)] 123 (0,0))
 hK:q.gK<q.W0.heap.size
 rx:RxAt q.W0 q.bx q.ox q.xs
 by_:By q.W0 q.vb q.b
 ne:∃ es c,q.W0.heap[q.gK]? = I (.map es c)
structure Mt (q:Mq) (A:Nat->Prop) (W:Γ) (n:Nat) (f:Nat × Nat->Option Δ):Prop where
 gr:q.W0.grownBy W (I q.gK)
 mp:IsMv W 164 C2 q.gK n f
 le:n<=Ls q.xs.length (q.b.length+1) f
 al:∀ k,A k->q.W0.heap.size<=k/\k<W.heap.size
 ent:∀ y v,f y=I v->∃ g,v=U (I ⟨g,0,J⟩) (q.b.length+1) (q.b.length+1)/\¬ A g/\RowAt W g (Bh (A3 q.xs y.1) q.b y.2)
theorem E7 (L:Af) (b:List UInt8) (i:Nat):(Bh L b i).length=b.length+1:=Cf _ _
theorem PN {W E G:Γ} {r:Option Nat} (h:W.grownBy E r) (k:E.grownBy G r):W.grownBy G r:=h.trans k
theorem D8 {W E:Γ} {r:Option Nat} (h:W.grownBy E J):W.grownBy E r:=⟨h.os,h.tape,h.output,h.size,λk G _=>h.block k G (by simp)⟩
theorem Gf {W E G:Γ} {r:Option Nat} (h:W.grownBy E r) {g:Nat} (k:E.grownBy G (I g)) (hg:W.heap.size<=g):W.grownBy G r:=
 ⟨k.os.trans h.os,k.tape.trans h.tape,k.output.trans h.output,μ h.size k.size,λj H T=>(k.block j (Ξ H h.size) (λe=>by injection e with e;omega)).trans (h.block j H T)⟩
theorem Mt.ext {q:Mq} {A:Nat->Prop} {W W':Γ} {n:Nat} {f:Nat × Nat->Option Δ} (h:Mt q A W n f) (E:Ext W W'):Mt q A W' n f:=
 ⟨h.gr.trans (D8 (E.grownBy J)),h.mp.ext E,h.le,λk G=>⟨(h.al k G).1,Ξ (h.al k G).2 E.size⟩,λy v H=>by obtain⟨g,e,hg,T⟩:=h.ent y v H;exact⟨g,e,hg,T.ext E⟩⟩
theorem Mt.weak {q:Mq} {A B:Nat->Prop} {W:Γ} {n:Nat} {f:Nat × Nat->Option Δ} (h:Mt q A W n f) (E:∀ k,B k->A k):Mt q B W n f:=
 ⟨h.gr,h.mp,h.le,λk G=>h.al k (E k G),λy v H=>by obtain⟨g,e,hg,T⟩:=h.ent y v H;exact⟨g,e,λX=>hg (E g X),T⟩⟩
theorem Mt.map {q:Mq} {A:Nat->Prop} {W:Γ} {n:Nat} {f:Nat × Nat->Option Δ} (h:Mt q A W n f):∃ es c,W.heap[q.gK]? = I (.map es c):=h.mp.block
theorem Mt.fresh {q:Mq} {A:Nat->Prop} {W W':Γ} {n:Nat} {f:Nat × Nat->Option Δ} (h:Mt q A W n f) (H:Ext W W') (X:W.heap.size<W'.heap.size):Mt q (λk=>A k\/k=W.heap.size) W' n f:=by
 have G:=h.ext H;refine⟨G.gr,G.mp,G.le,λk E=>?_,λy v hv=>?_⟩
 ·rcases E with E|rfl
  ·exact G.al k E
  exact⟨h.gr.size,X⟩
 obtain⟨g,e,hg,T⟩:=h.ent y v hv;refine⟨g,e,λE=>?_,T.ext H⟩;rcases E with E|E
 ·exact hg E
 have:=T.lt (by rw[E7];omega);omega
theorem Mt.own {q:Mq} (T:q.ok) {A:Nat->Prop} {W W':Γ} {n:Nat} {f:Nat × Nat->Option Δ} {g:Nat} (h:Mt q A W n f) (hg:W.grownBy W' (I g)) (E:A g):Mt q A W' n f:=by
 obtain⟨h1,h2⟩:=h.al g E;have X:q.gK≠g:=λe=>by have:=T.hK;omega
 refine⟨Gf h.gr hg h1,h.mp.kept hg (by simp;exact X),h.le,λk G=>⟨(h.al k G).1,Ξ (h.al k G).2 hg.size⟩,λy v hv=>?_⟩;obtain⟨g',e,H,hr⟩:=h.ent y v hv;exact⟨g',e,H,hr.keptm hg (λe=>H (by rw[e];exact E))⟩
theorem Mt.box {q:Mq} (E:q.ok) {A:Nat->Prop} {W:Γ} {n:Nat} {f:Nat × Nat->Option Δ} (h:Mt q A W n f):W.heap[q.gM]? = I (Β #[U (I ⟨q.bx,q.ox,J⟩) q.xs.length q.cx,q.vb,.map (I q.gK)] 123 (0,0)):=
 Dr h.gr E.ne E.hM
theorem Mt.node {q:Mq} (E:q.ok) {A:Nat->Prop} {W:Γ} {n:Nat} {f:Nat × Nat->Option Δ} (h:Mt q A W n f) (i:Nat) (hi:i<q.xs.length):W.rangeAt q.bx (q.ox+i*9) (rnC (q.xs.getD i ⟨0,0,0,0#256,0,0⟩)).toList:=λj v G=>by have hc:=E.rx i hi j v G;rw[h.gr.cell_far _ (Γ.block_lt_of_cell? q.W0 _ hc) (by simp;exact Kw rfl hc E.ne)];exact hc
theorem Mt.word {q:Mq} (E:q.ok) {A:Nat->Prop} {W:Γ} {n:Nat} {f:Nat × Nat->Option Δ} (h:Mt q A W n f):By W q.vb q.b:=Sl.keptm E.by_ (by decide) h.gr E.ne
def BP (q:Mq) (A:Nat->Prop) (W:Γ) (f:Nat × Nat->Option Δ) (node:Nat) (row:List Bool) (e:Ending) (w':Γ):Prop:=
 ∃ g G E,e=Ω (U (I ⟨g,0,J⟩) (q.b.length+1) (q.b.length+1))/\¬ A g/\RowAt w' g row/\Mt q A w' G E/\(∀ y,node<y.1->E y=f y)/\W.grownBy w' (I q.gK)
def Oe (q:Mq) (node:Nat):Prop:=∀ (A:Nat->Prop) (W:Γ) n f i,i<=q.b.length->Mt q A W n f->Ϟ Ι 53 #[η (I ⟨q.gM,0,J⟩),iv node,iv i] W λe w'=>BP q A W f node (Bh (A3 q.xs node) q.b i) e w'
def WL (q:Mq) (A:Nat->Prop) (W:Γ) (f:Nat × Nat->Option Δ) (node:Nat) (row:List Bool) (e:Ending) (w':Γ):Prop:=
 ∃ g G E,e=Ω (U (I ⟨g,0,J⟩) (q.b.length+1) (q.b.length+1))/\W.heap.size<=g/\w'.ownsRow W.heap.size 4 1 (U (I ⟨g,0,J⟩) (q.b.length+1) (q.b.length+1)) (q.b.length+1) (row.map ψ)/\Mt q (λk=>A k\/k=g) w' G E/\(∀ y,node<y.1->E y=f y)/\W.grownBy w' (I q.gK)
end Go.Proofs.YtilncahcpjlfnaaGreatDoor
