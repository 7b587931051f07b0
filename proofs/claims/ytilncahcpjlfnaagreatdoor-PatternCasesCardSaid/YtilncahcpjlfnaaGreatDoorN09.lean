import Derived.Test.YtilncahcpjlfnaaGreatDoorN08
import Derived.Test.YtilncahcpjlfnaaGreatDoorN05
import Derived.Test.YtilncahcpjlfnaaGreatDoorN07
import Derived.Deep.Upon
import Derived.Test.YtilncahcpjlfnaaGreatDoorN03
import Derived.Test.YtilncahcpjlfnaaGreatDoorN04
set_option linter.unusedVariables false
set_option linter.unusedSimpArgs false
set_option maxRecDepth 100000
set_option maxHeartbeats 4000000
open And renaming intro → í
open Array renaming replicate → ä, getElem?_toList → Ϲ
open Bool renaming true → Α, false → Ε, eq_iff_iff → ϴ, and_eq_true → ς
open Classical renaming byContradiction → Å
open Go renaming World → Γ, Calls → Ϟ, Value → Δ, info_parts → ϑ, heap_alloc2_new → ύ, cell_of_row → Τ, undef → δ, maxLen → ϐ, Operand → á, setRow_heap → Φ, wpList_make_full → Ϛ, wpQuiet_step → Á, bodyPost_ret → ω, TypeId → ϫ, Program → Ö, Oper → Ϭ, Act → ë, execOp → ö, wpList_append_lies → ϕ, getD_replicate_false → ϛ, yielded → ð
open Go.Act renaming put → θ
open Go.Ending renaming returned → Ω
open Go.IntKind renaming i64 → Χ
open Go.Lib renaming hid → Z
open Go.Obj renaming cells → Β
open Go.Operand renaming tmp → ε
open Go.Proofs.Tryz renaming prog → Ι, underlying54 → ϝ, underlying40 → Ρ, underlying22 → ϡ
open Go.Region renaming ready → Ϯ, wanted → Ϡ
open Go.RowKit renaming Hid → ϟ
open Go.Value renaming pointer → η, slice → U, oneCell' → ξ, bool → ψ, tuple → ϙ, slice → ό
open Go.World renaming size_alloc → Ο, ownsRow_lit → Ê
open List renaming replicate → ζ, drop_succ_cons → ϸ, drop_zero → À, setIfInBounds_toArray → Η, set_cons_zero → Μ, set_cons_succ → Λ, range → π, length_map → ι, length_set → ο, mem_map → Ϫ, mem_range → ώ, map_append → ϥ, foldl_append → ô, length_append → Ν, length_singleton → Ϥ, getD_eq_getElem?_getD → Ζ, getElem?_eq_getElem → Θ, ext_getElem? → Ϩ, length_take → Ï, append_assoc → ê
open Nat renaming le_refl → Υ, lt_of_lt_of_le → Ξ, le_of_eq → Ñ, le_trans → μ
open Ne renaming symm → þ
open Option renaming none → J, some → I
open Option.some renaming inj → ϓ
open UInt8 renaming ofNat → ϔ
namespace Go.Proofs.YtilncahcpjlfnaaGreatDoor
open Go.RowKit Go.Shelf
theorem On (a s g:Nat) (W:Γ) (hc:W.cell? ⟨g,0,J⟩=I (iv a)) :
  Ϟ Ι 106 #[iv s,η (I ⟨g,0,J⟩)] W λe w'=>e=Ω (iv (swp a s))/\w'=W:=by
 go_enter Tryz.func106,Tryz.ntmps106;unfold swp;obtain⟨H,h0⟩:=Xq (((s:Int)==0));obtain⟨b1,h1⟩:=Xq (((s:Int)==(a:Int)));have E:(s=0)↔H=Α:=by rw[<-h0];simp
 have G:(s=a)↔b1=Α:=by rw[<-h1];simp;omega
 cases H
 ·rw[if_neg (λh=>by simpa using E.1 h)];cases b1
  ·rw[if_neg (λh=>by simpa using G.1 h)];clear E G;go_wp2;go_ret;exact⟨rfl,rfl⟩
  rw[if_pos (G.2 rfl)];clear E G;go_wp2;go_ret;exact⟨rfl,rfl⟩
 rw[if_pos (E.2 rfl)];clear E G;go_wp2;go_ret;exact⟨rfl,rfl⟩
def Qx (E n G:Nat) (vc T:Δ):Nat->Δ->Γ->Prop
 | 0,v,_=>v=η (I ⟨G,0,J⟩)
 | 1,v,_=>v=vc
 | 2,v,_=>v=η (I ⟨G,1,J⟩)
 | 3,v,_=>v=T
 | 4,v,_=>v=iv n
 | 5,v,W=>∃ g,v=U (I ⟨g,0,J⟩) n n/\W.ownsRow E 54 1 v n (ζ n (U J 0 0))
 | 6,v,W=>∃ H,v=.agg #[vc,U (I ⟨H,0,J⟩) n n]/\W.ownsRow E 54 1 (U (I ⟨H,0,J⟩) n n) n (ζ n (U J 0 0))
 | _,v,W=>∃ g,v=η (I ⟨g,0,J⟩)/\W.heap[g]? = I (Β #[U J 0 0,U J 0 0] 128 (0,0))/\E<=g
theorem QH (H n T:Nat) (vc X:Δ):∀ (i:Nat) (v:Δ) (w w':Γ),Qx H n T vc X i v w->Ext w w'->Qx H n T vc X i v w'
 | 0,_,_,_,h,_=>h
 | 1,_,_,_,h,_=>h
 | 2,_,_,_,h,_=>h
 | 3,_,_,_,h,_=>h
 | 4,_,_,_,h,_=>h
 | 5,_,_,_,⟨g,h1,E⟩,G=>⟨g,h1,Aa E G⟩
 | 6,_,_,_,⟨g,h1,E⟩,G=>⟨g,h1,Aa E G⟩
 | _+7,_,_,_,⟨g,h1,E,h3⟩,G=>⟨g,h1,G.heap E,h3⟩
theorem R7 (a E:Option Addr) (n G c H:Nat):Ι.built 128 [(0,U a n c),(1,U E G H)]=I #[U a n c,U E G H]:=by kernel_rfl
theorem QG (d:Dfa) (hv:Val d) (hn:d.n.length<=64) (a:Nat) (bg:a<d.n.length) (v:Δ) (w:Γ) (hT:Tab w) (e5:0<w.heap.size) (h:IsD w v d) :
  Ϟ Ι 84 #[v,iv a] w λe w'=>∃ r,ResOf w' e (I r)/\Cano r/\r.n.length<=64/\(∀ x,r.has x=d.ok (d.run a x))/\Ext w w':=by
 have ia:=Z (λW (X:Ext w W)=>hT.below X.below e5);have HV:=Z hv;have HI:=Z h;obtain⟨vc,vn,va,rfl,hC,hN,hA⟩:=h;obtain⟨ac,H,ib⟩:=Sl.len hC;obtain⟨bn,on,cn,ic,hR⟩:=Ko hN d.cls.length hv.pos hv.parts.pos hv.row;obtain⟨ba,oa,ca,e9,fa⟩:=Ü hA (by rw[hv.accL];exact hv.pos);have HC:=Z hC;have HR:=Z hR;have fc:ϟ (∀ s,s<d.n.length->w.cell? ⟨ba,oa+s,J⟩=I (.bool (d.ok s))):=Z λs hs=>fa s (by rw[hv.accL];omega)
 rw[hv.accL] at e9;subst ib ic e9;have ie:=hv.parts.pos;have ig:=hv.parts.le;have ih:=hv.pos;clear hC hN hA hR fa hv hT;obtain⟨i0,hi,ik,il,im⟩:=ϑ Ds;obtain⟨j0,hj,iw,ix,iy⟩:=ϑ Fc;obtain⟨k0,hk,ja,jb,jc⟩:=ϑ Lf;obtain⟨n,c4⟩:=Xq (d.n.length);obtain⟨m,c6⟩:=Xq (d.cls.length);have HN:=Z c4;have HM:=Z c6;rw[c4] at hn bg ih HR fc HI;rw[c6] at ie ig HR HI HC;rw[c4,c6];clear c4 c6;obtain⟨Va,dv⟩:=Xq (dA (U ac m H) (U (I ⟨bn,on,J⟩) n cn) (U (I ⟨ba,oa,J⟩) n ca));have dw:=Z dv;have dx:=(((Κ w).alloc (Β Va 40)).alloc (Β #[iv a] 3)).alloc (Β #[U J 0 0,U J 0 0,U J 0 0] 40);have H2:=Ag (Ag (Ad w (Β Va 40)) (Β #[iv a] 3)) (Β #[U J 0 0,U J 0 0,U J 0 0] 40);have H3:=Ag (ύ w (Β Va 40) (Β #[iv a] 3)) (Β #[U J 0 0,U J 0 0,U J 0 0] 40);have H4:=Ad ((w.alloc (Β Va 40)).alloc (Β #[iv a] 3)) (Β #[U J 0 0,U J 0 0,U J 0 0] 40);rw[Ο,Ο] at H4;rw[show (#[U ac m H,U (I ⟨bn,on,J⟩) n cn,U (I ⟨ba,oa,J⟩) n ca]:Array Δ)=Va from dv];clear dv;go_enter Tryz.func84,Tryz.ntmps84;go_upto_region 2 with (fail)
 obtain⟨w1,dy⟩:=Xq (((w.alloc (Β Va 40)).alloc (Β #[iv a] 3)).alloc (Β #[U J 0 0,U J 0 0,U J 0 0] 40));rw[dy] at dx H2 H3 H4;simp only[dy];clear dy;have bu:=Z dx;have H3:=Z H3;have H4:=Z H4;have ff:=Z (λV (E:Ext w1 V)=>(Τ V w.heap.size 0 _ _ _ (E.heap H2)).trans (show Va[0]? = I (U ac m H) by rw[<-dw.o];rfl));have c8:=Z (λV (E:Ext w1 V)=>(Τ V w.heap.size 1 _ _ _ (E.heap H2)).trans (show Va[1]? = I (U (I ⟨bn,on,J⟩) n cn) by rw[<-dw.o];rfl));have jd:=Z (λV (E:Ext w1 V)=>(Τ V w.heap.size 2 _ _ _ (E.heap H2)).trans (show Va[2]? = I (U (I ⟨ba,oa,J⟩) n ca) by rw[<-dw.o];rfl));have dz:=Z (λV (E:Ext w1 V)=>(Τ V (w.heap.size+1) 0 _ _ _ (E.heap H3.o)).trans (show (#[iv a]:Array Δ)[0]? = I (iv a) from rfl));have je:=Z (λs (hs:s<n)=>HR.o.ext bu.o s hs);have jf:=Z (λV (E:Ext w1 V) s hs=>(bu.o.t E).cell (fc.o s hs));clear dx H2;refine Hk 8 76 (by kernel_rfl) (by kernel_rfl) rfl (Qx w1.heap.size n w.heap.size (U ac m H) (U (I ⟨bn,on,J⟩) n cn)) Hz Kv (QH _ _ _ _ _) (λi c9=>?_) (λvs w5 fg hF hN=>?_)
 ·have da:=(Κ w1).drew
  match i,c9 with
  | 0,_=>
   refine Av _ _ rfl rfl rfl λc W X aa a1=>?_
   have h3:c.tmps.getD 2 δ=η (I ⟨w.heap.size,0,J⟩):=a1 2 (by kernel_rfl);go_simp;exact⟨_,rfl,Κ W,rfl,λ_ _ _ _ _=>trivial⟩
  | 1,_=>
   refine Av _ _ rfl rfl rfl λc W X aa a1=>?_
   have h3:c.tmps.getD 14 δ=η (I ⟨w.heap.size,0,J⟩):=aa 0 14 (by kernel_rfl);have c0:=ff.o W (da.t X);go_simp;exact⟨_,rfl,Κ W,rfl,λ_ _ _ _ _=>trivial⟩
  | 2,_=>
   refine Av _ _ rfl rfl rfl λc W X aa a1=>?_
   have h3:c.tmps.getD 2 δ=η (I ⟨w.heap.size,0,J⟩):=a1 2 (by kernel_rfl);go_simp;exact⟨_,rfl,Κ W,rfl,λ_ _ _ _ _=>trivial⟩
  | 3,_=>
   refine Av _ _ rfl rfl rfl λc W X aa a1=>?_
   have h3:c.tmps.getD 16 δ=η (I ⟨w.heap.size,1,J⟩):=aa 2 16 (by kernel_rfl);have c1:=c8.o W (da.t X);go_simp;exact⟨_,rfl,Κ W,rfl,λ_ _ _ _ _=>trivial⟩
  | 4,_=>
   refine Av _ _ rfl rfl rfl λc W X aa a1=>?_
   have h3:c.tmps.getD 17 δ=U (I ⟨bn,on,J⟩) n cn:=aa 3 17 (by kernel_rfl);go_simp;exact⟨_,rfl,Κ W,rfl,λ_ _ _ _ _=>trivial⟩
  | 5,_=>
   refine Av _ _ rfl rfl rfl λc W X aa a1=>?_
   have h3:c.tmps.getD 18 δ=iv n:=aa 4 18 (by kernel_rfl);refine Gq W _ _ 37 rfl w1.heap.size 54 k0 (U J 0 0) 1 Tryz.underlying37 hk ja jb Χ Χ _ _ n h3 h3 rfl rfl (by rw[jc];omega) (by unfold ϐ;omega) (da.t X).size ?_;intro W' jg ai;refine⟨_,rfl,(Κ W).grown ai (λk e=>by cases e),⟨_,rfl,?_⟩,λ_ _ _ _ _=>trivial⟩;rw[<-Jc];exact jg
  | 6,_=>
   refine Av _ _ rfl rfl rfl λc W X aa a1=>?_
   have h3:c.tmps.getD 15 δ=U ac m H:=aa 1 15 (by kernel_rfl);obtain⟨G,fh,h5⟩:∃ g,c.tmps.getD 19 δ=U (I ⟨g,0,J⟩) n n/\W.ownsRow w1.heap.size 54 1 (c.tmps.getD 19 δ) n (ζ n (U J 0 0)):=aa 5 19 (by kernel_rfl);rw[fh] at h5;refine Cy (Gi 128 _ rfl (A:=#[U ac m H,U (I ⟨G,0,J⟩) n n]) ?_ W) ?_
   ·have e:(Array.map (λ(i,x)=>(i,c.eval x)) #[(0,á.tmp 15),(1,á.tmp 19)]).toList=[(0,c.eval (ε 15)),(1,c.eval (ε 19))]:=by simp
    rw[e,show c.eval (ε 15)=_ from h3,show c.eval (ε 19)=_ from fh];exact R7 _ _ _ _ _ _
   exact⟨_,rfl,Κ W,⟨G,rfl,h5⟩,λ_ _ _ _ _=>trivial⟩
  | 7,_=>
   refine Av _ _ rfl rfl rfl λc W X aa a1=>?_
   go_simp;exact⟨_,rfl,(Κ W).alloc _,⟨_,rfl,Ad W _,(da.t X).size⟩,λ_ _ _ _ _=>trivial⟩
 have fk:vs 0=η (I ⟨w.heap.size,0,J⟩):=hF 0 (by omega);have fl:vs 1=U ac m H:=hF 1 (by omega);have fm:vs 2=η (I ⟨w.heap.size,1,J⟩):=hF 2 (by omega);have fp:vs 3=U (I ⟨bn,on,J⟩) n cn:=hF 3 (by omega);have fq:vs 4=iv n:=hF 4 (by omega);obtain⟨j6,fs,-⟩:∃ g,vs 5=U (I ⟨g,0,J⟩) n n/\_:=hF 5 (by omega);obtain⟨G,ft,bc⟩:∃ G,vs 6=.agg #[U ac m H,U (I ⟨G,0,J⟩) n n]/\_:=hF 6 (by omega);obtain⟨T,fu,H7,jh⟩:∃ g,vs 7=η (I ⟨g,0,J⟩)/\_/\_:=hF 7 (by omega);simp only[Bm,ϸ,À,fk,fl,fm,fp,fq,fs,ft,fu,List.getElem?_toArray,List.getElem?_cons_zero,List.getElem?_cons_succ,Option.bind_some,θ,Η,Μ,Λ];clear hF hN fk fl fm fp fq fs ft fu;go_upto_region 3 with (refine Sr 128 (ε 7) (ε 20) rfl H7 Fp rfl (by simp[ξ]) ?_)
 have b8:=((Κ w1).drew.t fg).setRow jh #[U ac m H,U (I ⟨G,0,J⟩) n n];have db:=Φ w5 T _ #[U ac m H,U (I ⟨G,0,J⟩) n n] _ _ H7;have eb:=bc.kept (Ca w5 T #[U ac m H,U (I ⟨G,0,J⟩) n n]) (B2 bc H7 (by decide));obtain⟨w6,ec⟩:=Xq (w5.setRow T #[U ac m H,U (I ⟨G,0,J⟩) n n]);rw[ec] at b8 db eb;simp only[ec];clear ec H7 bc fg;have k1:=c8.o w6 b8;go_upto_region 4 with (at_make;refine Ϛ _ rfl _ _ 38 rfl w1.heap.size 4 j0 (.bool Ε) 1 Tryz.underlying38 hj iw ix Χ Χ _ _ n rfl rfl rfl rfl (by rw[iy];omega) (by unfold ϐ;omega) b8.size ?_;intro w7 b9 aj)
 have an:=b8.grown aj (λk e=>by cases e);have cb:=Bz eb aj;have cd:=Z ((aj.block T (Al db) (by simp)).trans db);obtain⟨gA,ed⟩:=Xq (w6.heap.size);have cf:w7.ownsRow w1.heap.size 4 1 (U (I ⟨gA,0,J⟩) n n) n ((ζ n Ε).map ψ):=by rw[<-ed,<-B7];exact b9
 simp only[ed];clear b9 aj eb db ed b8 k1;have k1:=c8.o w7 an;go_wp2_with (fail);clear k1;have bz:=an.size;go_loopw [28] (λi W=>∃ (s:Nat) (NX:List Δ) (AC:List Bool),s<=n/\i=.int Χ s/\Ext w1 W/\w1.heap.size<=W.heap.size/\ϟ (NX.length=n/\AC.length=n)/\W.ownsRow w1.heap.size 54 1 (U (I ⟨G,0,J⟩) n n) n NX/\W.ownsRow w1.heap.size 4 1 (U (I ⟨gA,0,J⟩) n n) n (AC.map ψ)/\ϟ (W.heap[T]? = I (Β #[U ac m H,U (I ⟨G,0,J⟩) n n] 128 (0,0)))/\ϟ (∀ j,j<s->OwnI W w1.heap.size (NX.getD j δ) ((π m).map λq=>swp a (d.ent2 (swp a j) q)))/\ϟ (∀ j,j<s->AC.getD j Ε=d.ok (swp a j)))
  (λi _=>n-(intOf i).toNat)
 case atStart=>exact⟨0,_,_,by omega,rfl,an,bz,Z ⟨by simp,by simp⟩,cb,cf,cd,Z (λj h=>by omega),Z (λj h=>by omega)⟩
 clear an bz cb cf cd;obtain⟨s,NX,AC,hs,rfl,hE,bz,HL,bc,dc,H7,HQ,dd⟩:=hrel;by_cases cj:s<n
 ·have ji:=ff.o wr hE;go_upto_region 8 with (at_make;refine Ϛ _ rfl _ _ 54 rfl wr.heap.size 3 i0 (.int Χ 0) 1 ϝ hi ik il Χ Χ _ _ m rfl rfl rfl rfl (by rw[im];omega) (by unfold ϐ;omega) (Υ _) ?_;intro w7 b9 aj)
  have an:=hE.grown aj (λk e=>by cases e);have cb:=Bz bc aj;have cf:=Bz dc aj;have cd:=Z ((aj.block T (Al H7.o) (by simp)).trans H7.o);have de:w7.ownsRow wr.heap.size 3 1 (U (I ⟨wr.heap.size,0,J⟩) m m) m ((Cp (λq=>swp a (d.ent2 (swp a s) q)) m 0).map iv):=by rw[Ll,<-B7];exact b9
  have df:=Z (λj h1=>í (Bz (HQ.o j h1) aj) (λe=>(show ∀ k,(NX.getD j δ).ownBlock=I k->k<wr.heap.size from λk e=>((HQ.o j h1).lt k e).2) wr.heap.size e));have ee:w1.heap.size<=wr.heap.size:=bz;obtain⟨gn,ck⟩:=Xq (wr.heap.size);rw[ck] at de ee df;simp only[ck];clear ck b9 aj HQ bc dc H7 hE bz ji;have ef:=Hs bg cj;obtain⟨q,hq⟩:=Xq (swp a s);have eg:=Z hq;rw[hq] at ef de;have k1:=A4 (c8.o w7 an);obtain⟨br,or',cr,fw,fx⟩:=je.o q ef;have jk:=A4 (an.cell fw);have jl:=Z fx;have bh:=λ(e:EW w7)=>Z (On a s (w.heap.size+1) e.W (dz.o e.W (an.t e.ext)))
  rw[hq] at bh;have eh:=enters_of Tryz.func106 (by kernel_rfl) rfl;clear hq fw fx;refine Cl (by kernel_rfl) (by kernel_rfl) ?_;iterate 9 (with_reducible refine Á (λK hK=>?_);go_simp;first|(refine hK _ ?_;clear hK K)|(apply Exists.intro;refine⟨λ_=>?_,hK _ ?_⟩;(with_reducible exact TS (bh _).o);clear hK K))
  refine wpQuiet_nil ?_;rintro _ ⟨e,rfl⟩;have ei:=an.t e.ext;have cl:=Aa cb e.ext;have dg:=Aa cf e.ext;have dh:=Aa de e.ext;have cm:=Z (e.ext.heap cd.o);have ej:=Z (λj h1=>Aa (df.o j h1).1 e.ext);have fy:=Z (λj h1=>(df.o j h1).2);clear bh eh k1 jk an cb cf de cd df;obtain⟨w8,ek⟩:=Xq (e.W);rw[ek] at ei cl dg dh cm ej;simp only[ek];clear ek;have dk:=Z dh;go_wp2_with (fail);go_loopw [43] (λi W=>∃ k:Nat,k<=m/\i=.int Χ k/\w8.grownBy W (I gn)/\W.ownsRow gn 3 1 (U (I ⟨gn,0,J⟩) m m) m ((Cp (λz=>swp a (d.ent2 q z)) m k).map iv))
   (λi _=>m-(intOf i).toNat)
  case atStart=>exact⟨0,by omega,rfl,Γ.grownBy.refl _ _,dh⟩
  clear dh;obtain⟨k,j7,rfl,hg,hX⟩:=hrel;have be:=ei.grown hg (λk e=>by cases e;exact ee);by_cases en:k<m
  ·have ct:wr.cell? ⟨br,or'+k,J⟩=I (iv (d.ent2 q k)):=be.cell (jl.o k en);have co:=Aq 0 hX (Ev _ _ _).symm k (by rw[Ev];exact en);have fo:=hX.frozenAt k;obtain⟨cp,ai⟩:=Ba hX k (swp a (d.ent2 q k));rw[Jm (λz=>swp a (d.ent2 q z)) _ _ en] at cp;have f49:=Z (On a (d.ent2 q k) (w.heap.size+1) wr (dz.o wr be));have j9:=enters_of Tryz.func106 (by kernel_rfl) rfl;have ck:=hg.trans ai;have ka:(k:Int)<(m:Int):=by omega
   clear ai be hg hX;generalize d.ent2 q k=x at *;generalize swp a x=y at *;go_wp2_with (go_at_call 106;(with_reducible refine f49.o.mono ?_);rintro e W' ⟨rfl,rfl⟩);go_roundw
   case rel=>exact⟨k+1,by omega,by go_num,ck,cp⟩
   simp[intOf]<;>omega
  obtain rfl:k=m:=by omega
  rw[Nl] at hX;have cq:G≠gn:=λe=>by
   obtain⟨C,hC,-⟩:=Eg dk.o;obtain⟨C5,ak,-⟩:=Eg cl;rw[e,hC] at ak;injection ak with ak
   injection ak with _ h2 _
   exact absurd h2 (by decide)
  have gb:T≠gn:=λe=>by
   have h1:=cm.o;obtain⟨C,hC,-⟩:=Eg dk.o;rw[e,hC] at h1;injection h1 with h1
   injection h1 with _ h2 _
   exact absurd h2 (by decide)
  have gd:=cl.kept hg (Cb cl cq);have gf:=dg.kept hg (Aj dg dk.o (by decide));have dm:=Z ((hg.block T (Al cm.o) (λe=>gb (by injection e))).trans cm.o);have eo:=Z (λj h1=>(ej.o j h1).kept hg (.inr λe=>absurd ((fy.o j h1) e) (Nat.lt_irrefl _)));have bh:=Z (λV (E:Ext w1 V)=>On a s (w.heap.size+1) V (dz.o V E));rw[eg.o] at bh;have eh:=enters_of Tryz.func106 (by kernel_rfl) rfl;obtain⟨bf,ep⟩:=Xq (d.ok q);have gg:=Z (λV (E:Ext w1 V) (h7:V.heap[T]? = I (Β #[U ac k H,U (I ⟨G,0,J⟩) n n] 128 (0,0)))=>show V.cell? ⟨T,1,J⟩=I (U (I ⟨G,0,J⟩) n n)/\V.cell? ⟨w.heap.size,2,J⟩=I (U (I ⟨ba,oa,J⟩) n ca)/\V.cell? ⟨ba,oa+q,J⟩=I (.bool bf) from
   ⟨(Τ V T 1 _ _ _ h7).trans rfl,jd.o V E,by rw[<-ep];exact jf.o V E q ef⟩)
  have kb:(s:Int)<(n:Int):=by omega
  have kc:(q:Int)<(n:Int):=by omega
  clear hg cq ej fy cl dg cm dk ei;go_upto_region 13 with (fail)
  refine Bq 16 [(0,Α),(1,Α),(2,Α),(3,Α),(4,Α),(5,Α),(6,Α),(7,Α),(8,Α),(9,Α),(10,Ε),(11,Α),(12,Α),(13,Α),(14,Ε),(15,Α),(16,Ε)] (by kernel_rfl) (by kernel_rfl) (λ_ _ _ _ h=>h) (λV=>Ext w1 V/\V.heap[T]? = I (Β #[U ac k H,U (I ⟨G,0,J⟩) n n] 128 (0,0))) ⟨be.t (Κ wr).drew,(Κ wr).drew.heap dm.o⟩ ?_;have ag:=(Κ wr).drew;obtain⟨wy,et⟩:=Xq (wr.drew);rw[et] at ag;rw[et];clear et;iterate 10
   refine Ai (v:=?_) rfl rfl (λV E=>?_) ?_
   rotate_left
   ·obtain⟨k7,k2,kA⟩:=gg.o V E.1 E.2;clear E;go_simp;first|done|with_reducible rfl
   simp only[θ,Η,Μ,Λ]
  refine Ao rfl (λKk hK=>?_);go_simp
  (with_reducible refine (bh.o wy (be.t ag)).mono ?_)
  rintro e wy ⟨rfl,rfl⟩;refine hK _ _ (λ_=>⟨be.t ag,ag.heap dm.o⟩) ?_;clear hK Kk;iterate 3
   refine Ai (v:=?_) rfl rfl (λV E=>?_) ?_
   rotate_left
   ·obtain⟨k7,k2,kA⟩:=gg.o V E.1 E.2;clear E;go_simp;first|done|with_reducible rfl
   simp only[θ,Η,Μ,Λ]
  have au:=Aa gd ag;have ev:=Aa gf ag;have dn:=Aa hX ag;have cv:=ag.heap dm.o;have c5:=C3 au s (by rw[HL.o.1];exact cj);have f5:=au.frozenAt s;have js:w1.heap.size<=G:=(au.lt G rfl).1;obtain⟨dp,b0⟩:=au.stored s (U (I ⟨gn,0,J⟩) k k);have dq:=(be.t ag).grown b0 (λk e=>by cases e;exact js);have aw:=ev.kept b0 (Aj ev au (by decide));have cq:G≠gn:=λe=>by
   have h1:=(au.lt G rfl).1;obtain⟨C,hC,-⟩:=Eg dn;obtain⟨C5,ak,-⟩:=Eg au;rw[e,hC] at ak;injection ak with ak
   injection ak with _ h2 _
   exact absurd h2 (by decide)
  have dr:=dn.kept b0 (Cb dn (þ cq));have gi:T≠G:=λe=>by
   obtain⟨C5,ak,-⟩:=Eg au;rw[e,ak] at cv;injection cv with h1
   injection h1 with _ h2 _
   exact absurd h2 (by decide)
  have b4:=(b0.block T (Al cv) (λe=>gi (by injection e))).trans cv;have ew:=Z (λj h1=>(Aa (eo.o j h1) ag).kept b0 (Aj (Aa (eo.o j h1) ag) au (by decide)));refine Ao rfl (λKk hK=>?_);go_simp;refine hK _ _ (λ_=>⟨dq,b4⟩) ?_;clear hK Kk;clear c5 f5 b0 au ev dn cv gd gf hX be ag dm eo;obtain⟨wz,ez⟩:∃ W,W=wy.setCell ⟨G,s,J⟩ (U (I ⟨gn,0,J⟩) k k):=⟨_,rfl⟩;rw[<-ez] at dp dq aw dr b4 ew;rw[<-ez];clear ez;refine Ai (v:=?_) rfl rfl (λV E=>?_) ?_
  rotate_left
  ·clear E;go_simp;first|done|with_reducible rfl
  simp only[θ,Η,Μ,Λ];have co:=Aq Ε aw HL.o.2.symm s (by rw[HL.o.2];exact cj);have fo:=aw.frozenAt s;have jt:w1.heap.size<=gA:=(aw.lt gA rfl).1;obtain⟨gj,ai⟩:=Ba (f:=ψ) aw s bf;have e0:=dq.grown ai (λk e=>by cases e;exact jt);have gk:=dp.kept ai (Aj dp aw (by decide));have cp:=dr.kept ai (Aj dr aw (by decide));have gl:ϟ ((wz.setCell ⟨gA,s,J⟩ (.bool bf)).heap[T]? = I (Β #[U ac k H,U (I ⟨G,0,J⟩) n n] 128 (0,0))):=Z ((ai.block T (Al b4) (λe=>by
   have h1:=b4;obtain⟨C,hC,-⟩:=Eg aw;injection e with e
   rw[e,hC] at h1;injection h1 with h1
   injection h1 with _ h2 _
   exact absurd h2 (by decide))).trans b4)
  have gm:ϟ (∀ j,j<s+1->OwnI (wz.setCell ⟨gA,s,J⟩ (.bool bf)) w1.heap.size ((NX.set s (U (I ⟨gn,0,J⟩) k k)).getD j δ) ((π k).map λz=>swp a (d.ent2 (swp a j) z))):=Z (λj ju=>by
   by_cases e:j=s
   ·subst e;rw[B6 (by rw[HL.o.1];exact cj),eg.o];have:=E9 cp ee;unfold OwnI;rw[ι,List.length_range];exact this
   rw[Be e];have h1:=ew.o j (by omega);exact h1.kept ai (Aj h1 aw (by decide)))
  have jv:ϟ (∀ j,j<s+1->(AC.set s bf).getD j Ε=d.ok (swp a j)):=Z (λj ju=>by
   by_cases e:j=s
   ·subst e;rw[B6 (by rw[HL.o.2];exact cj),eg.o,ep]
   rw[Be e];exact dd.o j (by omega))
  have e1:ϟ ((NX.set s (U (I ⟨gn,0,J⟩) k k)).length=n/\(AC.set s bf).length=n):=Z ⟨by rw[ο];exact HL.o.1,by rw[ο];exact HL.o.2⟩;have gp:=e0.size;refine Ao rfl (λKk hK=>?_);go_simp;refine hK _ _ (λh=>absurd h (by omega)) ?_;clear hK Kk;refine Bn ?_;clear co fo ai aw dp dr cp ew dd HL ep b4 dq gi cq gb eh bh;obtain⟨wF,e2⟩:=Xq (wz.setCell ⟨gA,s,J⟩ (.bool bf));rw[e2] at gj e0 gk gl gm gp;try simp only[e2]
  clear e2;go_wp2_with (fail);go_roundw
  case rel=>exact⟨s+1,_,AC.set s bf,by omega,by go_num,e0,gp,e1,gk,gj,gl,gm,jv⟩
  simp[intOf]<;>omega
 obtain rfl:s=n:=by omega
 obtain⟨q,hq⟩:=Xq (Dfa.mk d.cls ((π s).map λj=>(π m).map λz=>swp a (d.ent2 (swp a j) z)) AC:Dfa);have cw:Quot d q a:=by
  rw[<-hq];have gq:∀ x,x<s->((π s).map λj=>(π m).map λz=>swp a (d.ent2 (swp a j) z)).getD (swp a x) []=(π m).map λz=>swp a (d.ent2 x z):=λx hx=>by rw[Eu _ _ _ _ (Hs bg hx),Me]
  refine⟨rfl,by rw[HN.o];simp,by rw[HN.o];exact HL.o.2,λx hx=>?_,λx hx k hk=>?_,λx hx=>?_⟩
  ·rw[HN.o] at hx;rw[gq x hx,HM.o];simp
  ·rw[HN.o] at hx;rw[HM.o] at hk;show (((π s).map λj=>(π m).map λz=>swp a (d.ent2 (swp a j) z)).getD (swp a x) []).getD k 0=_;rw[gq x hx,Eu _ _ _ _ hk]
  rw[HN.o] at hx;show AC.getD (swp a x) Ε=_;rw[dd.o (swp a x) (Hs bg hx),Me]
 have bk:Val q:=cw.val HV.o (by rw[HN.o];exact bg);have gu:q.n.length=s:=by rw[cw.len,HN.o]
 have gv:∀ x,q.has x=d.ok (d.run a x):=λx=>by
  have h1:=cw.run HV.o x a (by rw[HN.o];exact bg);have h0:swp a a=0:=by unfold swp;split<;>simp_all
  rw[h0] at h1;unfold Dfa.has;rw[h1];exact cw.acc _ (HV.o.run_lt _ (by rw[HN.o];exact bg))
 have gw:WVal q.cls q.n q.acc:=⟨bk.pos,bk.accL,λx hx=>bk.row x hx,λx hx k hk=>bk.tgt x hx k hk,bk.parts⟩;have gx:IsW wr #[U ac m H,U (I ⟨G,0,J⟩) s s] q.cls q.n:=by
  refine⟨_,_,rfl,by rw[<-hq];exact HC.o.ext (bu.o.t hE),?_⟩;rw[<-hq];refine⟨NX,by rw[HL.o.1];simp,?_,λi hi=>?_⟩
  ·have:=Sl.of_owns bc (show s<=4611686018427387904 by omega) δ;simp only[ι,List.length_range];exact this
  have c9:i<s:=by simpa using hi
  have h1:=HQ.o i c9;simp only;rw[Eu _ _ _ _ c9];exact h1.ints (by simp;omega)
 have gy:Bools wr (U (I ⟨gA,0,J⟩) s s) q.acc:=by
  have h9:OwnB wr w1.heap.size (U (I ⟨gA,0,J⟩) s s) AC:=by unfold OwnB;rw[HL.o.2];exact dc
  rw[<-hq];exact h9.bools (by rw[HL.o.2];omega)
 have jx:=Z (Py q.cls q.n q.acc gw (by rw[gu];omega) _ _ wr (ia.o wr (bu.o.t hE)) (Ξ e5 (bu.o.t hE).size) gx gy);have cy:=Z (hE.heap H4.o);have jy:=Z (λr (h:C7 (λu=>(Ay q.cls q.n q.acc).has u=Α) r)=>show ∃ d',r=I d'/\Cano d'/\d'.n.length<=64/\∀ x,d'.has x=d.ok (d.run a x) from by
  have hw:∀ u,(Ay q.cls q.n q.acc).has u=q.has u:=λu=>rfl
  cases r with
  | none=>have h:Big (λu=>(Ay q.cls q.n q.acc).has u=Α):=h;have:=Sd h bk (λu=>by rw[hw]);omega
  | some d'=>obtain⟨h1,h2,h3⟩:=h;exact⟨d',rfl,h1,h3,λx=>by have h4:d'.has x=Α↔(Ay q.cls q.n q.acc).has x=Α:=h2 x;rw[ϴ,h4,hw,gv]⟩)
 have HE:=Z (bu.o.t hE);clear bk gu gv cw gx gy gw bc dc HQ dd hE bz hq;go_wp2_with (first
  | (refine Lr 128 (ε 7) H7.o Tryz.underlying128 Fp ?_)
  | (go_at_call 55;(with_reducible refine jx.o.mono ?_);rintro e w9 ⟨r,e3,ha,hf⟩;obtain⟨hh,hl,ho,hp,hr,ht,hy,hz,h6,k2,rfl⟩:=e3.form;have j3:=Z e3;have e1:=Z (jy.o r ha);clear e3 ha;have cy:=Z (hf.heap cy.o))
  | (refine Sr 40 (ε 4) (ε 74) rfl cy.o Ae rfl (Aw _ _ _ rfl rfl rfl) ?_))
 refine ω (v:=ϙ #[.agg (dA (U hh hl ho) (U hp hr ht) (U hy hz h6)),.int Χ k2]) (Bi rfl _ _ _ _ _ _ _ rfl _ rfl (Φ w9 _ _ (dA (U hh hl ho) (U hp hr ht) (U hy hz h6)) 40 (0,0) cy.o) Ρ rfl Ae) rfl ?_;obtain⟨d',rfl,h1,h2,h3⟩:=e1.o;exact⟨d',j3.o.setRow (λke h=>by injection h with h;subst h;exact h1.val) cy.o _,h1,h2,h3,(HE.o.t hf).setRow (by omega) _⟩
theorem LE:It 81 (λx y=>x&&!y):=by
 intro W x y;go_enter Tryz.func81,Tryz.ntmps81;cases x<;>cases y
 all_goals
  go_wp2;go_ret;exact⟨rfl,Κ W⟩
theorem Wj (a b:Dfa) (ha:Val a) (hb:Val b) (bh:a.n.length<=64) (bj:b.n.length<=64) (va vb:Δ) (w:Γ) (hT:Tab w) (au:0<w.heap.size) (ae:IsD w va a) (af:IsD w vb b) :
  Ϟ Ι 56 #[va,vb] w λe w'=>∃ r,ResOf w' e r/\Lim (λu=>a.has u=Α/\¬ b.has u=Α) r/\Ext w w':=by
 have aw:=Z ae;have ax:=Z af;obtain⟨ac,lc,cc,an,cn,aa,la,ca,rfl⟩:=ae.agg;obtain⟨br,bt,bu,bw,bz,b0,b4,b5,rfl⟩:=af.agg;have f78:=λW (T:Ext w W)=>Z (Rk a b ha hb bh bj 81 (λx y=>x&&!y) LE (enters_of Tryz.func81 (by kernel_rfl) rfl) _ _ W (hT.below T.below au) (Ξ au T.size) (aw.o.ext T) (ax.o.ext T))
 obtain⟨E,X⟩:=Xq (dA (U ac lc cc) (U an a.n.length cn) (U aa la ca));obtain⟨G,ab⟩:=Xq (dA (U br bt bu) (U bw b.n.length bz) (U b0 b4 b5));have b6:(Ι.info? 40).map (·.size)=I E.size:=by rw[<-X];exact Ae
 have b7:(Ι.info? 40).map (·.size)=I G.size:=by rw[<-ab];exact Ae
 rw[X] at f78 aw;rw[ab] at f78 ax;rw[X,ab];have ag:=(((Κ w).alloc (Β E 40)).alloc (Β G 40)).alloc (Β #[U J 0 0,U J 0 0,U J 0 0] 40);have H3:=Ag (Ag (Ad w (Β E 40)) (Β G 40)) (Β #[U J 0 0,U J 0 0,U J 0 0] 40);have H4:=Ag (ύ w (Β E 40) (Β G 40)) (Β #[U J 0 0,U J 0 0,U J 0 0] 40);have H6:=Ad ((w.alloc (Β E 40)).alloc (Β G 40)) (Β #[U J 0 0,U J 0 0,U J 0 0] 40);rw[Ο,Ο] at H6;clear ae af ha hb hT X ab;go_enter Tryz.func56,Tryz.ntmps56;go_upto_region 1 with (fail)
 obtain⟨w1,aj⟩:=Xq (((w.alloc (Β E 40)).alloc (Β G 40)).alloc (Β #[U J 0 0,U J 0 0,U J 0 0] 40));rw[aj] at ag H3 H4 H6;simp only[aj];clear aj;have b8:=Z H3;have b9:=Z H4;have H:=Z H6;have ay:=Z ag;clear H3 H4 H6 ag;go_wp2_with (first
  | (refine Lr 40 (ε 2) b8.o Ρ b6 ?_)
  | (refine Lr 40 (ε 3) b9.o Ρ b7 ?_)
  | (go_at_call 36;(with_reducible refine (f78 _ ay.o).o.mono ?_);rintro e w5 ⟨r,ak,az,a1⟩;obtain⟨a6,a7,a8,ba,bb,bc,bd,be,bf,k1,rfl⟩:=ak.form;have cd:=Z ak;have bg:=Z az;clear ak az;have H:=Z (a1.heap H.o))
  | (refine Sr 40 (ε 4) (ε 9) rfl H.o Ae rfl (Aw _ _ _ rfl rfl rfl) ?_))
 refine ω (v:=ϙ #[.agg (dA (U a6 a7 a8) (U ba bb bc) (U bd be bf)),.int Χ k1]) (Bi rfl _ _ _ _ _ _ _ rfl _ rfl (Φ w5 _ _ (dA (U a6 a7 a8) (U ba bb bc) (U bd be bf)) 40 (0,0) H.o) Ρ rfl Ae) rfl ?_;exact⟨r,cd.o.setRow (Hb bg.o) H.o _,Gc bg.o (λu=>by simp),(ay.o.t a1).setRow (by omega) _⟩
theorem Q4 {L:Af} (h:Big L) {α:Type} [DecidableEq α] (g:List UInt8->α) (hg:∀ w w',g w=g w'->∀ u,L (w++u)↔L (w'++u)) (l:List α) (G:∀ w,g w∈l) (hn:l.length<=64):False:=by
 obtain⟨E,h1,H⟩:=h;have T:(E.map g).Nodup:=by rw[List.nodup_iff_pairwise_ne,List.pairwise_map];exact H.imp λ{u v} ⟨x,hx⟩ e=>hx (hg u v e x)
 have:=D5 (E.map g) l T λs X=>by obtain⟨u,_,rfl⟩:=Ϫ.1 X;exact G u
 rw[ι] at this;omega
theorem Q3 {L:Af} (h:Lim L J) {α:Type} [DecidableEq α] (g:List UInt8->α) (hg:∀ w w',g w=g w'->∀ u,L (w++u)↔L (w'++u)) (l:List α) (G:∀ w,g w∈l) (H:l.length<=64):False:=by obtain⟨d,h1,E,T⟩:=h;have:=Jv h1 g (λw w' e u=>by rw[ϴ,E,E];exact hg w w' e u) l G;omega
def E8 (n m:Nat):List (Nat × Nat):=(π n).flatMap λi=>(π m).map λj=>(i,j)
theorem G0 {n m i j:Nat} (hi:i<n) (E:j<m):(i,j)∈E8 n m:=by simp only[E8,List.mem_flatMap,Ϫ,ώ];exact⟨i,hi,j,E,rfl⟩
theorem G1 (n m:Nat):(E8 n m).length=n*m:=by
 unfold E8;rw[List.length_flatMap];induction n with
 | zero=>simp
 | succ n E=>rw[List.range_succ,ϥ,List.sum_append,E,Nat.succ_mul];simp
theorem VG {a:Dfa} (H:Val a) {s:Nat} (T:s<a.n.length) (X:2*a.n.length<=64):¬ Big (Dp a s):=λh=>by
 refine Q4 h (λw=>((if w=[] then 0 else 1),a.run s w)) (λw w' e u=>?_) (E8 2 a.n.length) (λw=>G0 (by split<;>omega) (H.run_lt w T)) (by rw[G1];exact X);injection e with G e2
 unfold Dp;rw[Bf,Bf,e2];refine and_congr ?_ Iff.rfl;by_cases h1:w=[]
 ·by_cases E:w'=[]
  ·rw[h1,E]
  rw[if_pos h1,if_neg E] at G;cases G
 by_cases E:w'=[]
 ·rw[if_neg h1,if_pos E] at G;cases G
 simp[h1,E]
theorem VF {a m:Dfa} (H:Val a) {s:Nat} (T:s<a.n.length) (hm:Cano m) (h:∀ x,m.has x=Α↔Dp a s x):m.n.length<=2*a.n.length:=by
 have:=Jv hm (λw=>((if w=[] then 0 else 1),a.run s w)) (λw w' e u=>?_) (E8 2 a.n.length) (λw=>G0 (by split<;>omega) (H.run_lt w T))
 ·rwa [G1] at this
 injection e with G X
 rw[ϴ,h,h];unfold Dp;rw[Bf,Bf,X];refine and_congr ?_ Iff.rfl;by_cases h1:w=[]
 ·by_cases E:w'=[]
  ·rw[h1,E]
  rw[if_pos h1,if_neg E] at G;cases G
 by_cases E:w'=[]
 ·rw[if_neg h1,if_pos E] at G;cases G
 simp[h1,E]
def Dw (m b:Dfa) (w:List UInt8) (q:Nat):Prop:=∃ x y,w=x++y/\m.has x=Α/\b.run 0 y=q
theorem Zw {m b:Dfa} (w u:List UInt8):Cat (wd1 m) (wd1 b) (w++u)↔(∃ q,Dw m b w q/\b.ok (b.run q u)=Α)\/∃ x y,u=x++y/\m.ok (m.run (m.run 0 w) x)=Α/\b.has y=Α:=by
 constructor
 ·rintro⟨x,y,e,hx,E⟩;rcases List.append_eq_append_iff.1 e with⟨z,G,H⟩|⟨z,G,H⟩
  ·right
   refine⟨z,y,H,?_,E⟩;rw[<-Bf,<-G];exact hx
  left
  refine⟨b.run 0 z,⟨x,z,G,hx,rfl⟩,?_⟩;rw[<-Bf,<-H];exact E
 rintro (⟨q,⟨x,y,rfl,hx,rfl⟩,h⟩|⟨x,y,rfl,hx,E⟩)
 ·refine⟨x,y++u,by simp,hx,?_⟩;show b.ok (b.run 0 (y++u))=Α;rw[Bf];exact h
 refine⟨w++x,y,by simp,?_,E⟩;show m.ok (m.run 0 (w++x))=Α;rw[Bf];exact hx
open Classical in
theorem Rt {m b:Dfa} (hm:Val m) (hb:Val b) (h2:b.n.length<=2) {d:Dfa} (hd:Fit d (Cat (wd1 m) (wd1 b))):d.n.length<=m.n.length*4:=by
 have:=Jv hd.1 (λw=>(m.run 0 w,(if Dw m b w 0 then 1 else 0)+(if Dw m b w 1 then 2 else 0))) (λw w' e u=>?_) (E8 m.n.length 4) (λw=>G0 (hm.run_lt w hm.pos) (by split<;>split<;>omega))
 ·rwa [G1] at this
 injection e with E T
 have h0:Dw m b w 0↔Dw m b w' 0:=by by_cases a0:Dw m b w 0<;>by_cases G:Dw m b w' 0<;>by_cases H:Dw m b w 1<;>by_cases b1:Dw m b w' 1<;>simp[a0,G,H,b1] at T ⊢
 have h1:Dw m b w 1↔Dw m b w' 1:=by by_cases a0:Dw m b w 0<;>by_cases G:Dw m b w' 0<;>by_cases H:Dw m b w 1<;>by_cases b1:Dw m b w' 1<;>simp[a0,G,H,b1] at T ⊢
 have X:∀ q,Dw m b w q↔Dw m b w' q:=λq=>by
  by_cases e0:q=0
  ·rw[e0];exact h0
  by_cases E:q=1
  ·rw[E];exact h1
  constructor
  ·rintro⟨_,y,_,_,rfl⟩;have:=hb.run_lt y hb.pos;omega
  rintro⟨_,y,_,_,rfl⟩;have:=hb.run_lt y hb.pos;omega
 rw[ϴ,hd.2,hd.2,Zw,Zw,E];simp only[X]
theorem LC {b c:Dfa} (hb:Val b) (hc:Val c) (E:b.n.length*c.n.length<=64):¬ Lim (λv=>b.has v=Α/\¬ c.has v=Α) J:=λh=>by
 refine Q3 h (λw=>(b.run 0 w,c.run 0 w)) (λw w' e u=>?_) (E8 b.n.length c.n.length) (λw=>G0 (hb.run_lt w hb.pos) (hc.run_lt w hc.pos)) (by rw[G1];exact E);injection e with G H
 unfold Dfa.has;rw[Bf,Bf,Bf,Bf,G,H]
def Ea (b:Dfa) (P:Nat->Prop):Af:=λv=>∃ q,q<b.n.length/\P q/\b.ok (b.run q v)=Α
theorem T6 {b:Dfa} (T:b.n.length<=2) (P:Nat->Prop) {w w':List UInt8} (E:b.run 0 w=b.run 0 w') (G:b.run 1 w=b.run 1 w') (u:List UInt8):Ea b P (w++u)↔Ea b P (w'++u):=by
 unfold Ea;refine exists_congr λq=>?_
 by_cases H:q<b.n.length
 ·have e:b.run q w=b.run q w':=by
   by_cases h0:q=0
   ·rw[h0];exact E
   rw[show q=1 by omega];exact G
  rw[Bf,Bf,e]
 simp[H]
theorem FF {b:Dfa} (hb:Val b) (X:b.n.length<=2) (P:Nat->Prop):¬ Lim (Ea b P) J:=λh=>by
 classical
 refine Q3 h (λw=>(b.run 0 w,if 1<b.n.length then b.run 1 w else 0)) (λw w' e u=>?_) (E8 2 2) (λw=>G0 (by have:=hb.run_lt w hb.pos;omega) (by
  split
  ·rename_i h;have:=hb.run_lt w h;omega
  omega)) (by rw[G1];decide)
 injection e with G H
 by_cases T:1<b.n.length
 ·rw[if_pos T,if_pos T] at H;exact T6 X P G H u
 have:∀ v,Ea b P v↔P 0/\b.ok (b.run 0 v)=Α:=λv=>by
  constructor
  ·rintro⟨q,hq,h1,E⟩;obtain rfl:q=0:=by omega
   exact⟨h1,E⟩
  rintro⟨h1,E⟩;exact⟨0,hb.pos,h1,E⟩
 rw[this,this,Bf,Bf,G]
theorem GK {b:Dfa} (hb:Val b) (X:b.n.length<=2) (P:Nat->Prop):¬ Lim (λv=>b.has v=Α/\¬ Ea b P v) J:=λh=>by
 classical
 refine Q3 h (λw=>(b.run 0 w,if 1<b.n.length then b.run 1 w else 0)) (λw w' e u=>?_) (E8 2 2) (λw=>G0 (by have:=hb.run_lt w hb.pos;omega) (by
  split
  ·rename_i h;have:=hb.run_lt w h;omega
  omega)) (by rw[G1];decide)
 injection e with E H
 have eh:b.has (w++u)=b.has (w'++u):=by unfold Dfa.has;rw[Bf,Bf,E]
 rw[eh];refine and_congr Iff.rfl (not_congr ?_);by_cases T:1<b.n.length
 ·rw[if_pos T,if_pos T] at H;exact T6 X P E H u
 have:∀ v,Ea b P v↔P 0/\b.ok (b.run 0 v)=Α:=λv=>by
  constructor
  ·rintro⟨q,hq,h1,G⟩;obtain rfl:q=0:=by omega
   exact⟨h1,G⟩
  rintro⟨h1,G⟩;exact⟨0,hb.pos,h1,G⟩
 rw[this,this,Bf,Bf,E]
theorem NJ {a b:Dfa} (E:Val a) (hb:Val b) (l:List (Nat × Nat)) (G:l.Nodup) (H:∀ s∈l,∃ w,Ap (lnx a b) (0,0) w=s):l.length<=a.n.length*2 ^ b.n.length:=by
 have:=D5 l (E8 a.n.length (2 ^ b.n.length)) G λs T=>by
  obtain⟨w,rfl⟩:=H s T;have h1:(Ap (lnx a b) (0,0) w).1<a.n.length:=by rw[(K0 hb w).1];exact E.run_lt w E.pos
  have X:(Ap (lnx a b) (0,0) w).2<2 ^ b.n.length:=by
   have key:∀ r:List UInt8,(Ap (lnx a b) (0,0) r.reverse).2<2 ^ b.n.length:=by
    intro r;cases r with
    | nil=>exact Nat.two_pow_pos _
    | cons c r=>rw[List.reverse_cons,E1];exact M6 hb _ _ _ c.toNat_lt
   have:=key w.reverse
   rwa [List.reverse_reverse] at this
  exact G0 h1 X
 rwa [G1] at this
theorem NF {a b:Dfa} (E:Val a) (hb:Val b) (G:a.n.length*2 ^ b.n.length<=64) (P:Nat × Nat->Prop):¬ Big λw=>P (Ap (lnx a b) (0,0) w):=λh=>by
 refine Q4 h (λw=>Ap (lnx a b) (0,0) w) (λw w' e u=>?_) (E8 a.n.length (2 ^ b.n.length)) (λw=>?_) (by rw[G1];exact G)
 ·unfold Ap;unfold Ap at e;rw[ô,ô,e]
 have h1:(Ap (lnx a b) (0,0) w).1<a.n.length:=by rw[(K0 hb w).1];exact E.run_lt w E.pos
 have H:(Ap (lnx a b) (0,0) w).2<2 ^ b.n.length:=by
  have key:∀ r:List UInt8,(Ap (lnx a b) (0,0) r.reverse).2<2 ^ b.n.length:=by
   intro r;cases r with
   | nil=>exact Nat.two_pow_pos _
   | cons c r=>rw[List.reverse_cons,E1];exact M6 hb _ _ _ c.toNat_lt
  have:=key w.reverse
  rwa [List.reverse_reverse] at this
 exact G0 h1 H
def BoxH (W:Γ) (A:Array Δ):Prop:=A=#[U J 0 0,U J 0 0,U J 0 0]\/∃ p,Val p/\IsD W (.agg A) p
theorem IsD.setBx {W:Γ} {v:Δ} {q:Dfa} (G:Val q) (h:IsD W v q) {A:Array Δ} (E:BoxH W A) {g:Nat} {e:ϫ} {fr:Nat × Nat} (hg:W.heap[g]? = I (Β A e fr)) (cs:Array Δ):IsD (W.setRow g cs) v q:=by
 rcases E with rfl|⟨p,H,E⟩
 ·exact h.setRow G hg cs
 exact h.setBox G H E hg cs
theorem BoxH.ext {W W':Γ} {A:Array Δ} (h:BoxH W A) (E:Ext W W'):BoxH W' A:=by
 rcases h with h|⟨p,G,h⟩
 ·exact .inl h
 exact .inr ⟨p,G,h.ext E⟩
theorem BoxH.size {W:Γ} {A:Array Δ} (h:BoxH W A):A.size=3/\A.all (·.oneCell')=Α:=by
 rcases h with rfl|⟨p,E,h⟩
 ·exact⟨rfl,Fa⟩
 obtain⟨_,_,_,_,_,_,_,_,he⟩:=h.agg;injection he with he
 rw[he];exact⟨rfl,Aw _ _ _ rfl rfl rfl⟩
def Su (b:Dfa):Prop:=(∃ P,Lim (Ea b P) J)\/∃ P,Lim (λv=>b.has v=Α/\¬ Ea b P v) J
def BU (b:Dfa) (S:Nat):Option Dfa->Prop
 | some d=>Cano d/\d.n.length<=64/\∀ v,d.has v=Α↔b.has v=Α/\¬ Ea b (λq=>S.testBit q=Α) v
 | none=>Su b
theorem W8 {L E:List UInt8->Prop} {r:Option Dfa} (h:Lim L r) (G:∀ w,L w↔E w):Lim E r:=by
 have:L=E:=funext λw=>propext (G w)
 rwa [<-this]
def UniP (b:Dfa) (S q:Nat):Option Dfa->Prop
 | some u=>Cano u/\u.n.length<=64/\∀ v,u.has v=Α↔Ea b (λx=>x<q/\S.testBit x=Α) v
 | none=>∀ x,x<q->S.testBit x=Ε
theorem UniP.skip {b:Dfa} {S q:Nat} {u:Option Dfa} (h:UniP b S q u) (H:S.testBit q=Ε):UniP b S (q+1) u:=by
 cases u with
 | none=>
  intro x hx;by_cases e:x=q
  ·rw[e];exact H
  exact h x (by omega)
 | some u=>
  obtain⟨h1,T,X⟩:=h;refine⟨h1,T,λv=>(X v).trans ?_⟩;constructor
  ·rintro⟨x,hx,⟨h4,E⟩,G⟩;exact⟨x,hx,⟨by omega,E⟩,G⟩
  rintro⟨x,hx,⟨h4,E⟩,G⟩;refine⟨x,hx,⟨?_,E⟩,G⟩;rcases Nat.lt_or_ge x q with h|h
  ·exact h
  obtain rfl:x=q:=by omega
  rw[H] at E;cases E
theorem DB {b d:Dfa} {S q:Nat} (T:q<b.n.length) (h:UniP b S q J) (hb:S.testBit q=Α) (h1:Cano d) (X:d.n.length<=64) (h3:∀ x,d.has x=b.ok (b.run q x)):UniP b S (q+1) (I d):=by
 refine⟨h1,X,λv=>?_⟩;rw[h3];constructor
 ·exact λE=>⟨q,T,⟨by omega,hb⟩,E⟩
 rintro⟨x,hx,⟨E,G⟩,h6⟩;rcases Nat.lt_or_ge x q with H|H
 ·rw[h x H] at G;cases G
 obtain rfl:x=q:=by omega
 exact h6
theorem CZ {b d u:Dfa} {S q:Nat} (X:q<b.n.length) (h:∀ v,u.has v=Α↔Ea b (λx=>x<q/\S.testBit x=Α) v) (hb:S.testBit q=Α) (h3:∀ x,d.has x=b.ok (b.run q x)) (v:List UInt8):(u.has v=Α\/d.has v=Α)↔Ea b (λx=>x<q+1/\S.testBit x=Α) v:=by
 rw[h,h3];constructor
 ·rintro (⟨x,hx,⟨G,H⟩,E⟩|G)
  ·exact⟨x,hx,⟨by omega,H⟩,E⟩
  exact⟨q,X,⟨by omega,hb⟩,G⟩
 rintro⟨x,hx,⟨G,H⟩,E⟩;rcases Nat.lt_or_ge x q with T|T
 ·exact .inl ⟨x,hx,⟨T,H⟩,E⟩
 obtain rfl:x=q:=by omega
 exact .inr E
theorem DA {b d u:Dfa} {S q:Nat} (H:q<b.n.length) (h:UniP b S q (I u)) (hb:S.testBit q=Α) (T:∀ x,d.has x=b.ok (b.run q x)) {r:Option Dfa} (X:Lim (λv=>u.has v=Α\/d.has v=Α) r):(r=J->Su b)/\∀ G,r=I G->UniP b S (q+1) (I G):=by
 have E:=W8 X (CZ H h.2.2 hb T);constructor
 ·rintro rfl;exact .inl ⟨_,E⟩
 rintro G rfl;exact⟨E.1,E.2.2,E.2.1⟩
theorem DC {b u:Dfa} {S:Nat} (h:UniP b S b.n.length (I u)) (v:List UInt8):u.has v=Α↔Ea b (λq=>S.testBit q=Α) v:=by
 rw[h.2.2];constructor
 ·rintro⟨x,hx,⟨_,E⟩,G⟩;exact⟨x,hx,E,G⟩
 rintro⟨x,hx,E,G⟩;exact⟨x,hx,⟨hx,E⟩,G⟩
theorem WH (b:Dfa) (hb:Cano b) (hn:b.n.length<=64) (S:Nat) (hS:S<18446744073709551616) (v:Δ) (w:Γ) (hT:Tab w) (bn:0<w.heap.size) (h:IsD w v b) :
  Ϟ Ι 60 #[v,.int .u64 (S:Int)] w λe w'=>∃ r,ResOf w' e r/\BU b S r/\Ext w w':=by
 have cd:=Z (λW (hW:Ext w W)=>hT.below hW.below bn);have HC:=Z hb;have HI:=Z h;have ev:=hb.val.pos;obtain⟨ac,lc,cc,an,cn,aa,la,ca,rfl⟩:=h.agg;obtain⟨H,az⟩:=Xq (dA (U ac lc cc) (U an b.n.length cn) (U aa la ca));have cf:=Z az;have ba:(Ι.info? 40).map (·.size)=I H.size:=by rw[<-az];exact Ae
 have e2:H.all (·.oneCell')=Α:=by rw[<-az];exact Aw _ _ _ rfl rfl rfl
 rw[az] at HI;rw[az];obtain⟨n,cg⟩:=Xq (b.n.length);have HN:=Z cg;rw[cg] at hn ev cf;have cj:=(((Κ w).alloc (Β H 40)).alloc (Β #[U J 0 0,U J 0 0,U J 0 0] 40)).alloc (Β #[U J 0 0,U J 0 0,U J 0 0] 40);have T:=Ag (Ag (Ad w (Β H 40)) (Β #[U J 0 0,U J 0 0,U J 0 0] 40)) (Β #[U J 0 0,U J 0 0,U J 0 0] 40);have X:=Ag (ύ w (Β H 40) (Β #[U J 0 0,U J 0 0,U J 0 0] 40)) (Β #[U J 0 0,U J 0 0,U J 0 0] 40);have H6:=Ad ((w.alloc (Β H 40)).alloc (Β #[U J 0 0,U J 0 0,U J 0 0] 40)) (Β #[U J 0 0,U J 0 0,U J 0 0] 40);rw[Ο,Ο] at H6;clear h hb hT az cg;go_enter Tryz.func60,Tryz.ntmps60;go_upto_region 2 with (fail)
 obtain⟨w1,ck⟩:=Xq (((w.alloc (Β H 40)).alloc (Β #[U J 0 0,U J 0 0,U J 0 0] 40)).alloc (Β #[U J 0 0,U J 0 0,U J 0 0] 40));rw[ck] at cj T X H6;simp only[ck];clear ck;have c1:=(Τ w1 w.heap.size 1 _ _ _ T).trans (show H[1]? = I (U an n cn) by rw[<-cf.o];rfl);go_wp2_with (fail);clear c1;go_loopw [7,14] (λvs vi W=>∃ (q:Nat) (u:Option Dfa) (A:Array Δ),q<=n/\vi=iv q/\vs=.bool u.isSome/\Ext w W/\ϟ (W.heap[w.heap.size]? = I (Β H 40 (0,0)))/\ϟ (W.heap[w.heap.size+1]? = I (Β #[U J 0 0,U J 0 0,U J 0 0] 40 (0,0)))/\ϟ (W.heap[w.heap.size+1+1]? = I (Β A 40 (0,0)))/\ϟ (BoxH W A)/\ϟ (UniP b S q u)/\ϟ (∀ d,u=I d->IsD W (.agg A) d))
  (λ_ vi _=>n-(intOf vi).toNat)
 case atStart=>exact⟨0,J,_,by omega,rfl,rfl,cj,Z T,Z X,Z H6,Z (.inl rfl),Z (λx hx=>by omega),Z (λd e=>by cases e)⟩
 clear cj T X H6;obtain⟨q,u,A,hq,rfl,rfl,hE,T,X,H6,HB,HU,bq⟩:=hrel;have de:(Ι.info? 40).map (·.size)=I A.size:=by rw[HB.o.size.1];exact Ae
 by_cases cm:q<n
 ·have e3:=T9 S q hS;obtain⟨bt,cp⟩:=Xq (S.testBit q);rw[cp] at e3;have cq:=Z cp;clear cp;have fo:(q:Int)<(n:Int):=by omega
  have fp:(q:Int)<64:=by omega
  have fq:(0:Int)<=(S:Int):=by omega
  have fs:(S:Int)<18446744073709551616:=by omega
  have e5:∀ x:Int,x=(S:Int)->x=(S:Int):=λx h=>h
  clear e5;have df:=λW (hW:Ext w W)=>Z (QG b HC.o.val (by rw[HN.o];exact hn) q (by rw[HN.o];exact cm) (.agg H) W (cd.o W hW) (Ξ bn hW.size) (HI.o.ext hW))
  cases bt with
  | false=>
   generalize (S:Int)=e6 at *;go_upto_region 6 with (fail)
   go_wp2_with (fail);go_roundw
   case rel=>exact⟨q+1,u,A,by omega,by go_num,rfl,hE,T,X,H6,HB,Z (HU.o.skip cq.o),bq⟩
   simp[intOf]<;>omega
  | true=>
   generalize e7:(S:Int)=e6 at *;clear e7;go_upto_region 8 with (first
    | (refine Lr 40 (ε 2) T.o Ρ ba ?_)
    | (go_at_call 84;(with_reducible refine (df _ hE).o.mono ?_);rintro e w5 ⟨r,ad,dg,dh,dk,dm⟩;obtain⟨dn,dp,dq,dr,dt,du,dv,dw,dx,k1,rfl⟩:=ad.form;have aw:=Z ad;have bc:=Z dg;have dy:=Z dh;have dz:=Z dk;have ax:=Z dm;clear ad dg dh dk dm)
    | (refine Sr 40 (ε 9) (ε 26) rfl (Ad w5 (Β #[U J 0 0,U J 0 0,U J 0 0] 40)) Ae rfl (Aw _ _ _ rfl rfl rfl) ?_))
   clear df;obtain⟨ag,bd⟩:=Fm w5 (dA (U dn dp dq) (U dr dt du) (U dv dw dx));obtain⟨G,a1⟩:=Xq (dA (U dn dp dq) (U dr dt du) (U dv dw dx));have ct:(Ι.info? 40).map (·.size)=I G.size:=by rw[<-a1];exact Ae
   have e8:G.all (·.oneCell')=Α:=by rw[<-a1];exact Aw _ _ _ rfl rfl rfl
   have ea:ϟ (G.size=3):=Z (by rw[<-a1];rfl);have eb:ϟ (A.size=3):=Z HB.o.size.1;have ec:=aw.o.ext ag;rw[a1] at ag bd;have be:k1=0/\IsD ((w5.alloc (Β #[U J 0 0,U J 0 0,U J 0 0] 40)).setRow w5.heap.size G) (.agg G) r:=by obtain⟨h1,h2⟩:=ec.some_inv;rw[a1] at h2;exact⟨h1,h2⟩
   obtain⟨rfl,be⟩:=be;have bf:=(hE.t ax.o).trans ag;have bg:=(ax.o.t ag).heap T.o;have bh:=(ax.o.t ag).heap X.o;have ao:=(ax.o.t ag).heap H6.o;have br:=HB.o.ext (ax.o.t ag);have cu:=Z (λd e=>(bq.o d e).ext (ax.o.t ag));simp only[a1];obtain⟨w6,cw⟩:=Xq ((w5.alloc (Β #[U J 0 0,U J 0 0,U J 0 0] 40)).setRow w5.heap.size G);rw[cw] at bd be bf bg bh ao br cu;simp only[cw];have e9:w.heap.size+1+1<w5.heap.size:=Al (ax.o.heap H6.o);obtain⟨g9,cy⟩:=Xq (w5.heap.size);rw[cy] at bd e9;simp only[cy];clear cw cy ag ec aw hE T X H6 HB bq;have bg:=Z bg;have bh:=Z bh;have ao:=Z ao;have cz:=Z bd;have br:=Z br;have c3:=Z be;clear bd be;cases u with
   | none=>
    go_upto_region 12 with (fail)
    go_wp2_with (first
     | (refine Lr 40 (ε 9) cz.o Ρ ct ?_)
     | (refine Sr 40 (ε 6) (ε 43) rfl ao.o ct (eb.o.trans ea.o.symm) e8 ?_))
    have ah:=bf.setRow (show w.heap.size<=w.heap.size+1+1 by omega) G;have G2:=Bk bg.o (show w.heap.size≠w.heap.size+1+1 by omega) G;have G4:=Bk bh.o (show w.heap.size+1≠w.heap.size+1+1 by omega) G;have G6:=Φ w6 _ _ G _ _ ao.o;have ee:=c3.o.setBx bc.o.val br.o ao.o G;have fa:=Z (DB (by rw[HN.o];exact cm) HU.o cq.o bc.o dy.o dz.o);go_roundw
    case rel=>exact⟨q+1,I r,G,by omega,by go_num,rfl,ah,Z G2,Z G4,Z G6,Z (.inr ⟨r,bc.o.val,ee⟩),fa,Z (λd e=>by injection e with e;rw[<-e];exact ee)⟩
    simp[intOf]<;>omega
   | some u=>
    have f39:=Z (Pp u r HU.o.1.val bc.o.val HU.o.2.1 dy.o (.agg A) (.agg G) w6 (cd.o w6 bf) (Ξ bn bf.size) (cu.o u rfl) c3.o);go_upto_region 10 with (first
     | (refine Lr 40 (ε 6) ao.o Ρ de ?_)
     | (refine Lr 40 (ε 9) cz.o Ρ ct ?_)
     | (go_at_call 74;(with_reducible refine f39.o.mono ?_);rintro e w7 ⟨r2,ad,bj,ah⟩;obtain⟨bu,bw,bz,b0,b4,b5,b6,b7,b8,k2,rfl⟩:=ad.form;have aw:=Z ad;have c4:=Z bj;have au:=Z ah;have b9:=Z (ah.heap cz.o);clear ad bj ah)
     | (refine Sr 40 (ε 9) (ε 37) rfl b9.o Ae ea.o (Aw _ _ _ rfl rfl rfl) ?_))
    clear f39;obtain⟨E,bk⟩:=Xq (dA (U bu bw bz) (U b0 b4 b5) (U b6 b7 b8));have eg:(Ι.info? 40).map (·.size)=I E.size:=by rw[<-bk];exact Ae
    have fb:E.all (·.oneCell')=Α:=by rw[<-bk];exact Aw _ _ _ rfl rfl rfl
    have fc:ϟ (E.size=3):=Z (by rw[<-bk];rfl);simp only[bk];have c5:=(bf.t au.o).setRow (show w.heap.size<=g9 by omega) E;have G2:=Bk (au.o.heap bg.o) (show w.heap.size≠g9 by omega) E;have G4:=Bk (au.o.heap bh.o) (show w.heap.size+1≠g9 by omega) E;have G6:=Bk (au.o.heap ao.o) (show w.heap.size+1+1≠g9 by omega) E;have G9:=Φ w7 _ _ E _ _ b9.o;have eh:BoxH w7 G:=.inr ⟨r,bc.o.val,c3.o.ext au.o⟩;have c6:IsD (w7.setRow g9 E) (.agg A) u:=((cu.o u rfl).ext au.o).setBx HU.o.1.val eh b9.o E;have ei:=Z (λ(d':Dfa) (fe:Val d') (h:IsD w7 (.agg E) d')=>h.setBx fe eh b9.o E);obtain⟨w8,c7⟩:=Xq (w7.setRow g9 E);rw[c7] at c5 G2 G4 G6 G9 c6 ei;simp only[c7];clear c7;have G2:=Z G2;have G4:=Z G4;have G6:=Z G6;have G9:=Z G9;have en:=Z (DA (by rw[HN.o];exact cm) HU.o cq.o dz.o c4.o);cases r2 with
    | none=>
     obtain⟨rfl,hz⟩:=aw.o.none_inv;have fg:=Z F1;clear hz;go_wp2_with (first
      | (refine Bj rfl 40 _ rfl #[U J 0 0,U J 0 0,U J 0 0] ?_ ?_;(simp;with_reducible exact fg.o))
      | (refine Sr 40 (ε 4) (ε 41) rfl G4.o Ae rfl Fa ?_))
     refine ω (v:=ϙ #[zD,.int Χ 2]) (Bi rfl _ _ _ _ _ _ _ rfl _ rfl (Φ w8 _ _ #[U J 0 0,U J 0 0,U J 0 0] 40 (0,0) G4.o) Ρ rfl Ae) rfl ?_;exact⟨J,rfl,en.o.1 (by simp),c5.setRow (by omega) _⟩
    | some r2=>
     obtain⟨rfl,c8⟩:=aw.o.some_inv;rw[bk] at c8;have c9:=en.o.2 r2 rfl;have eo:=ei.o r2 c9.1.val c8;go_upto_region 12 with (fail)
     go_wp2_with (first
      | (refine Lr 40 (ε 9) G9.o Ρ eg ?_)
      | (refine Sr 40 (ε 6) (ε 43) rfl G6.o eg (eb.o.trans fc.o.symm) fb ?_))
     have fh:=c5.setRow (show w.heap.size<=w.heap.size+1+1 by omega) E;have K2:=Bk G2.o (show w.heap.size≠w.heap.size+1+1 by omega) E;have K4:=Bk G4.o (show w.heap.size+1≠w.heap.size+1+1 by omega) E;have K6:=Φ w8 _ _ E _ _ G6.o;have ep:=eo.setBx c9.1.val (.inr ⟨u,HU.o.1.val,c6⟩) G6.o E;have er:=Z c9;clear eo c8 c6;go_roundw
     case rel=>exact⟨q+1,I r2,E,by omega,by go_num,rfl,fh,Z K2,Z K4,Z K6,Z (.inr ⟨r2,er.o.1.val,ep⟩),er,Z (λd e=>by injection e with e;rw[<-e];exact ep)⟩
     simp[intOf]<;>omega
 obtain rfl:q=n:=by omega
 cases u with
 | none=>
  go_wp2_with (first
   | (refine Lr 40 (ε 2) T.o Ρ ba ?_)
   | (refine Sr 40 (ε 4) (ε 47) rfl X.o ba (by rw[<-cf.o];rfl) e2 ?_))
  refine ω (v:=ϙ #[.agg H,.int Χ 0]) (Bi rfl _ _ _ _ _ _ _ rfl _ rfl (Φ wr _ _ H 40 (0,0) X.o) Ρ rfl ba) rfl ?_;refine⟨I b,⟨_,rfl,(HI.o.ext hE).setRow HC.o.val X.o _⟩,⟨HC.o,by rw[HN.o];exact hn,λv=>?_⟩,hE.setRow (by omega) _⟩;constructor
  ·refine λh=>⟨h,?_⟩
   rintro⟨x,hx,h1,_⟩;rw[HN.o] at hx;have h0:S.testBit x=Ε:=HU.o x hx;rw[h0] at h1;cases h1
  exact λh=>h.1
 | some u=>
  have f149:=Z (Wj b u HC.o.val HU.o.1.val (by rw[HN.o];exact hn) HU.o.2.1 (.agg H) (.agg A) wr (cd.o wr hE) (Ξ bn hE.size) (HI.o.ext hE) (bq.o u rfl));go_wp2_with (first
   | (refine Lr 40 (ε 2) T.o Ρ ba ?_)
   | (refine Lr 40 (ε 6) H6.o Ρ de ?_)
   | (go_at_call 56;(with_reducible refine f149.o.mono ?_);rintro e w7 ⟨r2,ad,bj,ah⟩;obtain⟨bu,bw,bz,b0,b4,b5,b6,b7,b8,k2,rfl⟩:=ad.form;have aw:=Z ad;have c4:=Z bj;have au:=Z ah;have da:=Z (ah.heap X.o);clear ad bj ah)
   | (refine Sr 40 (ε 4) (ε 51) rfl da.o Ae rfl (Aw _ _ _ rfl rfl rfl) ?_))
  refine ω (v:=ϙ #[.agg (dA (U bu bw bz) (U b0 b4 b5) (U b6 b7 b8)),.int Χ k2]) (Bi rfl _ _ _ _ _ _ _ rfl _ rfl (Φ w7 _ _ (dA (U bu bw bz) (U b0 b4 b5) (U b6 b7 b8)) 40 (0,0) da.o) Ρ rfl Ae) rfl ?_;have hU:=HU.o;rw[<-HN.o] at hU;have hl:=W8 c4.o (λv=>show (b.has v=Α/\¬ u.has v=Α)↔(b.has v=Α/\¬ Ea b (λq=>S.testBit q=Α) v) by rw[DC hU]);refine⟨r2,aw.o.setRow (λd e=>?_) da.o _,?_,(hE.t au.o).setRow (by omega) _⟩
  ·subst e;exact hl.1.val
  ·cases r2 with
   | none=>exact .inr ⟨_,hl⟩
   | some d=>exact⟨hl.1,hl.2.2,hl.2.1⟩
theorem CJ {P:Ö} {w:Γ} {ops:Array Ϭ} {rest:List Ϭ} {o:Ϭ} {a:ë} {Q:Exit->ë->Γ->Prop} (X:o.guard=J) (s x:á) (t:ϫ)
  (ho:o.op=.call { callee:=.builtin .append,args:=#[s,x],argTypes:=#[t,t] })
  (e:ϫ) (i:TypeInfo) (G:P.underlying t=I (.slice e)) (hi:P.info? e=I i)
  (E:Option Addr) (n c:Nat) (ab:n<=c) (hs:a.eval s=U E n c) (H:Addr) (T:Nat) (hx:a.eval x=U (I H) 0 T)
  (h:wpList P ops Q rest (a.put o.dst (U E n c)) w):wpList P ops Q (o::rest) a w:=by
 refine wpList_plain X λK hK=>?_
 have af:=run_append_nothing (P:=P) w t t o.type e i G hi E n c ab _ (Src.ofSlice w G H 0 T [] (by simp) (by simp) (by simp));unfold Ϭ.wp;simp[ö,ho,resolve,invoke,builtin,hs,hx,af,Result.andThen];exact hK _ _ h
def LeastF (L:List UInt8->Bool) (W:Γ) (e:Ending):Prop:=
 (∃ u v,e=Ω (ϙ #[v,.bool Α])/\By W v u/\L u=Α/\∀ E,L E=Α->rk u<=rk E)\/(e=Ω (ϙ #[U J 0 0,.bool Ε])/\∀ u,L u=Ε)
theorem Ys {t:Tbl} {i b:Nat} {l:List Nat} {W:Nat->List UInt8} {F:List (Option Nat)} {Y:List UInt8} (h:FB t i b l W F Y):∀ k j,j<=k->j<l.length->(W (l.getD j 0)).length<=j
 | 0,j,T,E=>by
  obtain rfl:j=0:=by omega
  rw[h.head,h.w0];simp
 | k+1,j,T,E=>by
  by_cases h0:l.getD j 0=0
  ·rw[h0,h.w0];simp
  have hm:=Di l j 0 E;have X:=(h.seen _ (h.lt _ hm)).2 hm;obtain⟨p,hp⟩:=Option.isSome_iff_exists.1 X;obtain⟨ab,G⟩:=h.from_ _ p hp h0;obtain⟨q,H,rfl⟩:=Ic ab;have hr:rk (W (l.getD q 0))<rk (W (l.getD j 0)):=by rw[G,Pc];omega
  have ae:q<j:=by
   rcases Nat.lt_trichotomy q j with h1|h1|h1
   ·exact h1
   ·subst h1;omega
   have:=h.inc j q h1 H;omega
  have:=Ys h k q (by omega) H;rw[G,Ν,Ϥ];omega
theorem TZ {W:Γ} {g:Nat} {l:List UInt8} (h:∀ k,k<l.length->W.cell? ⟨g,k,J⟩=I (bv (l.getD k 0))) (j:Nat) (u:Δ) (G:(l.map bv)[j]? = I u):W.cell? ((⟨g,0,J⟩:Addr).add j)=I u:=by
 obtain⟨H,T⟩:=List.getElem?_eq_some_iff.1 G;have E:j<l.length:=by rwa [ι] at H
 have e:(⟨g,0,J⟩:Addr).add j=⟨g,j,J⟩:=by
  unfold Addr.add;by_cases h0:j=0
  ·subst h0;rfl
  simp[h0]
 rw[e,h j E,<-T,List.getElem_map,Ζ,Θ E];rfl
theorem Tf (t:Tbl) (hv:TVal t) (hn:t.n.length<=65536) (A:Array Δ) (w:Γ) (h:IsT w A t) :
  Ϟ Ι 35 #[.agg A] w λe w'=>LeastF t.has w' e/\Ext w w':=by
 obtain⟨bn,on,cn,ba,oa,ca,ft,fu,dr,_,dt,du,hR,dw⟩:=h.opened hv;have fv:=hv.pos;have HR:=Z hR;have HV:=Z hv;have fx:=Z dw;obtain⟨i0,hi,dy,dz,ea⟩:=ϑ Ds;obtain⟨j0,hj,eb,ec,ed⟩:=ϑ Lg;have bg:=(Κ w).alloc (Β A 84);have H0:=Ad w (Β A 84);have cm:=Z (λ(W:Γ) (hW:Ext (w.alloc (Β A 84)) W)=>(Τ W w.heap.size 257 _ _ _ (hW.heap H0)).trans dt);have fy:=Z (λ(W:Γ) (hW:Ext (w.alloc (Β A 84)) W)=>(Τ W w.heap.size 258 _ _ _ (hW.heap H0)).trans du);have fz:=Z (λ(W:Γ) (hW:Ext (w.alloc (Β A 84)) W) b (hb:b<256)=>(Τ W w.heap.size b _ _ _ (hW.heap H0)).trans (dr b hb));clear hR hv h H0 dt du dr fu ft dw;go_enter Tryz.func35,Tryz.ntmps35;go_upto_region 1 with (fail)
 generalize w.alloc (Β A 84)=w1 at *;have k1:=cm.o w1 (Κ w1);go_upto_region 2 with (at_make;refine Ϛ _ rfl _ _ 54 rfl w1.heap.size 3 i0 (.int Χ 0) 1 ϝ hi dy dz Χ Χ _ _ t.n.length rfl rfl rfl rfl (by rw[ea];omega) (by unfold ϐ;omega) (Υ _) ?_;intro w2 ee ef)
 have cp:Ext w1 w2:=(Κ w1).grown ef (λk e=>by cases e);have cq:w2.ownsRow w1.heap.size 3 1 (U (I ⟨w1.heap.size,0,J⟩) t.n.length t.n.length) t.n.length ((Eh t.n.length 0).map ov):=by rw[Q0,<-B7];exact ee
 have ga:w1.heap.size<w2.heap.size:=(cq.lt _ rfl).2;clear ee ef k1;have k2:=cm.o w2 cp;go_upto_region 3 with (at_make;refine Ϛ _ rfl _ _ 22 rfl w2.heap.size 5 j0 (.int .u8 0) 1 ϡ hj eb ec Χ Χ _ _ t.n.length rfl rfl rfl rfl (by rw[ed];omega) (by unfold ϐ;omega) (Υ _) ?_;intro w3 eh ct)
 have ei:=cp.grown ct (λk e=>by cases e);have ej:=Bz cq ct;have cu:w3.ownsRow w2.heap.size 5 1 (U (I ⟨w2.heap.size,0,J⟩) t.n.length t.n.length) t.n.length ((ζ t.n.length (0:UInt8)).map bv):=by rw[<-B7];exact eh
 have ek:w2.heap.size<w3.heap.size:=(cu.lt _ rfl).2;clear eh ct k2 cq cp;generalize en:w1.heap.size=gs at *;generalize gd:w2.heap.size=T at *;have eo:=Z en;clear en gd;go_wp2_with (fail);go_loopw [23] (λi W=>∃ k:Nat,k<=t.n.length/\i=.int Χ k/\Ext w1 W/\T<W.heap.size/\W.ownsRow gs 3 1 (U (I ⟨gs,0,J⟩) t.n.length t.n.length) t.n.length ((Eh t.n.length k).map ov)/\W.ownsRow T 5 1 (U (I ⟨T,0,J⟩) t.n.length t.n.length) t.n.length ((ζ t.n.length (0:UInt8)).map bv))
  (λi _=>t.n.length-(intOf i).toNat)
 case atStart=>exact⟨0,by omega,rfl,ei,ek,ej,cu⟩
 clear ei ej cu ek;obtain⟨k,hk,rfl,G,af,E,X⟩:=hrel;have b0:w1.heap.size<=gs:=Ñ eo.o;by_cases ar:k<t.n.length
 ·have co:=Aq J E (Ii _ _).symm k (by rw[Ii];exact ar);have fo:=E.frozenAt k;obtain⟨a6,au⟩:=Ba E k J;rw[Q1 _ _ ar] at a6;have bh:=G.grown au (λk e=>by cases e;exact b0);have bj:=X.kept au (Aj X E (by decide));have b5:=Ξ af au.size;clear au E G X;go_wp2_with (fail);go_roundw
  case rel=>exact⟨k+1,by omega,by go_num,bh,b5,a6,bj⟩
  simp[intOf];omega
 obtain rfl:k=t.n.length:=by omega
 rw[Q2] at E;have co:=Aq J E (by simp) 0 (by simpa using fv);have fo:=E.frozenAt 0;obtain⟨a6,au⟩:=Ba E 0 (I 0);have bh:=G.grown au (λk e=>by cases e;exact b0);have bj:=X.kept au (Aj X E (by decide));have b5:=Ξ af au.size;clear au E G X af;go_upto_region 9 with (fail)
 clear co fo;have ep:wr.setCell ⟨gs,0,J⟩ (ov (I 0))=wr.setCell ⟨gs,0,J⟩ (.int Χ 0):=rfl;rw[ep] at a6 bh bj b5;clear ep;obtain⟨w4,er⟩:=Xq (wr.setCell ⟨gs,0,J⟩ (.int Χ 0));simp only[er] at *;clear er;have et:=bh.alloc (Β #[.int Χ 0] 3);have eu:=a6.alloc (Β #[.int Χ 0] 3);have ev:=bj.alloc (Β #[.int Χ 0] 3);have ew:OwnI (w4.alloc (Β #[iv 0] 3)) (T+1) (U (I ⟨w4.heap.size,0,J⟩) 1 1) [0]:=Ê (base:=T+1) (e:=3) (size:=1) w4 #[.int Χ 0] 1 (by omega) (by unfold ϐ;omega) rfl;have HS:=Z (RC HV.o t.n.length rfl);clear bh a6 bj;go_wp2_with (fail);go_loopw [7,8] (λv vi W=>∃ (i:Nat) (l:List Nat) (Wd:Nat->List UInt8) (F:List (Option Nat)) (Y:List UInt8) (g c:Nat),i<=l.length/\vi=.int Χ i/\v=U (I ⟨g,0,J⟩) l.length c/\Ext w1 W/\T<W.heap.size/\W.ownsRow gs 3 1 (U (I ⟨gs,0,J⟩) t.n.length t.n.length) t.n.length (F.map ov)/\W.ownsRow T 5 1 (U (I ⟨T,0,J⟩) t.n.length t.n.length) t.n.length (Y.map bv)/\OwnI W (T+1) v l/\ϟ (FB t i 0 l Wd F Y))
  (λ_ vi _=>t.n.length-(intOf vi).toNat)
 case atStart=>exact⟨0,[0],λ_=>[],_,_,w4.heap.size,1,by omega,rfl,rfl,et,by rw[Ο];omega,eu,ev,ew,HS⟩
 clear et eu ev ew HS b5;obtain⟨i,l,Wd,F,Y,g,c,ig,rfl,rfl,G,af,E,X,hI,HF⟩:=hrel;have ih:=HF.o.len_le;have a7:=Z HF.o.lenF;have a8:=Z HF.o.lenY;by_cases ar:i<l.length
 ·have cl:=Aq 0 hI rfl i ar;have b7:=HF.o.lt _ (Di l i 0 ar);obtain⟨s,cy⟩:=Xq (l.getD i 0);rw[cy] at cl b7;have bb:=Z cy;clear cy;have k8:=fy.o wr G;have ka:=(bg.t G).cell (fx.o s b7);obtain⟨bo,c3⟩:=Xq (t.ok s);rw[c3] at ka;have c5:=Z c3;clear c3;cases bo
  ·obtain⟨br,or',cr,ez,e0⟩:=HR.o s b7;have gg:=Z e0;have gi:=Z ez;clear ez e0;have b8:t.ok (l.getD i 0)=Ε:=by rw[bb.o];exact c5.o
   have b0:w1.heap.size<=gs:=Ñ eo.o;have ik:gs<T:=ga;go_upto_region 21 with (fail)
   clear cl k8 ka;go_loopw [7,63] (λv vb W=>∃ (b:Nat) (l':List Nat) (b9:Nat->List UInt8) (F':List (Option Nat)) (Y':List UInt8) (g' c':Nat),b<=256/\vb=.int Χ b/\v=U (I ⟨g',0,J⟩) l'.length c'/\Ext w1 W/\T<W.heap.size/\W.ownsRow gs 3 1 (U (I ⟨gs,0,J⟩) t.n.length t.n.length) t.n.length (F'.map ov)/\W.ownsRow T 5 1 (U (I ⟨T,0,J⟩) t.n.length t.n.length) t.n.length (Y'.map bv)/\OwnI W (T+1) v l'/\ϟ (FB t i b l' b9 F' Y')/\ϟ (i<l'.length/\l'.getD i 0=s))
    (λ_ vb _=>256-(intOf vb).toNat)
   case atStart=>exact⟨0,l,Wd,F,Y,g,c,by omega,rfl,rfl,G,af,E,X,hI,HF,Z ⟨ar,bb.o⟩⟩
   clear G af E X hI a7 a8;obtain⟨b,l',b9,F',Y',g',c',hb,rfl,rfl,G,af,E,X,hI,bd,ag⟩:=hrel;have il:=bd.o.len_le;have a7:=Z bd.o.lenF;have a8:=Z bd.o.lenY;by_cases bl:b<256
   ·have gj:=HV.o.cell_lt b bl;have cb:=A4 (fz.o wr G b bl);have k7:=A4 (cm.o wr G);have gm:=A4 ((bg.t G).cell gi.o);have c6:=A4 ((bg.t G).cell (gg.o _ gj));have e1:t.ent2 s (t.cell b)=t.stp s b:=rfl;have aw:=HV.o.stp_lt b7 bl;rw[e1] at c6;obtain⟨x,c9⟩:=Xq (t.stp s b);rw[c9] at c6 aw;have cc:=Z c9;clear c9 e1;generalize t.cell b=cx at *;have im:(b:Int)<256:=by omega
    generalize ir:t.cells=mx at *;go_upto_region 23 with (fail)
    refine Cl (by kernel_rfl) (by kernel_rfl) ?_;iterate 12 (with_reducible refine Á (λK hK=>?_);go_simp;(refine hK _ ?_;clear hK K))
    refine wpQuiet_nil ?_;rintro _ ⟨e,rfl⟩;clear cb k7 gm c6;have G:=G.t e.ext;have E:=Aa E e.ext;have X:=Aa X e.ext;have hI:=Aa hI e.ext;have af:=Ξ af e.ext.size;generalize e.W=w5 at *;obtain⟨fo,bm⟩:=Xq (F'.getD x J);have co:=Aq J E a7.o.symm x (by rw[a7.o];exact aw);rw[bm] at co;cases fo with
    | some p=>
     have HN:=Z (RE bd.o ag.o.1 (by rw[ag.o.2,cc.o];exact aw) (by rw[ag.o.2,cc.o,bm];simp));replace co:w5.cell? ⟨gs,x,J⟩=I (.int Χ p):=co;have iu:¬ ((p:Int)<0):=by omega
     clear bm;go_wp2;go_roundw
     case rel=>exact⟨b+1,l',b9,F',Y',g',c',by omega,by go_num,rfl,G,af,E,X,hI,HN,ag⟩
     simp[intOf];omega
    | none=>
     have HN:=Z (RH HV.o bd.o ag.o.1 bl (by rw[ag.o.2,cc.o];exact bm));rw[ag.o.2,cc.o] at HN;replace co:w5.cell? ⟨gs,x,J⟩=I (.int Χ (-1)):=co;have gn:=E.frozenAt x;obtain⟨cd,be⟩:=Ba E x (I s);rw[show ov (I s)=.int Χ (s:Int) from rfl] at cd be;have bp:=G.grown be (λk e=>by cases e;exact b0);have bq:=X.kept be (Aj X E (by decide));have db:=hI.kept be (Az hI (by omega));have e2:=Ξ af be.size;have gp:=Aq 0 bq a8.o.symm x (by rw[a8.o];exact aw);have gq:=bq.frozenAt x;obtain⟨dc,ao⟩:=Ba bq x (ϔ b);have ay:=bp.grown ao (λk e=>by cases e;omega);have dd:=cd.kept ao (Aj cd bq (by decide));have a1:=db.kept ao (Az db (by omega));have gu:=Ξ e2 ao.size;have gv:IntKind.u8.wrap (b:Int)=(b:Int):=IntWalk.u8_in _ ⟨by omega,by omega⟩;have e3:bv (ϔ b)=.int .u8 (b:Int):=by rw[bv,u8n b bl]
     rw[e3] at dc ao ay dd a1 gu;clear bm be ao E X hI G af bp cd db e2;go_upto_region 26 with (fail)
     obtain⟨w7,e4⟩:=Xq ((w5.setCell ⟨gs,x,J⟩ (.int Χ (s:Int))).setCell ⟨T,x,J⟩ (.int .u8 (b:Int)));simp only[e4] at *;clear e4 co gn gp gq bq gv e3;have iw:=ay.size;go_wp2_with (at_builtin;refine ϕ _ rfl _ _ 54 rfl (T+1) 3 i0 (.int Χ 0) 1 8 ϝ hi dy dz ea rfl (by decide) _ _ _ rfl (a1.alloc _) _ 1 1 [iv x] rfl rfl (cell_one_new _ _ _) (by simp[ξ]) (by decide) (by unfold ϐ;omega) (by omega) (by simp;omega) _ rfl ?_);intro g8 c8 w8 gz bt _ _;have de:=λk (hk:(ό (I ⟨g',0,J⟩) l'.length c').ownBlock=I k)=>(a1.lt k hk).1
     have ha:=(dd.alloc (Β #[iv x] 3)).kept bt (.inr λe=>by have:=de gs e.symm;omega);have hf:=(dc.alloc (Β #[iv x] 3)).kept bt (.inr λe=>by have:=de T e.symm;omega);have df:=(ay.alloc (Β #[iv x] 3)).grown bt (λk e=>by have:=de k e;omega);have hh:T<w8.heap.size:=by have:=bt.size;rw[Ο] at this;omega
     clear bt a1 dd dc;go_wp2;go_roundw
     case rel=>refine⟨b+1,l'++[x],_,_,_,g8,c8,by omega,by go_num,by rw[Ν];rfl,df,hh,ha,hf,?_,HN,Z ⟨by rw[Ν];have:=ag.o.1;omega,by rw[B9 _ _ _ _ ag.o.1];exact ag.o.2⟩⟩;show Γ.ownsRow _ _ _ _ _ _ _;rw[Ν,ϥ];exact gz
     case measure=>simp[intOf];omega
   obtain rfl:b=256:=by omega
   have e5:((256:Nat):Int)=256:=rfl;simp only[e5];clear e5;have HN:=Z (RG bd.o ag.o.1 (by rw[ag.o.2];exact c5.o));go_wp2;go_roundw
   case rel=>exact⟨i+1,l',b9,F',Y',g',c',by have:=ag.o.1;omega,by go_num,rfl,G,af,E,X,hI,HN⟩
   simp[intOf];omega
  go_upto_region 15 with (fail)
  clear cl k8 ka;go_wp2_with (fail);have bp:=(Κ wr).alloc (Β #[] 5);have e6:Wd s++[]=Wd s:=List.append_nil _;have dg:=Di l i 0 ar;rw[bb.o] at dg;have ix:(Wd s).length<=65536:=by have:=Ys HF.o i i (Υ _) ar;rw[bb.o] at this;omega
  go_loopw [9,10] (λv9 hl W=>∃ (x:Nat) (H:List UInt8) (g' c':Nat),v9=.int Χ x/\hl=U (I ⟨g',0,J⟩) H.length c'/\(∀ k,k<H.length->W.cell? ⟨g',k,J⟩=I (bv (H.getD k 0)))/\g'<W.heap.size/\Ext wr W/\x∈l/\ϟ (Wd x++H=Wd s))
   (λv9 _ _=>(Wd (intOf v9).toNat).length)
  case atStart=>exact⟨s,[],wr.heap.size,0,rfl,rfl,λk hk=>by simp at hk,by rw[Ο];omega,bp,dg,Z e6⟩
  clear bp e6 dg;obtain⟨wl,ho⟩:∃ W,W=wr:=⟨_,rfl⟩;subst ho;obtain⟨x,H,g',c',rfl,rfl,dk,hq,bf,e7,HX⟩:=hrel;have aw:=HF.o.lt x e7;by_cases e9:x=0
  ·subst e9;have dm:H=Wd s:=by have:=HX.o;rw[HF.o.w0] at this;simpa using this
   have fa:By wl (U (I ⟨g',0,J⟩) H.length c') H:=by
    refine⟨by rw[dm];omega,?_⟩;rcases Nat.eq_zero_or_pos H.length with h0|h0
    ·exact .inl ⟨h0,_,_,by rw[h0]⟩
    exact .inr ⟨h0,g',0,c',rfl,hq,λk hk=>by rw[Nat.zero_add];exact dk k (by omega)⟩
   have HB:=Z fa;have b8:=RD HF.o ar (by rw[bb.o];exact c5.o);rw[bb.o,<-dm] at b8;have fb:=Z b8;clear fa b8 dm dk;go_wp2;go_ret2;exact⟨.inl ⟨H,_,rfl,HB.o,fb.o.1,fb.o.2⟩,(bg.t G).trans bf⟩
  have fc:=(HF.o.seen x aw).2 e7;obtain⟨p,hp⟩:=Option.isSome_iff_exists.1 fc;obtain⟨hs,hw⟩:=HF.o.from_ x p hp e9;have cY:=Aq 0 (Aa X bf) a8.o.symm x (by rw[a8.o];exact aw);have cF:=Aq J (Aa E bf) a7.o.symm x (by rw[a7.o];exact aw);rw[hp] at cF;obtain⟨y,hy⟩:=Xq (Y.getD x 0);rw[hy] at cY hw;have dq:Wd p++(y::H)=Wd s:=by rw[<-HX.o,hw];simp
  have ff:H.length+1<=65536:=by have:=congrArg List.length dq;simp at this;omega
  have fg:=Z dq;have iy:(Wd x).length=(Wd p).length+1:=by rw[hw];simp
  have fh:wl.cell? ⟨gs,x,J⟩=I (.int Χ p):=cF;have fj:=Z (λ(W:Γ) (hW:Ext wl W)=>hW.cell fh);have fk:=hs;clear hy hp hw cF dq fc fh;rcases H with _|⟨z,H⟩
  ·have hz:=Ad wl (Β #[bv y] 5);have h2:=(Τ (wl.alloc (Β #[bv y] 5)) wl.heap.size 0 _ _ _ hz).trans (show (#[bv y]:Array Δ)[0]? = I (bv y) from rfl);have ay:=bf.alloc (Β #[bv y] 5);have c4:=fj.o _ ((Κ wl).alloc (Β #[bv y] 5));go_wp2_with (at_builtin;refine CJ rfl _ _ 22 rfl 5 j0 ϡ hj _ _ _ (by omega) rfl _ _ rfl ?_);go_roundw
   case rel=>exact⟨p,[y],wl.heap.size,1,rfl,rfl,λk hk=>by simp at hk;subst hk;exact h2,by rw[Ο];omega,ay,fk,fg⟩
   simp[intOf];omega
  have iz:=bf.size;have fl:=Ê (base:=wl.heap.size) (e:=5) (size:=1) wl #[bv y] 1 (Υ _) (by unfold ϐ;omega) rfl;have ay:=(Κ wl).alloc (Β #[bv y] 5);have fm:=TZ (λk hk=>ay.cell (dk k hk));have h4:=Z fm;have ja:g'<(wl.alloc (Β #[bv y] 5)).heap.size:=by rw[Ο];omega
  clear fm;go_wp2_with (at_builtin;refine ϕ _ rfl _ _ 22 rfl wl.heap.size 5 j0 (.int .u8 0) 1 1 ϡ hj eb ec ed rfl (by decide) _ 1 [bv y] rfl fl ⟨g',0,J⟩ (H.length+1) _ ((z::H).map bv) rfl (by simp) h4.o (by simp[ξ]) (by omega) (by unfold ϐ;simp at ff;omega) (by simp at ff;omega) (by rw[Ο];omega) _ rfl ?_);intro g7 c7 w7 a1 ao _ h5;have fs:w7.ownsRow wl.heap.size 5 1 (U (I ⟨g7,0,J⟩) (1+(H.length+1)) c7) (1+(H.length+1)) ((y::z::H).map bv):=a1;have h6:=λk (hk:k<(y::z::H).length)=>Aq 0 fs (by simp;omega) k hk
  have df:Ext wr w7:=(bf.alloc (Β #[bv y] 5)).grown ao (λk e=>by have:wl.heap.size=k:=ϓ e;omega);have c4:=fj.o w7 (ay.grown ao (λk e=>by have:wl.heap.size=k:=ϓ e;omega));clear a1 ao fl fs;go_wp2;go_roundw
  case rel=>exact⟨p,y::z::H,g7,c7,rfl,by simp;omega,h6,h5,df,fk,fg⟩
  simp[intOf];omega
 obtain rfl:i=l.length:=by omega
 have HN:=Z (RF HF.o (Υ _));go_wp2;go_ret2;exact⟨.inr ⟨rfl,HN.o⟩,bg.t G⟩
theorem LeastF.congr {L M:List UInt8->Bool} {W:Γ} {e:Ending} (h:LeastF L W e) (E:∀ u,L u=M u):LeastF M W e:=by rw[show M=L from funext λu=>(E u).symm];exact h
theorem LeastF.form {L:List UInt8->Bool} {W:Γ} {e:Ending} (h:LeastF L W e):∃ a n c b,e=Ω (ϙ #[U a n c,.bool b]):=by
 rcases h with⟨u,v,h1,E,_⟩|⟨h,_⟩
 ·obtain⟨a,c,rfl⟩:=E.len;exact⟨_,_,_,_,h1⟩
 exact⟨_,_,_,_,h⟩
theorem Xd (a:Dfa) (G:Val a) (ay:a.n.length<=64) (va:Δ) (w:Γ) (hT:Tab w) (ak:0<w.heap.size) (ab:IsD w va a) :
  Ϟ Ι 12 #[va] w λe w'=>LeastF a.has w' e/\Ext w w':=by
 have ad:=Z ab;obtain⟨ac,lc,cc,an,cn,aa,la,ca,rfl⟩:=ab.agg;have ao:=λW (E:Ext w W)=>Z (Fi a G ay _ W (ad.o.ext E))
 have aq:=λW (E:Ext w W)=>Z (Iw a G _ W (hT.below E.below ak) (Ξ ak E.size) (ad.o.ext E))
 obtain⟨H,T⟩:=Xq (dA (U ac lc cc) (U an a.n.length cn) (U aa la ca));have ar:(Ι.info? 40).map (·.size)=I H.size:=by rw[<-T];exact Ae
 have bc:=Z (Bt G);rw[T] at ao aq ad;rw[T];have ae:=(Κ w).alloc (Β H 40);have H1:=Ad w (Β H 40);clear ab G hT T;go_enter Tryz.func12,Tryz.ntmps12;go_upto_region 1 with (fail)
 obtain⟨w1,ag⟩:=Xq (w.alloc (Β H 40));rw[ag] at ae H1;simp only[ag];clear ag;have X:=Z H1;clear H1;go_upto_region 3 with (first
  | (refine Lr 40 (ε 1) X.o Ρ ar ?_)
  | (go_at_call 33;(with_reducible refine (ao _ ae).o.mono ?_);rintro e w2 ⟨rfl,au⟩;have aw:=ae.t au;have X:=Z (au.heap X.o)))
 go_wp2_with (first
  | (refine Lr 40 (ε 1) X.o Ρ ar ?_)
  | (go_at_call 34;(with_reducible refine (aq _ aw).o.mono ?_);rintro e w3 ⟨A,rfl,hA,bf⟩;have hL:=Z (Tf (Ah a) bc.o (show a.n.length<=65536 by omega) A w3 hA);have bh:=aw.t bf)
  | (go_at_call 35;(with_reducible refine hL.o.mono ?_);rintro e w4 ⟨hr,ax⟩;obtain⟨ra,rn,rc,rb,rfl⟩:=hr.form;have HR:=Z hr;have bk:=Z (bh.t ax);clear hr ax))
 go_ret2;exact⟨HR.o.congr (λu=>Ec a u),bk.o⟩
theorem BY:It 117 (λx y=>x != y):=by intro W x y;go_enter Tryz.func117,Tryz.ntmps117;cases x<;>cases y<;>(go_wp2;go_ret;exact⟨rfl,Κ W⟩)
theorem VW (a b:Dfa) (ha:Val a) (hb:Val b) (a1:a.n.length<=64) (a6:b.n.length<=64) (va vb:Δ) (w:Γ) (hT:Tab w) (ba:0<w.heap.size) (ai:IsD w va a) (aj:IsD w vb b) :
  Ϟ Ι 105 #[va,vb] w λe w'=>LeastF (λu=>a.has u != b.has u) w' e/\Ext w w':=by
 have ak:=Z ai;have ao:=Z aj;obtain⟨ac,lc,cc,an,cn,aa,la,ca,rfl⟩:=ai.agg;obtain⟨bo,bp,bq,br,bt,bu,bw,bz,rfl⟩:=aj.agg;have aq:=λW (E:Ext w W)=>Z (Fi a ha a1 _ W (ak.o.ext E))
 have ar:=λW (E:Ext w W)=>Z (Fi b hb a6 _ W (ao.o.ext E))
 have f85:=λW (E:Ext w W)=>Z (Ve a b ha hb a1 a6 117 _ BY (enters_of Tryz.func117 (by kernel_rfl) rfl) _ _ W (hT.below E.below ba) (Ξ ba E.size) (ak.o.ext E) (ao.o.ext E))
 obtain⟨H,X⟩:=Xq (dA (U ac lc cc) (U an a.n.length cn) (U aa la ca));obtain⟨T,ab⟩:=Xq (dA (U bo bp bq) (U br b.n.length bt) (U bu bw bz));have bb:(Ι.info? 40).map (·.size)=I H.size:=by rw[<-X];exact Ae
 have bc:(Ι.info? 40).map (·.size)=I T.size:=by rw[<-ab];exact Ae
 rw[X] at aq f85 ak;rw[ab] at ar f85 ao;rw[X,ab];have ad:=((Κ w).alloc (Β H 40)).alloc (Β T 40);have H3:=Ag (Ad w (Β H 40)) (Β T 40);have H4:=ύ w (Β H 40) (Β T 40);clear ai aj ha hb hT X ab;go_enter Tryz.func105,Tryz.ntmps105;go_upto_region 1 with (fail)
 obtain⟨w1,ax⟩:=Xq ((w.alloc (Β H 40)).alloc (Β T 40));rw[ax] at ad H3 H4;simp only[ax];clear ax;have ae:=Z H3;have G:=Z H4;clear H3 H4;go_upto_region 3 with (first
  | (refine Lr 40 (ε 2) ae.o Ρ bb ?_)
  | (refine El rfl (wp_load_row 40 (ε 3) rfl _ rfl _ _ _ _ G.o Ρ rfl bc ?_))
  | (go_at_call 33;(with_reducible refine (aq _ ad).o.mono ?_);rintro e w2 ⟨rfl,af⟩;have ay:=ad.t af;have G:=Z (af.heap G.o))
  | (go_at_call 33;(with_reducible refine (ar _ ay).o.mono ?_);rintro e w3 ⟨rfl,ag⟩;have b0:=ay.t ag))
 have ae:=Z ((af.t ag).heap ae.o);have G:=Z (ag.heap G.o);have bd:=Z b0;clear aq ar ad af ay ag;go_wp2_with (first
  | (refine Lr 40 (ε 2) ae.o Ρ bb ?_)
  | (refine Lr 40 (ε 3) G.o Ρ bc ?_)
  | (go_at_call 66;(with_reducible refine (f85 _ bd.o).o.mono ?_);rintro e w4 ⟨A,t,rfl,b5,b6,ck,be,b7⟩;have hL:=Z (Tf t b6 (show t.n.length<=65536 by omega) A w4 b5);have HH:=Z be;clear be;have cb:=bd.o.t b7)
  | (go_at_call 35;(with_reducible refine hL.o.mono ?_);rintro e w5 ⟨hr,bf⟩;obtain⟨ra,rn,rc,rb,rfl⟩:=hr.form;have HR:=Z hr;have cf:=Z (cb.t bf);clear hr bf))
 go_ret2;exact⟨HR.o.congr (λu=>HH.o u),cf.o⟩
theorem VV {a b:Dfa} (G:Cano a) (hb:Cano b) {W:Γ} {v:Δ} {r:Bool} (h:LeastF (λu=>a.has u != b.has u) W (Ω (ϙ #[v,.bool r]))):(!r)=Α↔a=b:=by
 rcases h with⟨u,T,e,_,E,_⟩|⟨e,h⟩
 ·injection e with e
  injection e with e
  injection e with e
  injection e with _ e
  injection e with e _
  injection e with e
  subst e;have H:a≠b:=λe=>by rw[e] at E;simp at E
  simp[H]
 injection e with e
 injection e with e
 injection e with e
 injection e with _ e
 injection e with e _
 injection e with e
 subst e;have he:a=b:=Fu G hb λu=>by
  have:=h u
  simpa using this
 simp[he]
theorem RO (a b:Dfa) (ha:Cano a) (hb:Cano b) (ax:a.n.length<=64) (ay:b.n.length<=64) (va vb:Δ) (w:Γ) (hT:Tab w) (aq:0<w.heap.size) (ad:IsD w va a) (ae:IsD w vb b) :
  Ϟ Ι 82 #[va,vb] w λe w'=>∃ r,e=Ω (.bool r)/\(r=Α↔a=b)/\Ext w w':=by
 have ar:=Z ad;have au:=Z ae;have az:=Z ha;have a1:=Z hb;obtain⟨ac,lc,cc,an,cn,aa,la,ca,rfl⟩:=ad.agg;obtain⟨be,bf,bg,bh,bj,bk,bl,bm,rfl⟩:=ae.agg;have f44:=λW (H:Ext w W)=>Z (VW a b ha.val hb.val ax ay _ _ W (hT.below H.below aq) (Ξ aq H.size) (ar.o.ext H) (au.o.ext H))
 obtain⟨E,T⟩:=Xq (dA (U ac lc cc) (U an a.n.length cn) (U aa la ca));obtain⟨G,X⟩:=Xq (dA (U be bf bg) (U bh b.n.length bj) (U bk bl bm));have bn:(Ι.info? 40).map (·.size)=I E.size:=by rw[<-T];exact Ae
 have bo:(Ι.info? 40).map (·.size)=I G.size:=by rw[<-X];exact Ae
 rw[T,X] at f44;rw[T,X];have af:=((Κ w).alloc (Β E 40)).alloc (Β G 40);have H2:=Ag (Ad w (Β E 40)) (Β G 40);have H3:=ύ w (Β E 40) (Β G 40);clear ad ae ha hb hT T X ar au;go_enter Tryz.func82,Tryz.ntmps82;go_upto_region 1 with (fail)
 obtain⟨w1,ai⟩:=Xq ((w.alloc (Β E 40)).alloc (Β G 40));rw[ai] at af H2 H3;simp only[ai];clear ai;have bp:=Z H2;have bq:=Z H3;have aw:=Z af;clear H2 H3 af;go_wp2_with (first
  | (refine Lr 40 (ε 2) bp.o Ρ bn ?_)
  | (refine Lr 40 (ε 3) bq.o Ρ bo ?_)
  | (go_at_call 105;(with_reducible refine (f44 _ aw.o).o.mono ?_);rintro e w5 ⟨hr,br⟩;obtain⟨ra,rn,rc,rb,rfl⟩:=hr.form;have HR:=Z (VV az.o a1.o hr);clear hr))
 go_ret;exact⟨_,rfl,HR.o,aw.o.t br⟩
def Bd (N:Nat) (f:Nat->Bool):List Bool:=(π N).map f
theorem Cf (N:Nat) (f:Nat->Bool):(Bd N f).length=N:=by simp[Bd]
theorem Fk (N:Nat) (f:Nat->Bool) (x:Nat) (hx:x<N):(Bd N f).getD x Ε=f x:=by simp[Bd,Ζ,hx]
theorem Ga (N:Nat) (f:Nat->Bool) (x:Nat) (v:Bool):(Bd N f).set x v=Bd N λq=>if q=x then v else f q:=by
 apply Ϩ;intro i;rw[List.getElem?_set,Cf];simp only[Bd,List.getElem?_map];by_cases e:x=i
 ·subst e;by_cases hi:x<N
  ·simp[hi]
  simp[hi]
 by_cases hi:i<N
 ·simp[List.getElem?_range hi,e,þ e]
 simp[e,hi]
theorem Cu {N:Nat} {f g:Nat->Bool} (h:∀ j,j<N->f j=g j):Bd N f=Bd N g:=by unfold Bd;exact List.map_congr_left λj E=>h j (ώ.1 E)
def hit (L:Af) (b:List UInt8) (i j:Nat):Prop:=i<=j/\j<=b.length/\L ((b.take j).drop i)
theorem Qr {L M:Af} (h:∀ w,L w↔M w) (b:List UInt8) (i j:Nat):hit L b i j↔hit M b i j:=by unfold hit;rw[h]
theorem PC (L:Af) (b:List UInt8):hit L b 0 b.length↔L b:=by simp[hit]
theorem PA (b:List UInt8) (i j:Nat) (hi:i<=b.length):hit (λw=>w=[]) b i j↔j=i:=by
 unfold hit;constructor
 ·rintro⟨h1,G,E⟩;have:((b.take j).drop i).length=0:=by rw[E];rfl
  rw[List.length_drop,Ï] at this;omega
 rintro rfl;refine⟨Υ _,hi,?_⟩;apply List.eq_nil_of_length_eq_zero;rw[List.length_drop,Ï];omega
theorem OY (p:UInt8->Prop) (b:List UInt8) (i j:Nat):hit (λw=>∃ x:UInt8,w=[x]/\p x) b i j↔j=i+1/\i<b.length/\p (b.getD i 0):=by
 unfold hit;constructor
 ·rintro⟨h1,G,x,E,H⟩;have T:((b.take j).drop i).length=1:=by rw[E];rfl
  rw[List.length_drop,Ï] at T;have X:j=i+1:=by omega
  subst X;refine⟨rfl,by omega,?_⟩;have:((b.take (i+1)).drop i)[0]? = I x:=by rw[E];rfl
  rw[List.getElem?_drop,List.getElem?_take,if_pos (by omega)] at this;rw[Ζ,show i=i+0 by omega,this];exact H
 rintro⟨rfl,G,E⟩;refine⟨by omega,by omega,b.getD i 0,?_,E⟩;apply Ϩ;intro k;rw[List.getElem?_drop,List.getElem?_take];cases k with
 | zero=>rw[if_pos (by omega),Ζ,Θ (by omega)];simp[G]
 | succ k=>rw[if_neg (by omega)];simp
theorem Nf (L M:Af) (b:List UInt8) (i j:Nat):hit (Cat L M) b i j↔∃ m,hit L b i m/\hit M b m j:=by
 unfold hit;constructor
 ·rintro⟨h1,H,u,v,E,hu,T⟩;have X:((b.take j).drop i).length=u.length+v.length:=by rw[E,Ν]
  rw[List.length_drop,Ï] at X;refine⟨i+u.length,⟨by omega,by omega,?_⟩,by omega,H,?_⟩
  ·have:(b.take (i+u.length)).drop i=u:=by
    have G:((b.take j).drop i).take u.length=u:=by rw[E];simp
    rw[List.take_drop,List.take_take,Nat.min_eq_left (by omega)] at G;exact G
   rw[this];exact hu
  have:(b.take j).drop (i+u.length)=v:=by rw[<-List.drop_drop,E];simp
  rw[this];exact T
 rintro⟨m,⟨h1,H,E⟩,G,h5,h6⟩;refine⟨by omega,h5,_,_,?_,E,h6⟩;have e1:(b.take m).drop i=((b.take j).drop i).take (m-i):=by rw[List.take_drop,List.take_take,show i+(m-i)=m by omega,Nat.min_eq_left G]
 have e2:(b.take j).drop m=((b.take j).drop i).drop (m-i):=by rw[List.drop_drop,show i+(m-i)=m by omega]
 rw[e1,e2,List.take_append_drop]
theorem X6 (L M:Af) (b:List UInt8) (i j:Nat):hit (λw=>L w\/M w) b i j↔hit L b i j\/hit M b i j:=by
 unfold hit;constructor
 ·rintro⟨h1,E,h|h⟩
  ·exact .inl ⟨h1,E,h⟩
  exact .inr ⟨h1,E,h⟩
 rintro (⟨h1,E,h⟩|⟨h1,E,h⟩)
 ·exact⟨h1,E,.inl h⟩
 exact⟨h1,E,.inr h⟩
theorem PB (L M:Af) (b:List UInt8) (i j:Nat):hit (λw=>L w/\M w) b i j↔hit L b i j/\hit M b i j:=by
 unfold hit;constructor
 ·rintro⟨h1,E,h,k⟩;exact⟨⟨h1,E,h⟩,h1,E,k⟩
 rintro⟨⟨h1,E,h⟩,_,_,k⟩;exact⟨h1,E,h,k⟩
theorem OZ (L:Af) (b:List UInt8) (i j:Nat):hit (λw=>¬ L w) b i j↔i<=j/\j<=b.length/\¬ hit L b i j:=by
 unfold hit;constructor
 ·rintro⟨h1,E,h⟩;exact⟨h1,E,λG=>h G.2.2⟩
 rintro⟨h1,E,h⟩;exact⟨h1,E,λG=>h ⟨h1,E,G⟩⟩
open Classical in
noncomputable def An (L:Af) (b:List UInt8) (i j:Nat):Bool:=decide (hit L b i j)
theorem hitB_true {L:Af} {b:List UInt8} {i j:Nat}:An L b i j=Α↔hit L b i j:=@decide_eq_true_iff _ (Classical.propDecidable _)
theorem hitB_false {L:Af} {b:List UInt8} {i j:Nat}:An L b i j=Ε↔¬ hit L b i j:=@decide_eq_false_iff_not _ (Classical.propDecidable _)
theorem Fv {a b:Bool} (h:a=Α↔b=Α):a=b:=by cases a<;>cases b<;>simp_all
theorem PH {L M:Af} (h:∀ w,L w↔M w) (b:List UInt8) (i j:Nat):An L b i j=An M b i j:=Fv (by rw[hitB_true,hitB_true,Qr h])
noncomputable def Bh (L:Af) (b:List UInt8) (i:Nat):List Bool:=Bd (b.length+1) (An L b i)
theorem Um {L M:Af} (h:∀ w,L w↔M w) (b:List UInt8) (i:Nat):Bh L b i=Bh M b i:=Cu λj _=>PH h b i j
theorem GP (L:Af) (E:Nat) (w:List UInt8):rep L E (E:Int) w↔pw L E w:=by
 constructor
 ·rintro⟨k,h1,G,h⟩;obtain rfl:k=E:=by omega
  exact h
 intro h;exact⟨E,Υ _,.inr (Int.le_refl _),h⟩
theorem Mp (L:Af) (k:Nat) (w:List UInt8):pw L (k+1) w↔Cat (pw L k) L w:=by rw[Gy L k 1];exact Hg (λ_=>Iff.rfl) (λv=>by rw[Fz];exact Jt L v) w
theorem GO (L:Af) (E t:Nat) (w:List UInt8):rep L E ((E+(t+1):Nat):Int) w↔rep L E ((E+t:Nat):Int) w\/Cat (rep L E ((E+t:Nat):Int)) L w:=by
 constructor
 ·rintro⟨k,h1,H,h⟩;by_cases e:k<=E+t
  ·exact .inl ⟨k,h1,.inr (by omega),h⟩
  obtain rfl:k=E+t+1:=by omega
  obtain⟨u,v,rfl,hu,G⟩:=(Mp L (E+t) w).1 h;exact .inr ⟨u,v,rfl,⟨E+t,by omega,.inr (by omega),hu⟩,G⟩
 rintro (⟨k,h1,H,h⟩|⟨u,v,rfl,⟨k,h1,H,h⟩,G⟩)
 ·exact⟨k,h1,.inr (by omega),h⟩
 exact⟨k+1,by omega,.inr (by omega),(Mp L k _).2 ⟨u,v,rfl,h,G⟩⟩
theorem Nd (L:Af) (E t:Nat) (b:List UInt8) (i j:Nat):hit (rep L E ((E+(t+1):Nat):Int)) b i j↔hit (rep L E ((E+t:Nat):Int)) b i j\/∃ m,hit (rep L E ((E+t:Nat):Int)) b i m/\hit L b m j:=by rw[Qr (GO L E t),X6,Nf]
def stab (L:Af) (E t:Nat) (b:List UInt8) (i:Nat):Prop:=∀ j m,hit (rep L E ((E+t:Nat):Int)) b i m->hit L b m j->hit (rep L E ((E+t:Nat):Int)) b i j
theorem EP {L:Af} {E t:Nat} {b:List UInt8} {i:Nat} (h:stab L E t b i):∀ k,E<=k->∀ j,hit (pw L k) b i j->hit (rep L E ((E+t:Nat):Int)) b i j:=by
 intro k hk;obtain⟨d,rfl⟩:∃ d,k=E+d:=⟨k-E,by omega⟩;induction d with
 | zero=>exact λj ⟨h1,G,T⟩=>⟨h1,G,E,Υ _,.inr (by omega),T⟩
 | succ d X=>intro j H;rw[show E+(d+1)=E+d+1 by omega,Qr (Mp L (E+d)),Nf] at H;obtain⟨m,h1,G⟩:=H;exact h j m (X (by omega) m h1) G
theorem Tu {L:Af} {E t:Nat} {b:List UInt8} {i:Nat} (h:stab L E t b i) {hi:Int} (X:hi<0\/((E+t:Nat):Int)<=hi) (j:Nat):hit (rep L E hi) b i j↔hit (rep L E ((E+t:Nat):Int)) b i j:=by
 constructor
 ·rintro⟨h1,G,k,H,_,T⟩;exact EP h k H j ⟨h1,G,T⟩
 rintro⟨h1,G,k,H,h4,T⟩;exact⟨h1,G,k,H,by omega,T⟩
def Du:Nat->(Nat->Bool)->Nat
 | 0,_=>0
 | N+1,f=>Du N f+(if f N=Α then 1 else 0)
theorem Rr (f:Nat->Bool):∀ N,Du N f<=N
 | 0=>Υ _
 | N+1=>by have:=Rr f N;unfold Du;split<;>omega
theorem Zl {f g:Nat->Bool}:∀ N,(∀ x,x<N->f x=Α->g x=Α)->Du N f<=Du N g
 | 0,_=>Υ _
 | N+1,h=>by
  have:=Zl N λx hx=>h x (by omega)
  have h1:=h N (by omega);unfold Du;by_cases e:f N=Α
  ·rw[if_pos e,if_pos (h1 e)];omega
  rw[if_neg e];omega
theorem Rq {f g:Nat->Bool}:∀ N,(∀ x,x<N->f x=Α->g x=Α)->(∃ x,x<N/\g x=Α/\f x=Ε)->Du N f<Du N g
 | 0,_,⟨x,hx,_⟩=>by omega
 | N+1,h,⟨x,hx,h1,G⟩=>by
  unfold Du;by_cases e:x=N
  ·subst e;have:=Zl x λy H=>h y (by omega)
   rw[if_pos h1,if_neg (by rw[G];decide)];omega
  have:=Rq N (λy H=>h y (by omega)) ⟨x,by omega,h1,G⟩;have T:=h N (by omega);by_cases E:f N=Α
  ·rw[if_pos E,if_pos (T E)];omega
  rw[if_neg E];omega
theorem Zm {f:Nat->Bool}:∀ N,N<=Du N f->∀ x,x<N->f x=Α
 | 0,_,x,hx=>by omega
 | N+1,h,x,hx=>by
  unfold Du at h;have G:=Rr f N;by_cases e:f N=Α
  ·rw[if_pos e] at h;by_cases E:x=N
   ·rw[E];exact e
   exact Zm N (by omega) x (by omega)
  rw[if_neg e] at h;omega
theorem EO {L:Af} {E t:Nat} {b:List UInt8} {i:Nat} (h:b.length+1<=Du (b.length+1) (An (rep L E ((E+t:Nat):Int)) b i)):stab L E t b i:=λj m _ G=>hitB_true.1 (Zm _ h j (by have:=G.2.1;omega))
theorem SX {L:Af} {E t:Nat} {b:List UInt8} {i:Nat} (h:¬ stab L E t b i):Du (b.length+1) (An (rep L E ((E+t:Nat):Int)) b i)<Du (b.length+1) (An (rep L E ((E+(t+1):Nat):Int)) b i):=by refine Rq _ (λx _ hx=>hitB_true.2 ((Nd L E t b i x).2 (.inl (hitB_true.1 hx)))) ?_;apply Å;intro H;apply h;intro j m h1 G;apply Å;intro T;exact H ⟨j,by have:=G.2.1;omega,hitB_true.2 ((Nd L E t b i j).2 (.inr ⟨m,h1,G⟩)),hitB_false.2 T⟩
theorem Xj:∀ (xs:List RNode) (n:RNode) (l:List Af),Cg (xs++[n]) l=Cg xs l++[B3 n (Cg xs l)]
 | [],n,l=>rfl
 | x::xs,n,l=>Xj xs n (l++[B3 x l])
theorem Qh:∀ (xs:List RNode) (l:List Af),(Cg xs l).length=l.length+xs.length
 | [],l=>rfl
 | x::xs,l=>by show (Cg xs (l++[B3 x l])).length=_;rw[Qh,Ν,Ϥ,List.length_cons];omega
theorem Xk:∀ (ys xs:List RNode) (l:List Af),∃ t,Cg (xs++ys) l=Cg xs l++t
 | ys,[],l=>by
  induction ys generalizing l with
  | nil=>exact⟨[],by simp[Cg]⟩
  | cons y ys E=>obtain⟨t,G⟩:=E (l++[B3 y l]);exact⟨[B3 y l]++t,by show Cg ys (l++[B3 y l])=l++([B3 y l]++t);rw[<-ê];exact G⟩
 | ys,x::xs,l=>Xk ys xs (l++[B3 x l])
abbrev noL:Af:=λ_=>False
theorem KQ {n:RNode} {l E:List Af} {i:Nat} (hg:n.good i) (h:∀ k,k<i->l.getD k noL=E.getD k noL):B3 n l=B3 n E:=by
 obtain⟨g1,g2,g3,g4,g5⟩:=hg;have T:(n.kind=4\/n.kind=5\/n.kind=6\/n.kind=7\/n.kind=8)->l.getD n.l noL=E.getD n.l noL:=λH=>h _ (by
  rcases H with H|H|H|H|H
  ·exact (g1 (by omega)).1
  ·exact (g1 (by omega)).1
  ·exact (g1 (by omega)).1
  ·exact g2 (by omega)
  exact g2 (by omega))
 have e2:(n.kind=4\/n.kind=5\/n.kind=6)->l.getD n.r noL=E.getD n.r noL:=λH=>h _ (g1 H).2
 have ae:n.kind=1\/n.kind=2\/n.kind=3\/n.kind=4\/n.kind=5\/n.kind=6\/n.kind=7\/n.kind=8:=by omega
 obtain⟨k,G,X,c,mn,mx⟩:=n;simp only at T e2 ae;unfold B3;rcases ae with rfl|rfl|rfl|rfl|rfl|rfl|rfl|rfl
 ·rfl
 ·rfl
 ·rfl
 ·have a:=T (by omega);have b:=e2 (by omega)
  show Cat (l.getD G noL) (l.getD X noL)=Cat (E.getD G noL) (E.getD X noL);rw[a,b]
 ·have a:=T (by omega);have b:=e2 (by omega)
  show (λw=>l.getD G noL w\/l.getD X noL w)=λw=>E.getD G noL w\/E.getD X noL w
  rw[a,b]
 ·have a:=T (by omega);have b:=e2 (by omega)
  show (λw=>l.getD G noL w/\l.getD X noL w)=λw=>E.getD G noL w/\E.getD X noL w
  rw[a,b]
 ·have a:=T (by omega);show (λw=>¬ l.getD G noL w)=λw=>¬ E.getD G noL w
  rw[a]
 have a:=T (by omega);show rep (l.getD G noL) mn mx=rep (E.getD G noL) mn mx;rw[a]
def A3 (xs:List RNode) (i:Nat):Af:=(Cg xs []).getD i noL
theorem KM {xs:List RNode} {i:Nat} (hi:i<xs.length) {d:RNode} (hg:(xs.getD i d).good i):A3 xs i=B3 (xs.getD i d) (Cg xs []):=by
 have hx:xs=xs.take i++[xs.getD i d]++xs.drop (i+1):=by rw[Ζ,Θ hi,Option.getD_some];simp
 obtain⟨t,E⟩:=Xk (xs.drop (i+1)) (xs.take i++[xs.getD i d]) [];rw[<-hx,Xj] at E;have G:(Cg (xs.take i) []).length=i:=by rw[Qh,Ï,List.length_nil];omega
 have h1:A3 xs i=B3 (xs.getD i d) (Cg (xs.take i) []):=by unfold A3;rw[E,ê,Ζ,List.getElem?_append_right (by omega),G,Nat.sub_self];rfl
 rw[h1];refine KQ hg λk H=>?_
 rw[E,ê,Ζ,Ζ,List.getElem?_append_left (by omega)]
open Go.RowKit Go.Shelf Go.WideMaps
open Go.Maps (Keyed)
def Ng (v:Δ):Option (DataW Δ × List MemPlace):=I (.held v,[])
def IsMv {κ:Type} (W:Γ) (k:ϫ) (key:κ->Δ) (b n:Nat) (f:κ->Option Δ):Prop:=
 ∃ D:DataW Δ,W.ownsMap Ι k Ng b n D/\∀ x l,keyOf Ι k (key x)=I l->Maps.has D l=(f x).isSome/\∀ z,D.atKey l (.held z)=.held ((f x).getD z)
section
variable {κ:Type} {W:World} {k:TypeId} {key:κ->Value} {b n:Nat} {f:κ->Option Value}
theorem Qj (W:Γ) (k:ϫ) (key:κ->Δ):IsMv (W.alloc (.map #[] 0)) k key W.heap.size 0 (λ_=>J):=
 ⟨.map [],Γ.ownsMap_made W _ _ _,λ_ _ _=>⟨rfl,λ_=>rfl⟩⟩
theorem IsMv.kept {W':Γ} {row:Option Nat} (h:IsMv W k key b n f) (hg:W.grownBy W' row) (E:I b≠row):IsMv W' k key b n f:=by obtain⟨D,h1,G⟩:=h;exact⟨D,h1.kept hg E,G⟩
theorem IsMv.ext {W':Γ} (h:IsMv W k key b n f) (E:Ext W W'):IsMv W' k key b n f:=h.kept (E.grownBy J) (by simp)
theorem IsMv.block (h:IsMv W k key b n f):∃ es c,W.heap[b]? = I (.map es c):=by obtain⟨D,⟨es,c,hb,_⟩,_⟩:=h;exact⟨es,c,hb⟩
variable {ops:Array Oper} {rest:List Oper} {o:Oper} {a:Act} {Q:Exit->Act->World->Prop}
theorem KV {m:á} {x:á} {t:ϫ} {K:ë->Γ->Prop} {a:ë} (T:o.op=Op.lookup t m x Α) {e:ϫ} {H:Δ} (X:∀ W,(zeroValue e).run Ι W=.ok H W) (K':Keyed Ι k) (ht:Ι.underlying t=I (.map k e)) (hm:a.eval m=.map (I b)) (h:IsMv W k key b n f)
  (y:κ) (hx:a.eval x=key y) (G:∃ l,keyOf Ι k (key y)=I l) (hK:K (a.put o.dst (ϙ #[(f y).getD H,.bool (f y).isSome])) W):o.wp Ι a W K Q:=by
 obtain⟨D,h1,h2⟩:=h;obtain⟨l,G⟩:=G;obtain⟨e1,e2⟩:=h2 y l G;obtain⟨v,ps,ag,E⟩:=h1.look_ok K' ht (X W) (zd:=.held H) (zp:=[]) rfl G;unfold Ϭ.wp;simp[ö,T,hm,hx,ag,Result.andThen];rw[e2] at E;unfold Ng at E;injection E with E
 injection E with E _
 injection E with E
 rw[e1,E];exact hK
theorem Wh [DecidableEq κ] {m x v:á} {t:ϫ} {K:ë->Γ->Prop} {a:ë} (aa:o.op=Op.mapUpdate t m x v) (H:Keyed Ι k) {e:ϫ} (ht:Ι.underlying t=I (.map k e)) (hm:a.eval m=.map (I b)) (h:IsMv W k key b n f) (hn:n<ϐ)
  (ae:∀ y z,key y=key z->y=z) (y:κ) (hx:a.eval x=key y) (E:∃ l,keyOf Ι k (key y)=I l) (i:Δ) (hv:a.eval v=i)
  (hK:∀ W',IsMv W' k key b (n+1) (λz=>if z=y then I i else f z)->W.grownBy W' (I b)->K (a.put o.dst δ) W'):o.wp Ι a W K Q:=by
 obtain⟨D,h1,T⟩:=h;obtain⟨l,E⟩:=E;obtain⟨W',ag,r1,r2⟩:=h1.update H ht hn E (show Ng i=I (.held i,[]) from rfl);unfold Ϭ.wp;simp[ö,aa,hm,hx,hv,ag,Result.andThen];refine hK W' ⟨_,r1,λz lz G=>?_⟩ r2;by_cases e:z=y
 ·subst e;rw[E] at G;cases G
  simp only[if_true];exact⟨Maps.has_put_same h1.isMap (H.key E) _,λz=>Maps.atKey_put_same h1.isMap (H.key E) _ _⟩
 have X:lz≠l:=λe'=>e (ae _ _ (H.inj G (e'▸E)))
 simp only[e,if_false];rw[Maps.has_put_other X];refine⟨(T z lz G).1,λz'=>?_⟩;rw[Maps.atKey_put_other X];exact (T z lz G).2 z'
end
theorem Xi:Keyed Ι 164:=Keyed.of_law (deep_law_laid M9 (m:=3) (by omega) (of_decide_eq_true (by kernel_rfl)) (by kernel_rfl) (by rw[Tryz.underlying164]))
theorem NT:Ι.keyType 164=Α:=by kernel_rfl
theorem Zg:Ι.cellsOf 164=2:=by kernel_rfl
theorem IR (x:Nat × Nat) (h1:x.1<9223372036854775808) (E:x.2<9223372036854775808):∃ l,keyOf Ι 164 (C2 x)=I l:=by
 obtain⟨m,hm⟩:=O1;refine⟨.string (keyBytes [.int Χ x.1,.int Χ x.2]),?_⟩;unfold keyOf;simp only[Tryz.underlying164];rw[if_pos (by simp[NT,Δ.formed,C2,Tryz.underlying164,Zg]),hm];have e:(C2 x).cells.toList=[iv x.1,iv x.2]:=rfl;rw[e];have:Ι.keyLits (m+3+1) 164 [iv x.1,iv x.2]=I [.int Χ x.1,.int Χ x.2]:=by show Ö.keyLits Ι ((m+3)+1) 164 _=_;unfold Ö.keyLits;simp only[Tryz.underlying164];rw[if_pos (by rw[Zg];exact⟨rfl,by kernel_rfl⟩)];rw[List.mapM_cons,List.mapM_cons,List.mapM_nil];simp only[co3,À,ϸ,List.take_succ_cons,List.take_zero];rw[show m+3=(m+2)+1 by omega,kl3 _ _ h1,kl3 _ _ E];rfl
 rw[this];rfl
theorem Sl.keptm {W W':Γ} {v:Δ} {k n:Nat} {f:Nat->Δ} {g:Nat} (h:Sl W v k n f) (H:0<k) (hg:W.grownBy W' (I g)) (hm:∃ es c,W.heap[g]? = I (.map es c)):Sl W' v k n f:=by
 obtain⟨h0,h|⟨E,b,G,T,X,hb,hc⟩⟩:=h
 ·exact⟨h0,.inl h⟩
 have aa:b≠g:=λe=>by have:=hc 0 (Nat.mul_pos E H);obtain⟨es,c,hm⟩:=hm;rw[e] at this;simp[Γ.cell?,hm] at this
 refine⟨h0,.inr ⟨E,b,G,T,X,Ξ hb hg.size,λi hi=>?_⟩⟩;rw[hg.cell_far ⟨b,G+i,J⟩ hb (by simp;exact aa)];exact hc i hi
theorem Dr {W W':Γ} {g k:Nat} {cs:Array Δ} {t:ϫ} {fr:Nat × Nat} (hg:W.grownBy W' (I g)) (hm:∃ es c,W.heap[g]? = I (.map es c)) (h:W.heap[k]? = I (Β cs t fr)):W'.heap[k]? = I (Β cs t fr):=
 (hg.block k (Al h) (λe=>by
  obtain⟨es,c,hm⟩:=hm;injection e with e
  subst e;rw[h] at hm;cases hm)).trans h
open Go
section
variable {P:Program} {md:Region.Mode} {ops:Array Oper} {Q:Exit->Act->World->Prop} {C:World->Prop} {n:Nat}
def E6 (P:Ö) (ops:Array Ϭ) (Q:Exit->ë->Γ->Prop) (C:Γ->Prop) (n:Nat):List (Nat × Nat)->ë->Γ->Prop
 | [],a,w=>Q .normal a w
 | (i,0)::is,a,w=>∃ o v,ops[i]? = I o/\YieldsIf P ops C o v a/\E6 P ops Q C n is (a.put o.dst v) w
 | (i,1)::is,a,w=>wpOp P ops Q i (λH w'=>(i<n->C w')/\E6 P ops Q C n is H w') a w
 | (i,j+2)::is,a,w=>∃ oi oj E G,ops[i]? = I oi/\ops[j]? = I oj/\YieldsIf P ops (λV=>V=w) oi E a/\YieldsIf P ops (λV=>V=w) oj G a/\YieldsIf P ops (λV=>V=w) oj G (a.put oi.dst E)/\YieldsIf P ops (λV=>V=w) oi E (a.put oj.dst G)/\(a.put oi.dst E).put oj.dst G=(a.put oj.dst G).put oi.dst E/\C w/\E6 P ops Q C n is ((a.put oi.dst E).put oj.dst G) w
def Iz:List (Nat × Nat)->Nat
 | []=>0
 | (_,0)::is=>Iz is+1
 | (_,1)::is=>Iz is+1
 | (_,_+2)::is=>Iz is+2
def F7 (md:Region.Mode) (ops:Array Ϭ) (n:Nat):List (Nat × Nat)->Array Bool->Bool
 | [],listed=>(Ϯ md ops listed).isEmpty
 | (i,0)::is,listed=>(Ϯ md ops listed).contains i&&decide (i<n)&&Region.free md ops listed i&&F7 md ops n is (listed.setIfInBounds i Α)
 | (i,1)::is,listed=>decide (Ϯ md ops listed=[i])&&(is.isEmpty||decide (i<n))&&F7 md ops n is (listed.setIfInBounds i Α)
 | (i,j+2)::is,listed=>decide (Ϯ md ops listed=[i,j])&&decide (i≠j)&&decide (i<n)&&decide (j<n)&&decide (Ϯ md ops (listed.setIfInBounds i Α)=[j])&&decide (Ϯ md ops (listed.setIfInBounds j Α)=[i])&&F7 md ops n is ((listed.setIfInBounds i Α).setIfInBounds j Α)
theorem N6 (ag:Region.noSelect ops=Α) (hs:Region.sinkB md ops n=Α) (hc:Region.chainB md ops n=Α) (hn:n<ops.size)
  (hQ:∀ c a tm w,Q (.panic c) { tmps:=tm,defers:=a.defers } w->Q (.panic c) a w):∀ (is:List (Nat × Nat)) (listed:Array Bool) (a:ë) (w:Γ),(is≠[]->HeadInv md ops n listed)->F7 md ops n is listed=Α->(is≠[]->C w)->E6 P ops Q C n is a w->Jw P md ops Q C n (Iz is) listed a w
 | [],listed,a,w,_,E,_,h=>⟨by simpa [F7] using E,h⟩
 | (i,0)::is,listed,a,w,G,E,hC,⟨o,v,ho,hy,h⟩=>by
  simp only[F7,ς,decide_eq_true_eq] at E;obtain⟨⟨⟨T,X⟩,hf⟩,ab⟩:=E;have ak:i∈Ϯ md ops listed:=by simpa using T
  have G:=G (by simp);have hC:=hC (by simp);exact BA ho (Region.noSelect_spec ag) hs hc hn X (λc a w hp=>by
    cases hd:o.dst with
    | none=>rw[hd] at hp;exact hp
    | some t=>rw[hd] at hp;exact hQ c a _ w hp) _ listed a w G (Region.free_spec ho hf) ak hy hC
   (N6 ag hs hc hn hQ is _ _ w (λ_=>G.set ak X) ab (λ_=>hC) h)
 | (i,1)::is,listed,a,w,G,E,hC,h=>by
  simp only[F7,ς,decide_eq_true_eq,Bool.or_eq_true,List.isEmpty_iff] at E;obtain⟨⟨T,X⟩,ab⟩:=E;have ak:i∈Ϯ md ops listed:=by rw[T];simp
  refine⟨λh1=>(by rw[T] at h1;cases h1),λj hj=>?_⟩;rw[T] at hj;have:j=i:=by simpa using hj
  subst this;refine wpOp_mono (λa' w' h'=>⟨h'.1,N6 ag hs hc hn hQ is _ a' w' (λaq=>?_) ab (λaq=>?_) h'.2⟩) h
  ·rcases X with h0|h0
   ·exact absurd h0 aq
   exact (G (by simp)).set ak h0
  rcases X with h0|h0
  ·exact absurd h0 aq
  exact h'.1 h0
 | (i,j+2)::is,listed,a,w,G,E,hC,⟨oi,oj,vi,vj,hi,hj,y1,y2,y3,y4,bd,ae,h⟩=>by
  simp only[F7,ς,decide_eq_true_eq] at E;obtain⟨⟨⟨⟨⟨⟨T,be⟩,X⟩,bf⟩,ar⟩,aw⟩,ab⟩:=E;have G:=G (by simp);have bg:i∈Ϯ md ops listed:=by rw[T];simp
  have bh:j∈Ϯ md ops (listed.setIfInBounds i Α):=by rw[ar];simp
  have H:=N6 ag hs hc hn hQ is ((listed.setIfInBounds i Α).setIfInBounds j Α) ((a.put oi.dst vi).put oj.dst vj) w (λ_=>(G.set bg X).set bh bf) ab (λ_=>ae) h;refine⟨λh1=>(by rw[T] at h1;cases h1),λx hx=>?_⟩;rw[T] at hx;have hx:x=i\/x=j:=by simpa using hx
  rcases hx with rfl|rfl
  ·refine y1.wpOp hi rfl ⟨λ_=>ae,λh1=>(by rw[ar] at h1;cases h1),λz hz=>?_⟩;rw[ar] at hz;have:z=j:=by simpa using hz
   subst this;exact y3.wpOp hj rfl ⟨λ_=>ae,H⟩
  refine y2.wpOp hj rfl ⟨λ_=>ae,λh1=>(by rw[aw] at h1;cases h1),λz hz=>?_⟩;rw[aw] at hz;have:z=i:=by simpa using hz
  subst this;refine y4.wpOp hi rfl ⟨λ_=>ae,?_⟩;rw[bd] at H;rw[Array.setIfInBounds_comm _ _ (þ be)];exact H
def Ux (md:Region.Mode) (ops:Array Ϭ) (n:Nat) (is:List (Nat × Nat)):Bool:=
 Region.noSelect ops&&Region.sinkB md ops n&&Region.chainB md ops n&&decide (n<ops.size)&&decide (Iz is=ops.size)&&F7 md ops n is (ä ops.size Ε)
theorem CC {id:Nat} {a:ë} {w:Γ} (n:Nat) (is:List (Nat × Nat)) (hm:P.follows .mixedOrders=Α) (E:Ux .any ops n is=Α) (T:∀ c a X w,Q (.panic c) { tmps:=X,defers:=a.defers } w->Q (.panic c) a w)
  (C:Γ->Prop) (hC:C w.drew) (h:E6 P ops Q C n is a w.drew):(Code.region id ops Α).wp P Q a w:=by
 simp only[Ux,ς,decide_eq_true_eq] at E;obtain⟨⟨⟨⟨⟨ab,hs⟩,hc⟩,hn⟩,G⟩,E⟩:=E;refine wp_region_any hm (Sj (C:=C) (n:=n) _ _ _ _ ?_);rw[<-G];have af:HeadInv .any ops n (ä (Iz is) Ε):=by rw[G];exact⟨by simp,λj oj _ H=>(by rw[ϛ] at H;cases H),λt _ ht=>getD_in (by simpa using ht) (ϛ _ _)⟩
 exact N6 ab hs hc hn T is _ a _ (λ_=>af) (by rw[G];exact E) (λ_=>hC) h
theorem EB {a:ë} {w:Γ} (h:Q .normal a w):E6 P ops Q C n [] a w:=h
theorem Or {i:Nat} {is:List (Nat × Nat)} {o:Ϭ} {v:Δ} {a:ë} {w:Γ} (h0:ops.toList[i]? = I o) (E:Ϡ o (ð ops a.tmps)=Α) (G:∀ W,C W->(ö a.eval o).run P W=.ok (.value v) W)
  (h:E6 P ops Q C n is (a.put o.dst v) w):E6 P ops Q C n ((i,0)::is) a w:=⟨o,v,by rw[<-Ϲ];exact h0,.inl ⟨E,G⟩,h⟩
theorem Tp {i:Nat} {is:List (Nat × Nat)} {o:Ϭ} {a:ë} {w:Γ} (h0:ops.toList[i]? = I o)
  (h:∀ K:ë->Γ->Prop,(∀ E w',(i<n->C w')->E6 P ops Q C n is E w'->K E w')->if Ϡ o (ð ops a.tmps)=Α then Ϭ.wp P o a w K Q else K (a.put o.dst δ) w):E6 P ops Q C n ((i,1)::is) a w:=by
 have h0:ops[i]? = I o:=by rw[<-Ϲ];exact h0
 show wpOp P ops Q i _ a w;unfold wpOp;rw[h0];have:=h _ (λE w' hc H=>í hc H);show if _ then _ else _
 by_cases G:Ϡ o (ð ops a.tmps)=Α
 ·rw[if_pos G] at this ⊢;exact .inl this
 rw[if_neg G] at this ⊢;exact this
theorem EA {i j:Nat} {is:List (Nat × Nat)} {oi oj:Ϭ} {vi vj:Δ} {a:ë} {w:Γ} (h0:ops.toList[i]? = I oi) (h1:ops.toList[j]? = I oj) (E:Ϡ oi (ð ops a.tmps)=Α) (G:Ϡ oj (ð ops a.tmps)=Α)
  (H:Ϡ oj (ð ops (a.put oi.dst vi).tmps)=Α) (T:Ϡ oi (ð ops (a.put oj.dst vj).tmps)=Α) (X:(ö a.eval oi).run P w=.ok (.value vi) w) (aa:(ö a.eval oj).run P w=.ok (.value vj) w) (ab:(ö (a.put oi.dst vi).eval oj).run P w=.ok (.value vj) w) (ad:(ö (a.put oj.dst vj).eval oi).run P w=.ok (.value vi) w)
  (ae:(a.put oi.dst vi).put oj.dst vj=(a.put oj.dst vj).put oi.dst vi) (hC:C w) (h:E6 P ops Q C n is ((a.put oi.dst vi).put oj.dst vj) w):E6 P ops Q C n ((i,j+2)::is) a w:=
 ⟨oi,oj,vi,vj,by rw[<-Ϲ];exact h0,by rw[<-Ϲ];exact h1,.inl ⟨E,λW e=>by subst e;exact X⟩,.inl ⟨G,λW e=>by subst e;exact aa⟩,.inl ⟨H,λW e=>by subst e;exact ab⟩,.inl ⟨T,λW e=>by subst e;exact ad⟩,ae,hC,h⟩
end
def J7 (W:Γ) (x:Δ):Prop:=∀ b o n c z,x=U (I ⟨b,o,J⟩) n c->0<n->W.cell? ⟨b,o,J⟩≠I (.int Χ z)
structure RwC (W W':Γ) (g m:Nat):Prop where
 size:W.heap.size<=W'.heap.size
 cell:∀ a v,W.cell? a=I v->(a.block=g->m<=a.off)->W'.cell? a=I v
theorem RwC.refl (W:Γ) (g m:Nat):RwC W W g m:=⟨Υ _,λ_ _ h _=>h⟩
theorem RwC.ext {W W' E:Γ} {g m:Nat} (h:RwC W W' g m) (G:Ext W' E):RwC W E g m:=⟨μ h.size G.size,λa v h1 H=>G.cell (h.cell a v h1 H)⟩
theorem RwC.set {W W':Γ} {g m o:Nat} {cs:List Δ} (h:RwC W W' g m) (G:W'.heap.size<=(W'.setCells g o cs).heap.size) (H:o+cs.length<=m):RwC W (W'.setCells g o cs) g m:=⟨μ h.size G,λa v h1 E=>by
 rw[Γ.cell?_setCells_out]
 ·exact h.cell a v h1 E
 intro hb _;have:=E hb;omega⟩
theorem Sl.rw {W W':Γ} {v:Δ} {k n:Nat} {f:Nat->Δ} {g m:Nat} (h:Sl W v k n f) (E:RwC W W' g m) (H:∀ i,i<n*k->∀ o,o<m->W.cell? ⟨g,o,J⟩≠I (f i)):Sl W' v k n f:=by
 obtain⟨h1,h|⟨T,b,G,X,hv,hb,hc⟩⟩:=h
 ·exact⟨h1,.inl h⟩
 refine⟨h1,.inr ⟨T,b,G,X,hv,Ξ hb E.size,λi hi=>E.cell _ _ (hc i hi) λe=>?_⟩⟩;have e:b=g:=e;subst e;exact Nat.le_of_not_lt λab=>H i hi (G+i) ab (hc i hi)
def Oc (W:Γ) (g m:Nat):Prop:=∀ o,o<m->∃ x,W.cell? ⟨g,o,J⟩=I x/\(∃ a n c,x=U a n c)/\J7 W x
theorem IsD.rw {W W':Γ} {v:Δ} {q:Dfa} {g m:Nat} (T:Val q) (h:IsD W v q) (E:RwC W W' g m) (X:Oc W g m):IsD W' v q:=by
 obtain⟨vc,vn,va,rfl,h1,⟨vs,af,hN,hr⟩,h3⟩:=h;have G:∀ y,(∀ a n c,y≠ό a n c)->∀ o,o<m->W.cell? ⟨g,o,J⟩≠I y:=λy hy o H e=>by
  obtain⟨x,hx,⟨a,n,c,aj⟩,_⟩:=X o H;rw[hx] at e;injection e with e
  exact hy a n c (by rw[<-e,aj])
 refine⟨vc,vn,va,rfl,Sl.rw h1 E λi _=>G _ λa n c e=>(by cases e),⟨vs,af,Sl.rw hN E λi hi o H e=>?_,λi hi=>Sl.rw (hr i hi) E λj _=>G _ λa n c e=>(by cases e)⟩,Sl.rw h3 E λi _=>G _ λa n c e=>(by cases e)⟩;have hi:i<q.n.length:=by simpa using hi
 have ab:0<(q.n.getD i []).length:=by rw[T.row i hi];exact T.parts.pos
 obtain⟨x,hx,_,ak⟩:=X o H;rw[hx] at e;injection e with e
 obtain⟨b,an,ao,aq,ar⟩:=Ü (hr i hi) ab;exact ak b an _ ao _ (by rw[e,aq]) ab (ar 0 (by omega))
theorem By.rw {W W':Γ} {v:Δ} {l:List UInt8} {g m:Nat} (h:By W v l) (E:RwC W W' g m) (G:Oc W g m):By W' v l:=
 Sl.rw h E λi _ o H e=>by
  obtain⟨x,hx,⟨a,n,c,T⟩,_⟩:=G o H;rw[hx,T] at e;injection e with e
  cases e
theorem Sl.noInts {W:Γ} {v:Δ} {k n:Nat} {f:Nat->Δ} (h:Sl W v k n f) (G:0<k) (H:∀ z,f 0≠.int Χ z):J7 W v:=λb o n' c z e h0 hc=>by
 obtain⟨_,⟨E,a,T,rfl⟩|⟨E,b',ae,T,rfl,_,X⟩⟩:=h
 ·injection e with _ e _
  omega
 injection e with e _ _
 injection e with e
 injection e with e1 e2 _
 subst e1 e2;have:=X 0 (Nat.mul_pos E G);rw[Nat.add_zero,hc] at this;injection this with this
 exact H z this.symm
theorem Eo {W:Γ} {a b c:Δ} {q:Dfa} (E:Val q) (h:IsD W (.agg #[a,b,c]) q):((∃ x n y,a=U x n y)/\J7 W a)/\((∃ x n y,b=U x n y)/\J7 W b)/\(∃ x n y,c=U x n y)/\J7 W c:=by
 obtain⟨vc,vn,va,he,h1,⟨vs,ag,G,T⟩,H⟩:=h;injection he with he
 injection he with he
 injection he with X he
 injection he with e2 he
 injection he with e3 _
 subst X e2 e3;obtain⟨a1,c1,rfl⟩:=Sl.len h1;obtain⟨a2,c2,rfl⟩:=Sl.len G;obtain⟨a3,c3,rfl⟩:=Sl.len H;refine⟨⟨⟨_,_,_,rfl⟩,Sl.noInts h1 (by omega) λz e=>(by cases e)⟩,⟨⟨_,_,_,rfl⟩,Sl.noInts G (by omega) λz e=>?_⟩,⟨_,_,_,rfl⟩,Sl.noInts H (by omega) λz e=>(by cases e)⟩;obtain⟨b,an,ao,ad,_⟩:=Ü (T 0 E.pos) (by rw[E.row 0 E.pos];exact E.parts.pos);rw[ad] at e;cases e
def OpR (W:Γ) (xs:List Δ) (os:List Opt):Prop:=xs.length=os.length*7/\∀ i (hi:i<os.length),∃ h1 E G r1 H T l,(∀ o,o<7->xs.getD (i*7+o) δ=[h1,E,G,r1,H,T,l].getD o δ)/\Val os[i].head/\Val os[i].rest/\IsD W (.agg #[h1,E,G]) os[i].head/\IsD W (.agg #[r1,H,T]) os[i].rest/\∃ u,By W l u
theorem OpR.grp {W:Γ} {xs:List Δ} {os:List Opt} (h:OpR W xs os) {g:Nat} (hc:∀ o,o<os.length*7->W.cell? ⟨g,o,J⟩=I (xs.getD o δ)):Oc W g (os.length*7):=λo E=>by
 obtain⟨h1,h2,h3,r1,r2,r3,l,G,H,T,X,aa,u,hu⟩:=h.2 (o / 7) (by omega);have hm:=G (o % 7) (by omega);rw[show o / 7*7+o % 7=o by omega] at hm;refine⟨_,hc o E,?_⟩;rw[hm];obtain⟨k1,k2,k3⟩:=Eo H X;obtain⟨k4,k5,k6⟩:=Eo T aa;have k7:(∃ x n y,l=U x n y)/\J7 W l:=by obtain⟨a,c,rfl⟩:=Sl.len hu;exact⟨⟨_,_,_,rfl⟩,Sl.noInts hu (by omega) λz e=>(by cases e)⟩
 have h7:o % 7=0\/o % 7=1\/o % 7=2\/o % 7=3\/o % 7=4\/o % 7=5\/o % 7=6:=by omega
 rcases h7 with e|e|e|e|e|e|e<;>rw[e]
 ·exact k1
 ·exact k2
 ·exact k3
 ·exact k4
 ·exact k5
 ·exact k6
 exact k7
theorem Hc:(Ι.info? 141).map (·.size)=I 7:=by kernel_rfl
theorem IZ (G H T X a5 a6 b1 b2 b3 b4 b5 b6 l l':Δ) (hA:(#[G,H,T,X,a5,a6,l]:Array Δ).all (·.oneCell')=Α) (hB:(#[b1,b2,b3,b4,b5,b6,l']:Array Δ).all (·.oneCell')=Α) (w:Γ) (hu:∃ u,By w l u) (ai:∃ u,By w l' u) :
  Ϟ Ι 83 #[.agg #[G,H,T,X,a5,a6,l],.agg #[b1,b2,b3,b4,b5,b6,l']] w λe w'=>∃ b,e=Ω (.bool b)/\Ext w w':=by
 obtain⟨u,hu⟩:=hu;obtain⟨E,ai⟩:=ai;obtain⟨a,c,rfl⟩:=Sl.len hu;obtain⟨a',c',rfl⟩:=Sl.len ai;have a8:=hu.1;have ba:=ai.1;have hE:=((Κ w).alloc (Β #[G,H,T,X,a5,a6,U a u.length c] 141)).alloc (Β #[b1,b2,b3,b4,b5,b6,U a' E.length c'] 141);have h2:=Ag (Ad w (Β #[G,H,T,X,a5,a6,U a u.length c] 141)) (Β #[b1,b2,b3,b4,b5,b6,U a' E.length c'] 141);have h3:=ύ w (Β #[G,H,T,X,a5,a6,U a u.length c] 141) (Β #[b1,b2,b3,b4,b5,b6,U a' E.length c'] 141);have HU:=Z hu;have aw:=Z ai;clear hu ai;go_enter Tryz.func83,Tryz.ntmps83;go_upto_region 1 with (fail)
 obtain⟨w1,aq⟩:=Xq ((w.alloc (Β #[G,H,T,X,a5,a6,U a u.length c] 141)).alloc (Β #[b1,b2,b3,b4,b5,b6,U a' E.length c'] 141));rw[aq] at hE h2 h3;simp only[aq];clear aq;have c1:=(Τ w1 w.heap.size 6 _ _ _ h2).trans (show (#[G,H,T,X,a5,a6,U a u.length c]:Array Δ)[6]? = I (U a u.length c) from rfl);have c2:=(Τ w1 (w.heap.size+1) 6 _ _ _ h3).trans (show (#[b1,b2,b3,b4,b5,b6,U a' E.length c']:Array Δ)[6]? = I (U a' E.length c') from rfl);have ax:(convert 22 9 (U a u.length c)).run Ι w1=.ok (Co u) w1:=Kh _ _ _ (HU.o.ext hE);have bc:(convert 22 9 (U a' E.length c')).run Ι w1=.ok (Co E) w1:=Kh _ _ _ (aw.o.ext hE);clear h2 h3;obtain⟨bb,bd⟩:∃ bb,∀ W:Γ,(binOp .lss 9 (Co u) (Co E)).run Ι W=.ok (.bool bb) W:=⟨_,λW=>by unfold Co;rw[binOp_string_lss];rfl⟩
 by_cases hl:u.length=E.length
 ·rw[hl] at ax c1 ⊢;go_wp2_with (fail);go_ret;exact⟨_,rfl,hE⟩
 have be:((u.length:Int)==(E.length:Int))=Ε:=by simp;omega
 have bf:¬ (u.length:Int)=(E.length:Int):=by omega
 go_wp2_with (fail);go_ret;exact⟨_,rfl,hE⟩
end Go.Proofs.YtilncahcpjlfnaaGreatDoor
