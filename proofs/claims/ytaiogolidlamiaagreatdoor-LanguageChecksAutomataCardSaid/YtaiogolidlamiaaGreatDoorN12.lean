import Derived.Test.YtaiogolidlamiaaGreatDoorN11
import Derived.Test.YtaiogolidlamiaaGreatDoorN10
set_option linter.unusedVariables false
set_option linter.unusedSimpArgs false
open Bool renaming false → Τ, true → Ξ
open Classical renaming byContradiction → ϧ
open Go renaming World → Λ, Calls → ϓ, info_parts → Ϟ, maxLen → ϛ, cell_of_row → γ, Value → Ν, heap_alloc2_new → Ϗ, wpList_load_row → Ο, wpList_store_row → Φ, undef → ς, setRow_heap → μ, bodyPost_ret → ω, wpList_make_full → ϩ
open Go.Act renaming put → Ϛ
open Go.Ending renaming returned → θ
open Go.IntKind renaming i64 → ε, u64 → π, i64 → þ
open Go.IntWalk renaming i64_in → ý
open Go.Lib renaming hid → Α
open Go.Obj renaming cells → Ε
open Go.Operand renaming tmp → η
open Go.Proofs.Tryz renaming prog → Ζ, underlying68 → ϔ, underlying62 → ϑ, underlying30 → Κ
open Go.Value renaming slice → Β, int → ö, tuple → ϙ
open Go.World renaming size_alloc → Ρ
open Int renaming toNat_natCast → å
open List renaming getElem?_eq_some_iff → ϊ, length_map → ϋ, getD_eq_getElem?_getD → Η, getElem?_eq_getElem → Μ, range → ι, ext_getElem? → ϥ, getElem?_map → ϕ, getElem?_range → Õ, getElem?_eq_none → Ϩ, getElem_mem → í, replicate → ζ, setIfInBounds_toArray → Ι, set_cons_zero → Χ, set_cons_succ → Ψ, length_set → ϒ, length_append → Υ
open Nat renaming le_refl → ν, zero_add → é, lt_of_lt_of_le → δ
open Option renaming none → Γ, some → Δ
open Option.some renaming inj → ύ
namespace Go.Proofs.YtaiogolidlamiaaGreatDoor
set_option maxRecDepth 100000
set_option maxHeartbeats 8000000
open Go.RowKit Go.Shelf
theorem Al9 (r:List Nat) (D:0<r.length) (h1:r.length<=65536) (b o c:Nat) (w:Λ) (h:∀ s,s<r.length->w.cell? ⟨b,o+s,Γ⟩=Δ (iv (r.getD s 0))) :
  ϓ Ζ 145 #[Β (Δ ⟨b,o,Γ⟩) r.length c] w λe w'=>∃ g G,e=θ (Β (Δ ⟨g,0,Γ⟩) r.length G)/\OwnI w' w.heap.size (Β (Δ ⟨g,0,Γ⟩) r.length G) r/\Ext w w':=by
 obtain⟨j0,E,ab,ad,ae⟩:=Ϟ Cp;have I:=Λ.ownsRow_lit (base:=w.heap.size) (e:=3) (size:=1) w #[] 0 (ν _) (by unfold ϛ;omega) rfl;have J:=(Θ w).alloc (Ε #[] 3);have M:∀ j u,(r.map iv)[j]? = Δ u->(w.alloc (Ε #[] 3)).cell? ((⟨b,o,Γ⟩:Addr).add j)=Δ u:=λj u E=>by
  obtain⟨af,ag⟩:=ϊ.1 E;have T:j<r.length:=by rwa [ϋ] at af
  have e:(⟨b,o,Γ⟩:Addr).add j=⟨b,o+j,Γ⟩:=by
   unfold Addr.add;by_cases D:j=0
   ·subst D;rfl
   ·simp[D]
  rw[e,J.cell (h j T),<-ag,List.getElem_map,Η,Μ T];rfl
 have HN:=Α M;clear M h;have aq:∀ W,(binOp .eql 68 (Β (Δ ⟨b,o,Γ⟩) r.length c) (Β Γ 0 0)).run Ζ W=.ok (.bool Τ) W:=λW=>Lib.run_eql_slice_nil W 68 3 _ _ _ _ _ ϔ
 go_enter Tryz.func145,Tryz.ntmps145;go_wp2_with (at_builtin;refine wpList_append_lies _ rfl _ _ 68 rfl w.heap.size 3 j0 (.int ε 0) 1 8 ϔ E ab ad ae rfl (by decide) _ 0 [] rfl I ⟨b,o,Γ⟩ r.length _ (r.map iv) rfl (by simp) HN.out (λu hu=>by obtain⟨b',_,rfl⟩:=List.mem_map.1 hu;rfl) D (by unfold ϛ;omega) (by omega) (by rw[Ρ];omega) _ rfl ?_);intro g7 c7 w7 al U _ ar;have an:Ext w w7:=J.grown U (λk e=>by have:w.heap.size=k:=ύ e;omega);clear I U;go_wp2;go_ret;exact⟨g7,c7,rfl,al,an⟩
theorem Alg (w:Λ) (c:Cls):Cs (w.alloc (Ε (Ab c) 62)) (Β (Δ ⟨w.heap.size,0,Γ⟩) 1 1) [c]:=by
 refine⟨by show (1:Nat)<=_;omega,.inr ⟨by show 0<1;omega,_,0,1,rfl,by rw[Ρ];omega,λi hi=>?_⟩⟩;have hi:i<4:=by have:i<1*4:=hi;omega
 rw[γ _ w.heap.size (0+i) _ _ _ (Aa w (Ε (Ab c) 62)),é,F3 c i hi];have D:i / 4=0:=by omega
 have E:i % 4=i:=by omega
 show _=Δ (ö π (wd ([c].getD (i / 4) 0#256) (i % 4)));rw[D,E];rfl
theorem Vu {α:Type} (L:List Cls) (F:Cls->α):(ι L.length).map (λq=>F (L.getD q 0#256))=L.map F:=by
 apply ϥ;intro i;simp only[ϕ];by_cases h:i<L.length
 ·simp[Õ h,Η,Μ h]
 ·rw[Ϩ (by simp;omega),Ϩ (by omega)];rfl
def Df (c k:Cls):Bool:=Aw c (Bv (Al k 256))
theorem Ajs {c:Cls} {L:List Cls} (h:IsCells [c] L) (b:Nat) (D:b<256):Df c (L.getD (Ak L b) 0#256)=Ξ↔c.getLsbD b=Ξ:=by
 have E:=Ut h;have G:=cell_lt E D;have M:=E7 E D;have hm:L.getD (Ak L b) 0#256∈L:=by rw[Η,Μ G];exact í G
 generalize L.getD (Ak L b) 0#256=k at *;obtain⟨h1,h2,I⟩:=I1 k (h.nz k hm);obtain⟨z,J⟩:∃ z:Nat,Bv (Al k 256)=z:=⟨(Bv (Al k 256)).toNat,by omega⟩;rw[J,å] at I;have T:z<256:=by omega
 have:=(h.cls k hm b D M z T).1 I;have U:=this c (by simp);unfold Df Aw;rw[J,å,<-U]
def Px (D m:Nat) (E:Ν):Nat->Ν->Λ->Prop
 | 0,v,_=>v=E
 | 1,v,_=>v=iv m
 | 2,v,W=>∃ g,v=Β (Δ ⟨g,0,Γ⟩) m m/\W.ownsRow D 3 1 v m ((ζ m 0).map iv)
 | 3,v,_=>v=E
 | 4,v,_=>v=iv m
 | 5,v,W=>∃ g,v=Β (Δ ⟨g,0,Γ⟩) m m/\W.ownsRow D 3 1 v m ((ζ m 0).map iv)
 | 6,v,W=>∃ g,v=Β (Δ ⟨g,0,Γ⟩) m m/\W.ownsRow D 3 1 v m ((ζ m 0).map iv)
 | _,v,W=>∃ g,v=Β (Δ ⟨g,0,Γ⟩) m m/\W.ownsRow D 3 1 v m ((ζ m 0).map iv)
def Pw (i j:Nat) (v u:Ν):Prop:=((i=2\/i=6)/\(j=5\/j=7)\/(j=2\/j=6)/\(i=5\/i=7))->v≠u
theorem Aii (i j:Nat) (v u:Ν) (h:Pw i j v u):Pw j i u v:=λD=>(h (by omega)).symm
theorem Aij (I m:Nat) (J:Ν):∀ (i:Nat) (v:Ν) (w w':Λ),Px I m J i v w->Ext w w'->Px I m J i v w'
 | 0,_,_,_,h,_=>h
 | 1,_,_,_,h,_=>h
 | 2,_,_,_,⟨g,D,E⟩,G=>⟨g,D,Ah E G⟩
 | 3,_,_,_,h,_=>h
 | 4,_,_,_,h,_=>h
 | 5,_,_,_,⟨g,D,E⟩,G=>⟨g,D,Ah E G⟩
 | 6,_,_,_,⟨g,D,E⟩,G=>⟨g,D,Ah E G⟩
 | _+7,_,_,_,⟨g,D,E⟩,G=>⟨g,D,Ah E G⟩
theorem lt8 (i:Nat) (h:i<8):i=0\/i=1\/i=2\/i=3\/i=4\/i=5\/i=6\/i=7:=by omega
theorem Mj {W:Λ} {base m g:Nat} {u:Ν} {xs:List Ν} (hu:u=Β (Δ ⟨g,0,Γ⟩) m m) (E:W.ownsRow base 3 1 u m xs) (n c:Nat):Ν.slice (Δ ⟨W.heap.size,0,Γ⟩) n c≠u:=by
 intro e;rw[hu] at e E;injection e with D _ _
 injection D with D
 injection D with D _ _
 have:=(E.lt g rfl).2;omega
theorem Aih (c:Cls) (w:Λ) (hT:Tab w) (bm:0<w.heap.size) :
  ϓ Ζ 118 #[.agg (Ab c)] w λe w'=>∃ r,ResOf w' e (Δ r)/\Cano r/\(∀ u,r.has u=Ξ↔∃ x:UInt8,u=[x]/\c.getLsbD x.toNat=Ξ)/\Ext w w':=by
 have cn:=Α (λW (hW:Ext w W)=>hT.below hW.below bm);have c4:=((Θ w).alloc (Ε (Ab c) 62)).alloc (Ε #[Β Γ 0 0,Β Γ 0 0,Β Γ 0 0] 30);have H1:=Ag (Aa w (Ε (Ab c) 62)) (Ε #[Β Γ 0 0,Β Γ 0 0,Β Γ 0 0] 30);have H2:=Ϗ w (Ε (Ab c) 62) (Ε #[Β Γ 0 0,Β Γ 0 0,Β Γ 0 0] 30);have f105:=λW=>Α (Tl c W)
 have er:=Lu c;clear hT;go_enter Tryz.func118,Tryz.ntmps118;go_upto_region 1 with (fail)
 obtain⟨w1,c9⟩:∃ W,(w.alloc (Ε (Ab c) 62)).alloc (Ε #[Β Γ 0 0,Β Γ 0 0,Β Γ 0 0] 30)=W:=⟨_,rfl⟩;rw[c9] at c4 H1 H2;simp only[c9];clear c9;have ar:=Α H1;have U:=Α H2;have da:=Α c4;clear H1 H2 c4;obtain⟨bz,gh⟩:∃ b,((sz c:Int)==0)=b:=⟨_,rfl⟩;have eu:bz=Ξ↔c=0#256:=by rw[<-gh,<-er];simp
 have gi:=Α eu;clear eu er;cases bz
 ·go_upto_region 4 with (first
   | (refine Ο rfl 62 (η 1) rfl _ rfl _ _ _ _ ar.out ϑ rfl Bf ?_)
   | (go_at_call 105;(with_reducible refine (f105 _).out.mono ?_);rintro e w2 ⟨rfl,az⟩;have bb:=Α (da.out.trans az);have ar:=Α (az.heap ar.out);have U:=Α (az.heap U.out);clear az)
   | (go_at_call 143;(with_reducible refine (Yh [c] _ _ (cn.out _ (bb.out.alloc (Ε (Ab c) 62))) (δ bm (bb.out.alloc (Ε (Ab c) 62)).size) (Alg w2 c)).mono ?_);rintro e D ⟨vc,L,rfl,ev,hP,-,bl⟩;have ey:=Α ((P9 [c]).perm hP);have cp:=Α ev;have ai:=((Θ w2).alloc (Ε (Ab c) 62)).trans bl;have ez:=Α (bb.out.trans ai);have ar:=Α (ai.heap ar.out);have U:=Α (ai.heap U.out);clear bl ai ev hP))
  have cq:=Ut ey.out;have e0:=cq.pos;have ie:=cq.le;obtain⟨J,M,cc,rfl,e1⟩:=Û cp.out e0;have dc:=Α e1;have dd:=Α cq;have e3:=Aa (D.alloc (Ε #[.bool Τ,.bool Ξ,.bool Τ] 4)) (Ε #[Β Γ 0 0,Β Γ 0 0,Β Γ 0 0] 30);clear e1 cq;generalize hm:L.length=m at *;have HM:=Α hm;clear hm;go_upto_region 5 with (first
   | (refine Φ rfl 30 (η 5) (η 21) rfl _ _ rfl rfl _ _ e3 Ad rfl (Aq _ _ _ rfl rfl rfl) ?_))
  clear e3;have ai:=((Θ D).alloc (Ε #[.bool Τ,.bool Ξ,.bool Τ] 4)).alloc (Ε #[Β (Δ ⟨J,M,Γ⟩) m cc,Β Γ 0 0,Β (Δ ⟨D.heap.size,0,Γ⟩) 3 3] 30);have HA:=Ag (Aa D (Ε #[.bool Τ,.bool Ξ,.bool Τ] 4)) (Ε #[Β (Δ ⟨J,M,Γ⟩) m cc,Β Γ 0 0,Β (Δ ⟨D.heap.size,0,Γ⟩) 3 3] 30);have H5:=Ϗ D (Ε #[.bool Τ,.bool Ξ,.bool Τ] 4) (Ε #[Β (Δ ⟨J,M,Γ⟩) m cc,Β Γ 0 0,Β (Δ ⟨D.heap.size,0,Γ⟩) 3 3] 30);obtain⟨w4,cu⟩:∃ W,(D.alloc (Ε #[.bool Τ,.bool Ξ,.bool Τ] 4)).alloc (Ε #[Β (Δ ⟨J,M,Γ⟩) m cc,Β Γ 0 0,Β (Δ ⟨D.heap.size,0,Γ⟩) 3 3] 30)=W:=⟨_,rfl⟩;have ig:w4.heap.size=D.heap.size+1+1:=by rw[<-cu,Ρ,Ρ]
  rw[cu] at ai HA H5;simp only[cu];clear cu;have HA:=Α HA;have H5:=Α H5;have gj:=Α (ez.out.trans ai);have gk:=cp;have gl:=U;have gm:=Α ai;have dc:=Α (λi hi=>ai.cell (dc.out i hi));have cp:=Α (cp.out.ext ai);have ar:=Α (ai.heap ar.out);have U:=Α (ai.heap U.out);clear ai f105 bb da;obtain⟨i0,hi,e5,e6,e7⟩:=Ϟ Cp;refine N0 8 60 rfl (by kernel_rfl) (by kernel_rfl) rfl Ext Θ (λ_ _ _ h k=>h.trans k) (Px w4.heap.size m (Β (Δ ⟨J,M,Γ⟩) m cc)) Pw Aii (Aij _ _ _) (λi gn=>?_) (λvs w5 e8 hF hN=>?_)
  ·have fa:=(Θ w4).drew;rcases lt8 i gn with rfl|rfl|rfl|rfl|rfl|rfl|rfl|rfl
   ·refine Bh _ _ rfl rfl rfl λc W hW aj bd aw=>?_
    have h3:c.tmps.getD 4 ς=Β (Δ ⟨J,M,Γ⟩) m cc:=aw 4 (by kernel_rfl);go_simp;exact⟨_,rfl,Θ W,rfl,λj u _ _ h=>by omega⟩
   ·refine Bh _ _ rfl rfl rfl λc W hW aj bd aw=>?_
    have h3:c.tmps.getD 22 ς=Β (Δ ⟨J,M,Γ⟩) m cc:=aj 0 22 (by kernel_rfl);go_simp;exact⟨_,rfl,Θ W,rfl,λj u _ _ h=>by omega⟩
   ·refine Bh _ _ rfl rfl rfl λc W hW aj bd aw=>?_
    have h3:c.tmps.getD 23 ς=iv m:=aj 1 23 (by kernel_rfl);refine Id W _ _ 68 rfl w4.heap.size 3 i0 (.int ε 0) 1 ϔ hi e5 e6 ε ε _ _ m h3 h3 rfl rfl (by rw[e7];omega) (by unfold ϛ;omega) (fa.trans hW).size ?_;intro W' de a7;refine⟨_,rfl,(Θ W).grown a7 (λk e=>by cases e),⟨_,rfl,by rw[<-B6];exact de⟩,λj u _ hu hj=>?_⟩;have dg:j=5\/j=7:=by omega
    rcases dg with rfl|rfl
    ·obtain⟨g',be,bf⟩:=hu;exact Mj be bf _ _
    ·obtain⟨g',be,bf⟩:=hu;exact Mj be bf _ _
   ·refine Bh _ _ rfl rfl rfl λc W hW aj bd aw=>?_
    have h3:c.tmps.getD 4 ς=Β (Δ ⟨J,M,Γ⟩) m cc:=aw 4 (by kernel_rfl);go_simp;exact⟨_,rfl,Θ W,rfl,λj u _ _ h=>by omega⟩
   ·refine Bh _ _ rfl rfl rfl λc W hW aj bd aw=>?_
    have h3:c.tmps.getD 25 ς=Β (Δ ⟨J,M,Γ⟩) m cc:=aj 3 25 (by kernel_rfl);go_simp;exact⟨_,rfl,Θ W,rfl,λj u _ _ h=>by omega⟩
   ·refine Bh _ _ rfl rfl rfl λc W hW aj bd aw=>?_
    have h3:c.tmps.getD 26 ς=iv m:=aj 4 26 (by kernel_rfl);refine Id W _ _ 68 rfl w4.heap.size 3 i0 (.int ε 0) 1 ϔ hi e5 e6 ε ε _ _ m h3 h3 rfl rfl (by rw[e7];omega) (by unfold ϛ;omega) (fa.trans hW).size ?_;intro W' de a7;refine⟨_,rfl,(Θ W).grown a7 (λk e=>by cases e),⟨_,rfl,by rw[<-B6];exact de⟩,λj u _ hu hj=>?_⟩;have dg:j=2\/j=6:=by omega
    rcases dg with rfl|rfl
    ·obtain⟨g',be,bf⟩:=hu;exact Mj be bf _ _
    ·obtain⟨g',be,bf⟩:=hu;exact Mj be bf _ _
   ·refine Ur _ _ rfl rfl rfl λc W hW aj bd aw=>?_
    obtain⟨g,h3,h4⟩:∃ g,c.tmps.getD 24 ς=Β (Δ ⟨g,0,Γ⟩) m m/\W.ownsRow w4.heap.size 3 1 (c.tmps.getD 24 ς) m ((ζ m 0).map iv):=aj 2 24 (by kernel_rfl);rw[h3] at h4;refine C4 (v:=Β (Δ ⟨g,0,Γ⟩) m m) (w':=W) ?_ ?_
    ·simp only[execOp,Act.eval,h3];rfl
    exact⟨_,rfl,Θ W,⟨g,rfl,h4⟩,λj u gp _ hd hj=>by
     have:=hd 2 24 (by kernel_rfl) (by omega) (by omega);rw[h3] at this;exact this⟩
   ·refine Ur _ _ rfl rfl rfl λc W hW aj bd aw=>?_
    obtain⟨g,h3,h4⟩:∃ g,c.tmps.getD 27 ς=Β (Δ ⟨g,0,Γ⟩) m m/\W.ownsRow w4.heap.size 3 1 (c.tmps.getD 27 ς) m ((ζ m 0).map iv):=aj 5 27 (by kernel_rfl);rw[h3] at h4;refine C4 (v:=Β (Δ ⟨g,0,Γ⟩) m m) (w':=W) ?_ ?_
    ·simp only[execOp,Act.eval,h3];rfl
    exact⟨_,rfl,Θ W,⟨g,rfl,h4⟩,λj u gp _ hd hj=>by
     have:=hd 5 27 (by kernel_rfl) (by omega) (by omega);rw[h3] at this;exact this⟩
  ·have v0:vs 0=Β (Δ ⟨J,M,Γ⟩) m cc:=hF 0 (by omega);have v1:vs 1=iv m:=hF 1 (by omega);obtain⟨g2,v2,-⟩:∃ g,vs 2=Β (Δ ⟨g,0,Γ⟩) m m/\_:=hF 2 (by omega);have v3:vs 3=Β (Δ ⟨J,M,Γ⟩) m cc:=hF 3 (by omega);have v4:vs 4=iv m:=hF 4 (by omega);obtain⟨g5,v5,-⟩:∃ g,vs 5=Β (Δ ⟨g,0,Γ⟩) m m/\_:=hF 5 (by omega);obtain⟨T,v6,E⟩:∃ g,vs 6=Β (Δ ⟨g,0,Γ⟩) m m/\_:=hF 6 (by omega);obtain⟨I,v7,G⟩:∃ g,vs 7=Β (Δ ⟨g,0,Γ⟩) m m/\_:=hF 7 (by omega);have dk:T≠I:=λe=>hN 6 7 (by omega) (by omega) (by omega) (by omega) (by rw[v6,v7,e])
   rw[v6] at E;rw[v7] at G;have dm:=(Θ w4).drew.trans e8;simp only[Bq,v0,v1,v2,v3,v4,v5,v6,v7,List.getElem?_toArray,List.getElem?_cons_zero,List.getElem?_cons_succ,Option.bind_some,Ϛ,Ι,Χ,Ψ];clear hF hN v0 v1 v2 v3 v4 v5 v6 v7 e8;have fj:=dm.size;have hA:Br (λq=>if Df c (L.getD q 0#256) then 1 else 2) m 0=ζ m 0:=Hl _ _;have hB:Br (λ_=>2) m 0=ζ m 0:=Hl _ _;rw[<-hA] at E;rw[<-hB] at G;clear hA hB;go_wp2_with (fail);go_loopw [30] (λvk W=>∃ k:Nat,k<=m/\vk=.int ε k/\Ext w4 W/\w4.heap.size<=W.heap.size/\W.ownsRow w4.heap.size 3 1 (Β (Δ ⟨T,0,Γ⟩) m m) m ((Br (λq=>if Df c (L.getD q 0#256) then 1 else 2) m k).map iv)/\
     W.ownsRow w4.heap.size 3 1 (Β (Δ ⟨I,0,Γ⟩) m m) m ((Br (λ_=>2) m k).map iv))
    (λvk _=>m-(intOf vk).toNat)
   case atStart=>exact⟨0,by omega,rfl,dm,fj,E,G⟩
   case round=>
    clear dm fj E G;obtain⟨k,hk,rfl,hE,gq,E,G⟩:=hrel;by_cases a8:k<m
    ·obtain⟨a0,a1,a2,a3⟩:=F6 (W:=wr) (λi hi=>hE.cell (dc.out i (by rw[<-HM.out];exact hi))) k (by rw[HM.out];exact a8);obtain⟨K,hK⟩:∃ K,L.getD k 0#256=K:=⟨_,rfl⟩;rw[hK] at a0 a1 a2 a3;have fq:K≠0#256:=by
      rw[<-hK];exact dd.out.nz _ (by rw[Η,Μ (by rw[HM.out];exact a8)];exact í _)
     obtain⟨im,iq,-⟩:=I1 K fq;obtain⟨z,hz⟩:∃ z:Nat,Bv (Al K 256)=z:=⟨(Bv (Al K 256)).toNat,by omega⟩;have gr:=Α hK;clear hK fq;go_upto_region 9 with (fail)
     obtain⟨wz,cx⟩:∃ W,wr.alloc (Ε (Ab K) 62)=W:=⟨_,rfl⟩;have cy:Ext wr wz:=cx▸(Θ wr).alloc _;have H9:=show wz.heap[wr.heap.size]? = Δ (Ε (Ab K) 62 (0,0)) from cx▸Aa wr _;simp only[cx];clear cx a0 a1 a2 a3;have ir:w4.heap.size<=wr.heap.size:=gq;generalize wr.heap.size=g9 at *;have E:=Ah E cy;have G:=Ah G cy;have hE:=hE.trans cy;have c6:=Am 0 E (C2 _ _ _).symm k (by rw[C2];exact a8);have r6:=E.frozenAt k;obtain⟨dr,aq⟩:=Bk E k 2;rw[show iv 2=ö ε 2 from rfl] at dr aq;have cz:=G.kept aq (.inr λe=>dk (ύ e).symm);have c7:=Am 0 cz (C2 _ _ _).symm k (by rw[C2];exact a8);have r7:=cz.frozenAt k;obtain⟨bp,bq⟩:=Bk cz k 2;rw[show iv 2=ö ε 2 from rfl] at bp bq;rw[F1 (λ_=>2) _ _ a8] at bp;have dt:=dr.kept bq (.inr λe=>dk (ύ e));have fu:w4.heap.size<=T:=(E.lt T rfl).1;have gw:w4.heap.size<=I:=(G.lt I rfl).1;have gx:g9≠T:=λe=>by
      obtain⟨C,hC,-⟩:=Gi E;rw[<-e,H9] at hC;injection hC with h1
      injection h1 with _ h2 _
      exact absurd h2 (by decide)
     have gy:g9≠I:=λe=>by
      obtain⟨C,hC,-⟩:=Gi G;rw[<-e,H9] at hC;injection hC with h1
      injection h1 with _ h2 _
      exact absurd h2 (by decide)
     have H9:=(aq.block g9 (An H9) (by simp[gx])).trans H9;have H9:=(bq.block g9 (An H9) (by simp[gy])).trans H9;have hE:=(hE.grown aq (λk e=>by cases e;exact fu)).grown bq (λk e=>by cases e;exact gw);clear aq bq E G dr cz cy;go_upto_region 10 with (fail)
     clear c6 r6 c7 r7;obtain⟨wy,du⟩:∃ W,(wz.setCell ⟨T,k,Γ⟩ (.int ε 2)).setCell ⟨I,k,Γ⟩ (.int ε 2)=W:=⟨_,rfl⟩;rw[du] at dt bp H9 hE;rw[du];clear du;have H9:=Α H9;have dv:=gj.out.trans hE;have f144:=λW (hW:Ext wy W)=>Α ((Pz K W (cn.out W (dv.trans hW)) (δ bm (dv.trans hW).size)).mono (R':=λe w'=>e=θ (.int ε (z:Int))/\Ext W w') λe w' ⟨h1,h2,_⟩=>⟨by rw[h1,hz],h2⟩)
     have f131:=λW=>Α (Wt c (z:Int) (by omega) (by omega) W)
     have fv:(if Df c (L.getD k 0#256) then 1 else 2:Nat)=if Aw c (z:Int) then 1 else 2:=by rw[gr.out];unfold Df;rw[hz]
     have fw:=Α fv;have gz:IntKind.u8.wrap (z:Int)=(z:Int):=IntWalk.u8_in _ ⟨by omega,by omega⟩;obtain⟨bx,dw⟩:∃ b,Aw c (z:Int)=b:=⟨_,rfl⟩;rw[dw] at f131;have fx:=Α dw;have hf:=Α (hE.heap ar.out);clear fv dw hz dv;refine B2 4 [(0,Ξ),(1,Ξ),(2,Τ),(3,Ξ),(4,Τ)] (by kernel_rfl) (by kernel_rfl) (λ_ _ _ _ h=>h) (λV=>Ext wy V) (Θ wy).drew ?_;have bu:=(Θ wy).drew;obtain⟨wx,dx⟩:∃ V,wy.drew=V:=⟨_,rfl⟩;rw[dx] at bu;rw[dx];clear dx;refine Ao (v:=.agg (Ab c)) rfl rfl (λV hV=>?_) ?_
     ·exact D2 62 (η 1) rfl w.heap.size rfl _ _ _ _ (hV.heap hf.out) ϑ rfl Bf
     simp only[Ϛ,Ι,Χ,Ψ];refine Ao (v:=.agg (Ab K)) rfl rfl (λV hV=>?_) ?_
     ·exact D2 62 (η 9) rfl g9 rfl _ _ _ _ (hV.heap H9.out) ϑ rfl Bf
     simp only[Ϛ,Ι,Χ,Ψ];refine A5 rfl (λKk hK=>?_);go_simp
     (with_reducible refine (f144 wx bu).out.mono ?_)
     rintro e w7 ⟨rfl,bl⟩;refine hK _ _ (λ_=>bu.trans bl) ?_;clear hK Kk;refine Ao (v:=.int .u8 (z:Int)) rfl rfl (λV _=>?_) ?_
     ·go_simp
     simp only[Ϛ,Ι,Χ,Ψ];refine A5 rfl (λKk hK=>?_);go_simp
     (with_reducible refine (f131 w7).out.mono ?_)
     rintro e w8 ⟨rfl,fy⟩;refine hK _ _ (λh=>absurd h (by omega)) ?_;clear hK Kk;refine B3 ?_;have c1:=(bu.trans bl).trans fy;have ba:=Ah dt c1;have bw:=Ah bp c1;have ax:=hE.trans c1;have fz:=ax.size;clear dt bp hE bu bl fy c1 f131 f144 gz;cases bx
     ·have e2:(Br (λq=>if Df c (L.getD q 0#256) then 1 else 2) m k).set k 2=Br (λq=>if Df c (L.getD q 0#256) then 1 else 2) m (k+1):=by
       rw[<-F1 _ _ _ a8]
       congr 1
       show 2=if Df c (L.getD k 0#256) then 1 else 2
       rw[fw.out,fx.out];rfl
      rw[e2] at ba;clear e2;go_wp2;go_roundw
      case rel=>exact⟨k+1,by omega,by go_num,ax,fz,ba,bw⟩
      case measure=>simp[intOf];omega
     ·have c6:=Am 0 ba (by rw[ϒ,C2]) k (by rw[ϒ,C2];exact a8);have r6:=ba.frozenAt k;obtain⟨eb,aq⟩:=Bk ba k 1;have e2:((Br (λq=>if Df c (L.getD q 0#256) then 1 else 2) m k).set k 2).set k 1=Br (λq=>if Df c (L.getD q 0#256) then 1 else 2) m (k+1):=by
       rw[List.set_set,<-F1 _ _ _ a8]
       congr 1
       show 1=if Df c (L.getD k 0#256) then 1 else 2
       rw[fw.out,fx.out];rfl
      rw[e2] at eb;rw[show iv 1=ö ε 1 from rfl] at eb aq;have hp:=bw.kept aq (.inr λe=>dk (ύ e).symm);have ga:=ax.grown aq (λk e=>by cases e;exact fu);have hq:=ga.size;clear e2 aq ba bw ax fz;go_wp2;go_roundw
      case rel=>exact⟨k+1,by omega,by go_num,ga,hq,eb,hp⟩
      case measure=>simp[intOf];omega
    ·obtain rfl:m=k:=by omega
     rw[Jd] at E G;have b4:((ι m).map λ_=>2).length=m:=by simp
     have f145:=Al9 ((ι m).map λ_=>2) (by rw[b4];exact e0) (by rw[b4];omega) I 0 m wr (λs hs=>by rw[é];exact Am 0 G b4.symm s hs);rw[b4] at f145;have f145:=Α f145;clear b4;go_upto_region 14 with (go_at_call 145;(with_reducible refine f145.out.mono ?_);rintro e w9 ⟨gc,ag,rfl,al,c2⟩;have E:=Ah E c2;have G:=Ah G c2;have hE:=hE.trans c2;have b5:=hE.heap H5.out;have cF:=(γ (w9.alloc (Ε #[Β (Δ ⟨T,0,Γ⟩) m m,Β (Δ ⟨I,0,Γ⟩) m m,Β (Δ ⟨gc,0,Γ⟩) m ag] 68)) _ 1 _ _ _ (Ag b5 (Ε #[Β (Δ ⟨T,0,Γ⟩) m m,Β (Δ ⟨I,0,Γ⟩) m m,Β (Δ ⟨gc,0,Γ⟩) m ag] 68))).trans (show (#[Β (Δ ⟨J,M,Γ⟩) m cc,Β Γ 0 0,Β (Δ ⟨D.heap.size,0,Γ⟩) 3 3]:Array Ν)[1]? = Δ (Β Γ 0 0) from rfl);have fF:=frozen_of_row (w9.alloc (Ε #[Β (Δ ⟨T,0,Γ⟩) m m,Β (Δ ⟨I,0,Γ⟩) m m,Β (Δ ⟨gc,0,Γ⟩) m ag] 68)) _ 1 _ _ (Ag b5 (Ε #[Β (Δ ⟨T,0,Γ⟩) m m,Β (Δ ⟨I,0,Γ⟩) m m,Β (Δ ⟨gc,0,Γ⟩) m ag] 68)))
     have ec:=setCell_eq_setRow (w9.alloc (Ε #[Β (Δ ⟨T,0,Γ⟩) m m,Β (Δ ⟨I,0,Γ⟩) m m,Β (Δ ⟨gc,0,Γ⟩) m ag] 68)) (D.heap.size+1) 1 _ 30 (0,0) (Β (Δ ⟨w9.heap.size,0,Γ⟩) 3 3) (Ag b5 (Ε #[Β (Δ ⟨T,0,Γ⟩) m m,Β (Δ ⟨I,0,Γ⟩) m m,Β (Δ ⟨gc,0,Γ⟩) m ag] 68));have gb:(#[Β (Δ ⟨J,M,Γ⟩) m cc,Β Γ 0 0,Β (Δ ⟨D.heap.size,0,Γ⟩) 3 3]:Array Ν).setIfInBounds 1 (Β (Δ ⟨w9.heap.size,0,Γ⟩) 3 3)=dA (Β (Δ ⟨J,M,Γ⟩) m cc) (Β (Δ ⟨w9.heap.size,0,Γ⟩) 3 3) (Β (Δ ⟨D.heap.size,0,Γ⟩) 3 3):=rfl;rw[gb] at ec;rw[ec];clear cF fF ec gb;have bj:=Ag b5 (Ε #[Β (Δ ⟨T,0,Γ⟩) m m,Β (Δ ⟨I,0,Γ⟩) m m,Β (Δ ⟨gc,0,Γ⟩) m ag] 68);have ay:=Aa w9 (Ε #[Β (Δ ⟨T,0,Γ⟩) m m,Β (Δ ⟨I,0,Γ⟩) m m,Β (Δ ⟨gc,0,Γ⟩) m ag] 68);have ed:=(gm.out.trans hE).alloc (Ε #[Β (Δ ⟨T,0,Γ⟩) m m,Β (Δ ⟨I,0,Γ⟩) m m,Β (Δ ⟨gc,0,Γ⟩) m ag] 68);have ee:=Ag (hE.heap HA.out) (Ε #[Β (Δ ⟨T,0,Γ⟩) m m,Β (Δ ⟨I,0,Γ⟩) m m,Β (Δ ⟨gc,0,Γ⟩) m ag] 68);have E:=E.alloc (Ε #[Β (Δ ⟨T,0,Γ⟩) m m,Β (Δ ⟨I,0,Γ⟩) m m,Β (Δ ⟨gc,0,Γ⟩) m ag] 68);have G:=G.alloc (Ε #[Β (Δ ⟨T,0,Γ⟩) m m,Β (Δ ⟨I,0,Γ⟩) m m,Β (Δ ⟨gc,0,Γ⟩) m ag] 68);have al:w9.ownsRow wr.heap.size 3 1 (Β (Δ ⟨gc,0,Γ⟩) m ag) m (((ι m).map λ_=>2).map iv):=by
      have:=al;unfold OwnI at this;rw[show ((ι m).map λ_=>2).length=m by simp] at this;exact this
     have al:=al.alloc (Ε #[Β (Δ ⟨T,0,Γ⟩) m m,Β (Δ ⟨I,0,Γ⟩) m m,Β (Δ ⟨gc,0,Γ⟩) m ag] 68);obtain⟨ef,eg⟩:∃ W,w9.alloc (Ε #[Β (Δ ⟨T,0,Γ⟩) m m,Β (Δ ⟨I,0,Γ⟩) m m,Β (Δ ⟨gc,0,Γ⟩) m ag] 68)=W:=⟨_,rfl⟩;rw[eg] at bj ay ed ee E G al;simp only[eg];clear eg b5;have a7:=Cd ef (D.heap.size+1) (dA (Β (Δ ⟨J,M,Γ⟩) m cc) (Β (Δ ⟨w9.heap.size,0,Γ⟩) 3 3) (Β (Δ ⟨D.heap.size,0,Γ⟩) 3 3));have E:=E.kept a7 (Dr E bj (by decide));have G:=G.kept a7 (Dr G bj (by decide));have al:=al.kept a7 (Dr al bj (by decide));have hy:w9.heap.size≠D.heap.size+1:=λe=>by
      rw[e,bj] at ay;injection ay with h1
      injection h1 with _ h2 _
      exact absurd h2 (by decide)
     have ay:=B7 ay hy (dA (Β (Δ ⟨J,M,Γ⟩) m cc) (Β (Δ ⟨w9.heap.size,0,Γ⟩) 3 3) (Β (Δ ⟨D.heap.size,0,Γ⟩) 3 3));have c3:=B7 ee (show D.heap.size≠D.heap.size+1 by omega) (dA (Β (Δ ⟨J,M,Γ⟩) m cc) (Β (Δ ⟨w9.heap.size,0,Γ⟩) 3 3) (Β (Δ ⟨D.heap.size,0,Γ⟩) 3 3));have eh:=μ ef _ _ (dA (Β (Δ ⟨J,M,Γ⟩) m cc) (Β (Δ ⟨w9.heap.size,0,Γ⟩) 3 3) (Β (Δ ⟨D.heap.size,0,Γ⟩) 3 3)) _ _ bj;have b6:=ed.setRow (show D.heap.size<=D.heap.size+1 by omega) (dA (Β (Δ ⟨J,M,Γ⟩) m cc) (Β (Δ ⟨w9.heap.size,0,Γ⟩) 3 3) (Β (Δ ⟨D.heap.size,0,Γ⟩) 3 3));generalize w9.heap.size=gd at *;obtain⟨an,ei⟩:∃ W,ef.setRow (D.heap.size+1) (dA (Β (Δ ⟨J,M,Γ⟩) m cc) (Β (Δ ⟨gd,0,Γ⟩) 3 3) (Β (Δ ⟨D.heap.size,0,Γ⟩) 3 3))=W:=⟨_,rfl⟩;rw[ei] at E G al ay c3 eh b6;simp only[ei];clear ei bj ed ee a7;have gf:IsD an (.agg (dA (Β (Δ ⟨J,M,Γ⟩) m cc) (Β (Δ ⟨gd,0,Γ⟩) 3 3) (Β (Δ ⟨D.heap.size,0,Γ⟩) 3 3))) (Cv L (Df c)):=by
      have ba:(ι m).map (λq=>if Df c (L.getD q 0#256) then 1 else 2)=L.map λk=>if Df c k then 1 else 2:=by rw[<-HM.out];exact Vu L (λk=>if Df c k then 1 else 2)
      have bw:(ι m).map (λ_=>2)=L.map λ_=>2:=by rw[<-HM.out];exact Vu L (λ_=>2)
      rw[ba] at E;rw[bw] at G al;have ints:∀ {base:Nat} {v:Ν} {r:List Nat},an.ownsRow base 3 1 v m (r.map iv)->r.length=m->Ints an v r:=λ{base v r} h hl=>by
       have:OwnI an base v r:=by unfold OwnI;rw[hl];exact h
       exact this.ints (by omega)
      refine⟨_,_,_,rfl,gk.out.ext b6,⟨[Β (Δ ⟨T,0,Γ⟩) m m,Β (Δ ⟨I,0,Γ⟩) m m,Β (Δ ⟨gc,0,Γ⟩) m ag],rfl,?_,λi hi=>?_⟩,?_⟩
      ·refine⟨by show (3:Nat)<=_;omega,.inr ⟨by show 0<3;omega,_,0,3,rfl,An ay,λi hi=>?_⟩⟩;have hi:i<3:=by have:i<3*1:=hi;omega
       rw[é,γ an _ i _ _ _ ay]
       match i,hi with
       | 0,_=>rfl
       | 1,_=>rfl
       | 2,_=>rfl
      ·have hi:i<3:=hi
       match i,hi with
       | 0,_=>exact (show Ints an _ (L.map λk=>if Df c k then 1 else 2) from ints E (by rw[ϋ];exact HM.out))
       | 1,_=>exact (show Ints an _ (L.map λ_=>2) from ints G (by rw[ϋ];exact HM.out))
       | 2,_=>exact (show Ints an _ (L.map λ_=>2) from ints al (by rw[ϋ];exact HM.out))
      ·refine⟨by show (3:Nat)<=_;omega,.inr ⟨by show 0<3;omega,_,0,3,rfl,An c3,λi hi=>?_⟩⟩;have hi:i<3:=by have:i<3*1:=hi;omega
       rw[é,γ an _ i _ _ _ c3]
       match i,hi with
       | 0,_=>rfl
       | 1,_=>rfl
       | 2,_=>rfl
     have ax:=ez.out.trans b6;have h5:=Α (Jn (Cv L (Df c)) (Aik dd.out _) (by show (3:Nat)<=64;omega) _ an (cn.out an ax) (δ bm ax.size) gf);have U:=Α (b6.heap gl.out);have HX:=Α eh;have h7:=Α ax;have h8:=Α (λu=>Ail dd.out (Df c) c (λb hb=>Ajs ey.out b hb) u);clear gf ax eh c3 ay E G al hE c2 f145 b6;go_wp2_with (first
      | (refine Ο rfl 30 (η 5) rfl _ rfl _ _ _ _ HX.out Κ rfl Ad ?_)
      | (go_at_call 28;(with_reducible refine h5.out.mono ?_);rintro e ej ⟨r,bk,b7,b8,b9⟩;obtain⟨ca,cb,cd,cf,cg,ch,cj,ck,cl,k2,rfl⟩:=bk.form;have en:=Α bk;have cm:=Α b7;have eo:=Α b8;clear bk b7 b8;have U:=Α (b9.heap U.out))
      | (refine Φ rfl 30 (η 2) (η 58) rfl _ _ rfl rfl _ _ U.out Ad rfl (Aq _ _ _ rfl rfl rfl) ?_))
     refine ω (v:=ϙ #[.agg (dA (Β ca cb cd) (Β cf cg ch) (Β cj ck cl)),.int ε k2]) (A3 rfl _ _ _ _ _ _ _ rfl _ rfl (μ ej _ _ (dA (Β ca cb cd) (Β cf cg ch) (Β cj ck cl)) 30 (0,0) U.out) Κ rfl Ad) rfl ?_;exact⟨r,en.out.setRow (λd' h=>by injection h with h;subst h;exact cm.out.val) U.out _,cm.out,λu=>by rw[eo.out];exact h8.out u,(h7.out.trans b9).setRow (by omega) _⟩
 ·have f117:=λW (hW:Ext w W)=>Α (Vg W (cn.out W hW) (δ bm hW.size))
  go_wp2_with (first
   | (refine Ο rfl 62 (η 1) rfl _ rfl _ _ _ _ ar.out ϑ rfl Bf ?_)
   | (go_at_call 105;(with_reducible refine (f105 _).out.mono ?_);rintro e w2 ⟨rfl,az⟩;have bb:=Α (da.out.trans az);have U:=Α (az.heap U.out);clear az)
   | (go_at_call 117;(with_reducible refine (f117 _ bb.out).out.mono ?_);rintro e ej ⟨r,bk,b7,b8,b9⟩;obtain⟨ca,cb,cd,cf,cg,ch,cj,ck,cl,k2,rfl⟩:=bk.form;have en:=Α bk;have cm:=Α b7;have eo:=Α b8;clear bk b7 b8;have U:=Α (b9.heap U.out))
   | (refine Φ rfl 30 (η 2) (η 14) rfl _ _ rfl rfl _ _ U.out Ad rfl (Aq _ _ _ rfl rfl rfl) ?_))
  refine ω (v:=ϙ #[.agg (dA (Β ca cb cd) (Β cf cg ch) (Β cj ck cl)),.int ε k2]) (A3 rfl _ _ _ _ _ _ _ rfl _ rfl (μ ej _ _ (dA (Β ca cb cd) (Β cf cg ch) (Β cj ck cl)) 30 (0,0) U.out) Κ rfl Ad) rfl ?_;refine⟨r,en.out.setRow (λd' h=>by injection h with h;subst h;exact cm.out.val) U.out _,cm.out,λu=>?_,(bb.out.trans b9).setRow (by omega) _⟩;rw[eo.out];have ib:=gi.out.1 (by simp);constructor
  ·intro h;cases h
  ·rintro⟨x,_,hx⟩;rw[ib] at hx;simp at hx
def rnA (k l r:Nat) (c:Cls) (mn:Nat) (mx:Int):Array Ν:=#[iv k,.int π (wd c 0),.int π (wd c 1),.int π (wd c 2),.int π (wd c 3),iv l,iv r,iv mn,.int ε mx]
def DsAt (W:Λ) (b o:Nat) (ds:List Dfa):Prop:=∀ i,i<ds.length->∃ D E G,W.rangeAt b (o+i*3) [D,E,G]/\IsD W (.agg #[D,E,G]) (ds.getD i dN)
theorem DsAt.ext {W W':Λ} {b o:Nat} {ds:List Dfa} (h:DsAt W b o ds) (D:Ext W W'):DsAt W' b o ds:=λi hi=>by
 obtain⟨E,G,I,J,M⟩:=h i hi;exact⟨E,G,I,λj v T=>D.cell (J j v T),M.ext D⟩
theorem Qc:(Ζ.info? 64).map (·.size)=Δ 9:=by kernel_rfl
theorem F0 (D E G:Ν):(Ζ.info? 30).map (·.size)=Δ [D,E,G].length:=by kernel_rfl
theorem Fk (D E G I:Ν):(Ζ.info? 62).map (·.size)=Δ [D,E,G,I].length:=by kernel_rfl
theorem T8 {d:Dfa} (hd:Val d) (ad:d.n.length<=64) {G:Nat} {hi:Int} {r:Option Dfa} (h:Ia d G hi r) (q:Dfa) (U:r=Δ q):Val q/\q.n.length<=64:=by
 subst U;obtain⟨e,he,p,h1,D⟩:=h;have ae:=Mo (show Fit e (λw=>w=[]) from he);cases p with
 | none=>cases (show Δ q=Γ from D)
 | some p=>
  obtain⟨I,J⟩:=Kf G e p he.1.val (by omega) h1;unfold E0 at D;simp only at D;by_cases M:hi=G
  ·rw[if_pos M] at D;injection D with D
   subst D;exact⟨I,J⟩
  ·rw[if_neg M] at D;by_cases T:hi<0
   ·rw[if_pos T] at D;obtain⟨s,h3,E⟩:=D;cases s with
    | none=>cases (show Δ q=Γ from E)
    | some s=>exact Jm (show E8 p s (Δ q) from E) q rfl
   ·rw[if_neg T] at D;obtain⟨s,h3,E⟩:=D;cases s with
    | none=>cases (show Δ q=Γ from E)
    | some s=>exact Kf _ p q I J (show Ee p s _ (Δ q) from E)
def okD (ds:List Dfa):Prop:=∀ i,i<ds.length->Val (ds.getD i dN)/\(ds.getD i dN).n.length<=64
theorem Agn (k l r:Nat) (c:Cls) (mn:Nat) (mx:Int) (ds:List Dfa) (hg:(RNode.mk k l r c mn mx).good ds.length) (cq:mn<=16) (cr:mx=-1\/(mn:Int)<=mx) (ct:mx<=16) (ck:okD ds) (b o N cu:Nat) (hN:ds.length<=N) (c2:N<=200) (w:Λ) (hT:Tab w) (bh:0<w.heap.size) (cm:DsAt w b o ds) :
  ϓ Ζ 83 #[.agg (rnA k l r c mn mx),Β (Δ ⟨b,o,Γ⟩) N cu] w λe w'=>∃ q,ResOf w' e q/\G0 (RNode.mk k l r c mn mx) ds q/\Ext w w':=by
 have bx:=Α (λW (D:Ext w W)=>hT.below D.below bh);have bj:=Α ck;have bk:=Α cm;have cg:=((Θ w).alloc (Ε (rnA k l r c mn mx) 64)).alloc (Ε #[Β Γ 0 0,Β Γ 0 0,Β Γ 0 0] 30);have H2:=Ag (Aa w (Ε (rnA k l r c mn mx) 64)) (Ε #[Β Γ 0 0,Β Γ 0 0,Β Γ 0 0] 30);have E:=Ϗ w (Ε (rnA k l r c mn mx) 64) (Ε #[Β Γ 0 0,Β Γ 0 0,Β Γ 0 0] 30);obtain⟨g1,g2,g3,g4,g5⟩:=hg;simp only at g1 g2 g3 g4 g5;have f117:=λW (D:Ext w W)=>Α (Vg W (bx.out W D) (δ bh D.size))
 have f45:=λW (D:Ext w W)=>Α (N4 [] (by simp) _ W (Yu W))
 have f118:=λW (D:Ext w W)=>Α (Aih c W (bx.out W D) (δ bh D.size))
 clear hT ck cm;go_enter Tryz.func83,Tryz.ntmps83;go_upto_region 1 with (fail)
 obtain⟨w1,cj⟩:∃ W,(w.alloc (Ε (rnA k l r c mn mx) 64)).alloc (Ε #[Β Γ 0 0,Β Γ 0 0,Β Γ 0 0] 30)=W:=⟨_,rfl⟩;rw[cj] at cg H2 E;simp only[cj];clear cj;have bd:=Α (λ(W:Λ) (D:W.heap[w.heap.size]? = Δ (Ε (rnA k l r c mn mx) 64 (0,0)))=>(⟨(γ W _ 0 _ _ _ D).trans rfl,(γ W _ 5 _ _ _ D).trans rfl,(γ W _ 6 _ _ _ D).trans rfl,(γ W _ 7 _ _ _ D).trans rfl,(γ W _ 8 _ _ _ D).trans rfl⟩ :
  W.cell? ⟨w.heap.size,0,Γ⟩=Δ (iv k)/\W.cell? ⟨w.heap.size,5,Γ⟩=Δ (iv l)/\W.cell? ⟨w.heap.size,6,Γ⟩=Δ (iv r)/\W.cell? ⟨w.heap.size,7,Γ⟩=Δ (iv mn)/\W.cell? ⟨w.heap.size,8,Γ⟩=Δ (.int ε mx)))
 have cn:w1.rangeAt w.heap.size 1 [.int π (wd c 0),.int π (wd c 1),.int π (wd c 2),.int π (wd c 3)]:=λj v hj=>by
  rw[γ w1 _ _ _ _ _ H2]
  match j,hj with
  | 0,hj=>exact hj
  | 1,hj=>exact hj
  | 2,hj=>exact hj
  | 3,hj=>exact hj
 have cy:=Α cn;have H2:=Α H2;have E:=Α E;have ao:=Α cg;clear cg cn;have hk:=(bd.out w1 H2.out).1;have cz:k=1\/k=2\/k=3\/k=4\/k=5\/k=6\/k=7\/k=8:=by omega
 rcases cz with rfl|rfl|rfl|rfl|rfl|rfl|rfl|rfl
 ·go_wp2_with (first
  | (go_at_call 117;(with_reducible refine (f117 _ ao.out).out.mono ?_);rintro e w2 ⟨re,M,a7,a8,I⟩;obtain⟨T,U,aa,ab,ad,ae,af,ag,ah,k1,rfl⟩:=M.form;have ar:=Α M;have ba:=Α a7;have bz:=Α a8;have aj:=Α (ao.out.trans I);have E:=Α (I.heap E.out);clear M a7 a8 I)
  | (refine Φ rfl 30 (η 4) (η 11) rfl _ _ rfl rfl _ _ E.out Ad rfl (Aq _ _ _ rfl rfl rfl) ?_))
  refine ω (v:=ϙ #[.agg (dA (Β T U aa) (Β ab ad ae) (Β af ag ah)),.int ε k1]) (A3 rfl _ _ _ _ _ _ _ rfl _ rfl (μ w2 _ _ (dA (Β T U aa) (Β ab ad ae) (Β af ag ah)) 30 (0,0) E.out) Κ rfl Ad) rfl ?_;refine⟨Δ re,ar.out.setRow (λd' h=>by injection h with h;subst h;exact ba.out.val) E.out _,?_,aj.out.setRow (by omega) _⟩;show Fr _ _;exact⟨re,rfl,ba.out,λu=>by rw[bz.out];simp⟩
 ·go_wp2_with (first
  | (go_at_call 45;(with_reducible refine (f45 _ ao.out).out.mono ?_);rintro e w2 ⟨re,M,a7,a8,I⟩;obtain⟨T,U,aa,ab,ad,ae,af,ag,ah,k1,rfl⟩:=M.form;have ar:=Α M;have ba:=Α a7;have bz:=Α a8;have aj:=Α (ao.out.trans I);have E:=Α (I.heap E.out);clear M a7 a8 I)
  | (refine Φ rfl 30 (η 4) (η 16) rfl _ _ rfl rfl _ _ E.out Ad rfl (Aq _ _ _ rfl rfl rfl) ?_))
  refine ω (v:=ϙ #[.agg (dA (Β T U aa) (Β ab ad ae) (Β af ag ah)),.int ε k1]) (A3 rfl _ _ _ _ _ _ _ rfl _ rfl (μ w2 _ _ (dA (Β T U aa) (Β ab ad ae) (Β af ag ah)) 30 (0,0) E.out) Κ rfl Ad) rfl ?_;refine⟨Δ re,ar.out.setRow (λd' h=>by injection h with h;subst h;exact ba.out.val) E.out _,?_,aj.out.setRow (by omega) _⟩;show Fr _ _;exact⟨re,rfl,ba.out,bz.out⟩
 ·go_wp2_with (first
  | (refine wpList_load_mid rfl 62 (η 20) rfl _ 1 rfl _ _ cy.out ϑ rfl (Fk _ _ _ _) ?_)
  | (go_at_call 118;(with_reducible refine (f118 _ ao.out).out.mono ?_);rintro e w2 ⟨re,M,a7,a8,I⟩;obtain⟨T,U,aa,ab,ad,ae,af,ag,ah,k1,rfl⟩:=M.form;have ar:=Α M;have ba:=Α a7;have bz:=Α a8;have aj:=Α (ao.out.trans I);have E:=Α (I.heap E.out);clear M a7 a8 I)
  | (refine Φ rfl 30 (η 4) (η 23) rfl _ _ rfl rfl _ _ E.out Ad rfl (Aq _ _ _ rfl rfl rfl) ?_))
  refine ω (v:=ϙ #[.agg (dA (Β T U aa) (Β ab ad ae) (Β af ag ah)),.int ε k1]) (A3 rfl _ _ _ _ _ _ _ rfl _ rfl (μ w2 _ _ (dA (Β T U aa) (Β ab ad ae) (Β af ag ah)) 30 (0,0) E.out) Κ rfl Ad) rfl ?_;refine⟨Δ re,ar.out.setRow (λd' h=>by injection h with h;subst h;exact ba.out.val) E.out _,?_,aj.out.setRow (by omega) _⟩;show Fr _ _;exact⟨re,rfl,ba.out,bz.out⟩
 ·obtain⟨ay,bl⟩:=g1 (by simp);obtain⟨x1,x2,x3,az,a1⟩:=bk.out l ay;obtain⟨y1,y2,y3,bp,bq⟩:=bk.out r bl;obtain⟨be,bf⟩:=bj.out l ay;obtain⟨b8,b9⟩:=bj.out r bl;have cf:l<N:=by omega
  have cp:r<N:=by omega
  have bg:=Α (λ(W:Λ) (D:Ext w W) j v hj=>D.cell (az j v hj));have ca:=Α (λ(W:Λ) (D:Ext w W) j v hj=>D.cell (bp j v hj));have fc:=λW (D:Ext w W)=>Α (Q2 (ds.getD l dN) (ds.getD r dN) be b8 bf b9 _ _ W (bx.out W D) (δ bh D.size) (a1.ext D) (bq.ext D))
  clear az bp a1 bq;go_upto_region 9 with (fail)
  clear hk;refine B2 14 [(0,Ξ),(1,Ξ),(2,Ξ),(3,Ξ),(4,Ξ),(5,Ξ),(6,Ξ),(7,Ξ),(8,Ξ),(9,Ξ),(10,Τ),(11,Ξ),(12,Ξ),(13,Τ),(14,Τ)] (by kernel_rfl) (by kernel_rfl) (λ_ _ _ _ h=>h)
   (λV=>Ext w V/\V.heap[w.heap.size]? = Δ (Ε (rnA 4 l r c mn mx) 64 (0,0))) ⟨ao.out.trans (Θ w1).drew,(Θ w1).drew.heap H2.out⟩ ?_
  have ak:Ext w w1.drew/\w1.drew.heap[w.heap.size]? = Δ (Ε (rnA 4 l r c mn mx) 64 (0,0)):=⟨ao.out.trans (Θ w1).drew,(Θ w1).drew.heap H2.out⟩;have au:=(Θ w1).drew.heap E.out;obtain⟨wy,aw⟩:∃ V,w1.drew=V:=⟨_,rfl⟩;rw[aw] at ak au;rw[aw];clear aw;iterate 4
   refine Ao (v:=?_) rfl rfl (λV G=>?_) ?_
   rotate_left
   ·obtain⟨c0,c5,c6,c7,c8⟩:=bd.out V G.2;clear G;go_simp;first|done|with_reducible rfl
   simp only[Ϛ,Ι,Χ,Ψ]
  refine Ao (v:=.agg #[x1,x2,x3]) rfl rfl (λV G=>?_) ?_
  ·exact Fl 30 (η 30) rfl b (o+l*3) rfl _ _ (bg.out V G.1) Κ rfl (F0 _ _ _)
  simp only[Ϛ,Ι,Χ,Ψ];iterate 4
   refine Ao (v:=?_) rfl rfl (λV G=>?_) ?_
   rotate_left
   ·obtain⟨c0,c5,c6,c7,c8⟩:=bd.out V G.2;clear G;go_simp;first|done|with_reducible rfl
   simp only[Ϛ,Ι,Χ,Ψ]
  refine Ao (v:=.agg #[y1,y2,y3]) rfl rfl (λV G=>?_) ?_
  ·exact Fl 30 (η 35) rfl b (o+r*3) rfl _ _ (ca.out V G.1) Κ rfl (F0 _ _ _)
  simp only[Ϛ,Ι,Χ,Ψ];refine A5 rfl (λKk J=>?_);go_simp
  (with_reducible refine (fc wy ak.1).out.mono ?_)
  rintro e w2 ⟨re,M,hrel,I⟩;obtain⟨T,U,aa,ab,ad,ae,af,ag,ah,k1,rfl⟩:=M.form;have E:=Α (I.heap au);have ar:=Α M;have bb:=Α hrel;have aj:=Α (ak.1.trans I);have bc:=Α (I.heap ak.2);clear M hrel fc au;refine J _ _ (λ_=>⟨aj.out,bc.out⟩) ?_;clear J Kk;refine Ao (v:=.agg (dA (Β T U aa) (Β ab ad ae) (Β af ag ah))) rfl rfl (λV _=>?_) ?_
  ·go_simp
  simp only[Ϛ,Ι,Χ,Ψ];refine Ao (v:=.int ε k1) rfl rfl (λV _=>?_) ?_
  ·go_simp
  simp only[Ϛ,Ι,Χ,Ψ];refine A5 rfl (λKk J=>?_);refine Gf 30 (η 4) (η 38) rfl rfl _ _ rfl rfl _ _ E.out Ad rfl (Aq _ _ _ rfl rfl rfl) ?_;refine J _ _ (λ_=>⟨aj.out.setRow (show w.heap.size<=w.heap.size+1 by omega) _,B7 bc.out (show w.heap.size≠w.heap.size+1 by omega) _⟩) ?_;clear J Kk;refine A5 rfl (λKk J=>?_);go_simp;refine J _ _ (λh=>absurd h (by omega)) ?_;clear J Kk;refine B3 ?_;clear ak I;go_wp2;refine ω (v:=ϙ #[.agg (dA (Β T U aa) (Β ab ad ae) (Β af ag ah)),.int ε k1]) (A3 rfl _ _ _ _ _ _ _ rfl _ rfl (μ w2 _ _ (dA (Β T U aa) (Β ab ad ae) (Β af ag ah)) 30 (0,0) E.out) Κ rfl Ad) rfl ?_;refine⟨re,ar.out.setRow (λd' h=>(Jm bb.out d' h).1) E.out _,?_,aj.out.setRow (by omega) _⟩;exact bb.out
 ·obtain⟨ay,bl⟩:=g1 (by simp);obtain⟨x1,x2,x3,az,a1⟩:=bk.out l ay;obtain⟨y1,y2,y3,bp,bq⟩:=bk.out r bl;obtain⟨be,bf⟩:=bj.out l ay;obtain⟨b8,b9⟩:=bj.out r bl;have cf:l<N:=by omega
  have cp:r<N:=by omega
  have bg:=Α (λ(W:Λ) (D:Ext w W) j v hj=>D.cell (az j v hj));have ca:=Α (λ(W:Λ) (D:Ext w W) j v hj=>D.cell (bp j v hj));have fc:=λW (D:Ext w W)=>Α (Pe (ds.getD l dN) (ds.getD r dN) be b8 bf b9 _ _ W (bx.out W D) (δ bh D.size) (a1.ext D) (bq.ext D))
  clear az bp a1 bq;go_upto_region 11 with (fail)
  clear hk;refine B2 14 [(0,Ξ),(1,Ξ),(2,Ξ),(3,Ξ),(4,Ξ),(5,Ξ),(6,Ξ),(7,Ξ),(8,Ξ),(9,Ξ),(10,Τ),(11,Ξ),(12,Ξ),(13,Τ),(14,Τ)] (by kernel_rfl) (by kernel_rfl) (λ_ _ _ _ h=>h)
   (λV=>Ext w V/\V.heap[w.heap.size]? = Δ (Ε (rnA 5 l r c mn mx) 64 (0,0))) ⟨ao.out.trans (Θ w1).drew,(Θ w1).drew.heap H2.out⟩ ?_
  have ak:Ext w w1.drew/\w1.drew.heap[w.heap.size]? = Δ (Ε (rnA 5 l r c mn mx) 64 (0,0)):=⟨ao.out.trans (Θ w1).drew,(Θ w1).drew.heap H2.out⟩;have au:=(Θ w1).drew.heap E.out;obtain⟨wy,aw⟩:∃ V,w1.drew=V:=⟨_,rfl⟩;rw[aw] at ak au;rw[aw];clear aw;iterate 4
   refine Ao (v:=?_) rfl rfl (λV G=>?_) ?_
   rotate_left
   ·obtain⟨c0,c5,c6,c7,c8⟩:=bd.out V G.2;clear G;go_simp;first|done|with_reducible rfl
   simp only[Ϛ,Ι,Χ,Ψ]
  refine Ao (v:=.agg #[x1,x2,x3]) rfl rfl (λV G=>?_) ?_
  ·exact Fl 30 (η 45) rfl b (o+l*3) rfl _ _ (bg.out V G.1) Κ rfl (F0 _ _ _)
  simp only[Ϛ,Ι,Χ,Ψ];iterate 4
   refine Ao (v:=?_) rfl rfl (λV G=>?_) ?_
   rotate_left
   ·obtain⟨c0,c5,c6,c7,c8⟩:=bd.out V G.2;clear G;go_simp;first|done|with_reducible rfl
   simp only[Ϛ,Ι,Χ,Ψ]
  refine Ao (v:=.agg #[y1,y2,y3]) rfl rfl (λV G=>?_) ?_
  ·exact Fl 30 (η 50) rfl b (o+r*3) rfl _ _ (ca.out V G.1) Κ rfl (F0 _ _ _)
  simp only[Ϛ,Ι,Χ,Ψ];refine A5 rfl (λKk J=>?_);go_simp
  (with_reducible refine (fc wy ak.1).out.mono ?_)
  rintro e w2 ⟨re,M,hrel,I⟩;obtain⟨T,U,aa,ab,ad,ae,af,ag,ah,k1,rfl⟩:=M.form;have E:=Α (I.heap au);have ar:=Α M;have bb:=Α hrel;have aj:=Α (ak.1.trans I);have bc:=Α (I.heap ak.2);clear M hrel fc au;refine J _ _ (λ_=>⟨aj.out,bc.out⟩) ?_;clear J Kk;refine Ao (v:=.agg (dA (Β T U aa) (Β ab ad ae) (Β af ag ah))) rfl rfl (λV _=>?_) ?_
  ·go_simp
  simp only[Ϛ,Ι,Χ,Ψ];refine Ao (v:=.int ε k1) rfl rfl (λV _=>?_) ?_
  ·go_simp
  simp only[Ϛ,Ι,Χ,Ψ];refine A5 rfl (λKk J=>?_);refine Gf 30 (η 4) (η 53) rfl rfl _ _ rfl rfl _ _ E.out Ad rfl (Aq _ _ _ rfl rfl rfl) ?_;refine J _ _ (λ_=>⟨aj.out.setRow (show w.heap.size<=w.heap.size+1 by omega) _,B7 bc.out (show w.heap.size≠w.heap.size+1 by omega) _⟩) ?_;clear J Kk;refine A5 rfl (λKk J=>?_);go_simp;refine J _ _ (λh=>absurd h (by omega)) ?_;clear J Kk;refine B3 ?_;clear ak I;go_wp2;refine ω (v:=ϙ #[.agg (dA (Β T U aa) (Β ab ad ae) (Β af ag ah)),.int ε k1]) (A3 rfl _ _ _ _ _ _ _ rfl _ rfl (μ w2 _ _ (dA (Β T U aa) (Β ab ad ae) (Β af ag ah)) 30 (0,0) E.out) Κ rfl Ad) rfl ?_;refine⟨re,ar.out.setRow (Hg bb.out) E.out _,?_,aj.out.setRow (by omega) _⟩;exact bb.out
 ·obtain⟨ay,bl⟩:=g1 (by simp);obtain⟨x1,x2,x3,az,a1⟩:=bk.out l ay;obtain⟨y1,y2,y3,bp,bq⟩:=bk.out r bl;obtain⟨be,bf⟩:=bj.out l ay;obtain⟨b8,b9⟩:=bj.out r bl;have cf:l<N:=by omega
  have cp:r<N:=by omega
  have bg:=Α (λ(W:Λ) (D:Ext w W) j v hj=>D.cell (az j v hj));have ca:=Α (λ(W:Λ) (D:Ext w W) j v hj=>D.cell (bp j v hj));have fc:=λW (D:Ext w W)=>Α (An0 (ds.getD l dN) (ds.getD r dN) be b8 bf b9 _ _ W (bx.out W D) (δ bh D.size) (a1.ext D) (bq.ext D))
  clear az bp a1 bq;go_upto_region 13 with (fail)
  clear hk;refine B2 14 [(0,Ξ),(1,Ξ),(2,Ξ),(3,Ξ),(4,Ξ),(5,Ξ),(6,Ξ),(7,Ξ),(8,Ξ),(9,Ξ),(10,Τ),(11,Ξ),(12,Ξ),(13,Τ),(14,Τ)] (by kernel_rfl) (by kernel_rfl) (λ_ _ _ _ h=>h)
   (λV=>Ext w V/\V.heap[w.heap.size]? = Δ (Ε (rnA 6 l r c mn mx) 64 (0,0))) ⟨ao.out.trans (Θ w1).drew,(Θ w1).drew.heap H2.out⟩ ?_
  have ak:Ext w w1.drew/\w1.drew.heap[w.heap.size]? = Δ (Ε (rnA 6 l r c mn mx) 64 (0,0)):=⟨ao.out.trans (Θ w1).drew,(Θ w1).drew.heap H2.out⟩;have au:=(Θ w1).drew.heap E.out;obtain⟨wy,aw⟩:∃ V,w1.drew=V:=⟨_,rfl⟩;rw[aw] at ak au;rw[aw];clear aw;iterate 4
   refine Ao (v:=?_) rfl rfl (λV G=>?_) ?_
   rotate_left
   ·obtain⟨c0,c5,c6,c7,c8⟩:=bd.out V G.2;clear G;go_simp;first|done|with_reducible rfl
   simp only[Ϛ,Ι,Χ,Ψ]
  refine Ao (v:=.agg #[x1,x2,x3]) rfl rfl (λV G=>?_) ?_
  ·exact Fl 30 (η 60) rfl b (o+l*3) rfl _ _ (bg.out V G.1) Κ rfl (F0 _ _ _)
  simp only[Ϛ,Ι,Χ,Ψ];iterate 4
   refine Ao (v:=?_) rfl rfl (λV G=>?_) ?_
   rotate_left
   ·obtain⟨c0,c5,c6,c7,c8⟩:=bd.out V G.2;clear G;go_simp;first|done|with_reducible rfl
   simp only[Ϛ,Ι,Χ,Ψ]
  refine Ao (v:=.agg #[y1,y2,y3]) rfl rfl (λV G=>?_) ?_
  ·exact Fl 30 (η 65) rfl b (o+r*3) rfl _ _ (ca.out V G.1) Κ rfl (F0 _ _ _)
  simp only[Ϛ,Ι,Χ,Ψ];refine A5 rfl (λKk J=>?_);go_simp
  (with_reducible refine (fc wy ak.1).out.mono ?_)
  rintro e w2 ⟨re,M,hrel,I⟩;obtain⟨T,U,aa,ab,ad,ae,af,ag,ah,k1,rfl⟩:=M.form;have E:=Α (I.heap au);have ar:=Α M;have bb:=Α hrel;have aj:=Α (ak.1.trans I);have bc:=Α (I.heap ak.2);clear M hrel fc au;refine J _ _ (λ_=>⟨aj.out,bc.out⟩) ?_;clear J Kk;refine Ao (v:=.agg (dA (Β T U aa) (Β ab ad ae) (Β af ag ah))) rfl rfl (λV _=>?_) ?_
  ·go_simp
  simp only[Ϛ,Ι,Χ,Ψ];refine Ao (v:=.int ε k1) rfl rfl (λV _=>?_) ?_
  ·go_simp
  simp only[Ϛ,Ι,Χ,Ψ];refine A5 rfl (λKk J=>?_);refine Gf 30 (η 4) (η 68) rfl rfl _ _ rfl rfl _ _ E.out Ad rfl (Aq _ _ _ rfl rfl rfl) ?_;refine J _ _ (λ_=>⟨aj.out.setRow (show w.heap.size<=w.heap.size+1 by omega) _,B7 bc.out (show w.heap.size≠w.heap.size+1 by omega) _⟩) ?_;clear J Kk;refine A5 rfl (λKk J=>?_);go_simp;refine J _ _ (λh=>absurd h (by omega)) ?_;clear J Kk;refine B3 ?_;clear ak I;go_wp2;refine ω (v:=ϙ #[.agg (dA (Β T U aa) (Β ab ad ae) (Β af ag ah)),.int ε k1]) (A3 rfl _ _ _ _ _ _ _ rfl _ rfl (μ w2 _ _ (dA (Β T U aa) (Β ab ad ae) (Β af ag ah)) 30 (0,0) E.out) Κ rfl Ad) rfl ?_;refine⟨re,ar.out.setRow (Hg bb.out) E.out _,?_,aj.out.setRow (by omega) _⟩;exact bb.out
 ·have ay:=g2 (by simp);obtain⟨x1,x2,x3,az,a1⟩:=bk.out l ay;obtain⟨be,bf⟩:=bj.out l ay;have cf:l<N:=by omega
  have bg:=Α (λ(W:Λ) (D:Ext w W) j v hj=>D.cell (az j v hj));have fc:=λW (D:Ext w W)=>Α (Vf (ds.getD l dN) be bf _ W (bx.out W D) (δ bh D.size) (a1.ext D))
  obtain⟨c0,c5,c6,c7,c8⟩:=bd.out w1 H2.out;clear az a1;go_wp2_with (first
   | (refine wpList_load_mid rfl 30 (η 75) rfl b (o+l*3) rfl _ _ (bg.out w1 ao.out) Κ rfl (F0 _ _ _) ?_)
   | (go_at_call 32;(with_reducible refine (fc _ ao.out).out.mono ?_);rintro e w2 ⟨re,M,a7,a8,I⟩;obtain⟨T,U,aa,ab,ad,ae,af,ag,ah,k1,rfl⟩:=M.form;have ar:=Α M;have ba:=Α a7;have bz:=Α a8;have aj:=Α (ao.out.trans I);have E:=Α (I.heap E.out);clear M a7 a8 I)
   | (refine Φ rfl 30 (η 4) (η 78) rfl _ _ rfl rfl _ _ E.out Ad rfl (Aq _ _ _ rfl rfl rfl) ?_))
  refine ω (v:=ϙ #[.agg (dA (Β T U aa) (Β ab ad ae) (Β af ag ah)),.int ε k1]) (A3 rfl _ _ _ _ _ _ _ rfl _ rfl (μ w2 _ _ (dA (Β T U aa) (Β ab ad ae) (Β af ag ah)) 30 (0,0) E.out) Κ rfl Ad) rfl ?_;refine⟨Δ re,ar.out.setRow (λd' h=>by injection h with h;subst h;exact ba.out.val) E.out _,?_,aj.out.setRow (by omega) _⟩;show Fr _ _;exact⟨re,rfl,ba.out,λu=>by rw[bz.out];simp⟩
 ·have ay:=g2 (by simp);obtain⟨x1,x2,x3,az,a1⟩:=bk.out l ay;obtain⟨be,bf⟩:=bj.out l ay;have cf:l<N:=by omega
  have bg:=Α (λ(W:Λ) (D:Ext w W) j v hj=>D.cell (az j v hj));have fc:=λW (D:Ext w W)=>Α (Ad0 (ds.getD l dN) be bf mn cq mx cr ct _ W (bx.out W D) (δ bh D.size) (a1.ext D))
  clear az a1;go_upto_region 16 with (fail)
  clear hk;refine B2 13 [(0,Ξ),(1,Ξ),(2,Ξ),(3,Ξ),(4,Ξ),(5,Ξ),(6,Ξ),(7,Ξ),(8,Ξ),(9,Τ),(10,Ξ),(11,Ξ),(12,Τ),(13,Τ)] (by kernel_rfl) (by kernel_rfl) (λ_ _ _ _ h=>h)
   (λV=>Ext w V/\V.heap[w.heap.size]? = Δ (Ε (rnA 8 l r c mn mx) 64 (0,0))) ⟨ao.out.trans (Θ w1).drew,(Θ w1).drew.heap H2.out⟩ ?_
  have ak:Ext w w1.drew/\w1.drew.heap[w.heap.size]? = Δ (Ε (rnA 8 l r c mn mx) 64 (0,0)):=⟨ao.out.trans (Θ w1).drew,(Θ w1).drew.heap H2.out⟩;have au:=(Θ w1).drew.heap E.out;obtain⟨wy,aw⟩:∃ V,w1.drew=V:=⟨_,rfl⟩;rw[aw] at ak au;rw[aw];clear aw;iterate 4
   refine Ao (v:=?_) rfl rfl (λV G=>?_) ?_
   rotate_left
   ·obtain⟨c0,c5,c6,c7,c8⟩:=bd.out V G.2;clear G;go_simp;first|done|with_reducible rfl
   simp only[Ϛ,Ι,Χ,Ψ]
  refine Ao (v:=.agg #[x1,x2,x3]) rfl rfl (λV G=>?_) ?_
  ·exact Fl 30 (η 83) rfl b (o+l*3) rfl _ _ (bg.out V G.1) Κ rfl (F0 _ _ _)
  simp only[Ϛ,Ι,Χ,Ψ];iterate 4
   refine Ao (v:=?_) rfl rfl (λV G=>?_) ?_
   rotate_left
   ·obtain⟨c0,c5,c6,c7,c8⟩:=bd.out V G.2;clear G;go_simp;first|done|with_reducible rfl
   simp only[Ϛ,Ι,Χ,Ψ]
  refine A5 rfl (λKk J=>?_);go_simp
  (with_reducible refine (fc wy ak.1).out.mono ?_)
  rintro e w2 ⟨re,M,hrel,I⟩;obtain⟨T,U,aa,ab,ad,ae,af,ag,ah,k1,rfl⟩:=M.form;have E:=Α (I.heap au);have ar:=Α M;have bb:=Α hrel;have aj:=Α (ak.1.trans I);have bc:=Α (I.heap ak.2);clear M hrel fc au;refine J _ _ (λ_=>⟨aj.out,bc.out⟩) ?_;clear J Kk;refine Ao (v:=.agg (dA (Β T U aa) (Β ab ad ae) (Β af ag ah))) rfl rfl (λV _=>?_) ?_
  ·go_simp
  simp only[Ϛ,Ι,Χ,Ψ];refine Ao (v:=.int ε k1) rfl rfl (λV _=>?_) ?_
  ·go_simp
  simp only[Ϛ,Ι,Χ,Ψ];refine A5 rfl (λKk J=>?_);refine Gf 30 (η 4) (η 90) rfl rfl _ _ rfl rfl _ _ E.out Ad rfl (Aq _ _ _ rfl rfl rfl) ?_;refine J _ _ (λ_=>⟨aj.out.setRow (show w.heap.size<=w.heap.size+1 by omega) _,B7 bc.out (show w.heap.size≠w.heap.size+1 by omega) _⟩) ?_;clear J Kk;refine A5 rfl (λKk J=>?_);go_simp;refine J _ _ (λh=>absurd h (by omega)) ?_;clear J Kk;refine B3 ?_;clear ak I;go_wp2;refine ω (v:=ϙ #[.agg (dA (Β T U aa) (Β ab ad ae) (Β af ag ah)),.int ε k1]) (A3 rfl _ _ _ _ _ _ _ rfl _ rfl (μ w2 _ _ (dA (Β T U aa) (Β ab ad ae) (Β af ag ah)) 30 (0,0) E.out) Κ rfl Ad) rfl ?_;refine⟨re,ar.out.setRow (λd' h=>(T8 be bf (bb.out) d' h).1) E.out _,bb.out,aj.out.setRow (by omega) _⟩
def arK (k:Nat):Nat:=if k=4\/k=5\/k=6 then 2 else if k=7\/k=8 then 1 else 0
theorem Zc (k:Nat) (E:1<=k) (G:k<=8) (w:Λ):ϓ Ζ 116 #[iv k] w λe w'=>e=θ (iv (arK k))/\w'=w:=by
 have D:k=1\/k=2\/k=3\/k=4\/k=5\/k=6\/k=7\/k=8:=by omega
 rcases D with rfl|rfl|rfl|rfl|rfl|rfl|rfl|rfl<;>
 ·go_enter Tryz.func116,Tryz.ntmps116;go_wp2;go_ret;exact⟨rfl,rfl⟩
theorem Wi (x i g:Nat) (D:x<i) (W:Λ) (E:W.cell? ⟨g,0,Γ⟩=Δ (iv i)) :
  ϓ Ζ 142 #[iv x,.pointer (Δ ⟨g,0,Γ⟩)] W λe w'=>e=θ (.bool Ξ)/\w'=W:=by
 have G:(0:Int)<=(x:Int):=by omega
 have I:(x:Int)<(i:Int):=by omega
 go_enter Tryz.func142,Tryz.ntmps142;go_wp2;go_ret;exact⟨rfl,rfl⟩
structure VNode (k l r:Nat) (c:Cls) (mn:Nat) (mx:Int) (i:Nat):Prop where
 k1:1<=k
 k8:k<=8
 l1:0<arK k->l<i
 l0:arK k=0->l=0
 r1:1<arK k->r<i
 r0:arK k<2->r=0
 c0:k≠3->c=0#256
 m0:k≠8->mn=0/\mx=0
 m8:k=8->mn<=16/\mx<=16/\-1<=mx/\(mx≠-1->(mn:Int)<=mx)
theorem Amc (k l r:Nat) (c:Cls) (mn:Nat) (mx:Int) (i:Nat) (h:VNode k l r c mn mx i) (w:Λ) :
  ϓ Ζ 115 #[.agg (rnA k l r c mn mx),iv i] w λe w'=>e=θ (.int ε 0)/\Ext w w':=by
 obtain⟨k1,k8,l1,l0,r1,r0,c0,m0,m8⟩:=h;have aa:=((Θ w).alloc (Ε (rnA k l r c mn mx) 64)).alloc (Ε #[iv i] 3);have J:=Ag (Aa w (Ε (rnA k l r c mn mx) 64)) (Ε #[iv i] 3);have H3:=Ϗ w (Ε (rnA k l r c mn mx) 64) (Ε #[iv i] 3);have f116:=λW=>Α (Zc k k1 k8 W)
 have aw:=enters_of Tryz.func142 (by kernel_rfl) rfl;have aj:k=1\/k=2\/k=3\/k=4\/k=5\/k=6\/k=7\/k=8:=by omega
 go_enter Tryz.func115,Tryz.ntmps115;go_upto_region 1 with (fail)
 obtain⟨w1,ad⟩:∃ W,(w.alloc (Ε (rnA k l r c mn mx) 64)).alloc (Ε #[iv i] 3)=W:=⟨_,rfl⟩;have ag:(w.alloc (Ε (rnA k l r c mn mx) 64)).alloc (Ε #[.int ε (i:Int)] 3)=w1:=ad;rw[ad] at aa J H3;simp only[ag];clear ad ag;have q0:=(γ w1 _ 0 _ _ _ J).trans (show (rnA k l r c mn mx)[0]? = Δ (iv k) from rfl);have q5:=(γ w1 _ 5 _ _ _ J).trans (show (rnA k l r c mn mx)[5]? = Δ (iv l) from rfl);have q6:=(γ w1 _ 6 _ _ _ J).trans (show (rnA k l r c mn mx)[6]? = Δ (iv r) from rfl);have q7:=(γ w1 _ 7 _ _ _ J).trans (show (rnA k l r c mn mx)[7]? = Δ (iv mn) from rfl);have q8:=(γ w1 _ 8 _ _ _ J).trans (show (rnA k l r c mn mx)[8]? = Δ (.int ε mx) from rfl);have qi:=(γ w1 _ 0 _ _ _ H3).trans (show (#[iv i]:Array Ν)[0]? = Δ (iv i) from rfl);have ai:w1.rangeAt w.heap.size 1 [.int π (wd c 0),.int π (wd c 1),.int π (wd c 2),.int π (wd c 3)]:=λj v E=>by
  rw[γ w1 _ _ _ _ _ J]
  match j,E with
  | 0,E=>exact E
  | 1,E=>exact E
  | 2,E=>exact E
  | 3,E=>exact E
 have G:=Α ai;have I:=Α aa;have U:=Α (λhl:l<i=>Wi l i (w.heap.size+1) hl w1 qi);have ae:=Α (λhr:r<i=>Wi r i (w.heap.size+1) hr w1 qi);have M:=Α (λhc:c=0#256=>Gr c Ξ (by rw[hc];rfl));have g3:=Hj;clear J H3 ai aa;rcases aj with rfl|rfl|rfl|rfl|rfl|rfl|rfl|rfl
 ·obtain rfl:=l0 rfl;obtain rfl:=r0 (by decide);have T:=M.out (c0 (by decide));obtain⟨rfl,rfl⟩:=m0 (by decide);clear k1 k8 l1 l0 r1 r0 c0 m0 m8;go_wp2_with (first
   | (go_at_call 116;(with_reducible refine (f116 _).out.mono ?_);rintro e W' ⟨rfl,rfl⟩)
   | (refine El rfl (wp_load_mid 62 (η 57) rfl _ 1 rfl _ _ G.out ϑ rfl (Fk _ _ _ _) ?_)))
  go_ret;exact⟨rfl,I.out⟩
 ·obtain rfl:=l0 rfl;obtain rfl:=r0 (by decide);have T:=M.out (c0 (by decide));obtain⟨rfl,rfl⟩:=m0 (by decide);clear k1 k8 l1 l0 r1 r0 c0 m0 m8;go_wp2_with (first
   | (go_at_call 116;(with_reducible refine (f116 _).out.mono ?_);rintro e W' ⟨rfl,rfl⟩)
   | (refine El rfl (wp_load_mid 62 (η 57) rfl _ 1 rfl _ _ G.out ϑ rfl (Fk _ _ _ _) ?_)))
  go_ret;exact⟨rfl,I.out⟩
 ·obtain rfl:=l0 rfl;obtain rfl:=r0 (by decide);obtain⟨rfl,rfl⟩:=m0 (by decide);clear k1 k8 l1 l0 r1 r0 c0 m0 m8;go_wp2_with (first
   | (go_at_call 116;(with_reducible refine (f116 _).out.mono ?_);rintro e W' ⟨rfl,rfl⟩)
   | (refine El rfl (wp_load_mid 62 (η 57) rfl _ 1 rfl _ _ G.out ϑ rfl (Fk _ _ _ _) ?_)))
  go_ret;exact⟨rfl,I.out⟩
 ·have D:=Α (U.out (l1 (by decide)));have fr:=Α (ae.out (r1 (by decide)));have T:=M.out (c0 (by decide));obtain⟨rfl,rfl⟩:=m0 (by decide);clear k1 k8 l1 l0 r1 r0 c0 m0 m8;go_wp2_with (first
   | (go_at_call 116;(with_reducible refine (f116 _).out.mono ?_);rintro e W' ⟨rfl,rfl⟩)
   | (go_at_call 142;(with_reducible refine D.out.mono ?_);rintro e W' ⟨rfl,rfl⟩)
   | (go_at_call 142;(with_reducible refine fr.out.mono ?_);rintro e W' ⟨rfl,rfl⟩)
   | (refine El rfl (wp_load_mid 62 (η 57) rfl _ 1 rfl _ _ G.out ϑ rfl (Fk _ _ _ _) ?_)))
  go_ret;exact⟨rfl,I.out⟩
 ·have D:=Α (U.out (l1 (by decide)));have fr:=Α (ae.out (r1 (by decide)));have T:=M.out (c0 (by decide));obtain⟨rfl,rfl⟩:=m0 (by decide);clear k1 k8 l1 l0 r1 r0 c0 m0 m8;go_wp2_with (first
   | (go_at_call 116;(with_reducible refine (f116 _).out.mono ?_);rintro e W' ⟨rfl,rfl⟩)
   | (go_at_call 142;(with_reducible refine D.out.mono ?_);rintro e W' ⟨rfl,rfl⟩)
   | (go_at_call 142;(with_reducible refine fr.out.mono ?_);rintro e W' ⟨rfl,rfl⟩)
   | (refine El rfl (wp_load_mid 62 (η 57) rfl _ 1 rfl _ _ G.out ϑ rfl (Fk _ _ _ _) ?_)))
  go_ret;exact⟨rfl,I.out⟩
 ·have D:=Α (U.out (l1 (by decide)));have fr:=Α (ae.out (r1 (by decide)));have T:=M.out (c0 (by decide));obtain⟨rfl,rfl⟩:=m0 (by decide);clear k1 k8 l1 l0 r1 r0 c0 m0 m8;go_wp2_with (first
   | (go_at_call 116;(with_reducible refine (f116 _).out.mono ?_);rintro e W' ⟨rfl,rfl⟩)
   | (go_at_call 142;(with_reducible refine D.out.mono ?_);rintro e W' ⟨rfl,rfl⟩)
   | (go_at_call 142;(with_reducible refine fr.out.mono ?_);rintro e W' ⟨rfl,rfl⟩)
   | (refine El rfl (wp_load_mid 62 (η 57) rfl _ 1 rfl _ _ G.out ϑ rfl (Fk _ _ _ _) ?_)))
  go_ret;exact⟨rfl,I.out⟩
 ·have D:=Α (U.out (l1 (by decide)));obtain rfl:=r0 (by decide);have T:=M.out (c0 (by decide));obtain⟨rfl,rfl⟩:=m0 (by decide);clear k1 k8 l1 l0 r1 r0 c0 m0 m8;go_wp2_with (first
   | (go_at_call 116;(with_reducible refine (f116 _).out.mono ?_);rintro e W' ⟨rfl,rfl⟩)
   | (go_at_call 142;(with_reducible refine D.out.mono ?_);rintro e W' ⟨rfl,rfl⟩)
   | (refine El rfl (wp_load_mid 62 (η 57) rfl _ 1 rfl _ _ G.out ϑ rfl (Fk _ _ _ _) ?_)))
  go_ret;exact⟨rfl,I.out⟩
 ·have D:=Α (U.out (l1 (by decide)));obtain rfl:=r0 (by decide);have T:=M.out (c0 (by decide));obtain⟨m1,m2,m3,m4⟩:=m8 rfl;clear k1 k8 l1 l0 r1 r0 c0 m0 m8;have n1:¬ (mn:Int)<0:=by omega
  have n2:¬ mx < -1:=by omega
  have n3:¬ (16:Int)<(mn:Int):=by omega
  have n4:¬ (16:Int)<mx:=by omega
  by_cases hm:mx=-1
  ·subst hm;clear m2 m3 m4 n2 n4;go_wp2_with (first
    | (go_at_call 116;(with_reducible refine (f116 _).out.mono ?_);rintro e W' ⟨rfl,rfl⟩)
    | (go_at_call 142;(with_reducible refine D.out.mono ?_);rintro e W' ⟨rfl,rfl⟩)
    | (refine El rfl (wp_load_mid 62 (η 57) rfl _ 1 rfl _ _ G.out ϑ rfl (Fk _ _ _ _) ?_)))
   go_ret;exact⟨rfl,I.out⟩
  ·have n5:¬ mx<(mn:Int):=by have:=m4 hm;omega
   have n6:(mx != -1)=Ξ:=by simp[hm]
   clear m4;go_wp2_with (first
    | (go_at_call 116;(with_reducible refine (f116 _).out.mono ?_);rintro e W' ⟨rfl,rfl⟩)
    | (go_at_call 142;(with_reducible refine D.out.mono ?_);rintro e W' ⟨rfl,rfl⟩)
    | (refine El rfl (wp_load_mid 62 (η 57) rfl _ 1 rfl _ _ G.out ϑ rfl (Fk _ _ _ _) ?_)))
   go_ret;exact⟨rfl,I.out⟩
def rnC (n:RNode):Array Ν:=rnA n.kind n.l n.r n.c n.min n.max
def RxAt (W:Λ) (b o:Nat) (xs:List RNode):Prop:=∀ i,i<xs.length->W.rangeAt b (o+i*9) (rnC (xs.getD i ⟨0,0,0,0#256,0,0⟩)).toList
theorem RxAt.ext {W W':Λ} {b o:Nat} {xs:List RNode} (h:RxAt W b o xs) (D:Ext W W'):RxAt W' b o xs:=λi hi j v E=>D.cell (h i hi j v E)
def Fg (n:RNode) (j:Nat):Nat:=(if 0<arK n.kind/\n.l=j then 1 else 0)+(if 1<arK n.kind/\n.r=j then 1 else 0)
def par (xs:List RNode) (j:Nat):Nat:=(xs.map λn=>Fg n j).sum
theorem Afr (xs:List RNode) (n:RNode) (j:Nat):par (xs++[n]) j=par xs j+Fg n j:=by simp[par]
structure VRx (xs:List RNode):Prop where
 pos:0<xs.length
 le:xs.length<=200
 node:∀ i,i<xs.length->VNode (xs.getD i ⟨0,0,0,0#256,0,0⟩).kind (xs.getD i ⟨0,0,0,0#256,0,0⟩).l (xs.getD i ⟨0,0,0,0#256,0,0⟩).r (xs.getD i ⟨0,0,0,0#256,0,0⟩).c (xs.getD i ⟨0,0,0,0#256,0,0⟩).min (xs.getD i ⟨0,0,0,0#256,0,0⟩).max i
 par:∀ j,j+1<xs.length->par xs j=1
theorem T1 (n:RNode):(rnC n).all (·.oneCell')=Ξ:=by simp[rnC,rnA,Ν.oneCell']
theorem T2 (n:RNode):(Ζ.info? 64).map (·.size)=Δ (rnC n).toList.length:=by rw[show (rnC n).toList.length=9 from rfl];exact Qc
theorem Ma (n:RNode):(Ζ.info? 64).map (·.size)=Δ (rnC n).size:=Qc
theorem Aa9 (xs:List RNode) (i:Nat) (h:i<xs.length):xs.take (i+1)=xs.take i++[xs.getD i ⟨0,0,0,0#256,0,0⟩]:=by
 rw[List.take_succ_eq_append_getElem h,Η,Μ h];rfl
def Dk (N:Nat) (f:Nat->Nat):List Nat:=(ι N).map f
theorem Fv (N:Nat) (f:Nat->Nat):(Dk N f).length=N:=by simp[Dk]
theorem L8 (N:Nat) (f:Nat->Nat) (x:Nat) (D:x<N):(Dk N f).getD x 0=f x:=Dg _ _ _ _ D
theorem Oq (N:Nat) (f:Nat->Nat) (x:Nat) (D:x<N):(Dk N f).set x (f x+1)=Dk N λj=>f j+if x=j then 1 else 0:=by
 apply ϥ;intro i;rw[List.getElem?_set,Fv];simp only[Dk,ϕ];by_cases e:x=i
 ·subst e;simp[D]
 ·by_cases hi:i<N
  ·simp[Õ hi,e]
  ·simp[e,hi]
theorem Ans (k:Nat):arK k<=2:=by
 unfold arK;split
 ·omega
 ·split<;>omega
theorem Uu:∀ (xs:List RNode) (j:Nat),par xs j<=2*xs.length
 | [],j=>by simp[par]
 | n::xs,j=>by
  have:=Uu xs j;have D:Fg n j<=2:=by unfold Fg;split<;>split<;>omega
  simp only[par,List.map_cons,List.sum_cons,List.length_cons] at this ⊢;omega
theorem Mx (p:Nat):iv (p+1)=.int ε ((p:Int)+1):=by simp
theorem Or {N:Nat} {f g:Nat->Nat} (h:∀ j,f j=g j):Dk N f=Dk N g:=by rw[show f=g from funext h]
abbrev Fa:Array Ν:=#[.int ε 0,.int π 0,.int π 0,.int π 0,.int π 0,.int ε 0,.int ε 0,.int ε 0,.int ε 0]
theorem Aaq (xs:List RNode) (hx:VRx xs) (b o bw:Nat) (w:Λ) (h:RxAt w b o xs) :
  ϓ Ζ 82 #[Β (Δ ⟨b,o,Γ⟩) xs.length bw] w λe w'=>e=θ (.int ε 0)/\Ext w w':=by
 have HX:=Α hx;have HR:=Α h;obtain⟨i0,hi,b0,b4,b5⟩:=Ϟ Cp;obtain⟨N,hN⟩:∃ N,xs.length=N:=⟨_,rfl⟩;have b6:=hx.pos;have b7:=hx.le;rw[hN] at b6 b7;rw[hN];have I:=Α hN;have f116:=λi (hi:i<N) W=>Α (Zc _ (HX.out.node i (by rw[I.out];exact hi)).k1 (HX.out.node i (by rw[I.out];exact hi)).k8 W)
 have f115:=λi (hi:i<N) W=>Α (Amc _ _ _ _ _ _ i (HX.out.node i (by rw[I.out];exact hi)) W)
 have c1:¬ (200:Int)<(N:Int):=by omega
 have c2:((N:Int)==0)=Τ:=by simp;omega
 have ca:þ.wrap ((N:Int)-1)=((N-1:Nat):Int):=by rw[show (N:Int)-1=((N-1:Nat):Int) by omega];exact ý _ ⟨by omega,by omega⟩
 clear hx h hN;go_enter Tryz.func82,Tryz.ntmps82;go_upto_region 6 with (at_make;refine ϩ _ rfl _ _ 68 rfl w.heap.size 3 i0 (.int ε 0) 1 ϔ hi b0 b4 ε ε _ _ N rfl rfl rfl rfl (by rw[b5];omega) (by unfold ϛ;omega) (ν _) ?_;intro w1 bd be)
 have bf:Ext w w1:=(Θ w).grown be (λk e=>by cases e);have bg:w1.ownsRow w.heap.size 3 1 (Β (Δ ⟨w.heap.size,0,Γ⟩) N N) N ((Dk N λ_=>0).map iv):=by
  have:Dk N (λ_=>0)=ζ N 0:=by
   apply ϥ;intro j;simp only[Dk,ϕ,List.getElem?_replicate];by_cases hj:j<N<;>simp[hj]
  rw[this,<-B6];exact bd
 clear bd be c1 c2;generalize hg:w.heap.size=g at *;have HG:=Α hg;clear hg;go_wp2_with (fail);go_loopw [22] (λv W=>∃ i:Nat,i<=N/\v=.int ε i/\Ext w W/\W.ownsRow g 3 1 (Β (Δ ⟨g,0,Γ⟩) N N) N ((Dk N (par (xs.take i))).map iv))
  (λv _=>N-(intOf v).toNat)
 case atStart=>exact⟨0,by omega,rfl,bf,bg⟩
 case round=>
  clear bf bg;obtain⟨i,cw,rfl,E,D⟩:=hrel;by_cases af:i<N
  ·have au:=(HR.out.ext E) i (by rw[I.out];exact af);have hv:=HX.out.node i (by rw[I.out];exact af);have f116:=f116 i af;have f115:=f115 i af;have aw:=Aa9 xs i (by rw[I.out];exact af);obtain⟨n,hn⟩:∃ n,xs.getD i ⟨0,0,0,0#256,0,0⟩=n:=⟨_,rfl⟩;rw[hn] at au hv f116 f115 aw;have cf:=Α aw;clear hn aw;have f115:∀ W,Hid (ϓ Ζ 115 #[.agg (rnC n),iv i] W λe w'=>e=θ (.int ε 0)/\Ext W w'):=f115;go_upto_region 9 with (first
    | (refine wpList_load_mid rfl 64 (η 25) rfl b (o+i*9) rfl _ _ au Tryz.underlying64 rfl (T2 n) ?_)
    | (refine Φ rfl 64 (η 5) (η 26) rfl _ _ rfl rfl _ _ (Aa wr (Ε Fa 64)) (Ma n) rfl (T1 n) ?_))
   have an:=((Θ wr).alloc (Ε Fa 64)).setRow (ν _) (rnC n);have H5:=μ (wr.alloc (Ε Fa 64)) wr.heap.size _ (rnC n) _ _ (Aa wr (Ε Fa 64));obtain⟨w2,ax⟩:∃ W,(wr.alloc (Ε Fa 64)).setRow wr.heap.size (rnC n)=W:=⟨_,rfl⟩;rw[ax] at an H5;simp only[ax];clear ax au;have D:=Ah D an;have E:=E.trans an;have H5:=Α H5;generalize wr.heap.size=g5 at *;clear an;have ay:=Uu (xs.take i);have cg:(xs.take i).length<=200:=by rw[List.length_take];omega
   obtain⟨f,hf⟩:∃ f,par (xs.take i)=f:=⟨_,rfl⟩;rw[hf] at D ay;have a1:Hid (∀ j,par (xs.take (i+1)) j=f j+Fg n j):=Α λj=>by rw[cf.out,Afr,hf]
   have bh:∀ j,f j<=400:=λj=>by have:=ay j;omega
   have a6:=Α bh;clear ay cg hf bh;obtain⟨a,ha⟩:∃ a,arK n.kind=a:=⟨_,rfl⟩;have ao:=Ans n.kind;have ad:=hv.l1;have ag:=hv.r1;rw[ha] at f116 ao ad ag;have HA:=Α ha;clear ha hv;go_upto_region 12 with (first
    | (refine Ο rfl 64 (η 5) rfl _ rfl _ _ _ _ H5.out Tryz.underlying64 rfl (Ma n) ?_)
    | (go_at_call 115;(with_reducible refine (f115 _).out.mono ?_);rintro e w3 ⟨rfl,aq⟩))
   have D:=Ah D aq;have E:=E.trans aq;have ah:=aq.heap H5.out;have q0:=(γ w3 g5 0 _ _ _ ah).trans (show (rnC n)[0]? = Δ (iv n.kind) from rfl);have q5:=(γ w3 g5 5 _ _ _ ah).trans (show (rnC n)[5]? = Δ (iv n.l) from rfl);have q6:=(γ w3 g5 6 _ _ _ ah).trans (show (rnC n)[6]? = Δ (iv n.r) from rfl);have bk:=Dr D ah (by decide);have ba:w.heap.size<=g:=Nat.le_of_eq HG.out;have bl:g5≠g:=λe=>by
    rcases bk with h|h
    ·cases h
    ·exact h (by rw[e];rfl)
   clear aq H5 ah bk;have ch:a=0\/a=1\/a=2:=by omega
   rcases ch with rfl|rfl|rfl
   ·have J:Dk N (par (xs.take (i+1)))=Dk N f:=Or λj=>by rw[a1.out];unfold Fg;rw[HA.out];simp
    rw[<-J] at D;clear ad ag ao J;go_wp2_with (first
     | (go_at_call 116;(with_reducible refine (f116 _).out.mono ?_);rintro e W' ⟨rfl,rfl⟩))
    go_roundw
    case rel=>exact⟨i+1,by omega,by go_num,E,D⟩
    case measure=>simp[intOf];omega
   ·have hl:=ad (by omega);have T:n.l<N:=by omega
    have cl:=Am 0 D (Fv _ _).symm n.l (by rw[Fv];exact T);rw[L8 _ _ _ T] at cl;have fl:=D.frozenAt n.l;obtain⟨G,U⟩:=Bk D n.l (f n.l+1);rw[Oq _ _ _ T] at G;have J:Dk N (par (xs.take (i+1)))=Dk N (λj=>f j+if n.l=j then 1 else 0):=Or λj=>by rw[a1.out];unfold Fg;rw[HA.out];simp
    rw[<-J] at G;have ai:=E.grown U (λk e=>by cases e;exact ba);have hb:=a6.out n.l;rw[Mx] at G ai;clear ad ag ao J U D E;generalize f n.l=p at *;go_wp2_with (first
     | (go_at_call 116;(with_reducible refine (f116 _).out.mono ?_);rintro e W' ⟨rfl,rfl⟩))
    go_roundw
    case rel=>exact⟨i+1,by omega,by go_num,ai,G⟩
    case measure=>simp[intOf];omega
   ·have hl:=ad (by omega);have hr:=ag (by omega);have T:n.l<N:=by omega
    have bc:n.r<N:=by omega
    have cl:=Am 0 D (Fv _ _).symm n.l (by rw[Fv];exact T);rw[L8 _ _ _ T] at cl;have fl:=D.frozenAt n.l;obtain⟨G,U⟩:=Bk D n.l (f n.l+1);rw[Oq _ _ _ T] at G;have cp:=(U.cell_far ⟨g5,0,Γ⟩ (Gu q0) (by simp[bl])).trans q0;have cq:=(U.cell_far ⟨g5,6,Γ⟩ (Gu q6) (by simp[bl])).trans q6;have ai:=E.grown U (λk e=>by cases e;exact ba);have cr:=Am 0 G (Fv _ _).symm n.r (by rw[Fv];exact bc);rw[L8 _ _ _ bc] at cr;have fr:=G.frozenAt n.r;obtain⟨hQ,bn⟩:=Bk G n.r ((f n.r+if n.l=n.r then 1 else 0)+1);have e2:=Oq N (λj=>f j+if n.l=j then 1 else 0) n.r bc;rw[e2] at hQ;have J:Dk N (par (xs.take (i+1)))=Dk N (λj=>(f j+if n.l=j then 1 else 0)+if n.r=j then 1 else 0):=Or λj=>by rw[a1.out];unfold Fg;rw[HA.out];simp;omega
    rw[<-J] at hQ;have bp:=ai.grown bn (λk e=>by cases e;exact ba);have hb:=a6.out n.l;have c3:(f n.r+if n.l=n.r then 1 else 0)<=401:=by have:=a6.out n.r;split<;>omega
    clear ad ag ao J e2 U bn D E G ai;generalize f n.r+(if n.l=n.r then 1 else 0)=p2 at *;generalize f n.l=p at *;rw[Mx] at cp cq cr fr;rw[Mx,Mx] at hQ bp;go_wp2_with (first
     | (go_at_call 116;(with_reducible refine (f116 _).out.mono ?_);rintro e W' ⟨rfl,rfl⟩))
    go_roundw
    case rel=>exact⟨i+1,by omega,by go_num,bp,hQ⟩
    case measure=>simp[intOf];omega
  ·obtain rfl:N=i:=by omega
   rw[show xs.take N=xs by rw[<-I.out];exact List.take_length] at D;have bq:=λk (hk:k<N)=>Am 0 D (Fv _ _).symm k (by rw[Fv];exact hk)
   have br:=λk (hk:k<N-1)=>HX.out.par k (by rw[I.out];omega)
   have HC:=Α (λk (hk:k<N-1)=>by
    have:=bq k (by omega);rw[L8 _ _ _ (by omega),br k hk] at this;exact (this:wr.cell? ⟨g,k,Γ⟩=Δ (iv 1)))
   clear bq br D;obtain⟨M,hM⟩:∃ M,N-1=M:=⟨_,rfl⟩;rw[hM] at ca HC;have c5:M<N:=by omega
   clear hM;go_upto_region 18 with (fail)
   obtain⟨wq,cu⟩:∃ W,W=wr:=⟨_,rfl⟩;subst cu;go_loopw [62] (λv W=>∃ k:Nat,k<=M/\v=.int ε k/\W=wq) (λv _=>M-(intOf v).toNat)
   case atStart=>exact⟨0,by omega,rfl,rfl⟩
   case round=>
    obtain⟨k,hk,rfl,rfl⟩:=hrel;by_cases cv:k<M
    ·have ck:wr.cell? ⟨g,k,Γ⟩=Δ (.int ε 1):=HC.out k cv;go_wp2;go_roundw
     case rel=>exact⟨k+1,by omega,by go_num,trivial⟩
     case measure=>simp[intOf];omega
    ·obtain rfl:M=k:=by omega
     go_wp2;go_ret;exact⟨rfl,E⟩
theorem Sl.setNil {W:Λ} {v:Ν} {k n:Nat} {f:Nat->Ν} (h:Sl W v k n f) {g o:Nat} {cs:List Ν} (hs:W.heap.size<=(W.setCells g o cs).heap.size) (M:∀ j,j<cs.length->W.cell? ⟨g,o+j,Γ⟩=Δ (Β Γ 0 0)) (T:∀ i,i<n*k->f i≠Β Γ 0 0):Sl (W.setCells g o cs) v k n f:=by
 obtain⟨I,h|⟨hn,b,D,U,hv,hb,J⟩⟩:=h
 ·exact⟨I,.inl h⟩
 ·refine⟨I,.inr ⟨hn,b,D,U,hv,δ hb hs,λi hi=>?_⟩⟩;rw[Λ.cell?_setCells_out]
  ·exact J i hi
  ·intro G _;have G:b=g:=G;subst G;show D+i<o\/o+cs.length<=D+i;apply ϧ;intro ab;have E:=M (D+i-o) (by omega);rw[show o+(D+i-o)=D+i by omega,J i hi] at E;injection E with E
   exact T i hi E
theorem IsD.setNil {W:Λ} {v:Ν} {d:Dfa} (hv:Val d) (h:IsD W v d) {g o:Nat} {cs:List Ν} (hs:W.heap.size<=(W.setCells g o cs).heap.size) (D:∀ j,j<cs.length->W.cell? ⟨g,o+j,Γ⟩=Δ (Β Γ 0 0)):IsD (W.setCells g o cs) v d:=by
 obtain⟨G,vn,va,rfl,I,⟨vs,J,M,E⟩,T⟩:=h;refine⟨G,vn,va,rfl,Sl.setNil I hs D (λi _ e=>by cases e),⟨vs,J,Sl.setNil M hs D (λi hi e=>?_),λi hi=>Sl.setNil (E i hi) hs D (λi _ e=>by cases e)⟩,Sl.setNil T hs D (λi _ e=>by cases e)⟩;have hi:i<d.n.length:=by simpa using hi
 obtain⟨b,aa,ab,U,_⟩:=Û (E i hi) (by rw[hv.row i hi];exact hv.parts.pos);rw[U] at e;cases e
theorem Ack (W:Λ) (g o:Nat) (a b c:Ν):W.setCells g o [a,b,c]=((W.setCell ⟨g,o,Γ⟩ a).setCell ⟨g,o+1,Γ⟩ b).setCell ⟨g,o+1+1,Γ⟩ c:=rfl
theorem Afv {W:Λ} {base e g n D size:Nat} {xs:List Ν} (h:W.ownsRow base e size (Β (Δ ⟨g,0,Γ⟩) n D) n xs) (o:Nat) (a b c:Ν) :
  (∃ J,(W.setCells g o [a,b,c]).ownsRow base e size (Β (Δ ⟨g,0,Γ⟩) n D) n J)/\W.grownBy (W.setCells g o [a,b,c]) (Δ g):=by
 have E:=h.stored o a;have G:=E.1.stored (o+1) b;have I:=G.1.stored (o+1+1) c;rw[Ack];exact⟨⟨_,I.1⟩,E.2.trans (G.2.trans I.2)⟩
structure Lds (W:Λ) (g N:Nat) (ds:List Dfa):Prop where
 at_:DsAt W g 0 ds
 nil:∀ j,ds.length*3<=j->j<N*3->W.cell? ⟨g,j,Γ⟩=Δ (Β Γ 0 0)
theorem Lds.ext {W W':Λ} {g N:Nat} {ds:List Dfa} (h:Lds W g N ds) (D:Ext W W'):Lds W' g N ds:=⟨h.at_.ext D,λj E G=>D.cell (h.nil j E G)⟩
theorem Lds.store {W:Λ} {g N:Nat} {ds:List Dfa} (h:Lds W g N ds) (I:okD ds) (hN:ds.length<N) {a b c:Ν} {q:Dfa} (J:Val q) (M:IsD W (.agg #[a,b,c]) q) (hs:W.heap.size<=(W.setCells g (ds.length*3) [a,b,c]).heap.size):Lds (W.setCells g (ds.length*3) [a,b,c]) g N (ds++[q]):=by
 have E:∀ j,j<[a,b,c].length->W.cell? ⟨g,ds.length*3+j,Γ⟩=Δ (Β Γ 0 0):=λj D=>h.nil _ (by omega) (by have:j<3:=D;omega)
 refine⟨λi hi=>?_,λj T U=>?_⟩
 ·rw[Υ,List.length_singleton] at hi;by_cases e:i<ds.length
  ·obtain⟨v1,v2,v3,hr,hI⟩:=h.at_ i e;refine⟨v1,v2,v3,λj v D=>?_,?_⟩
   ·have G:j<3:=by
     have:=(ϊ.1 D).1;exact this
    rw[Λ.cell?_setCells_out]
    ·exact hr j v D
    ·intro _ _;left
     show 0+i*3+j<ds.length*3;omega
   ·rw[Bt _ _ _ _ e];exact IsD.setNil (I i e).1 hI hs E
  ·obtain rfl:i=ds.length:=by omega
   refine⟨a,b,c,λj v D=>?_,?_⟩
   ·have G:j<[a,b,c].length:=(ϊ.1 D).1;have:=Λ.cell?_setCells_in g [a,b,c] (ds.length*3) W (λj D=>by rw[E j D];rfl) j G;rw[é,this,<-D,Μ G]
   ·rw[Cm];exact IsD.setNil J M hs E
 ·rw[Υ,List.length_singleton] at T;rw[Λ.cell?_setCells_out]
  ·exact h.nil j (by omega) U
  ·intro _ _;right
   show ds.length*3+3<=j;omega
theorem Ajv {n:RNode} {i:Nat} (h:VNode n.kind n.l n.r n.c n.min n.max i):n.good i/\n.min<=16/\(n.max=-1\/(n.min:Int)<=n.max)/\n.max<=16:=by
 have hm:n.min<=16/\(n.max=-1\/(n.min:Int)<=n.max)/\n.max<=16:=by
  by_cases e:n.kind=8
  ·obtain⟨D,G,M,J⟩:=h.m8 e;refine⟨D,?_,G⟩;by_cases I:n.max=-1
   ·exact .inl I
   ·exact .inr (J I)
  ·obtain⟨D,G⟩:=h.m0 e;rw[D,G];exact⟨by omega,.inr (by simp),by omega⟩
 refine⟨⟨λE=>?_,λE=>?_,?_,h.k1,h.k8⟩,hm⟩
 ·have:arK n.kind=2:=by unfold arK;rw[if_pos E]
  exact⟨h.l1 (by omega),h.r1 (by omega)⟩
 ·have:0<arK n.kind:=by unfold arK;rcases E with E|E<;>rw[E]<;>decide
  exact h.l1 this
 ·rcases hm.2.1 with D|D
  ·left;omega
  ·exact .inr D
theorem Ajd:(Ζ.info? 30).map (λi=>(i.zero,i.size,i.bytes))=Δ (Δ zD,3,72):=by kernel_rfl
theorem Ahg (N j:Nat) (D:j<N*3):(madeCells zD.cells (N*3)).toList[j]? = Δ (Β Γ 0 0):=by
 have E:zD.cells=#[Β Γ 0 0,Β Γ 0 0,Β Γ 0 0]:=rfl;rw[E];have G:j % 3=0\/j % 3=1\/j % 3=2:=by omega
 rcases G with h|h|h<;>simp[madeCells,D,h]
theorem Ana (xs:List RNode) (ds:List Dfa) (hi:ds.length<xs.length) {q:Option Dfa} {r:Option Dfa} (D:G0 (xs.getD ds.length ⟨0,0,0,0#256,0,0⟩) ds q) (E:E0 q (λd=>E9 (xs.drop (ds.length+1)) (ds++[d])) r):E9 (xs.drop ds.length) ds r:=by
 have e:xs.drop ds.length=xs.getD ds.length ⟨0,0,0,0#256,0,0⟩::xs.drop (ds.length+1):=by
  rw[List.drop_eq_getElem_cons hi,Η,Μ hi];rfl
 rw[e];exact⟨q,D,E⟩
theorem Ago {n:RNode} {ds:List Dfa} (M:okD ds) (hg:n.good ds.length) {q:Dfa} (h:G0 n ds (Δ q)):Val q/\q.n.length<=64:=by
 obtain⟨g1,T,g3,g4,g5⟩:=hg;unfold G0 at h;have E:∀ {L:Bi},Fr L (Δ q)->Fit q L:=fun⟨e,G,e2,e3⟩=>by
  injection G with G
  subst G;exact⟨e2,e3⟩
 by_cases U:n.kind=1
 ·rw[if_pos U] at h;have D:=E h;have:=Jb D (λ_ _=>0) (λ_=>False) 1 (by omega) (λs x _=>by omega) (λw=>Iff.rfl);exact⟨D.1.val,by omega⟩
 rw[if_neg U] at h;by_cases c2:n.kind=2
 ·rw[if_pos c2] at h;have D:=E h;have:=Mo D;exact⟨D.1.val,by omega⟩
 rw[if_neg c2] at h;by_cases c3:n.kind=3
 ·rw[if_pos c3] at h;have D:=E h;have:=Pv (p:=λx=>n.c.getLsbD x.toNat=Ξ) D;exact⟨D.1.val,by omega⟩
 rw[if_neg c3] at h;by_cases c4:n.kind=4
 ·rw[if_pos c4] at h;exact Jm h q rfl
 rw[if_neg c4] at h;by_cases c5:n.kind=5
 ·rw[if_pos c5] at h;exact⟨h.1.val,h.2.2⟩
 rw[if_neg c5] at h;by_cases c6:n.kind=6
 ·rw[if_pos c6] at h;exact⟨h.1.val,h.2.2⟩
 rw[if_neg c6] at h;by_cases I:n.kind=7
 ·rw[if_pos I] at h;have D:=E h;obtain⟨hv,J⟩:=M n.l (T (.inl I));have:=Yo D.1 (Vc (Bj hv)) (λw=>by
   rw[Bool.eq_iff_iff,D.2,Ve (Bj hv),Dp];simp)
  exact⟨D.1.val,Nat.le_trans this J⟩
 rw[if_neg I] at h;obtain⟨hv,J⟩:=M n.l (T (.inr (by omega)));exact T8 hv J h q rfl
theorem Yy (xs:List RNode) (hx:VRx xs) (b o b5:Nat) (w:Λ) (hT:Tab w) (b7:0<w.heap.size) (h:RxAt w b o xs) :
  ϓ Ζ 36 #[Β (Δ ⟨b,o,Γ⟩) xs.length b5] w λe w'=>∃ r,ResOf w' e r/\E9 xs [] r/\Ext w w':=by
 have dc:=Α (λW (G:Ext w W)=>hT.below G.below b7);have HX:=Α hx;have HR:=Α h;have f82:=λW (G:Ext w W)=>Α (Aaq xs hx b o b5 W (h.ext G))
 obtain⟨i0,hi,dg,dh,dk⟩:=Ϟ Ajd;obtain⟨N,hN⟩:∃ N,xs.length=N:=⟨_,rfl⟩;have dm:=hx.pos;have b8:=hx.le;rw[hN] at dm b8 f82;rw[hN];have HN:=Α hN;have dn:þ.wrap ((N:Int)-1)=((N-1:Nat):Int):=by rw[show (N:Int)-1=((N-1:Nat):Int) by omega];exact ý _ ⟨by omega,by omega⟩
 have bf:=(Θ w).alloc (Ε #[Β Γ 0 0,Β Γ 0 0,Β Γ 0 0] 30);have D:=Aa w (Ε #[Β Γ 0 0,Β Γ 0 0,Β Γ 0 0] 30);clear hx h hN hT;go_enter Tryz.func36,Tryz.ntmps36;go_upto_region 1 with (fail)
 obtain⟨w1,bg⟩:∃ W,w.alloc (Ε #[Β Γ 0 0,Β Γ 0 0,Β Γ 0 0] 30)=W:=⟨_,rfl⟩;rw[bg] at bf D;simp only[bg];clear bg;have D:=Α D;have bh:=Α bf;clear bf;go_upto_region 4 with (go_at_call 82;(with_reducible refine (f82 _ bh.out).out.mono ?_);rintro e w2 ⟨rfl,I⟩;have b9:=Α (bh.out.trans I);have D:=Α (I.heap D.out);clear I)
 have ed:=b9.out.size;go_upto_region 5 with (at_make;refine ϩ _ rfl _ _ 130 rfl w2.heap.size 30 i0 zD 3 Tryz.underlying130 hi dg dh ε ε _ _ N rfl rfl rfl rfl (by rw[dk];omega) (by unfold ϛ;omega) (ν _) ?_;intro w3 bj bk)
 have ca:=b9.out.grown bk (λk e=>by cases e);have cb:=(bk.block w.heap.size (An D.out) (by simp)).trans D.out;have cd:Lds w3 w2.heap.size N []:=⟨λi hi=>absurd hi (by simp),λj _ hj=>by rw[bj.cellAt j hj];exact Ahg N j hj⟩;have ee:w.heap.size<w2.heap.size:=An D.out;generalize w2.heap.size=g at *;clear bk f82 bh;go_wp2_with (fail);go_loopw [21] (λv W=>∃ ds:List Dfa,ds.length<=N/\v=.int ε ds.length/\Ext w W/\(∃ ys,W.ownsRow g 30 3 (Β (Δ ⟨g,0,Γ⟩) N N) N ys)/\Hid (W.heap[w.heap.size]? = Δ (Ε #[Β Γ 0 0,Β Γ 0 0,Β Γ 0 0] 30 (0,0)))/\
   Hid (Lds W g N ds)/\Hid (okD ds)/\Hid (∀ r,E9 (xs.drop ds.length) ds r->E9 xs [] r))
  (λv _=>N-(intOf v).toNat)
 case atStart=>exact⟨[],by simp,rfl,ca,⟨_,bj⟩,Α cb,Α cd,Α (λi hi=>absurd hi (by simp)),Α λr h=>h⟩
 case round=>
  clear ca bj cb cd D;obtain⟨ds,ef,rfl,hE,⟨ys,hO⟩,D,HL,aq,HB⟩:=hrel;by_cases a7:ds.length<N
  ·have bm:=(HR.out.ext hE) ds.length (by rw[HN.out];exact a7);have hv:=HX.out.node ds.length (by rw[HN.out];exact a7);have bn:=Α (λ(q r:Option Dfa)=>Ana xs ds (by rw[HN.out];exact a7) (q:=q) (r:=r));obtain⟨n,hn⟩:∃ n,xs.getD ds.length ⟨0,0,0,0#256,0,0⟩=n:=⟨_,rfl⟩;rw[hn] at bm hv bn;obtain⟨bo,cg,ch,cj⟩:=Ajv hv;have eg:((ds.length:Nat):Int)<(N:Int):=by omega
   have f83:∀ W,Ext wr W->Hid (ϓ Ζ 83 #[.agg (rnC n),Β (Δ ⟨g,0,Γ⟩) N N] W λe w'=>∃ q,ResOf w' e q/\G0 n ds q/\Ext W w'):=λW G=>
    Α (Agn n.kind n.l n.r n.c n.min n.max ds bo cg ch cj aq.out g 0 N N (by omega) b8 W (dc.out W (hE.trans G)) (δ b7 (hE.trans G).size) (HL.out.at_.ext G))
   have dq:=Α bo;clear hn hv bo cg ch cj;generalize ck:ds.length=i at *;have J:=Α ck;clear ck;go_upto_region 8 with (first
    | (refine wpList_load_mid rfl 64 (η 24) rfl b (o+i*9) rfl _ _ bm Tryz.underlying64 rfl (T2 n) ?_)
    | (refine Φ rfl 64 (η 7) (η 25) rfl _ _ rfl rfl _ _ (Aa wr (Ε Fa 64)) (Ma n) rfl (T1 n) ?_))
   have I:=((Θ wr).alloc (Ε Fa 64)).setRow (ν _) (rnC n);have H7:=μ (wr.alloc (Ε Fa 64)) wr.heap.size _ (rnC n) _ _ (Aa wr (Ε Fa 64));obtain⟨w4,bp⟩:∃ W,(wr.alloc (Ε Fa 64)).setRow wr.heap.size (rnC n)=W:=⟨_,rfl⟩;rw[bp] at I H7;simp only[bp];clear bp bm;have H7:=Α H7;have bq:=Α I;generalize wr.heap.size=g7 at *;clear I;go_upto_region 9 with (first
    | (refine Ο rfl 64 (η 7) rfl _ rfl _ _ _ _ H7.out Tryz.underlying64 rfl (Ma n) ?_)
    | (go_at_call 83;(with_reducible refine (f83 _ bq.out).out.mono ?_);rintro e w5 ⟨q,br,cl,cm⟩;obtain⟨T,U,aa,ab,ad,ae,af,ag,ah,k1,rfl⟩:=br.form;have a8:=Α br;have bt:=Α cl;have dr:=Α (bq.out.trans cm);clear br cl cm)
    | (refine Φ rfl 30 (η 8) (η 30) rfl _ _ rfl rfl _ _ (Aa w5 (Ε #[Β Γ 0 0,Β Γ 0 0,Β Γ 0 0] 30)) Ad rfl (Aq _ _ _ rfl rfl rfl) ?_))
   obtain⟨ba,bu⟩:=Ki w5 (dA (Β T U aa) (Β ab ad ae) (Β af ag ah));obtain⟨w6,bx⟩:∃ W,(w5.alloc (Ε #[Β Γ 0 0,Β Γ 0 0,Β Γ 0 0] 30)).setRow w5.heap.size (dA (Β T U aa) (Β ab ad ae) (Β af ag ah))=W:=⟨_,rfl⟩;rw[bx] at ba bu;simp only[bx];clear bx;have aw:=dr.out.trans ba;have cn:=Α (hE.trans aw);have H8:=Α bu;have D:=Α (aw.heap D.out);have HL:=Α (HL.out.ext aw);have hO:=Ah hO aw;have a8:=Α (a8.out.ext ba);generalize w5.heap.size=g8 at *;clear ba bu aw hE f83 H7 bq;cases q with
   | none=>
    obtain⟨rfl,hz⟩:=a8.out.none_inv;have dv:=Α Dn;have HF:=Α (HB.out Γ (bn.out Γ Γ bt.out rfl));clear hz hO;go_wp2_with (first
     | (refine Bw rfl 30 _ rfl #[Β Γ 0 0,Β Γ 0 0,Β Γ 0 0] ?_ ?_;(simp;with_reducible exact dv.out))
     | (refine Φ rfl 30 (η 2) (η 34) rfl _ _ rfl rfl _ _ D.out Ad rfl C8 ?_))
    refine ω (v:=ϙ #[zD,.int ε 2]) (A3 rfl _ _ _ _ _ _ _ rfl _ rfl (μ w6 _ _ #[Β Γ 0 0,Β Γ 0 0,Β Γ 0 0] 30 (0,0) D.out) Κ rfl Ad) rfl ?_;exact⟨Γ,rfl,HF.out,cn.out.setRow (ν _) _⟩
   | some q=>
    obtain⟨rfl,cp⟩:=a8.out.some_inv;obtain⟨ax,bz⟩:=Ago aq.out (by rw[J.out];exact dq.out) bt.out;obtain⟨⟨zs,cq⟩,bc⟩:=Afv hO (i*3) (Β T U aa) (Β ab ad ae) (Β af ag ah);have b0:=HL.out.store aq.out (by rw[J.out];exact a7) ax cp (by rw[J.out];exact bc.size);rw[J.out] at b0;have cr:w6.there g (i*3) 3:=λj hj=>by
     refine⟨?_,hO.frozenAt _⟩;rw[HL.out.nil (i*3+j) (by rw[J.out];omega) (by omega)];rfl
    have ct:=cn.out.grown bc (λk e=>by cases e;omega);have bd:=(bc.block w.heap.size (An D.out) (by simp;omega)).trans D.out;have cu:=Α cr;have cv:=Α b0;have cw:=Α cq;have cx:=Α ct;have bd:=Α bd;have dw:Hid (okD (ds++[q])):=Α λj hj=>by
     rw[Υ,List.length_singleton] at hj;by_cases e:j<ds.length
     ·rw[Bt _ _ _ _ e];exact aq.out j e
     ·obtain rfl:j=ds.length:=by omega
      rw[Cm];exact⟨ax,bz⟩
    have dx:Hid (∀ r,E9 (xs.drop (ds++[q]).length) (ds++[q]) r->E9 xs [] r):=Α λr hr=>HB.out r (bn.out (Δ q) r bt.out (by
     rw[Υ,List.length_singleton,J.out] at hr;exact hr))
    have cy:Hid ((ds++[q]).length=i+1):=Α (by rw[Υ,J.out];rfl);clear cp b0 cq bc cr ct hO;go_upto_region 12 with (first
     | (refine Ο rfl 30 (η 8) rfl _ rfl _ _ _ _ H8.out Κ rfl Ad ?_)
     | (refine wpList_store_mid rfl 30 (η 39) (η 38) rfl g (i*3) (dA (Β T U aa) (Β ab ad ae) (Β af ag ah)) rfl rfl cu.out Ad (Aq _ _ _ rfl rfl rfl) ?_))
    have cz:(dA (Β T U aa) (Β ab ad ae) (Β af ag ah)).toList=[Β T U aa,Β ab ad ae,Β af ag ah]:=rfl;rw[cz];obtain⟨w7,b4⟩:∃ W,w6.setCells g (i*3) [Β T U aa,Β ab ad ae,Β af ag ah]=W:=⟨_,rfl⟩;rw[b4] at cv cw cx bd;rw[b4];clear b4 cz cu;go_wp2;go_roundw
    case rel=>exact⟨ds++[q],by rw[cy.out];omega,by rw[cy.out];go_num,cx.out,⟨_,cw.out⟩,bd,cv,dw,dx⟩
    case measure=>simp[intOf];omega
  ·have ay:ds.length=N:=by omega
   have eo:=Α ay;rw[ay];obtain⟨v1,v2,v3,hr,hD⟩:=HL.out.at_ (N-1) (by omega);obtain⟨ax,bz⟩:=aq.out (N-1) (by omega);have HF:=Α (HB.out (Δ (ds.getD (N-1) dN)) (by
    rw[ay,List.drop_of_length_le (by rw[HN.out];exact ν _)];show Δ (ds.getD (N-1) dN)=Δ (ds.getD (ds.length-1) dN);rw[ay]))
   clear ay;obtain⟨q,hq⟩:∃ q,ds.getD (N-1) dN=q:=⟨_,rfl⟩;rw[hq] at hD ax bz HF;clear hq;obtain⟨c2,c3,c4,c5,c6,c7,c8,c9,E⟩:=hD.agg;injection E with E
   unfold dA at E;injection E with E
   injection E with e1 E
   injection E with e2 E
   injection E with e3 _
   subst e1;subst e2;subst e3;rw[é] at hr;have da:=Α hr;have ec:=Α hD;obtain⟨M,hM⟩:∃ M,N-1=M:=⟨_,rfl⟩;rw[hM] at dn da;have eu:M<N:=by omega
   clear hM hr hD;go_wp2_with (first
    | (refine wpList_load_mid rfl 30 (η 45) rfl g (M*3) rfl _ _ da.out Κ rfl (F0 _ _ _) ?_)
    | (refine Φ rfl 30 (η 2) (η 46) rfl _ _ rfl rfl _ _ D.out Ad rfl (Aq _ _ _ rfl rfl rfl) ?_))
   refine ω (v:=ϙ #[.agg (dA (Β c2 c3 c4) (Β c5 q.n.length c6) (Β c7 c8 c9)),.int ε 0]) (A3 rfl _ _ _ _ _ _ _ rfl _ rfl (μ wr _ _ (dA (Β c2 c3 c4) (Β c5 q.n.length c6) (Β c7 c8 c9)) 30 (0,0) D.out) Κ rfl Ad) rfl ?_;exact⟨Δ q,⟨_,rfl,IsD.setRow ax ec.out D.out _⟩,HF.out,hE.setRow (ν _) _⟩
end Go.Proofs.YtaiogolidlamiaaGreatDoor
