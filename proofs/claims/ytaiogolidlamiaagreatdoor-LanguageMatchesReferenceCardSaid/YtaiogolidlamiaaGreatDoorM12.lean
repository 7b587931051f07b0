import Derived.Test.YtaiogolidlamiaaGreatDoorM11
import Derived.Test.YtaiogolidlamiaaGreatDoorM10
set_option linter.unusedVariables false
set_option linter.unusedSimpArgs false
open Bool renaming false → Τ, true → Ξ
open Classical renaming byContradiction → ϩ
open Go renaming World → Κ, Calls → Ϝ, info_parts → ϕ, maxLen → ϙ, cell_of_row → Ω, Value → Ρ, heap_alloc2_new → Ϙ, wpList_load_row → Υ, wpList_store_row → Φ, undef → ς, setRow_heap → μ, bodyPost_ret → ϋ, wpList_make_full → ϫ
open Go.Act renaming put → Ϛ
open Go.Ending renaming returned → ν
open Go.IntKind renaming i64 → ζ, u64 → π, i64 → ç
open Go.IntWalk renaming i64_in → Ý
open Go.Lib renaming hid → Α
open Go.Obj renaming cells → Ε
open Go.Operand renaming tmp → η
open Go.Proofs.Tryz renaming prog → Η, underlying68 → ϓ, underlying62 → ϗ, underlying30 → Ν
open Go.Value renaming slice → Β, tuple → ϥ
open Go.World renaming size_alloc → Λ
open Int renaming toNat_natCast → ß
open List renaming getElem?_eq_some_iff → ό, length_map → Ϗ, getD_eq_getElem?_getD → Ζ, getElem?_eq_getElem → Μ, range → ι, ext_getElem? → ϡ, getElem?_map → Ϟ, getElem?_range → ì, getElem?_eq_none → Ϩ, getElem_mem → á, replicate → δ, setIfInBounds_toArray → Θ, set_cons_zero → Χ, set_cons_succ → Ψ, length_set → ύ, length_append → Ο, length_singleton → þ
open Nat renaming le_refl → θ, zero_add → î, lt_of_lt_of_le → ε
open Option renaming none → Γ, some → Δ
open Option.some renaming inj → ω
namespace Go.Proofs.YtaiogolidlamiaaGreatDoor
set_option maxRecDepth 100000
set_option maxHeartbeats 8000000
open Go.RowKit Go.Shelf
theorem Aln (r:List Nat) (D:0<r.length) (h1:r.length<=65536) (b o c:Nat) (w:Κ) (h:∀ s,s<r.length->w.cell? ⟨b,o+s,Γ⟩=Δ (iv (r.getD s 0))) :
  Ϝ Η 145 #[Β (Δ ⟨b,o,Γ⟩) r.length c] w λe w'=>∃ g G,e=ν (Β (Δ ⟨g,0,Γ⟩) r.length G)/\OwnI w' w.heap.size (Β (Δ ⟨g,0,Γ⟩) r.length G) r/\Ext w w':=by
 obtain⟨U,E,aa,ab,ad⟩:=ϕ Cg;have H:=Κ.ownsRow_lit (base:=w.heap.size) (e:=3) (size:=1) w #[] 0 (θ _) (by unfold ϙ;omega) rfl;have I:=(Ι w).alloc (Ε #[] 3);have J:∀ j u,(r.map iv)[j]? = Δ u->(w.alloc (Ε #[] 3)).cell? ((⟨b,o,Γ⟩:Addr).add j)=Δ u:=λj u E=>by
  obtain⟨ae,af⟩:=ό.1 E;have M:j<r.length:=by rwa [Ϗ] at ae
  have e:(⟨b,o,Γ⟩:Addr).add j=⟨b,o+j,Γ⟩:=by
   unfold Addr.add;by_cases D:j=0
   ·subst D;rfl
   ·simp[D]
  rw[e,I.cell (h j M),<-af,List.getElem_map,Ζ,Μ M];rfl
 have HN:=Α J;clear J h;have ao:∀ W,(binOp .eql 68 (Β (Δ ⟨b,o,Γ⟩) r.length c) (Β Γ 0 0)).run Η W=.ok (.bool Τ) W:=λW=>Lib.run_eql_slice_nil W 68 3 _ _ _ _ _ ϓ
 go_enter Tryz.func145,Tryz.ntmps145;go_wp2_with (at_builtin;refine wpList_append_lies _ rfl _ _ 68 rfl w.heap.size 3 U (.int ζ 0) 1 8 ϓ E aa ab ad rfl (by decide) _ 0 [] rfl H ⟨b,o,Γ⟩ r.length _ (r.map iv) rfl (by simp) HN.out (λu hu=>by obtain⟨b',_,rfl⟩:=List.mem_map.1 hu;rfl) D (by unfold ϙ;omega) (by omega) (by rw[Λ];omega) _ rfl ?_);intro g7 c7 w7 ak T _ aq;have al:Ext w w7:=I.grown T (λk e=>by have:w.heap.size=k:=ω e;omega);clear H T;go_wp2;go_ret;exact⟨g7,c7,rfl,ak,al⟩
theorem Ak0 (w:Κ) (c:Cls):Cs (w.alloc (Ε (Aa c) 62)) (Β (Δ ⟨w.heap.size,0,Γ⟩) 1 1) [c]:=by
 refine⟨by show (1:Nat)<=_;omega,.inr ⟨by show 0<1;omega,_,0,1,rfl,by rw[Λ];omega,λi hi=>?_⟩⟩;have hi:i<4:=by have:i<1*4:=hi;omega
 rw[Ω _ w.heap.size (0+i) _ _ _ (Ab w (Ε (Aa c) 62)),î,F1 c i hi];have D:i / 4=0:=by omega
 have E:i % 4=i:=by omega
 show _=Δ (Ρ.int π (wd ([c].getD (i / 4) 0#256) (i % 4)));rw[D,E];rfl
theorem Vj {α:Type} (L:List Cls) (F:Cls->α):(ι L.length).map (λq=>F (L.getD q 0#256))=L.map F:=by
 apply ϡ;intro i;simp only[Ϟ];by_cases h:i<L.length
 ·simp[ì h,Ζ,Μ h]
 ·rw[Ϩ (by simp;omega),Ϩ (by omega)];rfl
def Dg (c k:Cls):Bool:=Az c (Bv (Al k 256))
theorem Aje {c:Cls} {L:List Cls} (h:IsCells [c] L) (b:Nat) (D:b<256):Dg c (L.getD (Ak L b) 0#256)=Ξ↔c.getLsbD b=Ξ:=by
 have E:=Ue h;have G:=cell_lt E D;have J:=E9 E D;have hm:L.getD (Ak L b) 0#256∈L:=by rw[Ζ,Μ G];exact á G
 generalize L.getD (Ak L b) 0#256=k at *;obtain⟨U,h2,H⟩:=It k (h.nz k hm);obtain⟨z,I⟩:∃ z:Nat,Bv (Al k 256)=z:=⟨(Bv (Al k 256)).toNat,by omega⟩;rw[I,ß] at H;have M:z<256:=by omega
 have:=(h.cls k hm b D J z M).1 H;have T:=this c (by simp);unfold Dg Az;rw[I,ß,<-T]
def Pg (D m:Nat) (E:Ρ):Nat->Ρ->Κ->Prop
 | 0,v,_=>v=E
 | 1,v,_=>v=iv m
 | 2,v,W=>∃ g,v=Β (Δ ⟨g,0,Γ⟩) m m/\W.ownsRow D 3 1 v m ((δ m 0).map iv)
 | 3,v,_=>v=E
 | 4,v,_=>v=iv m
 | 5,v,W=>∃ g,v=Β (Δ ⟨g,0,Γ⟩) m m/\W.ownsRow D 3 1 v m ((δ m 0).map iv)
 | 6,v,W=>∃ g,v=Β (Δ ⟨g,0,Γ⟩) m m/\W.ownsRow D 3 1 v m ((δ m 0).map iv)
 | _,v,W=>∃ g,v=Β (Δ ⟨g,0,Γ⟩) m m/\W.ownsRow D 3 1 v m ((δ m 0).map iv)
def Pf (i j:Nat) (v u:Ρ):Prop:=((i=2\/i=6)/\(j=5\/j=7)\/(j=2\/j=6)/\(i=5\/i=7))->v≠u
theorem Ah3 (i j:Nat) (v u:Ρ) (h:Pf i j v u):Pf j i u v:=λD=>(h (by omega)).symm
theorem Ah4 (H m:Nat) (I:Ρ):∀ (i:Nat) (v:Ρ) (w w':Κ),Pg H m I i v w->Ext w w'->Pg H m I i v w'
 | 0,_,_,_,h,_=>h
 | 1,_,_,_,h,_=>h
 | 2,_,_,_,⟨g,D,E⟩,G=>⟨g,D,Ah E G⟩
 | 3,_,_,_,h,_=>h
 | 4,_,_,_,h,_=>h
 | 5,_,_,_,⟨g,D,E⟩,G=>⟨g,D,Ah E G⟩
 | 6,_,_,_,⟨g,D,E⟩,G=>⟨g,D,Ah E G⟩
 | _+7,_,_,_,⟨g,D,E⟩,G=>⟨g,D,Ah E G⟩
theorem lt8 (i:Nat) (h:i<8):i=0\/i=1\/i=2\/i=3\/i=4\/i=5\/i=6\/i=7:=by omega
theorem L8 {W:Κ} {base m g:Nat} {u:Ρ} {xs:List Ρ} (hu:u=Β (Δ ⟨g,0,Γ⟩) m m) (E:W.ownsRow base 3 1 u m xs) (n c:Nat):Ρ.slice (Δ ⟨W.heap.size,0,Γ⟩) n c≠u:=by
 intro e;rw[hu] at e E;injection e with D _ _
 injection D with D
 injection D with D _ _
 have:=(E.lt g rfl).2;omega
theorem Ahz (c:Cls) (w:Κ) (hT:Tab w) (bl:0<w.heap.size) :
  Ϝ Η 118 #[.agg (Aa c)] w λe w'=>∃ r,ResOf w' e (Δ r)/\Cano r/\(∀ u,r.has u=Ξ↔∃ x:UInt8,u=[x]/\c.getLsbD x.toNat=Ξ)/\Ext w w':=by
 have cm:=Α (λW (U:Ext w W)=>hT.below U.below bl);have c3:=((Ι w).alloc (Ε (Aa c) 62)).alloc (Ε #[Β Γ 0 0,Β Γ 0 0,Β Γ 0 0] 30);have H1:=Ag (Ab w (Ε (Aa c) 62)) (Ε #[Β Γ 0 0,Β Γ 0 0,Β Γ 0 0] 30);have H2:=Ϙ w (Ε (Aa c) 62) (Ε #[Β Γ 0 0,Β Γ 0 0,Β Γ 0 0] 30);have f105:=λW=>Α (S6 c W)
 have ep:=Lj c;clear hT;go_enter Tryz.func118,Tryz.ntmps118;go_upto_region 1 with (fail)
 obtain⟨w1,c8⟩:∃ W,(w.alloc (Ε (Aa c) 62)).alloc (Ε #[Β Γ 0 0,Β Γ 0 0,Β Γ 0 0] 30)=W:=⟨_,rfl⟩;rw[c8] at c3 H1 H2;simp only[c8];clear c8;have aq:=Α H1;have T:=Α H2;have c9:=Α c3;clear H1 H2 c3;obtain⟨bz,gg⟩:∃ b,((sz c:Int)==0)=b:=⟨_,rfl⟩;have et:bz=Ξ↔c=0#256:=by rw[<-gg,<-ep];simp
 have gh:=Α et;clear et ep;cases bz
 ·go_upto_region 4 with (first
   | (refine Υ rfl 62 (η 1) rfl _ rfl _ _ _ _ aq.out ϗ rfl Bg ?_)
   | (go_at_call 105;(with_reducible refine (f105 _).out.mono ?_);rintro e w2 ⟨rfl,ay⟩;have ba:=Α (c9.out.trans ay);have aq:=Α (ay.heap aq.out);have T:=Α (ay.heap T.out);clear ay)
   | (go_at_call 143;(with_reducible refine (Yb [c] _ _ (cm.out _ (ba.out.alloc (Ε (Aa c) 62))) (ε bl (ba.out.alloc (Ε (Aa c) 62)).size) (Ak0 w2 c)).mono ?_);rintro e D ⟨vc,L,rfl,eu,hP,-,bk⟩;have ew:=Α ((Pq [c]).perm hP);have cn:=Α eu;have ah:=((Ι w2).alloc (Ε (Aa c) 62)).trans bk;have ey:=Α (ba.out.trans ah);have aq:=Α (ah.heap aq.out);have T:=Α (ah.heap T.out);clear bk ah eu hP))
  have cp:=Ue ew.out;have ez:=cp.pos;have ic:=cp.le;obtain⟨I,J,cc,rfl,e0⟩:=ä cn.out ez;have db:=Α e0;have dc:=Α cp;have e1:=Ab (D.alloc (Ε #[.bool Τ,.bool Ξ,.bool Τ] 4)) (Ε #[Β Γ 0 0,Β Γ 0 0,Β Γ 0 0] 30);clear e0 cp;generalize hm:L.length=m at *;have HM:=Α hm;clear hm;go_upto_region 5 with (first
   | (refine Φ rfl 30 (η 5) (η 21) rfl _ _ rfl rfl _ _ e1 Ad rfl (Ap _ _ _ rfl rfl rfl) ?_))
  clear e1;have ah:=((Ι D).alloc (Ε #[.bool Τ,.bool Ξ,.bool Τ] 4)).alloc (Ε #[Β (Δ ⟨I,J,Γ⟩) m cc,Β Γ 0 0,Β (Δ ⟨D.heap.size,0,Γ⟩) 3 3] 30);have HA:=Ag (Ab D (Ε #[.bool Τ,.bool Ξ,.bool Τ] 4)) (Ε #[Β (Δ ⟨I,J,Γ⟩) m cc,Β Γ 0 0,Β (Δ ⟨D.heap.size,0,Γ⟩) 3 3] 30);have H5:=Ϙ D (Ε #[.bool Τ,.bool Ξ,.bool Τ] 4) (Ε #[Β (Δ ⟨I,J,Γ⟩) m cc,Β Γ 0 0,Β (Δ ⟨D.heap.size,0,Γ⟩) 3 3] 30);obtain⟨w4,ct⟩:∃ W,(D.alloc (Ε #[.bool Τ,.bool Ξ,.bool Τ] 4)).alloc (Ε #[Β (Δ ⟨I,J,Γ⟩) m cc,Β Γ 0 0,Β (Δ ⟨D.heap.size,0,Γ⟩) 3 3] 30)=W:=⟨_,rfl⟩;have ie:w4.heap.size=D.heap.size+1+1:=by rw[<-ct,Λ,Λ]
  rw[ct] at ah HA H5;simp only[ct];clear ct;have HA:=Α HA;have H5:=Α H5;have gi:=Α (ey.out.trans ah);have gj:=cn;have gk:=T;have gl:=Α ah;have db:=Α (λi hi=>ah.cell (db.out i hi));have cn:=Α (cn.out.ext ah);have aq:=Α (ah.heap aq.out);have T:=Α (ah.heap T.out);clear ah f105 ba c9;obtain⟨i0,hi,e4,e5,e6⟩:=ϕ Cg;refine Ni 8 60 rfl (by kernel_rfl) (by kernel_rfl) rfl Ext Ι (λ_ _ _ h k=>h.trans k) (Pg w4.heap.size m (Β (Δ ⟨I,J,Γ⟩) m cc)) Pf Ah3 (Ah4 _ _ _) (λi gm=>?_) (λvs w5 e7 hF hN=>?_)
  ·have e9:=(Ι w4).drew;rcases lt8 i gm with rfl|rfl|rfl|rfl|rfl|rfl|rfl|rfl
   ·refine Bi _ _ rfl rfl rfl λc W U ai bb au=>?_
    have h3:c.tmps.getD 4 ς=Β (Δ ⟨I,J,Γ⟩) m cc:=au 4 (by kernel_rfl);go_simp;exact⟨_,rfl,Ι W,rfl,λj u _ _ h=>by omega⟩
   ·refine Bi _ _ rfl rfl rfl λc W U ai bb au=>?_
    have h3:c.tmps.getD 22 ς=Β (Δ ⟨I,J,Γ⟩) m cc:=ai 0 22 (by kernel_rfl);go_simp;exact⟨_,rfl,Ι W,rfl,λj u _ _ h=>by omega⟩
   ·refine Bi _ _ rfl rfl rfl λc W U ai bb au=>?_
    have h3:c.tmps.getD 23 ς=iv m:=ai 1 23 (by kernel_rfl);refine Hu W _ _ 68 rfl w4.heap.size 3 i0 (.int ζ 0) 1 ϓ hi e4 e5 ζ ζ _ _ m h3 h3 rfl rfl (by rw[e6];omega) (by unfold ϙ;omega) (e9.trans U).size ?_;intro W' dd a6;refine⟨_,rfl,(Ι W).grown a6 (λk e=>by cases e),⟨_,rfl,by rw[<-B7];exact dd⟩,λj u _ hu hj=>?_⟩;have df:j=5\/j=7:=by omega
    rcases df with rfl|rfl
    ·obtain⟨g',bd,be⟩:=hu;exact L8 bd be _ _
    ·obtain⟨g',bd,be⟩:=hu;exact L8 bd be _ _
   ·refine Bi _ _ rfl rfl rfl λc W U ai bb au=>?_
    have h3:c.tmps.getD 4 ς=Β (Δ ⟨I,J,Γ⟩) m cc:=au 4 (by kernel_rfl);go_simp;exact⟨_,rfl,Ι W,rfl,λj u _ _ h=>by omega⟩
   ·refine Bi _ _ rfl rfl rfl λc W U ai bb au=>?_
    have h3:c.tmps.getD 25 ς=Β (Δ ⟨I,J,Γ⟩) m cc:=ai 3 25 (by kernel_rfl);go_simp;exact⟨_,rfl,Ι W,rfl,λj u _ _ h=>by omega⟩
   ·refine Bi _ _ rfl rfl rfl λc W U ai bb au=>?_
    have h3:c.tmps.getD 26 ς=iv m:=ai 4 26 (by kernel_rfl);refine Hu W _ _ 68 rfl w4.heap.size 3 i0 (.int ζ 0) 1 ϓ hi e4 e5 ζ ζ _ _ m h3 h3 rfl rfl (by rw[e6];omega) (by unfold ϙ;omega) (e9.trans U).size ?_;intro W' dd a6;refine⟨_,rfl,(Ι W).grown a6 (λk e=>by cases e),⟨_,rfl,by rw[<-B7];exact dd⟩,λj u _ hu hj=>?_⟩;have df:j=2\/j=6:=by omega
    rcases df with rfl|rfl
    ·obtain⟨g',bd,be⟩:=hu;exact L8 bd be _ _
    ·obtain⟨g',bd,be⟩:=hu;exact L8 bd be _ _
   ·refine Uc _ _ rfl rfl rfl λc W U ai bb au=>?_
    obtain⟨g,h3,h4⟩:∃ g,c.tmps.getD 24 ς=Β (Δ ⟨g,0,Γ⟩) m m/\W.ownsRow w4.heap.size 3 1 (c.tmps.getD 24 ς) m ((δ m 0).map iv):=ai 2 24 (by kernel_rfl);rw[h3] at h4;refine C4 (v:=Β (Δ ⟨g,0,Γ⟩) m m) (w':=W) ?_ ?_
    ·simp only[execOp,Act.eval,h3];rfl
    exact⟨_,rfl,Ι W,⟨g,rfl,h4⟩,λj u gn _ hd hj=>by
     have:=hd 2 24 (by kernel_rfl) (by omega) (by omega);rw[h3] at this;exact this⟩
   ·refine Uc _ _ rfl rfl rfl λc W U ai bb au=>?_
    obtain⟨g,h3,h4⟩:∃ g,c.tmps.getD 27 ς=Β (Δ ⟨g,0,Γ⟩) m m/\W.ownsRow w4.heap.size 3 1 (c.tmps.getD 27 ς) m ((δ m 0).map iv):=ai 5 27 (by kernel_rfl);rw[h3] at h4;refine C4 (v:=Β (Δ ⟨g,0,Γ⟩) m m) (w':=W) ?_ ?_
    ·simp only[execOp,Act.eval,h3];rfl
    exact⟨_,rfl,Ι W,⟨g,rfl,h4⟩,λj u gn _ hd hj=>by
     have:=hd 5 27 (by kernel_rfl) (by omega) (by omega);rw[h3] at this;exact this⟩
  ·have v0:vs 0=Β (Δ ⟨I,J,Γ⟩) m cc:=hF 0 (by omega);have v1:vs 1=iv m:=hF 1 (by omega);obtain⟨g2,v2,-⟩:∃ g,vs 2=Β (Δ ⟨g,0,Γ⟩) m m/\_:=hF 2 (by omega);have v3:vs 3=Β (Δ ⟨I,J,Γ⟩) m cc:=hF 3 (by omega);have v4:vs 4=iv m:=hF 4 (by omega);obtain⟨g5,v5,-⟩:∃ g,vs 5=Β (Δ ⟨g,0,Γ⟩) m m/\_:=hF 5 (by omega);obtain⟨M,v6,E⟩:∃ g,vs 6=Β (Δ ⟨g,0,Γ⟩) m m/\_:=hF 6 (by omega);obtain⟨H,v7,G⟩:∃ g,vs 7=Β (Δ ⟨g,0,Γ⟩) m m/\_:=hF 7 (by omega);have dh:M≠H:=λe=>hN 6 7 (by omega) (by omega) (by omega) (by omega) (by rw[v6,v7,e])
   rw[v6] at E;rw[v7] at G;have dk:=(Ι w4).drew.trans e7;simp only[Bq,v0,v1,v2,v3,v4,v5,v6,v7,List.getElem?_toArray,List.getElem?_cons_zero,List.getElem?_cons_succ,Option.bind_some,Ϛ,Θ,Χ,Ψ];clear hF hN v0 v1 v2 v3 v4 v5 v6 v7 e7;have fh:=dk.size;have hA:Br (λq=>if Dg c (L.getD q 0#256) then 1 else 2) m 0=δ m 0:=Hg _ _;have hB:Br (λ_=>2) m 0=δ m 0:=Hg _ _;rw[<-hA] at E;rw[<-hB] at G;clear hA hB;go_wp2_with (fail);go_loopw [30] (λvk W=>∃ k:Nat,k<=m/\vk=.int ζ k/\Ext w4 W/\w4.heap.size<=W.heap.size/\W.ownsRow w4.heap.size 3 1 (Β (Δ ⟨M,0,Γ⟩) m m) m ((Br (λq=>if Dg c (L.getD q 0#256) then 1 else 2) m k).map iv)/\
     W.ownsRow w4.heap.size 3 1 (Β (Δ ⟨H,0,Γ⟩) m m) m ((Br (λ_=>2) m k).map iv))
    (λvk _=>m-(intOf vk).toNat)
   case atStart=>exact⟨0,by omega,rfl,dk,fh,E,G⟩
   case round=>
    clear dk fh E G;obtain⟨k,hk,rfl,hE,gp,E,G⟩:=hrel;by_cases a7:k<m
    ·obtain⟨a0,a1,a2,a3⟩:=Gq (W:=wr) (λi hi=>hE.cell (db.out i (by rw[<-HM.out];exact hi))) k (by rw[HM.out];exact a7);obtain⟨K,hK⟩:∃ K,L.getD k 0#256=K:=⟨_,rfl⟩;rw[hK] at a0 a1 a2 a3;have fp:K≠0#256:=by
      rw[<-hK];exact dc.out.nz _ (by rw[Ζ,Μ (by rw[HM.out];exact a7)];exact á _)
     obtain⟨il,im,-⟩:=It K fp;obtain⟨z,hz⟩:∃ z:Nat,Bv (Al K 256)=z:=⟨(Bv (Al K 256)).toNat,by omega⟩;have gq:=Α hK;clear hK fp;go_upto_region 9 with (fail)
     obtain⟨wz,cw⟩:∃ W,wr.alloc (Ε (Aa K) 62)=W:=⟨_,rfl⟩;have cx:Ext wr wz:=cw▸(Ι wr).alloc _;have H9:=show wz.heap[wr.heap.size]? = Δ (Ε (Aa K) 62 (0,0)) from cw▸Ab wr _;simp only[cw];clear cw a0 a1 a2 a3;have iq:w4.heap.size<=wr.heap.size:=gp;generalize wr.heap.size=g9 at *;have E:=Ah E cx;have G:=Ah G cx;have hE:=hE.trans cx;have c6:=Am 0 E (C2 _ _ _).symm k (by rw[C2];exact a7);have r6:=E.frozenAt k;obtain⟨dq,ao⟩:=Bj E k 2;rw[show iv 2=Ρ.int ζ 2 from rfl] at dq ao;have cy:=G.kept ao (.inr λe=>dh (ω e).symm);have c7:=Am 0 cy (C2 _ _ _).symm k (by rw[C2];exact a7);have r7:=cy.frozenAt k;obtain⟨bo,bp⟩:=Bj cy k 2;rw[show iv 2=Ρ.int ζ 2 from rfl] at bo bp;rw[F0 (λ_=>2) _ _ a7] at bo;have dr:=dq.kept bp (.inr λe=>dh (ω e));have ft:w4.heap.size<=M:=(E.lt M rfl).1;have gv:w4.heap.size<=H:=(G.lt H rfl).1;have gw:g9≠M:=λe=>by
      obtain⟨C,hC,-⟩:=Gf E;rw[<-e,H9] at hC;injection hC with h1
      injection h1 with _ h2 _
      exact absurd h2 (by decide)
     have gx:g9≠H:=λe=>by
      obtain⟨C,hC,-⟩:=Gf G;rw[<-e,H9] at hC;injection hC with h1
      injection h1 with _ h2 _
      exact absurd h2 (by decide)
     have H9:=(ao.block g9 (An H9) (by simp[gw])).trans H9;have H9:=(bp.block g9 (An H9) (by simp[gx])).trans H9;have hE:=(hE.grown ao (λk e=>by cases e;exact ft)).grown bp (λk e=>by cases e;exact gv);clear ao bp E G dq cy cx;go_upto_region 10 with (fail)
     clear c6 r6 c7 r7;obtain⟨wy,dt⟩:∃ W,(wz.setCell ⟨M,k,Γ⟩ (.int ζ 2)).setCell ⟨H,k,Γ⟩ (.int ζ 2)=W:=⟨_,rfl⟩;rw[dt] at dr bo H9 hE;rw[dt];clear dt;have H9:=Α H9;have du:=gi.out.trans hE;have f144:=λW (U:Ext wy W)=>Α ((Pi K W (cm.out W (du.trans U)) (ε bl (du.trans U).size)).mono (R':=λe w'=>e=ν (.int ζ (z:Int))/\Ext W w') λe w' ⟨h1,h2,_⟩=>⟨by rw[h1,hz],h2⟩)
     have f131:=λW=>Α (Wn c (z:Int) (by omega) (by omega) W)
     have fu:(if Dg c (L.getD k 0#256) then 1 else 2:Nat)=if Az c (z:Int) then 1 else 2:=by rw[gq.out];unfold Dg;rw[hz]
     have fv:=Α fu;have gy:IntKind.u8.wrap (z:Int)=(z:Int):=IntWalk.u8_in _ ⟨by omega,by omega⟩;obtain⟨bx,dv⟩:∃ b,Az c (z:Int)=b:=⟨_,rfl⟩;rw[dv] at f131;have fw:=Α dv;have hc:=Α (hE.heap aq.out);clear fu dv hz du;refine B0 4 [(0,Ξ),(1,Ξ),(2,Τ),(3,Ξ),(4,Τ)] (by kernel_rfl) (by kernel_rfl) (λ_ _ _ _ h=>h) (λV=>Ext wy V) (Ι wy).drew ?_;have bt:=(Ι wy).drew;obtain⟨wx,dw⟩:∃ V,wy.drew=V:=⟨_,rfl⟩;rw[dw] at bt;rw[dw];clear dw;refine Ao (v:=.agg (Aa c)) rfl rfl (λV hV=>?_) ?_
     ·exact D2 62 (η 1) rfl w.heap.size rfl _ _ _ _ (hV.heap hc.out) ϗ rfl Bg
     simp only[Ϛ,Θ,Χ,Ψ];refine Ao (v:=.agg (Aa K)) rfl rfl (λV hV=>?_) ?_
     ·exact D2 62 (η 9) rfl g9 rfl _ _ _ _ (hV.heap H9.out) ϗ rfl Bg
     simp only[Ϛ,Θ,Χ,Ψ];refine A4 rfl (λKk hK=>?_);go_simp
     (with_reducible refine (f144 wx bt).out.mono ?_)
     rintro e w7 ⟨rfl,bk⟩;refine hK _ _ (λ_=>bt.trans bk) ?_;clear hK Kk;refine Ao (v:=.int .u8 (z:Int)) rfl rfl (λV _=>?_) ?_
     ·go_simp
     simp only[Ϛ,Θ,Χ,Ψ];refine A4 rfl (λKk hK=>?_);go_simp
     (with_reducible refine (f131 w7).out.mono ?_)
     rintro e w8 ⟨rfl,fx⟩;refine hK _ _ (λh=>absurd h (by omega)) ?_;clear hK Kk;refine B2 ?_;have cz:=(bt.trans bk).trans fx;have a8:=Ah dr cz;have bu:=Ah bo cz;have aw:=hE.trans cz;have fy:=aw.size;clear dr bo hE bt bk fx cz f131 f144 gy;cases bx
     ·have e2:(Br (λq=>if Dg c (L.getD q 0#256) then 1 else 2) m k).set k 2=Br (λq=>if Dg c (L.getD q 0#256) then 1 else 2) m (k+1):=by
       rw[<-F0 _ _ _ a7]
       congr 1
       show 2=if Dg c (L.getD k 0#256) then 1 else 2
       rw[fv.out,fw.out];rfl
      rw[e2] at a8;clear e2;go_wp2;go_roundw
      case rel=>exact⟨k+1,by omega,by go_num,aw,fy,a8,bu⟩
      case measure=>simp[intOf];omega
     ·have c6:=Am 0 a8 (by rw[ύ,C2]) k (by rw[ύ,C2];exact a7);have r6:=a8.frozenAt k;obtain⟨ea,ao⟩:=Bj a8 k 1;have e2:((Br (λq=>if Dg c (L.getD q 0#256) then 1 else 2) m k).set k 2).set k 1=Br (λq=>if Dg c (L.getD q 0#256) then 1 else 2) m (k+1):=by
       rw[List.set_set,<-F0 _ _ _ a7]
       congr 1
       show 1=if Dg c (L.getD k 0#256) then 1 else 2
       rw[fv.out,fw.out];rfl
      rw[e2] at ea;rw[show iv 1=Ρ.int ζ 1 from rfl] at ea ao;have ho:=bu.kept ao (.inr λe=>dh (ω e).symm);have fz:=aw.grown ao (λk e=>by cases e;exact ft);have hp:=fz.size;clear e2 ao a8 bu aw fy;go_wp2;go_roundw
      case rel=>exact⟨k+1,by omega,by go_num,fz,hp,ea,ho⟩
      case measure=>simp[intOf];omega
    ·obtain rfl:m=k:=by omega
     rw[I5] at E G;have b0:((ι m).map λ_=>2).length=m:=by simp
     have f145:=Aln ((ι m).map λ_=>2) (by rw[b0];exact ez) (by rw[b0];omega) H 0 m wr (λs hs=>by rw[î];exact Am 0 G b0.symm s hs);rw[b0] at f145;have f145:=Α f145;clear b0;go_upto_region 14 with (go_at_call 145;(with_reducible refine f145.out.mono ?_);rintro e w9 ⟨gc,af,rfl,ak,c1⟩;have E:=Ah E c1;have G:=Ah G c1;have hE:=hE.trans c1;have b4:=hE.heap H5.out;have cF:=(Ω (w9.alloc (Ε #[Β (Δ ⟨M,0,Γ⟩) m m,Β (Δ ⟨H,0,Γ⟩) m m,Β (Δ ⟨gc,0,Γ⟩) m af] 68)) _ 1 _ _ _ (Ag b4 (Ε #[Β (Δ ⟨M,0,Γ⟩) m m,Β (Δ ⟨H,0,Γ⟩) m m,Β (Δ ⟨gc,0,Γ⟩) m af] 68))).trans (show (#[Β (Δ ⟨I,J,Γ⟩) m cc,Β Γ 0 0,Β (Δ ⟨D.heap.size,0,Γ⟩) 3 3]:Array Ρ)[1]? = Δ (Β Γ 0 0) from rfl);have fF:=frozen_of_row (w9.alloc (Ε #[Β (Δ ⟨M,0,Γ⟩) m m,Β (Δ ⟨H,0,Γ⟩) m m,Β (Δ ⟨gc,0,Γ⟩) m af] 68)) _ 1 _ _ (Ag b4 (Ε #[Β (Δ ⟨M,0,Γ⟩) m m,Β (Δ ⟨H,0,Γ⟩) m m,Β (Δ ⟨gc,0,Γ⟩) m af] 68)))
     have eb:=setCell_eq_setRow (w9.alloc (Ε #[Β (Δ ⟨M,0,Γ⟩) m m,Β (Δ ⟨H,0,Γ⟩) m m,Β (Δ ⟨gc,0,Γ⟩) m af] 68)) (D.heap.size+1) 1 _ 30 (0,0) (Β (Δ ⟨w9.heap.size,0,Γ⟩) 3 3) (Ag b4 (Ε #[Β (Δ ⟨M,0,Γ⟩) m m,Β (Δ ⟨H,0,Γ⟩) m m,Β (Δ ⟨gc,0,Γ⟩) m af] 68));have ga:(#[Β (Δ ⟨I,J,Γ⟩) m cc,Β Γ 0 0,Β (Δ ⟨D.heap.size,0,Γ⟩) 3 3]:Array Ρ).setIfInBounds 1 (Β (Δ ⟨w9.heap.size,0,Γ⟩) 3 3)=dA (Β (Δ ⟨I,J,Γ⟩) m cc) (Β (Δ ⟨w9.heap.size,0,Γ⟩) 3 3) (Β (Δ ⟨D.heap.size,0,Γ⟩) 3 3):=rfl;rw[ga] at eb;rw[eb];clear cF fF eb ga;have bh:=Ag b4 (Ε #[Β (Δ ⟨M,0,Γ⟩) m m,Β (Δ ⟨H,0,Γ⟩) m m,Β (Δ ⟨gc,0,Γ⟩) m af] 68);have ax:=Ab w9 (Ε #[Β (Δ ⟨M,0,Γ⟩) m m,Β (Δ ⟨H,0,Γ⟩) m m,Β (Δ ⟨gc,0,Γ⟩) m af] 68);have ec:=(gl.out.trans hE).alloc (Ε #[Β (Δ ⟨M,0,Γ⟩) m m,Β (Δ ⟨H,0,Γ⟩) m m,Β (Δ ⟨gc,0,Γ⟩) m af] 68);have ed:=Ag (hE.heap HA.out) (Ε #[Β (Δ ⟨M,0,Γ⟩) m m,Β (Δ ⟨H,0,Γ⟩) m m,Β (Δ ⟨gc,0,Γ⟩) m af] 68);have E:=E.alloc (Ε #[Β (Δ ⟨M,0,Γ⟩) m m,Β (Δ ⟨H,0,Γ⟩) m m,Β (Δ ⟨gc,0,Γ⟩) m af] 68);have G:=G.alloc (Ε #[Β (Δ ⟨M,0,Γ⟩) m m,Β (Δ ⟨H,0,Γ⟩) m m,Β (Δ ⟨gc,0,Γ⟩) m af] 68);have ak:w9.ownsRow wr.heap.size 3 1 (Β (Δ ⟨gc,0,Γ⟩) m af) m (((ι m).map λ_=>2).map iv):=by
      have:=ak;unfold OwnI at this;rw[show ((ι m).map λ_=>2).length=m by simp] at this;exact this
     have ak:=ak.alloc (Ε #[Β (Δ ⟨M,0,Γ⟩) m m,Β (Δ ⟨H,0,Γ⟩) m m,Β (Δ ⟨gc,0,Γ⟩) m af] 68);obtain⟨ee,ef⟩:∃ W,w9.alloc (Ε #[Β (Δ ⟨M,0,Γ⟩) m m,Β (Δ ⟨H,0,Γ⟩) m m,Β (Δ ⟨gc,0,Γ⟩) m af] 68)=W:=⟨_,rfl⟩;rw[ef] at bh ax ec ed E G ak;simp only[ef];clear ef b4;have a6:=Bx ee (D.heap.size+1) (dA (Β (Δ ⟨I,J,Γ⟩) m cc) (Β (Δ ⟨w9.heap.size,0,Γ⟩) 3 3) (Β (Δ ⟨D.heap.size,0,Γ⟩) 3 3));have E:=E.kept a6 (Dq E bh (by decide));have G:=G.kept a6 (Dq G bh (by decide));have ak:=ak.kept a6 (Dq ak bh (by decide));have ht:w9.heap.size≠D.heap.size+1:=λe=>by
      rw[e,bh] at ax;injection ax with h1
      injection h1 with _ h2 _
      exact absurd h2 (by decide)
     have ax:=B8 ax ht (dA (Β (Δ ⟨I,J,Γ⟩) m cc) (Β (Δ ⟨w9.heap.size,0,Γ⟩) 3 3) (Β (Δ ⟨D.heap.size,0,Γ⟩) 3 3));have c2:=B8 ed (show D.heap.size≠D.heap.size+1 by omega) (dA (Β (Δ ⟨I,J,Γ⟩) m cc) (Β (Δ ⟨w9.heap.size,0,Γ⟩) 3 3) (Β (Δ ⟨D.heap.size,0,Γ⟩) 3 3));have eg:=μ ee _ _ (dA (Β (Δ ⟨I,J,Γ⟩) m cc) (Β (Δ ⟨w9.heap.size,0,Γ⟩) 3 3) (Β (Δ ⟨D.heap.size,0,Γ⟩) 3 3)) _ _ bh;have b5:=ec.setRow (show D.heap.size<=D.heap.size+1 by omega) (dA (Β (Δ ⟨I,J,Γ⟩) m cc) (Β (Δ ⟨w9.heap.size,0,Γ⟩) 3 3) (Β (Δ ⟨D.heap.size,0,Γ⟩) 3 3));generalize w9.heap.size=gb at *;obtain⟨al,eh⟩:∃ W,ee.setRow (D.heap.size+1) (dA (Β (Δ ⟨I,J,Γ⟩) m cc) (Β (Δ ⟨gb,0,Γ⟩) 3 3) (Β (Δ ⟨D.heap.size,0,Γ⟩) 3 3))=W:=⟨_,rfl⟩;rw[eh] at E G ak ax c2 eg b5;simp only[eh];clear eh bh ec ed a6;have gd:IsD al (.agg (dA (Β (Δ ⟨I,J,Γ⟩) m cc) (Β (Δ ⟨gb,0,Γ⟩) 3 3) (Β (Δ ⟨D.heap.size,0,Γ⟩) 3 3))) (Cv L (Dg c)):=by
      have a8:(ι m).map (λq=>if Dg c (L.getD q 0#256) then 1 else 2)=L.map λk=>if Dg c k then 1 else 2:=by rw[<-HM.out];exact Vj L (λk=>if Dg c k then 1 else 2)
      have bu:(ι m).map (λ_=>2)=L.map λ_=>2:=by rw[<-HM.out];exact Vj L (λ_=>2)
      rw[a8] at E;rw[bu] at G ak;have ints:∀ {base:Nat} {v:Ρ} {r:List Nat},al.ownsRow base 3 1 v m (r.map iv)->r.length=m->Ints al v r:=λ{base v r} h hl=>by
       have:OwnI al base v r:=by unfold OwnI;rw[hl];exact h
       exact this.ints (by omega)
      refine⟨_,_,_,rfl,gj.out.ext b5,⟨[Β (Δ ⟨M,0,Γ⟩) m m,Β (Δ ⟨H,0,Γ⟩) m m,Β (Δ ⟨gc,0,Γ⟩) m af],rfl,?_,λi hi=>?_⟩,?_⟩
      ·refine⟨by show (3:Nat)<=_;omega,.inr ⟨by show 0<3;omega,_,0,3,rfl,An ax,λi hi=>?_⟩⟩;have hi:i<3:=by have:i<3*1:=hi;omega
       rw[î,Ω al _ i _ _ _ ax]
       match i,hi with
       | 0,_=>rfl
       | 1,_=>rfl
       | 2,_=>rfl
      ·have hi:i<3:=hi
       match i,hi with
       | 0,_=>exact (show Ints al _ (L.map λk=>if Dg c k then 1 else 2) from ints E (by rw[Ϗ];exact HM.out))
       | 1,_=>exact (show Ints al _ (L.map λ_=>2) from ints G (by rw[Ϗ];exact HM.out))
       | 2,_=>exact (show Ints al _ (L.map λ_=>2) from ints ak (by rw[Ϗ];exact HM.out))
      ·refine⟨by show (3:Nat)<=_;omega,.inr ⟨by show 0<3;omega,_,0,3,rfl,An c2,λi hi=>?_⟩⟩;have hi:i<3:=by have:i<3*1:=hi;omega
       rw[î,Ω al _ i _ _ _ c2]
       match i,hi with
       | 0,_=>rfl
       | 1,_=>rfl
       | 2,_=>rfl
     have aw:=ey.out.trans b5;have h0:=Α (Jf (Cv L (Dg c)) (Ah5 dc.out _) (by show (3:Nat)<=64;omega) _ al (cm.out al aw) (ε bl aw.size) gd);have T:=Α (b5.heap gk.out);have HX:=Α eg;have h6:=Α aw;have h7:=Α (λu=>Ah6 dc.out (Dg c) c (λb hb=>Aje ew.out b hb) u);clear gd aw eg c2 ax E G ak hE c1 f145 b5;go_wp2_with (first
      | (refine Υ rfl 30 (η 5) rfl _ rfl _ _ _ _ HX.out Ν rfl Ad ?_)
      | (go_at_call 28;(with_reducible refine h0.out.mono ?_);rintro e ei ⟨r,bj,b6,b7,b8⟩;obtain⟨b9,ca,cb,cd,cf,cg,ch,cj,ck,k2,rfl⟩:=bj.form;have ek:=Α bj;have cl:=Α b6;have en:=Α b7;clear bj b6 b7;have T:=Α (b8.heap T.out))
      | (refine Φ rfl 30 (η 2) (η 58) rfl _ _ rfl rfl _ _ T.out Ad rfl (Ap _ _ _ rfl rfl rfl) ?_))
     refine ϋ (v:=ϥ #[.agg (dA (Β b9 ca cb) (Β cd cf cg) (Β ch cj ck)),.int ζ k2]) (Ba rfl _ _ _ _ _ _ _ rfl _ rfl (μ ei _ _ (dA (Β b9 ca cb) (Β cd cf cg) (Β ch cj ck)) 30 (0,0) T.out) Ν rfl Ad) rfl ?_;exact⟨r,ek.out.setRow (λd' h=>by injection h with h;subst h;exact cl.out.val) T.out _,cl.out,λu=>by rw[en.out];exact h7.out u,(h6.out.trans b8).setRow (by omega) _⟩
 ·have f117:=λW (U:Ext w W)=>Α (U3 W (cm.out W U) (ε bl U.size))
  go_wp2_with (first
   | (refine Υ rfl 62 (η 1) rfl _ rfl _ _ _ _ aq.out ϗ rfl Bg ?_)
   | (go_at_call 105;(with_reducible refine (f105 _).out.mono ?_);rintro e w2 ⟨rfl,ay⟩;have ba:=Α (c9.out.trans ay);have T:=Α (ay.heap T.out);clear ay)
   | (go_at_call 117;(with_reducible refine (f117 _ ba.out).out.mono ?_);rintro e ei ⟨r,bj,b6,b7,b8⟩;obtain⟨b9,ca,cb,cd,cf,cg,ch,cj,ck,k2,rfl⟩:=bj.form;have ek:=Α bj;have cl:=Α b6;have en:=Α b7;clear bj b6 b7;have T:=Α (b8.heap T.out))
   | (refine Φ rfl 30 (η 2) (η 14) rfl _ _ rfl rfl _ _ T.out Ad rfl (Ap _ _ _ rfl rfl rfl) ?_))
  refine ϋ (v:=ϥ #[.agg (dA (Β b9 ca cb) (Β cd cf cg) (Β ch cj ck)),.int ζ k2]) (Ba rfl _ _ _ _ _ _ _ rfl _ rfl (μ ei _ _ (dA (Β b9 ca cb) (Β cd cf cg) (Β ch cj ck)) 30 (0,0) T.out) Ν rfl Ad) rfl ?_;refine⟨r,ek.out.setRow (λd' h=>by injection h with h;subst h;exact cl.out.val) T.out _,cl.out,λu=>?_,(ba.out.trans b8).setRow (by omega) _⟩;rw[en.out];have ia:=gh.out.1 (by simp);constructor
  ·intro h;cases h
  ·rintro⟨x,_,hx⟩;rw[ia] at hx;simp at hx
def rnA (k l r:Nat) (c:Cls) (mn:Nat) (mx:Int):Array Ρ:=#[iv k,.int π (wd c 0),.int π (wd c 1),.int π (wd c 2),.int π (wd c 3),iv l,iv r,iv mn,.int ζ mx]
def DsAt (W:Κ) (b o:Nat) (ds:List Dfa):Prop:=∀ i,i<ds.length->∃ D E G,W.rangeAt b (o+i*3) [D,E,G]/\IsD W (.agg #[D,E,G]) (ds.getD i dN)
theorem DsAt.ext {W W':Κ} {b o:Nat} {ds:List Dfa} (h:DsAt W b o ds) (D:Ext W W'):DsAt W' b o ds:=λi hi=>by
 obtain⟨E,G,H,I,J⟩:=h i hi;exact⟨E,G,H,λj v M=>D.cell (I j v M),J.ext D⟩
theorem Ps:(Η.info? 64).map (·.size)=Δ 9:=by kernel_rfl
theorem Fz (D E G:Ρ):(Η.info? 30).map (·.size)=Δ [D,E,G].length:=by kernel_rfl
theorem Fk (D E G H:Ρ):(Η.info? 62).map (·.size)=Δ [D,E,G,H].length:=by kernel_rfl
theorem Ts {d:Dfa} (hd:Val d) (ab:d.n.length<=64) {G:Nat} {hi:Int} {r:Option Dfa} (h:Hr d G hi r) (q:Dfa) (T:r=Δ q):Val q/\q.n.length<=64:=by
 subst T;obtain⟨e,he,p,U,D⟩:=h;have ad:=Md (show Fit e (λw=>w=[]) from he);cases p with
 | none=>cases (show Δ q=Γ from D)
 | some p=>
  obtain⟨H,I⟩:=J4 G e p he.1.val (by omega) U;unfold E2 at D;simp only at D;by_cases J:hi=G
  ·rw[if_pos J] at D;injection D with D
   subst D;exact⟨H,I⟩
  ·rw[if_neg J] at D;by_cases M:hi<0
   ·rw[if_pos M] at D;obtain⟨s,h3,E⟩:=D;cases s with
    | none=>cases (show Δ q=Γ from E)
    | some s=>exact Je (show Fb p s (Δ q) from E) q rfl
   ·rw[if_neg M] at D;obtain⟨s,h3,E⟩:=D;cases s with
    | none=>cases (show Δ q=Γ from E)
    | some s=>exact J4 _ p q H I (show Ef p s _ (Δ q) from E)
def okD (ds:List Dfa):Prop:=∀ i,i<ds.length->Val (ds.getD i dN)/\(ds.getD i dN).n.length<=64
theorem Aga (k l r:Nat) (c:Cls) (mn:Nat) (mx:Int) (ds:List Dfa) (hg:(RNode.mk k l r c mn mx).good ds.length) (cp:mn<=16) (cq:mx=-1\/(mn:Int)<=mx) (cr:mx<=16) (cj:okD ds) (b o N ct:Nat) (hN:ds.length<=N) (c1:N<=200) (w:Κ) (hT:Tab w) (bg:0<w.heap.size) (cl:DsAt w b o ds) :
  Ϝ Η 83 #[.agg (rnA k l r c mn mx),Β (Δ ⟨b,o,Γ⟩) N ct] w λe w'=>∃ q,ResOf w' e q/\Gw (RNode.mk k l r c mn mx) ds q/\Ext w w':=by
 have bw:=Α (λW (D:Ext w W)=>hT.below D.below bg);have bh:=Α cj;have bj:=Α cl;have cf:=((Ι w).alloc (Ε (rnA k l r c mn mx) 64)).alloc (Ε #[Β Γ 0 0,Β Γ 0 0,Β Γ 0 0] 30);have H2:=Ag (Ab w (Ε (rnA k l r c mn mx) 64)) (Ε #[Β Γ 0 0,Β Γ 0 0,Β Γ 0 0] 30);have E:=Ϙ w (Ε (rnA k l r c mn mx) 64) (Ε #[Β Γ 0 0,Β Γ 0 0,Β Γ 0 0] 30);obtain⟨g1,g2,g3,g4,g5⟩:=hg;simp only at g1 g2 g3 g4 g5;have f117:=λW (D:Ext w W)=>Α (U3 W (bw.out W D) (ε bg D.size))
 have f45:=λW (D:Ext w W)=>Α (Nk [] (by simp) _ W (Yp W))
 have f118:=λW (D:Ext w W)=>Α (Ahz c W (bw.out W D) (ε bg D.size))
 clear hT cj cl;go_enter Tryz.func83,Tryz.ntmps83;go_upto_region 1 with (fail)
 obtain⟨w1,ch⟩:∃ W,(w.alloc (Ε (rnA k l r c mn mx) 64)).alloc (Ε #[Β Γ 0 0,Β Γ 0 0,Β Γ 0 0] 30)=W:=⟨_,rfl⟩;rw[ch] at cf H2 E;simp only[ch];clear ch;have bc:=Α (λ(W:Κ) (D:W.heap[w.heap.size]? = Δ (Ε (rnA k l r c mn mx) 64 (0,0)))=>(⟨(Ω W _ 0 _ _ _ D).trans rfl,(Ω W _ 5 _ _ _ D).trans rfl,(Ω W _ 6 _ _ _ D).trans rfl,(Ω W _ 7 _ _ _ D).trans rfl,(Ω W _ 8 _ _ _ D).trans rfl⟩ :
  W.cell? ⟨w.heap.size,0,Γ⟩=Δ (iv k)/\W.cell? ⟨w.heap.size,5,Γ⟩=Δ (iv l)/\W.cell? ⟨w.heap.size,6,Γ⟩=Δ (iv r)/\W.cell? ⟨w.heap.size,7,Γ⟩=Δ (iv mn)/\W.cell? ⟨w.heap.size,8,Γ⟩=Δ (.int ζ mx)))
 have cm:w1.rangeAt w.heap.size 1 [.int π (wd c 0),.int π (wd c 1),.int π (wd c 2),.int π (wd c 3)]:=λj v hj=>by
  rw[Ω w1 _ _ _ _ _ H2]
  match j,hj with
  | 0,hj=>exact hj
  | 1,hj=>exact hj
  | 2,hj=>exact hj
  | 3,hj=>exact hj
 have cx:=Α cm;have H2:=Α H2;have E:=Α E;have an:=Α cf;clear cf cm;have hk:=(bc.out w1 H2.out).1;have cy:k=1\/k=2\/k=3\/k=4\/k=5\/k=6\/k=7\/k=8:=by omega
 rcases cy with rfl|rfl|rfl|rfl|rfl|rfl|rfl|rfl
 ·go_wp2_with (first
  | (go_at_call 117;(with_reducible refine (f117 _ an.out).out.mono ?_);rintro e w2 ⟨re,J,a6,a7,H⟩;obtain⟨M,T,U,aa,ab,ad,ae,af,ag,k1,rfl⟩:=J.form;have aq:=Α J;have a8:=Α a6;have bx:=Α a7;have ai:=Α (an.out.trans H);have E:=Α (H.heap E.out);clear J a6 a7 H)
  | (refine Φ rfl 30 (η 4) (η 11) rfl _ _ rfl rfl _ _ E.out Ad rfl (Ap _ _ _ rfl rfl rfl) ?_))
  refine ϋ (v:=ϥ #[.agg (dA (Β M T U) (Β aa ab ad) (Β ae af ag)),.int ζ k1]) (Ba rfl _ _ _ _ _ _ _ rfl _ rfl (μ w2 _ _ (dA (Β M T U) (Β aa ab ad) (Β ae af ag)) 30 (0,0) E.out) Ν rfl Ad) rfl ?_;refine⟨Δ re,aq.out.setRow (λd' h=>by injection h with h;subst h;exact a8.out.val) E.out _,?_,ai.out.setRow (by omega) _⟩;show Fq _ _;exact⟨re,rfl,a8.out,λu=>by rw[bx.out];simp⟩
 ·go_wp2_with (first
  | (go_at_call 45;(with_reducible refine (f45 _ an.out).out.mono ?_);rintro e w2 ⟨re,J,a6,a7,H⟩;obtain⟨M,T,U,aa,ab,ad,ae,af,ag,k1,rfl⟩:=J.form;have aq:=Α J;have a8:=Α a6;have bx:=Α a7;have ai:=Α (an.out.trans H);have E:=Α (H.heap E.out);clear J a6 a7 H)
  | (refine Φ rfl 30 (η 4) (η 16) rfl _ _ rfl rfl _ _ E.out Ad rfl (Ap _ _ _ rfl rfl rfl) ?_))
  refine ϋ (v:=ϥ #[.agg (dA (Β M T U) (Β aa ab ad) (Β ae af ag)),.int ζ k1]) (Ba rfl _ _ _ _ _ _ _ rfl _ rfl (μ w2 _ _ (dA (Β M T U) (Β aa ab ad) (Β ae af ag)) 30 (0,0) E.out) Ν rfl Ad) rfl ?_;refine⟨Δ re,aq.out.setRow (λd' h=>by injection h with h;subst h;exact a8.out.val) E.out _,?_,ai.out.setRow (by omega) _⟩;show Fq _ _;exact⟨re,rfl,a8.out,bx.out⟩
 ·go_wp2_with (first
  | (refine wpList_load_mid rfl 62 (η 20) rfl _ 1 rfl _ _ cx.out ϗ rfl (Fk _ _ _ _) ?_)
  | (go_at_call 118;(with_reducible refine (f118 _ an.out).out.mono ?_);rintro e w2 ⟨re,J,a6,a7,H⟩;obtain⟨M,T,U,aa,ab,ad,ae,af,ag,k1,rfl⟩:=J.form;have aq:=Α J;have a8:=Α a6;have bx:=Α a7;have ai:=Α (an.out.trans H);have E:=Α (H.heap E.out);clear J a6 a7 H)
  | (refine Φ rfl 30 (η 4) (η 23) rfl _ _ rfl rfl _ _ E.out Ad rfl (Ap _ _ _ rfl rfl rfl) ?_))
  refine ϋ (v:=ϥ #[.agg (dA (Β M T U) (Β aa ab ad) (Β ae af ag)),.int ζ k1]) (Ba rfl _ _ _ _ _ _ _ rfl _ rfl (μ w2 _ _ (dA (Β M T U) (Β aa ab ad) (Β ae af ag)) 30 (0,0) E.out) Ν rfl Ad) rfl ?_;refine⟨Δ re,aq.out.setRow (λd' h=>by injection h with h;subst h;exact a8.out.val) E.out _,?_,ai.out.setRow (by omega) _⟩;show Fq _ _;exact⟨re,rfl,a8.out,bx.out⟩
 ·obtain⟨ax,bk⟩:=g1 (by simp);obtain⟨x1,x2,x3,ay,az⟩:=bj.out l ax;obtain⟨y1,y2,y3,bo,bp⟩:=bj.out r bk;obtain⟨bd,be⟩:=bh.out l ax;obtain⟨b7,b8⟩:=bh.out r bk;have cd:l<N:=by omega
  have cn:r<N:=by omega
  have bf:=Α (λ(W:Κ) (D:Ext w W) j v hj=>D.cell (ay j v hj));have b9:=Α (λ(W:Κ) (D:Ext w W) j v hj=>D.cell (bo j v hj));have fc:=λW (D:Ext w W)=>Α (Qo (ds.getD l dN) (ds.getD r dN) bd b7 be b8 _ _ W (bw.out W D) (ε bg D.size) (az.ext D) (bp.ext D))
  clear ay bo az bp;go_upto_region 9 with (fail)
  clear hk;refine B0 14 [(0,Ξ),(1,Ξ),(2,Ξ),(3,Ξ),(4,Ξ),(5,Ξ),(6,Ξ),(7,Ξ),(8,Ξ),(9,Ξ),(10,Τ),(11,Ξ),(12,Ξ),(13,Τ),(14,Τ)] (by kernel_rfl) (by kernel_rfl) (λ_ _ _ _ h=>h)
   (λV=>Ext w V/\V.heap[w.heap.size]? = Δ (Ε (rnA 4 l r c mn mx) 64 (0,0))) ⟨an.out.trans (Ι w1).drew,(Ι w1).drew.heap H2.out⟩ ?_
  have aj:Ext w w1.drew/\w1.drew.heap[w.heap.size]? = Δ (Ε (rnA 4 l r c mn mx) 64 (0,0)):=⟨an.out.trans (Ι w1).drew,(Ι w1).drew.heap H2.out⟩;have ar:=(Ι w1).drew.heap E.out;obtain⟨wy,au⟩:∃ V,w1.drew=V:=⟨_,rfl⟩;rw[au] at aj ar;rw[au];clear au;iterate 4
   refine Ao (v:=?_) rfl rfl (λV G=>?_) ?_
   rotate_left
   ·obtain⟨c0,c5,c6,c7,c8⟩:=bc.out V G.2;clear G;go_simp;first|done|with_reducible rfl
   simp only[Ϛ,Θ,Χ,Ψ]
  refine Ao (v:=.agg #[x1,x2,x3]) rfl rfl (λV G=>?_) ?_
  ·exact Fl 30 (η 30) rfl b (o+l*3) rfl _ _ (bf.out V G.1) Ν rfl (Fz _ _ _)
  simp only[Ϛ,Θ,Χ,Ψ];iterate 4
   refine Ao (v:=?_) rfl rfl (λV G=>?_) ?_
   rotate_left
   ·obtain⟨c0,c5,c6,c7,c8⟩:=bc.out V G.2;clear G;go_simp;first|done|with_reducible rfl
   simp only[Ϛ,Θ,Χ,Ψ]
  refine Ao (v:=.agg #[y1,y2,y3]) rfl rfl (λV G=>?_) ?_
  ·exact Fl 30 (η 35) rfl b (o+r*3) rfl _ _ (b9.out V G.1) Ν rfl (Fz _ _ _)
  simp only[Ϛ,Θ,Χ,Ψ];refine A4 rfl (λKk I=>?_);go_simp
  (with_reducible refine (fc wy aj.1).out.mono ?_)
  rintro e w2 ⟨re,J,hrel,H⟩;obtain⟨M,T,U,aa,ab,ad,ae,af,ag,k1,rfl⟩:=J.form;have E:=Α (H.heap ar);have aq:=Α J;have ba:=Α hrel;have ai:=Α (aj.1.trans H);have bb:=Α (H.heap aj.2);clear J hrel fc ar;refine I _ _ (λ_=>⟨ai.out,bb.out⟩) ?_;clear I Kk;refine Ao (v:=.agg (dA (Β M T U) (Β aa ab ad) (Β ae af ag))) rfl rfl (λV _=>?_) ?_
  ·go_simp
  simp only[Ϛ,Θ,Χ,Ψ];refine Ao (v:=.int ζ k1) rfl rfl (λV _=>?_) ?_
  ·go_simp
  simp only[Ϛ,Θ,Χ,Ψ];refine A4 rfl (λKk I=>?_);refine Gc 30 (η 4) (η 38) rfl rfl _ _ rfl rfl _ _ E.out Ad rfl (Ap _ _ _ rfl rfl rfl) ?_;refine I _ _ (λ_=>⟨ai.out.setRow (show w.heap.size<=w.heap.size+1 by omega) _,B8 bb.out (show w.heap.size≠w.heap.size+1 by omega) _⟩) ?_;clear I Kk;refine A4 rfl (λKk I=>?_);go_simp;refine I _ _ (λh=>absurd h (by omega)) ?_;clear I Kk;refine B2 ?_;clear aj H;go_wp2;refine ϋ (v:=ϥ #[.agg (dA (Β M T U) (Β aa ab ad) (Β ae af ag)),.int ζ k1]) (Ba rfl _ _ _ _ _ _ _ rfl _ rfl (μ w2 _ _ (dA (Β M T U) (Β aa ab ad) (Β ae af ag)) 30 (0,0) E.out) Ν rfl Ad) rfl ?_;refine⟨re,aq.out.setRow (λd' h=>(Je ba.out d' h).1) E.out _,?_,ai.out.setRow (by omega) _⟩;exact ba.out
 ·obtain⟨ax,bk⟩:=g1 (by simp);obtain⟨x1,x2,x3,ay,az⟩:=bj.out l ax;obtain⟨y1,y2,y3,bo,bp⟩:=bj.out r bk;obtain⟨bd,be⟩:=bh.out l ax;obtain⟨b7,b8⟩:=bh.out r bk;have cd:l<N:=by omega
  have cn:r<N:=by omega
  have bf:=Α (λ(W:Κ) (D:Ext w W) j v hj=>D.cell (ay j v hj));have b9:=Α (λ(W:Κ) (D:Ext w W) j v hj=>D.cell (bo j v hj));have fc:=λW (D:Ext w W)=>Α (Ox (ds.getD l dN) (ds.getD r dN) bd b7 be b8 _ _ W (bw.out W D) (ε bg D.size) (az.ext D) (bp.ext D))
  clear ay bo az bp;go_upto_region 11 with (fail)
  clear hk;refine B0 14 [(0,Ξ),(1,Ξ),(2,Ξ),(3,Ξ),(4,Ξ),(5,Ξ),(6,Ξ),(7,Ξ),(8,Ξ),(9,Ξ),(10,Τ),(11,Ξ),(12,Ξ),(13,Τ),(14,Τ)] (by kernel_rfl) (by kernel_rfl) (λ_ _ _ _ h=>h)
   (λV=>Ext w V/\V.heap[w.heap.size]? = Δ (Ε (rnA 5 l r c mn mx) 64 (0,0))) ⟨an.out.trans (Ι w1).drew,(Ι w1).drew.heap H2.out⟩ ?_
  have aj:Ext w w1.drew/\w1.drew.heap[w.heap.size]? = Δ (Ε (rnA 5 l r c mn mx) 64 (0,0)):=⟨an.out.trans (Ι w1).drew,(Ι w1).drew.heap H2.out⟩;have ar:=(Ι w1).drew.heap E.out;obtain⟨wy,au⟩:∃ V,w1.drew=V:=⟨_,rfl⟩;rw[au] at aj ar;rw[au];clear au;iterate 4
   refine Ao (v:=?_) rfl rfl (λV G=>?_) ?_
   rotate_left
   ·obtain⟨c0,c5,c6,c7,c8⟩:=bc.out V G.2;clear G;go_simp;first|done|with_reducible rfl
   simp only[Ϛ,Θ,Χ,Ψ]
  refine Ao (v:=.agg #[x1,x2,x3]) rfl rfl (λV G=>?_) ?_
  ·exact Fl 30 (η 45) rfl b (o+l*3) rfl _ _ (bf.out V G.1) Ν rfl (Fz _ _ _)
  simp only[Ϛ,Θ,Χ,Ψ];iterate 4
   refine Ao (v:=?_) rfl rfl (λV G=>?_) ?_
   rotate_left
   ·obtain⟨c0,c5,c6,c7,c8⟩:=bc.out V G.2;clear G;go_simp;first|done|with_reducible rfl
   simp only[Ϛ,Θ,Χ,Ψ]
  refine Ao (v:=.agg #[y1,y2,y3]) rfl rfl (λV G=>?_) ?_
  ·exact Fl 30 (η 50) rfl b (o+r*3) rfl _ _ (b9.out V G.1) Ν rfl (Fz _ _ _)
  simp only[Ϛ,Θ,Χ,Ψ];refine A4 rfl (λKk I=>?_);go_simp
  (with_reducible refine (fc wy aj.1).out.mono ?_)
  rintro e w2 ⟨re,J,hrel,H⟩;obtain⟨M,T,U,aa,ab,ad,ae,af,ag,k1,rfl⟩:=J.form;have E:=Α (H.heap ar);have aq:=Α J;have ba:=Α hrel;have ai:=Α (aj.1.trans H);have bb:=Α (H.heap aj.2);clear J hrel fc ar;refine I _ _ (λ_=>⟨ai.out,bb.out⟩) ?_;clear I Kk;refine Ao (v:=.agg (dA (Β M T U) (Β aa ab ad) (Β ae af ag))) rfl rfl (λV _=>?_) ?_
  ·go_simp
  simp only[Ϛ,Θ,Χ,Ψ];refine Ao (v:=.int ζ k1) rfl rfl (λV _=>?_) ?_
  ·go_simp
  simp only[Ϛ,Θ,Χ,Ψ];refine A4 rfl (λKk I=>?_);refine Gc 30 (η 4) (η 53) rfl rfl _ _ rfl rfl _ _ E.out Ad rfl (Ap _ _ _ rfl rfl rfl) ?_;refine I _ _ (λ_=>⟨ai.out.setRow (show w.heap.size<=w.heap.size+1 by omega) _,B8 bb.out (show w.heap.size≠w.heap.size+1 by omega) _⟩) ?_;clear I Kk;refine A4 rfl (λKk I=>?_);go_simp;refine I _ _ (λh=>absurd h (by omega)) ?_;clear I Kk;refine B2 ?_;clear aj H;go_wp2;refine ϋ (v:=ϥ #[.agg (dA (Β M T U) (Β aa ab ad) (Β ae af ag)),.int ζ k1]) (Ba rfl _ _ _ _ _ _ _ rfl _ rfl (μ w2 _ _ (dA (Β M T U) (Β aa ab ad) (Β ae af ag)) 30 (0,0) E.out) Ν rfl Ad) rfl ?_;refine⟨re,aq.out.setRow (Hc ba.out) E.out _,?_,ai.out.setRow (by omega) _⟩;exact ba.out
 ·obtain⟨ax,bk⟩:=g1 (by simp);obtain⟨x1,x2,x3,ay,az⟩:=bj.out l ax;obtain⟨y1,y2,y3,bo,bp⟩:=bj.out r bk;obtain⟨bd,be⟩:=bh.out l ax;obtain⟨b7,b8⟩:=bh.out r bk;have cd:l<N:=by omega
  have cn:r<N:=by omega
  have bf:=Α (λ(W:Κ) (D:Ext w W) j v hj=>D.cell (ay j v hj));have b9:=Α (λ(W:Κ) (D:Ext w W) j v hj=>D.cell (bo j v hj));have fc:=λW (D:Ext w W)=>Α (Am8 (ds.getD l dN) (ds.getD r dN) bd b7 be b8 _ _ W (bw.out W D) (ε bg D.size) (az.ext D) (bp.ext D))
  clear ay bo az bp;go_upto_region 13 with (fail)
  clear hk;refine B0 14 [(0,Ξ),(1,Ξ),(2,Ξ),(3,Ξ),(4,Ξ),(5,Ξ),(6,Ξ),(7,Ξ),(8,Ξ),(9,Ξ),(10,Τ),(11,Ξ),(12,Ξ),(13,Τ),(14,Τ)] (by kernel_rfl) (by kernel_rfl) (λ_ _ _ _ h=>h)
   (λV=>Ext w V/\V.heap[w.heap.size]? = Δ (Ε (rnA 6 l r c mn mx) 64 (0,0))) ⟨an.out.trans (Ι w1).drew,(Ι w1).drew.heap H2.out⟩ ?_
  have aj:Ext w w1.drew/\w1.drew.heap[w.heap.size]? = Δ (Ε (rnA 6 l r c mn mx) 64 (0,0)):=⟨an.out.trans (Ι w1).drew,(Ι w1).drew.heap H2.out⟩;have ar:=(Ι w1).drew.heap E.out;obtain⟨wy,au⟩:∃ V,w1.drew=V:=⟨_,rfl⟩;rw[au] at aj ar;rw[au];clear au;iterate 4
   refine Ao (v:=?_) rfl rfl (λV G=>?_) ?_
   rotate_left
   ·obtain⟨c0,c5,c6,c7,c8⟩:=bc.out V G.2;clear G;go_simp;first|done|with_reducible rfl
   simp only[Ϛ,Θ,Χ,Ψ]
  refine Ao (v:=.agg #[x1,x2,x3]) rfl rfl (λV G=>?_) ?_
  ·exact Fl 30 (η 60) rfl b (o+l*3) rfl _ _ (bf.out V G.1) Ν rfl (Fz _ _ _)
  simp only[Ϛ,Θ,Χ,Ψ];iterate 4
   refine Ao (v:=?_) rfl rfl (λV G=>?_) ?_
   rotate_left
   ·obtain⟨c0,c5,c6,c7,c8⟩:=bc.out V G.2;clear G;go_simp;first|done|with_reducible rfl
   simp only[Ϛ,Θ,Χ,Ψ]
  refine Ao (v:=.agg #[y1,y2,y3]) rfl rfl (λV G=>?_) ?_
  ·exact Fl 30 (η 65) rfl b (o+r*3) rfl _ _ (b9.out V G.1) Ν rfl (Fz _ _ _)
  simp only[Ϛ,Θ,Χ,Ψ];refine A4 rfl (λKk I=>?_);go_simp
  (with_reducible refine (fc wy aj.1).out.mono ?_)
  rintro e w2 ⟨re,J,hrel,H⟩;obtain⟨M,T,U,aa,ab,ad,ae,af,ag,k1,rfl⟩:=J.form;have E:=Α (H.heap ar);have aq:=Α J;have ba:=Α hrel;have ai:=Α (aj.1.trans H);have bb:=Α (H.heap aj.2);clear J hrel fc ar;refine I _ _ (λ_=>⟨ai.out,bb.out⟩) ?_;clear I Kk;refine Ao (v:=.agg (dA (Β M T U) (Β aa ab ad) (Β ae af ag))) rfl rfl (λV _=>?_) ?_
  ·go_simp
  simp only[Ϛ,Θ,Χ,Ψ];refine Ao (v:=.int ζ k1) rfl rfl (λV _=>?_) ?_
  ·go_simp
  simp only[Ϛ,Θ,Χ,Ψ];refine A4 rfl (λKk I=>?_);refine Gc 30 (η 4) (η 68) rfl rfl _ _ rfl rfl _ _ E.out Ad rfl (Ap _ _ _ rfl rfl rfl) ?_;refine I _ _ (λ_=>⟨ai.out.setRow (show w.heap.size<=w.heap.size+1 by omega) _,B8 bb.out (show w.heap.size≠w.heap.size+1 by omega) _⟩) ?_;clear I Kk;refine A4 rfl (λKk I=>?_);go_simp;refine I _ _ (λh=>absurd h (by omega)) ?_;clear I Kk;refine B2 ?_;clear aj H;go_wp2;refine ϋ (v:=ϥ #[.agg (dA (Β M T U) (Β aa ab ad) (Β ae af ag)),.int ζ k1]) (Ba rfl _ _ _ _ _ _ _ rfl _ rfl (μ w2 _ _ (dA (Β M T U) (Β aa ab ad) (Β ae af ag)) 30 (0,0) E.out) Ν rfl Ad) rfl ?_;refine⟨re,aq.out.setRow (Hc ba.out) E.out _,?_,ai.out.setRow (by omega) _⟩;exact ba.out
 ·have ax:=g2 (by simp);obtain⟨x1,x2,x3,ay,az⟩:=bj.out l ax;obtain⟨bd,be⟩:=bh.out l ax;have cd:l<N:=by omega
  have bf:=Α (λ(W:Κ) (D:Ext w W) j v hj=>D.cell (ay j v hj));have fc:=λW (D:Ext w W)=>Α (U2 (ds.getD l dN) bd be _ W (bw.out W D) (ε bg D.size) (az.ext D))
  obtain⟨c0,c5,c6,c7,c8⟩:=bc.out w1 H2.out;clear ay az;go_wp2_with (first
   | (refine wpList_load_mid rfl 30 (η 75) rfl b (o+l*3) rfl _ _ (bf.out w1 an.out) Ν rfl (Fz _ _ _) ?_)
   | (go_at_call 32;(with_reducible refine (fc _ an.out).out.mono ?_);rintro e w2 ⟨re,J,a6,a7,H⟩;obtain⟨M,T,U,aa,ab,ad,ae,af,ag,k1,rfl⟩:=J.form;have aq:=Α J;have a8:=Α a6;have bx:=Α a7;have ai:=Α (an.out.trans H);have E:=Α (H.heap E.out);clear J a6 a7 H)
   | (refine Φ rfl 30 (η 4) (η 78) rfl _ _ rfl rfl _ _ E.out Ad rfl (Ap _ _ _ rfl rfl rfl) ?_))
  refine ϋ (v:=ϥ #[.agg (dA (Β M T U) (Β aa ab ad) (Β ae af ag)),.int ζ k1]) (Ba rfl _ _ _ _ _ _ _ rfl _ rfl (μ w2 _ _ (dA (Β M T U) (Β aa ab ad) (Β ae af ag)) 30 (0,0) E.out) Ν rfl Ad) rfl ?_;refine⟨Δ re,aq.out.setRow (λd' h=>by injection h with h;subst h;exact a8.out.val) E.out _,?_,ai.out.setRow (by omega) _⟩;show Fq _ _;exact⟨re,rfl,a8.out,λu=>by rw[bx.out];simp⟩
 ·have ax:=g2 (by simp);obtain⟨x1,x2,x3,ay,az⟩:=bj.out l ax;obtain⟨bd,be⟩:=bh.out l ax;have cd:l<N:=by omega
  have bf:=Α (λ(W:Κ) (D:Ext w W) j v hj=>D.cell (ay j v hj));have fc:=λW (D:Ext w W)=>Α (Adv (ds.getD l dN) bd be mn cp mx cq cr _ W (bw.out W D) (ε bg D.size) (az.ext D))
  clear ay az;go_upto_region 16 with (fail)
  clear hk;refine B0 13 [(0,Ξ),(1,Ξ),(2,Ξ),(3,Ξ),(4,Ξ),(5,Ξ),(6,Ξ),(7,Ξ),(8,Ξ),(9,Τ),(10,Ξ),(11,Ξ),(12,Τ),(13,Τ)] (by kernel_rfl) (by kernel_rfl) (λ_ _ _ _ h=>h)
   (λV=>Ext w V/\V.heap[w.heap.size]? = Δ (Ε (rnA 8 l r c mn mx) 64 (0,0))) ⟨an.out.trans (Ι w1).drew,(Ι w1).drew.heap H2.out⟩ ?_
  have aj:Ext w w1.drew/\w1.drew.heap[w.heap.size]? = Δ (Ε (rnA 8 l r c mn mx) 64 (0,0)):=⟨an.out.trans (Ι w1).drew,(Ι w1).drew.heap H2.out⟩;have ar:=(Ι w1).drew.heap E.out;obtain⟨wy,au⟩:∃ V,w1.drew=V:=⟨_,rfl⟩;rw[au] at aj ar;rw[au];clear au;iterate 4
   refine Ao (v:=?_) rfl rfl (λV G=>?_) ?_
   rotate_left
   ·obtain⟨c0,c5,c6,c7,c8⟩:=bc.out V G.2;clear G;go_simp;first|done|with_reducible rfl
   simp only[Ϛ,Θ,Χ,Ψ]
  refine Ao (v:=.agg #[x1,x2,x3]) rfl rfl (λV G=>?_) ?_
  ·exact Fl 30 (η 83) rfl b (o+l*3) rfl _ _ (bf.out V G.1) Ν rfl (Fz _ _ _)
  simp only[Ϛ,Θ,Χ,Ψ];iterate 4
   refine Ao (v:=?_) rfl rfl (λV G=>?_) ?_
   rotate_left
   ·obtain⟨c0,c5,c6,c7,c8⟩:=bc.out V G.2;clear G;go_simp;first|done|with_reducible rfl
   simp only[Ϛ,Θ,Χ,Ψ]
  refine A4 rfl (λKk I=>?_);go_simp
  (with_reducible refine (fc wy aj.1).out.mono ?_)
  rintro e w2 ⟨re,J,hrel,H⟩;obtain⟨M,T,U,aa,ab,ad,ae,af,ag,k1,rfl⟩:=J.form;have E:=Α (H.heap ar);have aq:=Α J;have ba:=Α hrel;have ai:=Α (aj.1.trans H);have bb:=Α (H.heap aj.2);clear J hrel fc ar;refine I _ _ (λ_=>⟨ai.out,bb.out⟩) ?_;clear I Kk;refine Ao (v:=.agg (dA (Β M T U) (Β aa ab ad) (Β ae af ag))) rfl rfl (λV _=>?_) ?_
  ·go_simp
  simp only[Ϛ,Θ,Χ,Ψ];refine Ao (v:=.int ζ k1) rfl rfl (λV _=>?_) ?_
  ·go_simp
  simp only[Ϛ,Θ,Χ,Ψ];refine A4 rfl (λKk I=>?_);refine Gc 30 (η 4) (η 90) rfl rfl _ _ rfl rfl _ _ E.out Ad rfl (Ap _ _ _ rfl rfl rfl) ?_;refine I _ _ (λ_=>⟨ai.out.setRow (show w.heap.size<=w.heap.size+1 by omega) _,B8 bb.out (show w.heap.size≠w.heap.size+1 by omega) _⟩) ?_;clear I Kk;refine A4 rfl (λKk I=>?_);go_simp;refine I _ _ (λh=>absurd h (by omega)) ?_;clear I Kk;refine B2 ?_;clear aj H;go_wp2;refine ϋ (v:=ϥ #[.agg (dA (Β M T U) (Β aa ab ad) (Β ae af ag)),.int ζ k1]) (Ba rfl _ _ _ _ _ _ _ rfl _ rfl (μ w2 _ _ (dA (Β M T U) (Β aa ab ad) (Β ae af ag)) 30 (0,0) E.out) Ν rfl Ad) rfl ?_;refine⟨re,aq.out.setRow (λd' h=>(Ts bd be (ba.out) d' h).1) E.out _,ba.out,ai.out.setRow (by omega) _⟩
def arK (k:Nat):Nat:=if k=4\/k=5\/k=6 then 2 else if k=7\/k=8 then 1 else 0
theorem Y6 (k:Nat) (E:1<=k) (G:k<=8) (w:Κ):Ϝ Η 116 #[iv k] w λe w'=>e=ν (iv (arK k))/\w'=w:=by
 have D:k=1\/k=2\/k=3\/k=4\/k=5\/k=6\/k=7\/k=8:=by omega
 rcases D with rfl|rfl|rfl|rfl|rfl|rfl|rfl|rfl<;>
 ·go_enter Tryz.func116,Tryz.ntmps116;go_wp2;go_ret;exact⟨rfl,rfl⟩
theorem Wb (x i g:Nat) (D:x<i) (W:Κ) (E:W.cell? ⟨g,0,Γ⟩=Δ (iv i)) :
  Ϝ Η 142 #[iv x,.pointer (Δ ⟨g,0,Γ⟩)] W λe w'=>e=ν (.bool Ξ)/\w'=W:=by
 have G:(0:Int)<=(x:Int):=by omega
 have H:(x:Int)<(i:Int):=by omega
 go_enter Tryz.func142,Tryz.ntmps142;go_wp2;go_ret;exact⟨rfl,rfl⟩
structure VNode (k l r:Nat) (c:Cls) (mn:Nat) (mx:Int) (i:Nat):Prop where
 k1:1<=k
 k8:k<=8
 l1:0<arK k->l<i
 l0:arK k=0->l=0
 r1:1<arK k->r<i
 r0:arK k<2->r=0
 c0:k≠3->c=0#256
 m0:k≠8->mn=0/\mx=0
 m8:k=8->mn<=16/\mx<=16/\-1<=mx/\(mx≠-1->(mn:Int)<=mx)
theorem Alq (k l r:Nat) (c:Cls) (mn:Nat) (mx:Int) (i:Nat) (h:VNode k l r c mn mx i) (w:Κ) :
  Ϝ Η 115 #[.agg (rnA k l r c mn mx),iv i] w λe w'=>e=ν (.int ζ 0)/\Ext w w':=by
 obtain⟨k1,k8,l1,l0,r1,r0,c0,m0,m8⟩:=h;have U:=((Ι w).alloc (Ε (rnA k l r c mn mx) 64)).alloc (Ε #[iv i] 3);have I:=Ag (Ab w (Ε (rnA k l r c mn mx) 64)) (Ε #[iv i] 3);have H3:=Ϙ w (Ε (rnA k l r c mn mx) 64) (Ε #[iv i] 3);have f116:=λW=>Α (Y6 k k1 k8 W)
 have au:=enters_of Tryz.func142 (by kernel_rfl) rfl;have ai:k=1\/k=2\/k=3\/k=4\/k=5\/k=6\/k=7\/k=8:=by omega
 go_enter Tryz.func115,Tryz.ntmps115;go_upto_region 1 with (fail)
 obtain⟨w1,ab⟩:∃ W,(w.alloc (Ε (rnA k l r c mn mx) 64)).alloc (Ε #[iv i] 3)=W:=⟨_,rfl⟩;have af:(w.alloc (Ε (rnA k l r c mn mx) 64)).alloc (Ε #[.int ζ (i:Int)] 3)=w1:=ab;rw[ab] at U I H3;simp only[af];clear ab af;have q0:=(Ω w1 _ 0 _ _ _ I).trans (show (rnA k l r c mn mx)[0]? = Δ (iv k) from rfl);have q5:=(Ω w1 _ 5 _ _ _ I).trans (show (rnA k l r c mn mx)[5]? = Δ (iv l) from rfl);have q6:=(Ω w1 _ 6 _ _ _ I).trans (show (rnA k l r c mn mx)[6]? = Δ (iv r) from rfl);have q7:=(Ω w1 _ 7 _ _ _ I).trans (show (rnA k l r c mn mx)[7]? = Δ (iv mn) from rfl);have q8:=(Ω w1 _ 8 _ _ _ I).trans (show (rnA k l r c mn mx)[8]? = Δ (.int ζ mx) from rfl);have qi:=(Ω w1 _ 0 _ _ _ H3).trans (show (#[iv i]:Array Ρ)[0]? = Δ (iv i) from rfl);have ah:w1.rangeAt w.heap.size 1 [.int π (wd c 0),.int π (wd c 1),.int π (wd c 2),.int π (wd c 3)]:=λj v E=>by
  rw[Ω w1 _ _ _ _ _ I]
  match j,E with
  | 0,E=>exact E
  | 1,E=>exact E
  | 2,E=>exact E
  | 3,E=>exact E
 have G:=Α ah;have H:=Α U;have T:=Α (λhl:l<i=>Wb l i (w.heap.size+1) hl w1 qi);have ad:=Α (λhr:r<i=>Wb r i (w.heap.size+1) hr w1 qi);have J:=Α (λhc:c=0#256=>Km c Ξ (by rw[hc];rfl));have g3:=Kh;clear I H3 ah U;rcases ai with rfl|rfl|rfl|rfl|rfl|rfl|rfl|rfl
 ·obtain rfl:=l0 rfl;obtain rfl:=r0 (by decide);have M:=J.out (c0 (by decide));obtain⟨rfl,rfl⟩:=m0 (by decide);clear k1 k8 l1 l0 r1 r0 c0 m0 m8;go_wp2_with (first
   | (go_at_call 116;(with_reducible refine (f116 _).out.mono ?_);rintro e W' ⟨rfl,rfl⟩)
   | (refine El rfl (wp_load_mid 62 (η 57) rfl _ 1 rfl _ _ G.out ϗ rfl (Fk _ _ _ _) ?_)))
  go_ret;exact⟨rfl,H.out⟩
 ·obtain rfl:=l0 rfl;obtain rfl:=r0 (by decide);have M:=J.out (c0 (by decide));obtain⟨rfl,rfl⟩:=m0 (by decide);clear k1 k8 l1 l0 r1 r0 c0 m0 m8;go_wp2_with (first
   | (go_at_call 116;(with_reducible refine (f116 _).out.mono ?_);rintro e W' ⟨rfl,rfl⟩)
   | (refine El rfl (wp_load_mid 62 (η 57) rfl _ 1 rfl _ _ G.out ϗ rfl (Fk _ _ _ _) ?_)))
  go_ret;exact⟨rfl,H.out⟩
 ·obtain rfl:=l0 rfl;obtain rfl:=r0 (by decide);obtain⟨rfl,rfl⟩:=m0 (by decide);clear k1 k8 l1 l0 r1 r0 c0 m0 m8;go_wp2_with (first
   | (go_at_call 116;(with_reducible refine (f116 _).out.mono ?_);rintro e W' ⟨rfl,rfl⟩)
   | (refine El rfl (wp_load_mid 62 (η 57) rfl _ 1 rfl _ _ G.out ϗ rfl (Fk _ _ _ _) ?_)))
  go_ret;exact⟨rfl,H.out⟩
 ·have D:=Α (T.out (l1 (by decide)));have fr:=Α (ad.out (r1 (by decide)));have M:=J.out (c0 (by decide));obtain⟨rfl,rfl⟩:=m0 (by decide);clear k1 k8 l1 l0 r1 r0 c0 m0 m8;go_wp2_with (first
   | (go_at_call 116;(with_reducible refine (f116 _).out.mono ?_);rintro e W' ⟨rfl,rfl⟩)
   | (go_at_call 142;(with_reducible refine D.out.mono ?_);rintro e W' ⟨rfl,rfl⟩)
   | (go_at_call 142;(with_reducible refine fr.out.mono ?_);rintro e W' ⟨rfl,rfl⟩)
   | (refine El rfl (wp_load_mid 62 (η 57) rfl _ 1 rfl _ _ G.out ϗ rfl (Fk _ _ _ _) ?_)))
  go_ret;exact⟨rfl,H.out⟩
 ·have D:=Α (T.out (l1 (by decide)));have fr:=Α (ad.out (r1 (by decide)));have M:=J.out (c0 (by decide));obtain⟨rfl,rfl⟩:=m0 (by decide);clear k1 k8 l1 l0 r1 r0 c0 m0 m8;go_wp2_with (first
   | (go_at_call 116;(with_reducible refine (f116 _).out.mono ?_);rintro e W' ⟨rfl,rfl⟩)
   | (go_at_call 142;(with_reducible refine D.out.mono ?_);rintro e W' ⟨rfl,rfl⟩)
   | (go_at_call 142;(with_reducible refine fr.out.mono ?_);rintro e W' ⟨rfl,rfl⟩)
   | (refine El rfl (wp_load_mid 62 (η 57) rfl _ 1 rfl _ _ G.out ϗ rfl (Fk _ _ _ _) ?_)))
  go_ret;exact⟨rfl,H.out⟩
 ·have D:=Α (T.out (l1 (by decide)));have fr:=Α (ad.out (r1 (by decide)));have M:=J.out (c0 (by decide));obtain⟨rfl,rfl⟩:=m0 (by decide);clear k1 k8 l1 l0 r1 r0 c0 m0 m8;go_wp2_with (first
   | (go_at_call 116;(with_reducible refine (f116 _).out.mono ?_);rintro e W' ⟨rfl,rfl⟩)
   | (go_at_call 142;(with_reducible refine D.out.mono ?_);rintro e W' ⟨rfl,rfl⟩)
   | (go_at_call 142;(with_reducible refine fr.out.mono ?_);rintro e W' ⟨rfl,rfl⟩)
   | (refine El rfl (wp_load_mid 62 (η 57) rfl _ 1 rfl _ _ G.out ϗ rfl (Fk _ _ _ _) ?_)))
  go_ret;exact⟨rfl,H.out⟩
 ·have D:=Α (T.out (l1 (by decide)));obtain rfl:=r0 (by decide);have M:=J.out (c0 (by decide));obtain⟨rfl,rfl⟩:=m0 (by decide);clear k1 k8 l1 l0 r1 r0 c0 m0 m8;go_wp2_with (first
   | (go_at_call 116;(with_reducible refine (f116 _).out.mono ?_);rintro e W' ⟨rfl,rfl⟩)
   | (go_at_call 142;(with_reducible refine D.out.mono ?_);rintro e W' ⟨rfl,rfl⟩)
   | (refine El rfl (wp_load_mid 62 (η 57) rfl _ 1 rfl _ _ G.out ϗ rfl (Fk _ _ _ _) ?_)))
  go_ret;exact⟨rfl,H.out⟩
 ·have D:=Α (T.out (l1 (by decide)));obtain rfl:=r0 (by decide);have M:=J.out (c0 (by decide));obtain⟨m1,m2,m3,m4⟩:=m8 rfl;clear k1 k8 l1 l0 r1 r0 c0 m0 m8;have n1:¬ (mn:Int)<0:=by omega
  have n2:¬ mx < -1:=by omega
  have n3:¬ (16:Int)<(mn:Int):=by omega
  have n4:¬ (16:Int)<mx:=by omega
  by_cases hm:mx=-1
  ·subst hm;clear m2 m3 m4 n2 n4;go_wp2_with (first
    | (go_at_call 116;(with_reducible refine (f116 _).out.mono ?_);rintro e W' ⟨rfl,rfl⟩)
    | (go_at_call 142;(with_reducible refine D.out.mono ?_);rintro e W' ⟨rfl,rfl⟩)
    | (refine El rfl (wp_load_mid 62 (η 57) rfl _ 1 rfl _ _ G.out ϗ rfl (Fk _ _ _ _) ?_)))
   go_ret;exact⟨rfl,H.out⟩
  ·have n5:¬ mx<(mn:Int):=by have:=m4 hm;omega
   have n6:(mx != -1)=Ξ:=by simp[hm]
   clear m4;go_wp2_with (first
    | (go_at_call 116;(with_reducible refine (f116 _).out.mono ?_);rintro e W' ⟨rfl,rfl⟩)
    | (go_at_call 142;(with_reducible refine D.out.mono ?_);rintro e W' ⟨rfl,rfl⟩)
    | (refine El rfl (wp_load_mid 62 (η 57) rfl _ 1 rfl _ _ G.out ϗ rfl (Fk _ _ _ _) ?_)))
   go_ret;exact⟨rfl,H.out⟩
def rnC (n:RNode):Array Ρ:=rnA n.kind n.l n.r n.c n.min n.max
def RxAt (W:Κ) (b o:Nat) (xs:List RNode):Prop:=∀ i,i<xs.length->W.rangeAt b (o+i*9) (rnC (xs.getD i ⟨0,0,0,0#256,0,0⟩)).toList
theorem RxAt.ext {W W':Κ} {b o:Nat} {xs:List RNode} (h:RxAt W b o xs) (D:Ext W W'):RxAt W' b o xs:=λi hi j v E=>D.cell (h i hi j v E)
def Fi (n:RNode) (j:Nat):Nat:=(if 0<arK n.kind/\n.l=j then 1 else 0)+(if 1<arK n.kind/\n.r=j then 1 else 0)
def par (xs:List RNode) (j:Nat):Nat:=(xs.map λn=>Fi n j).sum
theorem Ae9 (xs:List RNode) (n:RNode) (j:Nat):par (xs++[n]) j=par xs j+Fi n j:=by simp[par]
structure VRx (xs:List RNode):Prop where
 pos:0<xs.length
 le:xs.length<=200
 node:∀ i,i<xs.length->VNode (xs.getD i ⟨0,0,0,0#256,0,0⟩).kind (xs.getD i ⟨0,0,0,0#256,0,0⟩).l (xs.getD i ⟨0,0,0,0#256,0,0⟩).r (xs.getD i ⟨0,0,0,0#256,0,0⟩).c (xs.getD i ⟨0,0,0,0#256,0,0⟩).min (xs.getD i ⟨0,0,0,0#256,0,0⟩).max i
 par:∀ j,j+1<xs.length->par xs j=1
theorem Tl (n:RNode):(rnC n).all (·.oneCell')=Ξ:=by simp[rnC,rnA,Ρ.oneCell']
theorem Tm (n:RNode):(Η.info? 64).map (·.size)=Δ (rnC n).toList.length:=by rw[show (rnC n).toList.length=9 from rfl];exact Ps
theorem Lz (n:RNode):(Η.info? 64).map (·.size)=Δ (rnC n).size:=Ps
theorem Aa8 (xs:List RNode) (i:Nat) (h:i<xs.length):xs.take (i+1)=xs.take i++[xs.getD i ⟨0,0,0,0#256,0,0⟩]:=by
 rw[List.take_succ_eq_append_getElem h,Ζ,Μ h];rfl
def Dk (N:Nat) (f:Nat->Nat):List Nat:=(ι N).map f
theorem Ft (N:Nat) (f:Nat->Nat):(Dk N f).length=N:=by simp[Dk]
theorem Lx (N:Nat) (f:Nat->Nat) (x:Nat) (D:x<N):(Dk N f).getD x 0=f x:=Da _ _ _ _ D
theorem N6 (N:Nat) (f:Nat->Nat) (x:Nat) (D:x<N):(Dk N f).set x (f x+1)=Dk N λj=>f j+if x=j then 1 else 0:=by
 apply ϡ;intro i;rw[List.getElem?_set,Ft];simp only[Dk,Ϟ];by_cases e:x=i
 ·subst e;simp[D]
 ·by_cases hi:i<N
  ·simp[ì hi,e]
  ·simp[e,hi]
theorem Am0 (k:Nat):arK k<=2:=by
 unfold arK;split
 ·omega
 ·split<;>omega
theorem Uf:∀ (xs:List RNode) (j:Nat),par xs j<=2*xs.length
 | [],j=>by simp[par]
 | n::xs,j=>by
  have:=Uf xs j;have D:Fi n j<=2:=by unfold Fi;split<;>split<;>omega
  simp only[par,List.map_cons,List.sum_cons,List.length_cons] at this ⊢;omega
theorem Ml (p:Nat):iv (p+1)=.int ζ ((p:Int)+1):=by simp
theorem N7 {N:Nat} {f g:Nat->Nat} (h:∀ j,f j=g j):Dk N f=Dk N g:=by rw[show f=g from funext h]
abbrev Fd:Array Ρ:=#[.int ζ 0,.int π 0,.int π 0,.int π 0,.int π 0,.int ζ 0,.int ζ 0,.int ζ 0,.int ζ 0]
theorem Aan (xs:List RNode) (hx:VRx xs) (b o bu:Nat) (w:Κ) (h:RxAt w b o xs) :
  Ϝ Η 82 #[Β (Δ ⟨b,o,Γ⟩) xs.length bu] w λe w'=>e=ν (.int ζ 0)/\Ext w w':=by
 have HX:=Α hx;have HR:=Α h;obtain⟨i0,hi,bz,b0,b4⟩:=ϕ Cg;obtain⟨N,hN⟩:∃ N,xs.length=N:=⟨_,rfl⟩;have b5:=hx.pos;have b6:=hx.le;rw[hN] at b5 b6;rw[hN];have H:=Α hN;have f116:=λi (hi:i<N) W=>Α (Y6 _ (HX.out.node i (by rw[H.out];exact hi)).k1 (HX.out.node i (by rw[H.out];exact hi)).k8 W)
 have f115:=λi (hi:i<N) W=>Α (Alq _ _ _ _ _ _ i (HX.out.node i (by rw[H.out];exact hi)) W)
 have c1:¬ (200:Int)<(N:Int):=by omega
 have c2:((N:Int)==0)=Τ:=by simp;omega
 have b9:ç.wrap ((N:Int)-1)=((N-1:Nat):Int):=by rw[show (N:Int)-1=((N-1:Nat):Int) by omega];exact Ý _ ⟨by omega,by omega⟩
 clear hx h hN;go_enter Tryz.func82,Tryz.ntmps82;go_upto_region 6 with (at_make;refine ϫ _ rfl _ _ 68 rfl w.heap.size 3 i0 (.int ζ 0) 1 ϓ hi bz b0 ζ ζ _ _ N rfl rfl rfl rfl (by rw[b4];omega) (by unfold ϙ;omega) (θ _) ?_;intro w1 bc bd)
 have be:Ext w w1:=(Ι w).grown bd (λk e=>by cases e);have bf:w1.ownsRow w.heap.size 3 1 (Β (Δ ⟨w.heap.size,0,Γ⟩) N N) N ((Dk N λ_=>0).map iv):=by
  have:Dk N (λ_=>0)=δ N 0:=by
   apply ϡ;intro j;simp only[Dk,Ϟ,List.getElem?_replicate];by_cases hj:j<N<;>simp[hj]
  rw[this,<-B7];exact bc
 clear bc bd c1 c2;generalize hg:w.heap.size=g at *;have HG:=Α hg;clear hg;go_wp2_with (fail);go_loopw [22] (λv W=>∃ i:Nat,i<=N/\v=.int ζ i/\Ext w W/\W.ownsRow g 3 1 (Β (Δ ⟨g,0,Γ⟩) N N) N ((Dk N (par (xs.take i))).map iv))
  (λv _=>N-(intOf v).toNat)
 case atStart=>exact⟨0,by omega,rfl,be,bf⟩
 case round=>
  clear be bf;obtain⟨i,cv,rfl,E,D⟩:=hrel;by_cases ae:i<N
  ·have ar:=(HR.out.ext E) i (by rw[H.out];exact ae);have hv:=HX.out.node i (by rw[H.out];exact ae);have f116:=f116 i ae;have f115:=f115 i ae;have au:=Aa8 xs i (by rw[H.out];exact ae);obtain⟨n,hn⟩:∃ n,xs.getD i ⟨0,0,0,0#256,0,0⟩=n:=⟨_,rfl⟩;rw[hn] at ar hv f116 f115 au;have cd:=Α au;clear hn au;have f115:∀ W,Hid (Ϝ Η 115 #[.agg (rnC n),iv i] W λe w'=>e=ν (.int ζ 0)/\Ext W w'):=f115;go_upto_region 9 with (first
    | (refine wpList_load_mid rfl 64 (η 25) rfl b (o+i*9) rfl _ _ ar Tryz.underlying64 rfl (Tm n) ?_)
    | (refine Φ rfl 64 (η 5) (η 26) rfl _ _ rfl rfl _ _ (Ab wr (Ε Fd 64)) (Lz n) rfl (Tl n) ?_))
   have al:=((Ι wr).alloc (Ε Fd 64)).setRow (θ _) (rnC n);have U:=μ (wr.alloc (Ε Fd 64)) wr.heap.size _ (rnC n) _ _ (Ab wr (Ε Fd 64));obtain⟨w2,aw⟩:∃ W,(wr.alloc (Ε Fd 64)).setRow wr.heap.size (rnC n)=W:=⟨_,rfl⟩;rw[aw] at al U;simp only[aw];clear aw ar;have D:=Ah D al;have E:=E.trans al;have U:=Α U;generalize wr.heap.size=g5 at *;clear al;have ax:=Uf (xs.take i);have cf:(xs.take i).length<=200:=by rw[List.length_take];omega
   obtain⟨f,hf⟩:∃ f,par (xs.take i)=f:=⟨_,rfl⟩;rw[hf] at D ax;have az:Hid (∀ j,par (xs.take (i+1)) j=f j+Fi n j):=Α λj=>by rw[cd.out,Ae9,hf]
   have bg:∀ j,f j<=400:=λj=>by have:=ax j;omega
   have a1:=Α bg;clear ax cf hf bg;obtain⟨a,ha⟩:∃ a,arK n.kind=a:=⟨_,rfl⟩;have an:=Am0 n.kind;have ab:=hv.l1;have af:=hv.r1;rw[ha] at f116 an ab af;have HA:=Α ha;clear ha hv;go_upto_region 12 with (first
    | (refine Υ rfl 64 (η 5) rfl _ rfl _ _ _ _ U.out Tryz.underlying64 rfl (Lz n) ?_)
    | (go_at_call 115;(with_reducible refine (f115 _).out.mono ?_);rintro e w3 ⟨rfl,ao⟩))
   have D:=Ah D ao;have E:=E.trans ao;have ag:=ao.heap U.out;have q0:=(Ω w3 g5 0 _ _ _ ag).trans (show (rnC n)[0]? = Δ (iv n.kind) from rfl);have q5:=(Ω w3 g5 5 _ _ _ ag).trans (show (rnC n)[5]? = Δ (iv n.l) from rfl);have q6:=(Ω w3 g5 6 _ _ _ ag).trans (show (rnC n)[6]? = Δ (iv n.r) from rfl);have bj:=Dq D ag (by decide);have a8:w.heap.size<=g:=Nat.le_of_eq HG.out;have bk:g5≠g:=λe=>by
    rcases bj with h|h
    ·cases h
    ·exact h (by rw[e];rfl)
   clear ao U ag bj;have cg:a=0\/a=1\/a=2:=by omega
   rcases cg with rfl|rfl|rfl
   ·have I:Dk N (par (xs.take (i+1)))=Dk N f:=N7 λj=>by rw[az.out];unfold Fi;rw[HA.out];simp
    rw[<-I] at D;clear ab af an I;go_wp2_with (first
     | (go_at_call 116;(with_reducible refine (f116 _).out.mono ?_);rintro e W' ⟨rfl,rfl⟩))
    go_roundw
    case rel=>exact⟨i+1,by omega,by go_num,E,D⟩
    case measure=>simp[intOf];omega
   ·have hl:=ab (by omega);have J:n.l<N:=by omega
    have cl:=Am 0 D (Ft _ _).symm n.l (by rw[Ft];exact J);rw[Lx _ _ _ J] at cl;have fl:=D.frozenAt n.l;obtain⟨G,T⟩:=Bj D n.l (f n.l+1);rw[N6 _ _ _ J] at G;have I:Dk N (par (xs.take (i+1)))=Dk N (λj=>f j+if n.l=j then 1 else 0):=N7 λj=>by rw[az.out];unfold Fi;rw[HA.out];simp
    rw[<-I] at G;have ah:=E.grown T (λk e=>by cases e;exact a8);have hb:=a1.out n.l;rw[Ml] at G ah;clear ab af an I T D E;generalize f n.l=p at *;go_wp2_with (first
     | (go_at_call 116;(with_reducible refine (f116 _).out.mono ?_);rintro e W' ⟨rfl,rfl⟩))
    go_roundw
    case rel=>exact⟨i+1,by omega,by go_num,ah,G⟩
    case measure=>simp[intOf];omega
   ·have hl:=ab (by omega);have hr:=af (by omega);have J:n.l<N:=by omega
    have bb:n.r<N:=by omega
    have cl:=Am 0 D (Ft _ _).symm n.l (by rw[Ft];exact J);rw[Lx _ _ _ J] at cl;have fl:=D.frozenAt n.l;obtain⟨G,T⟩:=Bj D n.l (f n.l+1);rw[N6 _ _ _ J] at G;have cn:=(T.cell_far ⟨g5,0,Γ⟩ (Gr q0) (by simp[bk])).trans q0;have cp:=(T.cell_far ⟨g5,6,Γ⟩ (Gr q6) (by simp[bk])).trans q6;have ah:=E.grown T (λk e=>by cases e;exact a8);have cr:=Am 0 G (Ft _ _).symm n.r (by rw[Ft];exact bb);rw[Lx _ _ _ bb] at cr;have fr:=G.frozenAt n.r;obtain⟨hQ,bm⟩:=Bj G n.r ((f n.r+if n.l=n.r then 1 else 0)+1);have e2:=N6 N (λj=>f j+if n.l=j then 1 else 0) n.r bb;rw[e2] at hQ;have I:Dk N (par (xs.take (i+1)))=Dk N (λj=>(f j+if n.l=j then 1 else 0)+if n.r=j then 1 else 0):=N7 λj=>by rw[az.out];unfold Fi;rw[HA.out];simp;omega
    rw[<-I] at hQ;have bo:=ah.grown bm (λk e=>by cases e;exact a8);have hb:=a1.out n.l;have cz:(f n.r+if n.l=n.r then 1 else 0)<=401:=by have:=a1.out n.r;split<;>omega
    clear ab af an I e2 T bm D E G ah;generalize f n.r+(if n.l=n.r then 1 else 0)=p2 at *;generalize f n.l=p at *;rw[Ml] at cn cp cr fr;rw[Ml,Ml] at hQ bo;go_wp2_with (first
     | (go_at_call 116;(with_reducible refine (f116 _).out.mono ?_);rintro e W' ⟨rfl,rfl⟩))
    go_roundw
    case rel=>exact⟨i+1,by omega,by go_num,bo,hQ⟩
    case measure=>simp[intOf];omega
  ·obtain rfl:N=i:=by omega
   rw[show xs.take N=xs by rw[<-H.out];exact List.take_length] at D;have bp:=λk (hk:k<N)=>Am 0 D (Ft _ _).symm k (by rw[Ft];exact hk)
   have bq:=λk (hk:k<N-1)=>HX.out.par k (by rw[H.out];omega)
   have HC:=Α (λk (hk:k<N-1)=>by
    have:=bp k (by omega);rw[Lx _ _ _ (by omega),bq k hk] at this;exact (this:wr.cell? ⟨g,k,Γ⟩=Δ (iv 1)))
   clear bp bq D;obtain⟨M,hM⟩:∃ M,N-1=M:=⟨_,rfl⟩;rw[hM] at b9 HC;have c4:M<N:=by omega
   clear hM;go_upto_region 18 with (fail)
   obtain⟨wq,ct⟩:∃ W,W=wr:=⟨_,rfl⟩;subst ct;go_loopw [62] (λv W=>∃ k:Nat,k<=M/\v=.int ζ k/\W=wq) (λv _=>M-(intOf v).toNat)
   case atStart=>exact⟨0,by omega,rfl,rfl⟩
   case round=>
    obtain⟨k,hk,rfl,rfl⟩:=hrel;by_cases cu:k<M
    ·have ck:wr.cell? ⟨g,k,Γ⟩=Δ (.int ζ 1):=HC.out k cu;go_wp2;go_roundw
     case rel=>exact⟨k+1,by omega,by go_num,trivial⟩
     case measure=>simp[intOf];omega
    ·obtain rfl:M=k:=by omega
     go_wp2;go_ret;exact⟨rfl,E⟩
theorem Sl.setNil {W:Κ} {v:Ρ} {k n:Nat} {f:Nat->Ρ} (h:Sl W v k n f) {g o:Nat} {cs:List Ρ} (hs:W.heap.size<=(W.setCells g o cs).heap.size) (J:∀ j,j<cs.length->W.cell? ⟨g,o+j,Γ⟩=Δ (Β Γ 0 0)) (M:∀ i,i<n*k->f i≠Β Γ 0 0):Sl (W.setCells g o cs) v k n f:=by
 obtain⟨H,h|⟨hn,b,D,T,hv,U,I⟩⟩:=h
 ·exact⟨H,.inl h⟩
 ·refine⟨H,.inr ⟨hn,b,D,T,hv,ε U hs,λi hi=>?_⟩⟩;rw[Κ.cell?_setCells_out]
  ·exact I i hi
  ·intro G _;have G:b=g:=G;subst G;show D+i<o\/o+cs.length<=D+i;apply ϩ;intro aa;have E:=J (D+i-o) (by omega);rw[show o+(D+i-o)=D+i by omega,I i hi] at E;injection E with E
   exact M i hi E
theorem IsD.setNil {W:Κ} {v:Ρ} {d:Dfa} (hv:Val d) (h:IsD W v d) {g o:Nat} {cs:List Ρ} (hs:W.heap.size<=(W.setCells g o cs).heap.size) (D:∀ j,j<cs.length->W.cell? ⟨g,o+j,Γ⟩=Δ (Β Γ 0 0)):IsD (W.setCells g o cs) v d:=by
 obtain⟨G,vn,va,rfl,H,⟨vs,I,J,E⟩,M⟩:=h;refine⟨G,vn,va,rfl,Sl.setNil H hs D (λi _ e=>by cases e),⟨vs,I,Sl.setNil J hs D (λi hi e=>?_),λi hi=>Sl.setNil (E i hi) hs D (λi _ e=>by cases e)⟩,Sl.setNil M hs D (λi _ e=>by cases e)⟩;have hi:i<d.n.length:=by simpa using hi
 obtain⟨b,U,aa,T,_⟩:=ä (E i hi) (by rw[hv.row i hi];exact hv.parts.pos);rw[T] at e;cases e
theorem Ack (W:Κ) (g o:Nat) (a b c:Ρ):W.setCells g o [a,b,c]=((W.setCell ⟨g,o,Γ⟩ a).setCell ⟨g,o+1,Γ⟩ b).setCell ⟨g,o+1+1,Γ⟩ c:=rfl
theorem Afd {W:Κ} {base e g n D size:Nat} {xs:List Ρ} (h:W.ownsRow base e size (Β (Δ ⟨g,0,Γ⟩) n D) n xs) (o:Nat) (a b c:Ρ) :
  (∃ I,(W.setCells g o [a,b,c]).ownsRow base e size (Β (Δ ⟨g,0,Γ⟩) n D) n I)/\W.grownBy (W.setCells g o [a,b,c]) (Δ g):=by
 have E:=h.stored o a;have G:=E.1.stored (o+1) b;have H:=G.1.stored (o+1+1) c;rw[Ack];exact⟨⟨_,H.1⟩,E.2.trans (G.2.trans H.2)⟩
structure Lds (W:Κ) (g N:Nat) (ds:List Dfa):Prop where
 at_:DsAt W g 0 ds
 nil:∀ j,ds.length*3<=j->j<N*3->W.cell? ⟨g,j,Γ⟩=Δ (Β Γ 0 0)
theorem Lds.ext {W W':Κ} {g N:Nat} {ds:List Dfa} (h:Lds W g N ds) (D:Ext W W'):Lds W' g N ds:=⟨h.at_.ext D,λj E G=>D.cell (h.nil j E G)⟩
theorem Lds.store {W:Κ} {g N:Nat} {ds:List Dfa} (h:Lds W g N ds) (H:okD ds) (hN:ds.length<N) {a b c:Ρ} {q:Dfa} (I:Val q) (J:IsD W (.agg #[a,b,c]) q) (hs:W.heap.size<=(W.setCells g (ds.length*3) [a,b,c]).heap.size):Lds (W.setCells g (ds.length*3) [a,b,c]) g N (ds++[q]):=by
 have E:∀ j,j<[a,b,c].length->W.cell? ⟨g,ds.length*3+j,Γ⟩=Δ (Β Γ 0 0):=λj D=>h.nil _ (by omega) (by have:j<3:=D;omega)
 refine⟨λi hi=>?_,λj M T=>?_⟩
 ·rw[Ο,þ] at hi;by_cases e:i<ds.length
  ·obtain⟨U,v2,v3,hr,hI⟩:=h.at_ i e;refine⟨U,v2,v3,λj v D=>?_,?_⟩
   ·have G:j<3:=by
     have:=(ό.1 D).1;exact this
    rw[Κ.cell?_setCells_out]
    ·exact hr j v D
    ·intro _ _;left
     show 0+i*3+j<ds.length*3;omega
   ·rw[Bt _ _ _ _ e];exact IsD.setNil (H i e).1 hI hs E
  ·obtain rfl:i=ds.length:=by omega
   refine⟨a,b,c,λj v D=>?_,?_⟩
   ·have G:j<[a,b,c].length:=(ό.1 D).1;have:=Κ.cell?_setCells_in g [a,b,c] (ds.length*3) W (λj D=>by rw[E j D];rfl) j G;rw[î,this,<-D,Μ G]
   ·rw[Cm];exact IsD.setNil I J hs E
 ·rw[Ο,þ] at M;rw[Κ.cell?_setCells_out]
  ·exact h.nil j (by omega) T
  ·intro _ _;right
   show ds.length*3+3<=j;omega
theorem Ajh {n:RNode} {i:Nat} (h:VNode n.kind n.l n.r n.c n.min n.max i):n.good i/\n.min<=16/\(n.max=-1\/(n.min:Int)<=n.max)/\n.max<=16:=by
 have hm:n.min<=16/\(n.max=-1\/(n.min:Int)<=n.max)/\n.max<=16:=by
  by_cases e:n.kind=8
  ·obtain⟨D,G,J,I⟩:=h.m8 e;refine⟨D,?_,G⟩;by_cases H:n.max=-1
   ·exact .inl H
   ·exact .inr (I H)
  ·obtain⟨D,G⟩:=h.m0 e;rw[D,G];exact⟨by omega,.inr (by simp),by omega⟩
 refine⟨⟨λE=>?_,λE=>?_,?_,h.k1,h.k8⟩,hm⟩
 ·have:arK n.kind=2:=by unfold arK;rw[if_pos E]
  exact⟨h.l1 (by omega),h.r1 (by omega)⟩
 ·have:0<arK n.kind:=by unfold arK;rcases E with E|E<;>rw[E]<;>decide
  exact h.l1 this
 ·rcases hm.2.1 with D|D
  ·left;omega
  ·exact .inr D
theorem Aiz:(Η.info? 30).map (λi=>(i.zero,i.size,i.bytes))=Δ (Δ zD,3,72):=by kernel_rfl
theorem Ag4 (N j:Nat) (D:j<N*3):(madeCells zD.cells (N*3)).toList[j]? = Δ (Β Γ 0 0):=by
 have E:zD.cells=#[Β Γ 0 0,Β Γ 0 0,Β Γ 0 0]:=rfl;rw[E];have G:j % 3=0\/j % 3=1\/j % 3=2:=by omega
 rcases G with h|h|h<;>simp[madeCells,D,h]
theorem Amn (xs:List RNode) (ds:List Dfa) (hi:ds.length<xs.length) {q:Option Dfa} {r:Option Dfa} (D:Gw (xs.getD ds.length ⟨0,0,0,0#256,0,0⟩) ds q) (E:E2 q (λd=>Fc (xs.drop (ds.length+1)) (ds++[d])) r):Fc (xs.drop ds.length) ds r:=by
 have e:xs.drop ds.length=xs.getD ds.length ⟨0,0,0,0#256,0,0⟩::xs.drop (ds.length+1):=by
  rw[List.drop_eq_getElem_cons hi,Ζ,Μ hi];rfl
 rw[e];exact⟨q,D,E⟩
theorem Agb {n:RNode} {ds:List Dfa} (J:okD ds) (hg:n.good ds.length) {q:Dfa} (h:Gw n ds (Δ q)):Val q/\q.n.length<=64:=by
 obtain⟨g1,M,g3,g4,g5⟩:=hg;unfold Gw at h;have E:∀ {L:Bk},Fq L (Δ q)->Fit q L:=fun⟨e,G,e2,e3⟩=>by
  injection G with G
  subst G;exact⟨e2,e3⟩
 by_cases T:n.kind=1
 ·rw[if_pos T] at h;have D:=E h;have:=I3 D (λ_ _=>0) (λ_=>False) 1 (by omega) (λs x _=>by omega) (λw=>Iff.rfl);exact⟨D.1.val,by omega⟩
 rw[if_neg T] at h;by_cases U:n.kind=2
 ·rw[if_pos U] at h;have D:=E h;have:=Md D;exact⟨D.1.val,by omega⟩
 rw[if_neg U] at h;by_cases c3:n.kind=3
 ·rw[if_pos c3] at h;have D:=E h;have:=Pd (p:=λx=>n.c.getLsbD x.toNat=Ξ) D;exact⟨D.1.val,by omega⟩
 rw[if_neg c3] at h;by_cases c4:n.kind=4
 ·rw[if_pos c4] at h;exact Je h q rfl
 rw[if_neg c4] at h;by_cases c5:n.kind=5
 ·rw[if_pos c5] at h;exact⟨h.1.val,h.2.2⟩
 rw[if_neg c5] at h;by_cases c6:n.kind=6
 ·rw[if_pos c6] at h;exact⟨h.1.val,h.2.2⟩
 rw[if_neg c6] at h;by_cases H:n.kind=7
 ·rw[if_pos H] at h;have D:=E h;obtain⟨hv,I⟩:=J n.l (M (.inl H));have:=Yi D.1 (U0 (Bm hv)) (λw=>by
   rw[Bool.eq_iff_iff,D.2,U1 (Bm hv),Dn];simp)
  exact⟨D.1.val,Nat.le_trans this I⟩
 rw[if_neg H] at h;obtain⟨hv,I⟩:=J n.l (M (.inr (by omega)));exact Ts hv I h q rfl
theorem Ys (xs:List RNode) (hx:VRx xs) (b o b4:Nat) (w:Κ) (hT:Tab w) (b6:0<w.heap.size) (h:RxAt w b o xs) :
  Ϝ Η 36 #[Β (Δ ⟨b,o,Γ⟩) xs.length b4] w λe w'=>∃ r,ResOf w' e r/\Fc xs [] r/\Ext w w':=by
 have db:=Α (λW (G:Ext w W)=>hT.below G.below b6);have HX:=Α hx;have HR:=Α h;have f82:=λW (G:Ext w W)=>Α (Aan xs hx b o b4 W (h.ext G))
 obtain⟨i0,hi,df,dg,dh⟩:=ϕ Aiz;obtain⟨N,hN⟩:∃ N,xs.length=N:=⟨_,rfl⟩;have dk:=hx.pos;have b7:=hx.le;rw[hN] at dk b7 f82;rw[hN];have HN:=Α hN;have dm:ç.wrap ((N:Int)-1)=((N-1:Nat):Int):=by rw[show (N:Int)-1=((N-1:Nat):Int) by omega];exact Ý _ ⟨by omega,by omega⟩
 have be:=(Ι w).alloc (Ε #[Β Γ 0 0,Β Γ 0 0,Β Γ 0 0] 30);have D:=Ab w (Ε #[Β Γ 0 0,Β Γ 0 0,Β Γ 0 0] 30);clear hx h hN hT;go_enter Tryz.func36,Tryz.ntmps36;go_upto_region 1 with (fail)
 obtain⟨w1,bf⟩:∃ W,w.alloc (Ε #[Β Γ 0 0,Β Γ 0 0,Β Γ 0 0] 30)=W:=⟨_,rfl⟩;rw[bf] at be D;simp only[bf];clear bf;have D:=Α D;have bg:=Α be;clear be;go_upto_region 4 with (go_at_call 82;(with_reducible refine (f82 _ bg.out).out.mono ?_);rintro e w2 ⟨rfl,H⟩;have b8:=Α (bg.out.trans H);have D:=Α (H.heap D.out);clear H)
 have ec:=b8.out.size;go_upto_region 5 with (at_make;refine ϫ _ rfl _ _ 130 rfl w2.heap.size 30 i0 zD 3 Tryz.underlying130 hi df dg ζ ζ _ _ N rfl rfl rfl rfl (by rw[dh];omega) (by unfold ϙ;omega) (θ _) ?_;intro w3 bh bj)
 have b9:=b8.out.grown bj (λk e=>by cases e);have ca:=(bj.block w.heap.size (An D.out) (by simp)).trans D.out;have cb:Lds w3 w2.heap.size N []:=⟨λi hi=>absurd hi (by simp),λj _ hj=>by rw[bh.cellAt j hj];exact Ag4 N j hj⟩;have ed:w.heap.size<w2.heap.size:=An D.out;generalize w2.heap.size=g at *;clear bj f82 bg;go_wp2_with (fail);go_loopw [21] (λv W=>∃ ds:List Dfa,ds.length<=N/\v=.int ζ ds.length/\Ext w W/\(∃ ys,W.ownsRow g 30 3 (Β (Δ ⟨g,0,Γ⟩) N N) N ys)/\Hid (W.heap[w.heap.size]? = Δ (Ε #[Β Γ 0 0,Β Γ 0 0,Β Γ 0 0] 30 (0,0)))/\
   Hid (Lds W g N ds)/\Hid (okD ds)/\Hid (∀ r,Fc (xs.drop ds.length) ds r->Fc xs [] r))
  (λv _=>N-(intOf v).toNat)
 case atStart=>exact⟨[],by simp,rfl,b9,⟨_,bh⟩,Α ca,Α cb,Α (λi hi=>absurd hi (by simp)),Α λr h=>h⟩
 case round=>
  clear b9 bh ca cb D;obtain⟨ds,ee,rfl,hE,⟨ys,hO⟩,D,HL,ao,HB⟩:=hrel;by_cases a6:ds.length<N
  ·have bl:=(HR.out.ext hE) ds.length (by rw[HN.out];exact a6);have hv:=HX.out.node ds.length (by rw[HN.out];exact a6);have bm:=Α (λ(q r:Option Dfa)=>Amn xs ds (by rw[HN.out];exact a6) (q:=q) (r:=r));obtain⟨n,hn⟩:∃ n,xs.getD ds.length ⟨0,0,0,0#256,0,0⟩=n:=⟨_,rfl⟩;rw[hn] at bl hv bm;obtain⟨bn,cf,cg,ch⟩:=Ajh hv;have ef:((ds.length:Nat):Int)<(N:Int):=by omega
   have f83:∀ W,Ext wr W->Hid (Ϝ Η 83 #[.agg (rnC n),Β (Δ ⟨g,0,Γ⟩) N N] W λe w'=>∃ q,ResOf w' e q/\Gw n ds q/\Ext W w'):=λW G=>
    Α (Aga n.kind n.l n.r n.c n.min n.max ds bn cf cg ch ao.out g 0 N N (by omega) b7 W (db.out W (hE.trans G)) (ε b6 (hE.trans G).size) (HL.out.at_.ext G))
   have dp:=Α bn;clear hn hv bn cf cg ch;generalize cj:ds.length=i at *;have I:=Α cj;clear cj;go_upto_region 8 with (first
    | (refine wpList_load_mid rfl 64 (η 24) rfl b (o+i*9) rfl _ _ bl Tryz.underlying64 rfl (Tm n) ?_)
    | (refine Φ rfl 64 (η 7) (η 25) rfl _ _ rfl rfl _ _ (Ab wr (Ε Fd 64)) (Lz n) rfl (Tl n) ?_))
   have H:=((Ι wr).alloc (Ε Fd 64)).setRow (θ _) (rnC n);have H7:=μ (wr.alloc (Ε Fd 64)) wr.heap.size _ (rnC n) _ _ (Ab wr (Ε Fd 64));obtain⟨w4,bo⟩:∃ W,(wr.alloc (Ε Fd 64)).setRow wr.heap.size (rnC n)=W:=⟨_,rfl⟩;rw[bo] at H H7;simp only[bo];clear bo bl;have H7:=Α H7;have bp:=Α H;generalize wr.heap.size=g7 at *;clear H;go_upto_region 9 with (first
    | (refine Υ rfl 64 (η 7) rfl _ rfl _ _ _ _ H7.out Tryz.underlying64 rfl (Lz n) ?_)
    | (go_at_call 83;(with_reducible refine (f83 _ bp.out).out.mono ?_);rintro e w5 ⟨q,bq,ck,cl⟩;obtain⟨J,T,U,aa,ab,ad,ae,af,ag,k1,rfl⟩:=bq.form;have a7:=Α bq;have br:=Α ck;have dq:=Α (bp.out.trans cl);clear bq ck cl)
    | (refine Φ rfl 30 (η 8) (η 30) rfl _ _ rfl rfl _ _ (Ab w5 (Ε #[Β Γ 0 0,Β Γ 0 0,Β Γ 0 0] 30)) Ad rfl (Ap _ _ _ rfl rfl rfl) ?_))
   obtain⟨a8,bt⟩:=Im w5 (dA (Β J T U) (Β aa ab ad) (Β ae af ag));obtain⟨w6,bw⟩:∃ W,(w5.alloc (Ε #[Β Γ 0 0,Β Γ 0 0,Β Γ 0 0] 30)).setRow w5.heap.size (dA (Β J T U) (Β aa ab ad) (Β ae af ag))=W:=⟨_,rfl⟩;rw[bw] at a8 bt;simp only[bw];clear bw;have au:=dq.out.trans a8;have cm:=Α (hE.trans au);have H8:=Α bt;have D:=Α (au.heap D.out);have HL:=Α (HL.out.ext au);have hO:=Ah hO au;have a7:=Α (a7.out.ext a8);generalize w5.heap.size=g8 at *;clear a8 bt au hE f83 H7 bp;cases q with
   | none=>
    obtain⟨rfl,hz⟩:=a7.out.none_inv;have du:=Α Fa;have HF:=Α (HB.out Γ (bm.out Γ Γ br.out rfl));clear hz hO;go_wp2_with (first
     | (refine B3 rfl 30 _ rfl #[Β Γ 0 0,Β Γ 0 0,Β Γ 0 0] ?_ ?_;(simp;with_reducible exact du.out))
     | (refine Φ rfl 30 (η 2) (η 34) rfl _ _ rfl rfl _ _ D.out Ad rfl Ew ?_))
    refine ϋ (v:=ϥ #[zD,.int ζ 2]) (Ba rfl _ _ _ _ _ _ _ rfl _ rfl (μ w6 _ _ #[Β Γ 0 0,Β Γ 0 0,Β Γ 0 0] 30 (0,0) D.out) Ν rfl Ad) rfl ?_;exact⟨Γ,rfl,HF.out,cm.out.setRow (θ _) _⟩
   | some q=>
    obtain⟨rfl,cn⟩:=a7.out.some_inv;obtain⟨aw,bx⟩:=Agb ao.out (by rw[I.out];exact dp.out) br.out;obtain⟨⟨zs,cp⟩,bb⟩:=Afd hO (i*3) (Β J T U) (Β aa ab ad) (Β ae af ag);have bz:=HL.out.store ao.out (by rw[I.out];exact a6) aw cn (by rw[I.out];exact bb.size);rw[I.out] at bz;have cq:w6.there g (i*3) 3:=λj hj=>by
     refine⟨?_,hO.frozenAt _⟩;rw[HL.out.nil (i*3+j) (by rw[I.out];omega) (by omega)];rfl
    have cr:=cm.out.grown bb (λk e=>by cases e;omega);have bc:=(bb.block w.heap.size (An D.out) (by simp;omega)).trans D.out;have ct:=Α cq;have cu:=Α bz;have cv:=Α cp;have cw:=Α cr;have bc:=Α bc;have dv:Hid (okD (ds++[q])):=Α λj hj=>by
     rw[Ο,þ] at hj;by_cases e:j<ds.length
     ·rw[Bt _ _ _ _ e];exact ao.out j e
     ·obtain rfl:j=ds.length:=by omega
      rw[Cm];exact⟨aw,bx⟩
    have dw:Hid (∀ r,Fc (xs.drop (ds++[q]).length) (ds++[q]) r->Fc xs [] r):=Α λr hr=>HB.out r (bm.out (Δ q) r br.out (by
     rw[Ο,þ,I.out] at hr;exact hr))
    have cx:Hid ((ds++[q]).length=i+1):=Α (by rw[Ο,I.out];rfl);clear cn bz cp bb cq cr hO;go_upto_region 12 with (first
     | (refine Υ rfl 30 (η 8) rfl _ rfl _ _ _ _ H8.out Ν rfl Ad ?_)
     | (refine wpList_store_mid rfl 30 (η 39) (η 38) rfl g (i*3) (dA (Β J T U) (Β aa ab ad) (Β ae af ag)) rfl rfl ct.out Ad (Ap _ _ _ rfl rfl rfl) ?_))
    have cy:(dA (Β J T U) (Β aa ab ad) (Β ae af ag)).toList=[Β J T U,Β aa ab ad,Β ae af ag]:=rfl;rw[cy];obtain⟨w7,b0⟩:∃ W,w6.setCells g (i*3) [Β J T U,Β aa ab ad,Β ae af ag]=W:=⟨_,rfl⟩;rw[b0] at cu cv cw bc;rw[b0];clear b0 cy ct;go_wp2;go_roundw
    case rel=>exact⟨ds++[q],by rw[cx.out];omega,by rw[cx.out];go_num,cw.out,⟨_,cv.out⟩,bc,cu,dv,dw⟩
    case measure=>simp[intOf];omega
  ·have ax:ds.length=N:=by omega
   have en:=Α ax;rw[ax];obtain⟨v1,v2,v3,hr,hD⟩:=HL.out.at_ (N-1) (by omega);obtain⟨aw,bx⟩:=ao.out (N-1) (by omega);have HF:=Α (HB.out (Δ (ds.getD (N-1) dN)) (by
    rw[ax,List.drop_of_length_le (by rw[HN.out];exact θ _)];show Δ (ds.getD (N-1) dN)=Δ (ds.getD (ds.length-1) dN);rw[ax]))
   clear ax;obtain⟨q,hq⟩:∃ q,ds.getD (N-1) dN=q:=⟨_,rfl⟩;rw[hq] at hD aw bx HF;clear hq;obtain⟨c1,c2,c3,c4,c5,c6,c7,c8,E⟩:=hD.agg;injection E with E
   unfold dA at E;injection E with E
   injection E with e1 E
   injection E with e2 E
   injection E with e3 _
   subst e1;subst e2;subst e3;rw[î] at hr;have c9:=Α hr;have eb:=Α hD;obtain⟨M,hM⟩:∃ M,N-1=M:=⟨_,rfl⟩;rw[hM] at dm c9;have et:M<N:=by omega
   clear hM hr hD;go_wp2_with (first
    | (refine wpList_load_mid rfl 30 (η 45) rfl g (M*3) rfl _ _ c9.out Ν rfl (Fz _ _ _) ?_)
    | (refine Φ rfl 30 (η 2) (η 46) rfl _ _ rfl rfl _ _ D.out Ad rfl (Ap _ _ _ rfl rfl rfl) ?_))
   refine ϋ (v:=ϥ #[.agg (dA (Β c1 c2 c3) (Β c4 q.n.length c5) (Β c6 c7 c8)),.int ζ 0]) (Ba rfl _ _ _ _ _ _ _ rfl _ rfl (μ wr _ _ (dA (Β c1 c2 c3) (Β c4 q.n.length c5) (Β c6 c7 c8)) 30 (0,0) D.out) Ν rfl Ad) rfl ?_;exact⟨Δ q,⟨_,rfl,IsD.setRow aw eb.out D.out _⟩,HF.out,hE.setRow (θ _) _⟩
end Go.Proofs.YtaiogolidlamiaaGreatDoor
