import Derived.Test.YtilncahcpjlfnaaGreatDoorM05
import Derived.Test.YtilncahcpjlfnaaGreatDoorM06
import Derived.Maps.AppendAt
import Derived.Test.YtilncahcpjlfnaaGreatDoorM03
import Derived.Test.YtilncahcpjlfnaaGreatDoorM04
import Derived.Lib.SliceRun
set_option linter.unusedVariables false
set_option linter.unusedSimpArgs false
set_option maxRecDepth 100000
set_option maxHeartbeats 4000000
open Array renaming getElem?_eq_some_iff → ϝ, getElem?_eq_getElem → Ϛ, getD_eq_getD_getElem? → ϕ, getElem?_toList → Ç
open Bool renaming true → Α, false → Ε, and_eq_true → ψ
open Go renaming Value → Δ, World → Γ, Calls → ϛ, info_parts → ϓ, setRow_heap → Χ, size_setRow → ù, cell_of_row → Τ, frozen_of_row → È, setCell_eq_setRow → Ϭ, maxLen → ϐ, wpList_append_lies → Ϙ, cell_one_new → Ý, bodyPost_ret → ω, heap_alloc2_new → ϒ, Oper → ϳ, Act → ø, undef → Ω, getD_replicate_false → Ϡ
open Go.Act renaming eval → á, put → η
open Go.Ending renaming returned → Ψ
open Go.IntKind renaming i64 → Φ
open Go.Lib renaming hid → Z
open Go.Obj renaming cells → Β
open Go.Operand renaming tmp → δ
open Go.Proofs.Tryz renaming prog → Η, zeroCells84 → γ, underlying54 → Ϥ, underlying40 → Ο, underlying91 → ϋ
open Go.Region renaming wanted → ϧ, waitsFor → ý
open Go.RowKit renaming Hid → ϟ
open Go.Value renaming slice → U, oneCell' → ξ, slice → Ϗ, tuple → ϗ, int → Â
open Go.World renaming size_alloc → Ρ, ownsRow_nil → À, ownsRow → ϥ
open List renaming range → π, replicate → θ, ext_getElem? → Ϯ, getElem?_map → ν, getElem?_replicate → Ò, getElem?_set → Ú, getElem?_range → î, mem_range → ϔ, length_append → Ν, map_append → ϩ, all_eq_true → Í, length_map → ι, getD_eq_getElem?_getD → Ζ, getElem?_eq_getElem → Ι, getElem_mem → ϣ, setIfInBounds_toArray → Θ, set_cons_zero → Μ, set_cons_succ → Λ, length_set → υ
open Nat renaming le_refl → Υ, le_trans → μ, lt_of_lt_of_le → Ξ, zero_add → ϖ
open Option renaming some → J, none → I, map_some → æ
open Option.some renaming inj → ό
namespace Go.Proofs.YtilncahcpjlfnaaGreatDoor
open Go.RowKit Go.Shelf
theorem XO:Η.built 84 [(1,.int Φ 256)]=J (Ak (λ_=>0) 256 (U I 0 0) (U I 0 0)):=by kernel_rfl
def idC (k y:Nat):Nat:=if y<k then y else 0
theorem RN (k:Nat) (H:k<256) (n:Nat) (E G:Δ):(Ak (idC k) n E G).setIfInBounds k (iv k)=Ak (idC (k+1)) n E G:=by
 rw[Ut _ _ _ _ _ _ H];refine Id (λb hb=>?_) n E G;unfold idC;by_cases e:b=k
 ·subst e;simp
 rw[if_neg e];by_cases h:b<k
 ·rw[if_pos h,if_pos (by omega)]
 rw[if_neg h,if_neg (by omega)]
def E3 (m k:Nat):List Nat:=(π 256).map λj=>if j<k then m else 0
theorem J7 (m k:Nat):(E3 m k).length=256:=by simp[E3]
theorem TO (m:Nat):E3 m 0=θ 256 0:=by
 apply Ϯ;intro i;simp only[E3,ν,Ò,Nat.not_lt_zero,if_false];by_cases h:i<256
 ·simp[h]
 simp[h]
theorem TP (m k:Nat) (E:k<256):(E3 m k).set k m=E3 m (k+1):=by
 apply Ϯ;intro i;rw[Ú,J7];simp only[E3,ν];by_cases h:i<256
 ·rw[î h];by_cases e:k=i
  ·subst e;simp[E]
  simp only[e,if_false,æ];by_cases h1:i<k
  ·rw[if_pos h1,if_pos (by omega)]
  rw[if_neg h1,if_neg (by omega)]
 rw[if_neg (by omega)];simp[h]
theorem EB (l:List UInt8) (s:Nat) (E:s<l.length):(E3 (l.length+1) 256).set (l.getD s 0).toNat (s+1)=De l s:=by
 apply Ϯ;intro i;rw[Ú,J7];have hx:=(l.getD s 0).toNat_lt;simp only[E3,De,ν];by_cases h:i<256
 ·rw[î h];by_cases e:(l.getD s 0).toNat=i
  ·rw[if_pos e,if_pos (by omega),æ,if_pos ⟨E,e⟩]
  rw[if_neg e,æ,æ,if_pos h,if_neg (λG=>e G.2)]
 rw[if_neg (by omega)];simp[h]
theorem EA (l:List UInt8) (s:Nat) (E:¬ s<l.length):E3 (l.length+1) 256=De l s:=by
 unfold E3 De;refine List.map_congr_left λb hb=>?_
 have:=ϔ.1 hb;rw[if_pos this,if_neg (λh=>E h.1)]
theorem Kx (l:List UInt8) (hl:l.length<=62) (v:Δ) (w:Γ) (h:By w v l) :
  ϛ Η 16 #[v] w λe w'=>∃ r,ResOf w' e (J r)/\Cano r/\(∀ u,r.has u=Α↔u=l)/\Ext w w':=by
 obtain⟨ab,bb,ob,cb,rfl,dd,de⟩:=h.split;obtain⟨i0,hi,e9,fa,fb⟩:=ϓ Dw;obtain⟨i4,fe,ff,fg,fh⟩:=ϓ Fi;obtain⟨i6,fl,fm,fo,fp⟩:=ϓ (show (Η.info? 54).map (λi=>(i.zero,i.size,i.bytes))=J (J (U I 0 0),1,24) by kernel_rfl);have fs:=Z dd;have ft:=Z de;have df:=Z XO;obtain⟨T0,a8⟩:=Xq (Ak (λ_=>0) 256 (U I 0 0) (U I 0 0));rw[a8] at df;have dg:γ.size=T0.size:=by rw[<-a8,Dd,Ex]
 have dh:(Η.info? 84).map (·.size)=J T0.size:=by rw[<-a8,Ex];exact Ci
 have dk:T0.all (·.oneCell')=Α:=by rw[<-a8];exact Ic _ _ (U I 0 0) (U I 0 0) rfl rfl
 have fu:=Z a8;have b4:=(Κ w).alloc (Β #[U I 0 0,U I 0 0,U I 0 0] 40);have H2:=Ad w (Β #[U I 0 0,U I 0 0,U I 0 0] 40);clear a8 h dd de;go_enter Tryz.func16,Tryz.ntmps16;go_upto_region 1 with (fail)
 obtain⟨w1,bp⟩:=Xq (w.alloc (Β #[U I 0 0,U I 0 0,U I 0 0] 40));have hq:w.heap.size<w1.heap.size:=by rw[<-bp,Ρ];omega
 rw[bp] at b4 H2;simp only[bp];clear bp;have fv:=Z H2;clear H2;go_upto_region 5 with (first
  | (refine Bk rfl 84 _ rfl T0 ?_ ?_;(simp[á];with_reducible exact df.o))
  | (refine Sr 84 (δ 5) (δ 15) rfl (Ad w1 (Β γ 84)) dh dg dk ?_))
 have b6:=((Κ w1).alloc (Β γ 84)).setRow (Υ _) T0;have bq:=Χ (w1.alloc (Β γ 84)) w1.heap.size _ T0 _ _ (Ad w1 _);have b7:w1.heap.size+1<=((w1.alloc (Β γ 84)).setRow w1.heap.size T0).heap.size:=by rw[ù,Ρ];exact Υ _
 obtain⟨wa,b8⟩:=Xq ((w1.alloc (Β γ 84)).setRow w1.heap.size T0);rw[b8] at b6 bq b7;simp only[b8];clear b8 dg dh dk;rw[<-fu.o] at bq;have dm:ϟ (wa.heap[w1.heap.size]? = J (Β (Ak (idC 0) 256 (U I 0 0) (U I 0 0)) 84 (0,0))):=Z (by rw[bq,Id (c:=λ_=>0) (c':=idC 0) (λb hb=>by simp[idC])])
 clear bq;go_wp2_with (fail);go_loopw [16] (λi W=>∃ k:Nat,k<=256/\i=.int Φ k/\Ext w1 W/\w1.heap.size+1<=W.heap.size/\ϟ (W.heap[w1.heap.size]? = J (Β (Ak (idC k) 256 (U I 0 0) (U I 0 0)) 84 (0,0)))) (λi _=>256-(intOf i).toNat)
 case atStart=>exact⟨0,by omega,rfl,b6,b7,dm⟩
 clear b6 b7 dm;obtain⟨k,hk,rfl,hE,ar,G⟩:=hrel;by_cases b9:k<256
 ·have hv:(k:Int)<256:=by omega
  have ck:=(Τ wr w1.heap.size k _ _ _ G.o).trans (Pn _ _ _ _ k b9);have fk:=È wr w1.heap.size k _ _ G.o;have fy:=hE.setRow (Υ _) (Ak (idC (k+1)) 256 (U I 0 0) (U I 0 0));have fz:=Z (Χ wr w1.heap.size _ (Ak (idC (k+1)) 256 (U I 0 0) (U I 0 0)) _ _ G.o);have ca:ϟ (wr.setCell ⟨w1.heap.size,k,I⟩ (iv k)=wr.setRow w1.heap.size (Ak (idC (k+1)) 256 (U I 0 0) (U I 0 0))):=Z (by rw[Ϭ wr _ _ _ _ _ _ G.o,RN _ b9]);go_wp2_with (fail);go_roundw
  case rel=>exact⟨k+1,by omega,by go_num,by rw[show wr.setCell ⟨w1.heap.size,k,I⟩ (.int Φ (k:Int))=_ from ca.o];exact fy,by rw[show wr.setCell ⟨w1.heap.size,k,I⟩ (.int Φ (k:Int))=_ from ca.o,ù];exact ar,by rw[show wr.setCell ⟨w1.heap.size,k,I⟩ (.int Φ (k:Int))=_ from ca.o];exact fz⟩
  simp[intOf];omega
 obtain rfl:k=256:=by omega
 have bc:((256:Nat):Int)=256:=rfl;simp only[bc];clear bc;go_wp2_with (fail);have dn:=À wr (w1.heap.size+1) 54 1;have dp:=À wr (w1.heap.size+1) 4 1;have dq:RowsO wr (w1.heap.size+1) [] ((π 0).map (De l)) (λ_=>False):=⟨rfl,λj hj=>by simp at hj⟩;go_loopw [26] (λi W=>∃ (s:Nat) (vs:List Δ) (vnx H:Δ),s<=l.length+2/\i=.int Φ s/\Ext w1 W/\w1.heap.size+1<=W.heap.size/\ϟ (W.heap[w1.heap.size]? = J (Β (Ak (idC 256) 256 vnx H) 84 (0,0)))/\W.ownsRow (w1.heap.size+1) 54 1 vnx vs.length vs/\OwnB W (w1.heap.size+1) H ((π s).map λq=>q==l.length)/\RowsO W (w1.heap.size+1) vs ((π s).map (De l)) (λ_=>False)/\ϟ (vs.length=s))
  (λi _=>l.length+2-(intOf i).toNat)
 case atStart=>exact⟨0,[],_,_,by omega,rfl,hE,ar,G,dn,dp,dq,Z rfl⟩
 clear hE ar G dn dp dq;obtain⟨s,vs,vnx,H,hs,rfl,hE,ar,G,hN,hA,hV,dr⟩:=hrel;by_cases b9:s<l.length+2
 ·obtain⟨wo,ga⟩:∃ W,W=wr:=⟨_,rfl⟩;subst ga;go_upto_region 14 with (at_make;refine wpList_make_full _ rfl _ _ 54 rfl (w1.heap.size+1) 3 i0 (.int Φ 0) 1 Ϥ hi e9 fa Φ Φ _ _ 256 rfl rfl rfl rfl (by rw[fb];omega) (by unfold ϐ;omega) (by omega) ?_;intro w5 dt aw)
  have aj:=hE.grown aw (λk e=>by cases e);have E:w5.ownsRow (w1.heap.size+1) 3 1 (U (J ⟨wo.heap.size,0,I⟩) 256 256) 256 ((E3 (l.length+1) 0).map iv):=by rw[TO,<-B8];exact dt
  have ag:=Z ((aw.block w1.heap.size (Al G.o) (by simp)).trans G.o);have ah:=Bz hN aw;have ai:=Bz hA aw;have ak:=(hV.av (av':=λo=>o=J wo.heap.size) (λv l ho bd e=>by have:=(ho.lt _ e).2;omega)).kept aw (λv l ho bd=>by cases v.ownBlock<;>simp)
  have ax:=μ ar aw.size;have h3:=(E.lt wo.heap.size rfl).1;generalize wo.heap.size=gr at *;clear dt aw G hN hA hV hE ar;go_wp2_with (fail);go_loopw [32] (λi W=>∃ k:Nat,k<=256/\i=.int Φ k/\Ext w1 W/\w1.heap.size+1<=W.heap.size/\ϟ (W.heap[w1.heap.size]? = J (Β (Ak (idC 256) 256 vnx H) 84 (0,0)))/\W.ownsRow (w1.heap.size+1) 54 1 vnx vs.length vs/\OwnB W (w1.heap.size+1) H ((π s).map λq=>q==l.length)/\RowsO W (w1.heap.size+1) vs ((π s).map (De l)) (λo=>o=J gr)/\W.ownsRow (w1.heap.size+1) 3 1 (U (J ⟨gr,0,I⟩) 256 256) 256 ((E3 (l.length+1) k).map iv))
   (λi _=>256-(intOf i).toNat)
  case atStart=>exact⟨0,by omega,rfl,aj,ax,ag,ah,ai,ak,E⟩
  clear aj ax ag ah ai ak E;obtain⟨k,hk,rfl,aj,ax,ag,ah,ai,ak,E⟩:=hrel;by_cases du:k<256
  ·have cq:=Au 0 E (J7 _ _).symm k (by rw[J7];exact du);have fq:=E.frozenAt k;obtain⟨be,T⟩:=Ba E k (l.length+1);rw[TP _ _ du] at be;have cd:=aj.grown T (λk e=>by cases e;omega);have cf:=ah.kept T (Aj ah E (by decide));have ay:=ai.kept T (Aj ai E (by decide));have cg:=ak.kept T (λv l ho bd=>.inr (λe=>bd e));have cj:=Z ((T.block w1.heap.size (Al ag.o) (λe=>by have:=ό e;omega)).trans ag.o);have cl:=μ ax T.size;clear T aj ah ai ak ag E;go_wp2_with (fail);go_roundw
   case rel=>exact⟨k+1,by omega,by go_num,cd,cl,cj,cf,ay,cg,be⟩
   simp[intOf];omega
  obtain rfl:k=256:=by omega
  have bc:((256:Nat):Int)=256:=rfl;simp only[bc];clear bc;go_upto_if 43 with (fail)
  go_cut [] (λW=>Ext w1 W/\w1.heap.size+1<=W.heap.size/\ϟ (W.heap[w1.heap.size]? = J (Β (Ak (idC 256) 256 vnx H) 84 (0,0)))/\W.ownsRow (w1.heap.size+1) 54 1 vnx vs.length vs/\OwnB W (w1.heap.size+1) H ((π s).map λq=>q==l.length)/\RowsO W (w1.heap.size+1) vs ((π s).map (De l)) (λo=>o=J gr)/\W.ownsRow (w1.heap.size+1) 3 1 (U (J ⟨gr,0,I⟩) 256 256) 256 ((De l s).map iv))
  case first=>
   by_cases cm:s<l.length
   ·have e:=fs.o (by omega);subst e;have cx:=(b4.t aj).cell (ft.o s cm);have dv:=Z (EB l s cm);obtain⟨x,dw⟩:=Xq (l.getD s 0);rw[dw] at cx dv;have hx:=x.toNat_lt;clear dw;have cq:=Au 0 E (J7 _ _).symm x.toNat (by rw[J7];omega);have fq:=E.frozenAt x.toNat;obtain⟨be,T⟩:=Ba E x.toNat (s+1);rw[dv.o] at be;have cd:=aj.grown T (λk e=>by cases e;omega);have cf:=ah.kept T (Aj ah E (by decide));have ay:=ai.kept T (Aj ai E (by decide));have cg:=ak.kept T (λv l ho bd=>.inr (λe=>bd e));have cj:=Z ((T.block w1.heap.size (Al ag.o) (λe=>by have:=ό e;omega)).trans ag.o);have cl:=μ ax T.size;clear T aj ah ai ak ag E;go_wp2_with (fail);go_meet
    exact⟨cd,cl,cj,cf,ay,cg,be⟩
   rw[EA l s cm] at E;go_wp2_with (fail);go_meet
   exact⟨aj,ax,ag,ah,ai,ak,E⟩
  case rest=>
   clear aj ax ag ah ai ak E;obtain⟨hE,ar,G,az,cn,hV,hQ⟩:=hcut;have c1:=(Τ wc w1.heap.size 257 _ _ _ G.o).trans (K7 _ _ _ _);have h4:vs.length<=64:=by rw[dr.o];omega
   go_upto_region 22 with (at_builtin;refine Ϙ _ rfl _ _ 37 rfl (w1.heap.size+1) 54 i6 (U I 0 0) 1 24 Tryz.underlying37 fl fm fo fp rfl (by decide) vnx vs.length vs rfl (az.alloc _) _ 1 1 [U (J ⟨gr,0,I⟩) 256 256] rfl rfl (Ý _ _ _) (by simp[ξ]) (by decide) (by unfold ϐ;omega) (by omega) (by simp;omega) _ rfl ?_;intro g7 c7 X a1 a6 _ _;have bf:ϟ (X.heap[w1.heap.size]? = _):=Z ((a6.block w1.heap.size (Ξ (Al G.o) (by rw[Ρ];omega)) (λe=>by have:=(az.lt _ e.symm).1;omega)).trans (Ah G.o _));have gi:=(Τ X w1.heap.size 257 _ _ _ bf.o).trans (K7 _ _ _ _);have f17:=È X w1.heap.size 257 _ _ bf.o)
   clear c1 gi f17;have bw:=(hQ.alloc (Β #[U (J ⟨gr,0,I⟩) 256 256] 54)).kept a6 (Aj hQ az (by decide));have ct:=(cn.alloc (Β #[U (J ⟨gr,0,I⟩) 256 256] 54)).kept a6 (Aj cn az (by decide));have dz:=(hV.alloc (Β #[U (J ⟨gr,0,I⟩) 256 256] 54)).kept a6 (λv l ho _=>Aj ho (az.alloc (Β #[U (J ⟨gr,0,I⟩) 256 256] 54)) (by decide));have ea:=(hE.alloc (Β #[U (J ⟨gr,0,I⟩) 256 256] 54)).grown a6 (λk e=>by have:=(az.lt k e).1;omega);have eb:w1.heap.size+1<=X.heap.size:=by have:=a6.size;rw[Ρ] at this;omega
   clear a6 hQ cn hV hE az G;have a1:X.ownsRow (w1.heap.size+1) 54 1 (U (J ⟨g7,0,I⟩) (vs.length+1) c7) (vs++[Ϗ (J ⟨gr,0,I⟩) 256 256]).length (vs++[Ϗ (J ⟨gr,0,I⟩) 256 256]):=by rw[Ν];exact a1
   obtain⟨row,ec⟩:=Xq (Ϗ (J ⟨gr,0,I⟩) 256 256);rw[ec] at a1 bw;clear ec;obtain⟨aa,ed⟩:=Xq (Ϗ (J ⟨g7,0,I⟩) (vs.length+1) c7);rw[ed] at a1;have bg:=Cc X w1.heap.size (Ak (idC 256) 256 aa H);have bh:X.setCell ⟨w1.heap.size,257,I⟩ aa=X.setRow w1.heap.size (Ak (idC 256) 256 aa H):=by rw[Ϭ X _ _ _ _ _ _ bf.o,Us]
   have cu:=ea.setRow (Υ _) (Ak (idC 256) 256 aa H);have bz:=bw.kept bg (A3 bw (by omega));have b0:=a1.kept bg (A3 a1 (by omega));have an:=ct.kept bg (A3 ct (by omega));have cv:=dz.kept bg (λv l ho _=>A3 ho (by omega));have bj:=Z (Χ X w1.heap.size _ (Ak (idC 256) 256 aa H) _ _ bf.o);have ee:w1.heap.size+1<=(X.setRow w1.heap.size (Ak (idC 256) 256 aa H)).heap.size:=by rw[ù];exact eb
   rw[ed,bh];clear bg bw a1 ct dz ea eb bf bh;obtain⟨w8,cw⟩:=Xq (X.setRow w1.heap.size (Ak (idC 256) 256 aa H));rw[cw] at bz b0 an cv bj cu ee;rw[cw];clear cw;have k2:=(Τ w8 w1.heap.size 258 _ _ _ bj.o).trans (Ie _ _ _ _);obtain⟨bx,cy⟩:=Xq ((s==l.length));have h5:((s:Int)==(l.length:Int))=bx:=by
    rw[<-cy,Bool.eq_iff_iff];simp
    omega
   have gl:=Z cy;clear cy;have gm:((π s).map λq=>q==l.length).length<=64:=by simp;omega
   obtain⟨Ac,cz⟩:=Xq (((π s).map λq=>q==l.length));have gn:=Z cz;rw[cz] at an gm;clear cz;go_upto_region 23 with (at_builtin;refine Ϙ _ rfl _ _ 38 rfl (w1.heap.size+1) 4 i4 (.bool Ε) 1 1 Tryz.underlying38 fe ff fg fh rfl (by decide) H Ac.length (Ac.map Δ.bool) rfl (an.alloc _) _ 1 1 [.bool bx] rfl rfl (Ý _ _ _) (by simp[ξ]) (by decide) (by unfold ϐ;omega) (by omega) (by simp;omega) _ rfl ?_;intro g9 c9 w9 ba a7 _ _;have bl:ϟ (w9.heap[w1.heap.size]? = _):=Z ((a7.block w1.heap.size (Ξ (Al bj.o) (by rw[Ρ];omega)) (λe=>by have:=(an.lt _ e.symm).1;omega)).trans (Ah bj.o _));have gp:=(Τ w9 w1.heap.size 258 _ _ _ bl.o).trans (Ie _ _ _ _);have f29:=È w9 w1.heap.size 258 _ _ bl.o)
   clear k2 gp f29;have c3:=(bz.alloc (Β #[.bool bx] 4)).kept a7 (Aj bz an (by decide));have c4:=(b0.alloc (Β #[.bool bx] 4)).kept a7 (Aj b0 an (by decide));have eh:=(cv.alloc (Β #[.bool bx] 4)).kept a7 (λv l ho _=>Aj ho (an.alloc (Β #[.bool bx] 4)) (by decide));have bm:=(cu.alloc (Β #[.bool bx] 4)).grown a7 (λk e=>by have:=(an.lt k e).1;omega);have ei:w1.heap.size+1<=w9.heap.size:=by have:=a7.size;rw[Ρ] at this;omega
   have ba:OwnB w9 (w1.heap.size+1) (U (J ⟨g9,0,I⟩) (Ac.length+1) c9) (Ac++[bx]):=by show ϥ _ _ _ _ _ _ _;rw[Ν,ϩ];exact ba
   clear a7 bz b0 an cv bj cu ee;obtain⟨ao,ej⟩:=Xq (Ϗ (J ⟨g9,0,I⟩) (Ac.length+1) c9);rw[ej] at ba;have bn:=Cc w9 w1.heap.size (Ak (idC 256) 256 aa ao);have bh:w9.setCell ⟨w1.heap.size,258,I⟩ ao=w9.setRow w1.heap.size (Ak (idC 256) 256 aa ao):=by rw[Ϭ w9 _ _ _ _ _ _ bl.o,Pm]
   have ek:=bm.setRow (Υ _) (Ak (idC 256) 256 aa ao);have c5:=c3.kept bn (A3 c3 (by omega));have en:=c4.kept bn (A3 c4 (by omega));have c6:=ba.kept bn (A3 ba (by omega));have c8:=eh.kept bn (λv l ho _=>A3 ho (by omega));have eo:=Z (Χ w9 w1.heap.size _ (Ak (idC 256) 256 aa ao) _ _ bl.o);have ep:w1.heap.size+1<=(w9.setRow w1.heap.size (Ak (idC 256) 256 aa ao)).heap.size:=by rw[ù];exact ei
   rw[ej,bh];clear bn c3 c4 ba eh bm ei bl bh;obtain⟨da,db⟩:=Xq (w9.setRow w1.heap.size (Ak (idC 256) 256 aa ao));rw[db] at c5 en c6 c8 eo ek ep;rw[db];clear db;have er:OwnI da (w1.heap.size+1) row (De l s):=by show ϥ _ _ _ _ _ _ _;rw[show (De l s).length=256 by simp[De]];exact c5
   have et:=(c8.av (av':=λ_=>False) (λv l _ _ e=>e)).snoc er (λe=>e);have gq:ϟ (RowsO da (w1.heap.size+1) (vs++[row]) ((π (s+1)).map (De l)) (λ_=>False)):=Z (by rw[List.range_succ,ϩ];exact et)
   have gu:ϟ (OwnB da (w1.heap.size+1) ao ((π (s+1)).map λq=>q==l.length)):=Z (by rw[List.range_succ,ϩ,gn.o,List.map_singleton,gl.o];exact c6)
   have gv:ϟ ((vs++[row]).length=s+1):=Z (by rw[Ν,dr.o];rfl);clear c5 c8 er et c6;go_wp2;go_roundw
   case rel=>exact⟨s+1,vs++[row],aa,ao,by omega,by go_num,ek,ep,eo,en,gu.o,gq.o,gv⟩
   simp[intOf];omega
 obtain rfl:s=l.length+2:=by omega
 have eu:IsT wr (Ak (idC 256) 256 vnx H) (C3 l):=by refine⟨vnx,H,Id (λb hb=>by show idC 256 b=b;simp[idC,hb]) _ _ _,?_,OwnB.bools (l:=(π (l.length+2)).map λq=>q==l.length) hA (by simp;omega)⟩;exact hV.rows hN (by simp;omega) (λj hj=>by rw[E0 _ _ _ _ (by simpa using hj)];simp[De])
 have hC:=Z (Mm (C3 l) (EM l) (by rw[Ky];omega) _ wr eu);obtain⟨A6,ay⟩:=Xq (Ak (idC 256) 256 vnx H);have hiB:(Η.info? 84).map (·.size)=J A6.size:=by rw[<-ay,Ex];exact Ci
 rw[ay] at G hC;clear ay eu hN hA hV;have bo:=Z (hE.heap fv.o);have gx:=Z (b4.t hE);go_wp2_with (first
  | (refine Lr 84 (δ 5) G.o Tryz.underlying84 hiB ?_)
  | (go_at_call 39;(with_reducible refine hC.o.mono ?_);rintro e X ⟨v,r,rfl,hr,ew,ey,bm⟩;have HR:=Z hr;have ez:=Z ew;have HH:=Z ey;clear ew ey;obtain⟨e0,e1,e2,e3,e4,e5,e6,e7,rfl⟩:=hr.agg;clear hr;have bo:=Z (bm.heap bo.o))
  | (refine Sr 40 (δ 2) (δ 68) rfl bo.o Ae rfl (Av _ _ _ rfl rfl rfl) ?_))
 refine ω (v:=ϗ #[.agg (dA (U e0 e1 e2) (U e3 r.n.length e4) (U e5 e6 e7)),.int Φ 0]) (Bi rfl _ _ _ _ _ _ _ rfl _ rfl (Χ X _ _ (dA (U e0 e1 e2) (U e3 r.n.length e4) (U e5 e6 e7)) 40 (0,0) bo.o) Ο rfl Ae) rfl ?_;exact⟨r,⟨_,rfl,HR.o.setRow ez.o.val bo.o _⟩,ez.o,λu=>by rw[HH.o];exact EN l u,(gx.o.t bm).setRow (Υ _) _⟩
theorem ResOf.some_inv {W:Γ} {A:Array Δ} {k:Int} {q:Dfa} (h:ResOf W (Ψ (ϗ #[.agg A,.int Φ k])) (J q)):k=0/\IsD W (.agg A) q:=by
 obtain⟨T,E,H⟩:=h;injection E with E
 injection E with E
 injection E with E
 injection E with h1 E
 injection E with G _
 injection G with _ G
 rw[<-h1] at H;exact⟨G,H⟩
theorem ResOf.none_inv {W:Γ} {A:Array Δ} {k:Int} (h:ResOf W (Ψ (ϗ #[.agg A,.int Φ k])) I):k=2/\Δ.agg A=zD:=by
 unfold ResOf at h;injection h with h
 injection h with h
 injection h with h
 injection h with h1 h
 injection h with E _
 injection E with _ E
 exact⟨E,h1⟩
theorem GM {a:Dfa} {r:Option Dfa} (h:Hv a r) (d:Dfa) (hd:r=J d):Val d/\d.n.length<=64:=by subst hd;obtain⟨h1,E⟩:=U3 h (λ_=>Iff.rfl);exact⟨h1.1.val,E⟩
theorem Ll {d:Dfa}:∀ (n:Nat) (p q:Dfa),Val p->p.n.length<=64->Dr p d n (J q)->Val q/\q.n.length<=64
 | 0,p,q,H,T,h=>by
  injection (show J q=J p from h) with h
  subst h;exact⟨H,T⟩
 | n+1,p,q,_,_,⟨o,h1,E⟩=>by
  cases o with
  | none=>cases (show J q=I from E)
  | some G=>obtain⟨X,h4⟩:=I2 h1 G rfl;exact Ll n G q X h4 E
theorem CC (w:Γ):By w (U I 0 0) []:=Sl.nil w _ _
theorem Dv (W:Γ) (A:Array Δ):Ext W ((W.alloc (Β #[U I 0 0,U I 0 0,U I 0 0] 40)).setRow W.heap.size A)/\((W.alloc (Β #[U I 0 0,U I 0 0,U I 0 0] 40)).setRow W.heap.size A).heap[W.heap.size]? = J (Β A 40 (0,0)):=
 ⟨((Κ W).alloc _).setRow (Υ _) A,Χ _ _ _ A _ _ (Ad W _)⟩
theorem JK (d:Dfa) (hd:Val d) (cb:d.n.length<=64) (G:Nat) (fp:G<=16) (hi:Int) (fq:hi=-1\/(G:Int)<=hi) (fs:hi<=16) (vd:Δ) (w:Γ) (hT:Tab w) (a6:0<w.heap.size) (cc:IsD w vd d) :
  ϛ Η 76 #[vd,iv G,.int Φ hi] w λe w'=>∃ r,ResOf w' e r/\Fa d G hi r/\Ext w w':=by
 have bd:=Z (λW (hW:Ext w W)=>hT.below hW.below a6);have cd:=Z cc;have cf:=Z hd;obtain⟨ek,en,eo,ep,er,et,eu,ev,rfl⟩:=cc.agg;obtain⟨Vd,b4⟩:=Xq (dA (U ek en eo) (U ep d.n.length er) (U et eu ev));have cg:(Η.info? 40).map (·.size)=J Vd.size:=by rw[<-b4];exact Ae
 rw[b4] at cd;rw[b4];have cj:=((Κ w).alloc (Β Vd 40)).alloc (Β #[U I 0 0,U I 0 0,U I 0 0] 40);have H3:=Ah (Ad w (Β Vd 40)) (Β #[U I 0 0,U I 0 0,U I 0 0] 40);have E:=ϒ w (Β Vd 40) (Β #[U I 0 0,U I 0 0,U I 0 0] 40);have f45:=λW (hW:Ext w W)=>Z (Kx [] (by simp) _ W (CC W))
 clear cc hd hT b4;go_enter Tryz.func76,Tryz.ntmps76;go_upto_region 1 with (fail)
 obtain⟨w1,ck⟩:=Xq ((w.alloc (Β Vd 40)).alloc (Β #[U I 0 0,U I 0 0,U I 0 0] 40));rw[ck] at cj H3 E;simp only[ck];clear ck;have H3:=Z H3;have E:=Z E;have cl:=Z cj;clear cj;go_upto_region 2 with (first
  | (go_at_call 16;(with_reducible refine (f45 _ cl.o).o.mono ?_);rintro e w2 ⟨re,H,dm,dn,b5⟩;obtain⟨ew,ey,ez,e0,e1,e2,e3,e4,e5,k1,rfl⟩:=H.form;obtain⟨rfl,dp⟩:=H.some_inv;have ar:=Z dp;have a7:=Z (show Fit re (λu=>u=[]) from⟨dm,dn⟩);have dq:=Z (cl.o.t b5);have H3:=Z (b5.heap H3.o);have E:=Z (b5.heap E.o);clear H dm dn b5 dp)
  | (refine Sr 40 (δ 8) (δ 16) rfl (Ad w2 (Β #[U I 0 0,U I 0 0,U I 0 0] 40)) Ae rfl (Av _ _ _ rfl rfl rfl) ?_))
 obtain⟨VE,b6⟩:=Xq (dA (U ew ey ez) (U e0 e1 e2) (U e3 e4 e5));have dr:(Η.info? 40).map (·.size)=J VE.size:=by rw[<-b6];exact Ae
 rw[b6] at ar;simp only[b6];clear b6;obtain⟨T,ab⟩:=Dv w2 VE;obtain⟨w3,cn⟩:=Xq ((w2.alloc (Β #[U I 0 0,U I 0 0,U I 0 0] 40)).setRow w2.heap.size VE);rw[cn] at T ab;simp only[cn];clear cn;have bg:=Z (dq.o.t T);have H3:=Z (T.heap H3.o);have E:=Z (T.heap E.o);have H8:=Z ab;have ar:=Z (ar.o.ext T);generalize w2.heap.size=g8 at *;clear T ab f45 cl dq;have fu:=Gl a7.o;have f146:=λW (hW:Ext w3 W)=>Z (Wr re d a7.o.1.val cf.o (by omega) cb G (by omega) _ _ W (bd.o W (bg.o.t hW)) (Ξ a6 (bg.o.t hW).size) (ar.o.ext hW) (cd.o.ext (bg.o.t hW)))
 have du:ϟ (∀ q r,Dr re d G q->Eo q (λp r=>if hi=G then r=J p else
  if hi<0 then ∃ s,Hv d s/\Eo s (λs r=>Cp p s r) r else ∃ o,Lim (λw=>d.has w=Α\/re.has w=Α) o/\Eo o (λo r=>Dr p o (hi-G).toNat r) r) r->Fa d G hi r):=
  Z λq r h1 h2=>⟨re,⟨a7.o.1,a7.o.2⟩,q,h1,h2⟩
 go_upto_region 5 with (first
  | (refine Lr 40 (δ 8) H8.o Ο dr ?_)
  | (refine Lr 40 (δ 3) H3.o Ο cg ?_)
  | (go_at_call 101;(with_reducible refine (f146 _ (Κ w3)).o.mono ?_);rintro e w4 ⟨q,H,ak,dv⟩;obtain⟨e7,e8,e9,fa,fb,fc,fe,ff,fg,k2,rfl⟩:=H.form;have X:=Z H;have HPow:=Z ak;have dw:=Z dv;clear H ak dv)
  | (refine Sr 40 (δ 10) (δ 27) rfl (Ad w4 (Β #[U I 0 0,U I 0 0,U I 0 0] 40)) Ae rfl (Av _ _ _ rfl rfl rfl) ?_))
 obtain⟨VP,a8⟩:=Xq (dA (U e7 e8 e9) (U fa fb fc) (U fe ff fg));have an:(Η.info? 40).map (·.size)=J VP.size:=by rw[<-a8];exact Ae
 have dx:VP.all (·.oneCell')=Α:=by rw[<-a8];exact Av _ _ _ rfl rfl rfl
 have dy:ϟ ((3:Nat)=VP.size):=Z (by rw[<-a8];rfl);rw[a8] at X;simp only[a8];clear a8;obtain⟨T,ab⟩:=Dv w4 VP;obtain⟨w5,cp⟩:=Xq ((w4.alloc (Β #[U I 0 0,U I 0 0,U I 0 0] 40)).setRow w4.heap.size VP);rw[cp] at T ab;simp only[cp];clear cp;have bb:=dw.o.t T;have ah:=Z (bg.o.t bb);have H3:=Z (bb.heap H3.o);have E:=Z (bb.heap E.o);have H8:=Z (bb.heap H8.o);have ao:=Z ab;have X:=Z (X.o.ext T);have ar:=Z (ar.o.ext bb);have dz:=Z (cd.o.ext ah.o);generalize w4.heap.size=fw at *;clear T ab f146 bb bg dw;cases q with
 | none=>
  obtain⟨rfl,hz⟩:=X.o.none_inv;have HR:=Z (du.o I I HPow.o rfl);have HZ:=Z hz;clear hz;go_wp2_with (first
   | (refine Lr 40 (δ 10) ao.o Ο an ?_)
   | (refine Sr 40 (δ 6) (δ 36) rfl E.o an dy.o dx ?_))
  refine ω (v:=ϗ #[.agg VP,.int Φ 2]) (Bi rfl _ _ _ _ _ _ _ rfl _ rfl (Χ w5 _ _ VP 40 (0,0) E.o) Ο rfl an) rfl ?_;exact⟨I,by rw[HZ.o];rfl,HR.o,ah.o.setRow (by omega) _⟩
 | some p=>
  obtain⟨rfl,ea⟩:=X.o.some_inv;obtain⟨eb,cq⟩:=Ll G re p a7.o.1.val (by omega) HPow.o;have aw:=Z ea;have b8:=Z eb;have bj:=Z (λr h=>du.o (J p) r HPow.o h);clear ea eb;obtain⟨b1,fj⟩:=Xq ((hi==(G:Int)));have ec:b1=Α↔hi=G:=by rw[<-fj];simp
  have ed:=Z ec;clear ec;cases b1
  ·have ee:¬ hi=G:=λh=>by have:=ed.o.2 h;cases this
   have b9:=Z ee;clear ee;obtain⟨b2,fk⟩:=Xq (decide (hi<0));have ef:b2=Α↔hi<0:=by rw[<-fk];simp
   have eg:=Z ef;clear ef;cases b2
   ·have ct:¬ hi<0:=λh=>by have:=eg.o.2 h;cases this
    have fx:(G:Int)<=hi:=by omega
    obtain⟨m,hm⟩:∃ m:Nat,hi-G=(m:Int):=⟨(hi-G).toNat,by omega⟩;have HM:=Z hm;have fy:IntKind.i64.wrap (hi-(G:Int))=(m:Int):=by rw[hm];exact IntWalk.i64_in _ ⟨by omega,by omega⟩
    have fm:m<=1000:=by omega
    have f33:=λW (hW:Ext w5 W)=>Z (Qs d re cf.o a7.o.1.val cb (by omega) _ _ W (bd.o W (ah.o.t hW)) (Ξ a6 (ah.o.t hW).size) (dz.o.ext hW) (ar.o.ext hW))
    clear hm;go_upto_region 13 with (first
     | (refine Lr 40 (δ 3) H3.o Ο cg ?_)
     | (refine Lr 40 (δ 8) H8.o Ο dr ?_)
     | (go_at_call 74;(with_reducible refine (f33 _ (Κ w5)).o.mono ?_);rintro e w6 ⟨o,H,eh,bk⟩;obtain⟨cu,cv,cw,cy,cz,c3,c4,c5,c6,k3,rfl⟩:=H.form;have X:=Z H;have ca:=Z eh;have c7:=Z bk;clear H eh bk)
     | (refine Sr 40 (δ 13) (δ 58) rfl (Ad w6 (Β #[U I 0 0,U I 0 0,U I 0 0] 40)) Ae rfl (Av _ _ _ rfl rfl rfl) ?_))
    obtain⟨VO,ai⟩:=Xq (dA (U cu cv cw) (U cy cz c3) (U c4 c5 c6));have c8:(Η.info? 40).map (·.size)=J VO.size:=by rw[<-ai];exact Ae
    rw[ai] at X;simp only[ai];clear ai;obtain⟨T,ab⟩:=Dv w6 VO;obtain⟨w7,az⟩:=Xq ((w6.alloc (Β #[U I 0 0,U I 0 0,U I 0 0] 40)).setRow w6.heap.size VO);rw[az] at T ab;simp only[az];clear az;have af:=c7.o.t T;have aj:=Z (ah.o.t af);have E:=Z (af.heap E.o);have ao:=Z (af.heap ao.o);have c9:=Z ab;have X:=Z (X.o.ext T);have aw:=Z (aw.o.ext af);generalize w6.heap.size=fo at *;clear T ab f33 af;cases o with
    | none=>
     obtain⟨rfl,hz⟩:=X.o.none_inv;have da:=Z Ga;have HR:=Z (bj.o I (by show if hi=G then _ else if hi<0 then _ else _;rw[if_neg b9.o,if_neg (show ¬ hi<0 by omega)];exact⟨I,ca.o,rfl⟩));clear hz;go_wp2_with (first
      | (refine Bk rfl 40 _ rfl #[U I 0 0,U I 0 0,U I 0 0] ?_ ?_;(simp;with_reducible exact da.o))
      | (refine Sr 40 (δ 6) (δ 62) rfl E.o Ae rfl Fg ?_))
     refine ω (v:=ϗ #[zD,.int Φ 2]) (Bi rfl _ _ _ _ _ _ _ rfl _ rfl (Χ w7 _ _ #[U I 0 0,U I 0 0,U I 0 0] 40 (0,0) E.o) Ο rfl Ae) rfl ?_;exact⟨I,rfl,HR.o,aj.o.setRow (by omega) _⟩
    | some o=>
     obtain⟨rfl,bl⟩:=X.o.some_inv;have bm:=ca.o.1.val;have db:=ca.o.2.2;have f146:=Z (Wr p o b8.o bm cq db m fm _ _ w7 (bd.o w7 aj.o) (Ξ a6 aj.o.size) aw.o bl);clear bl bm;go_wp2_with (first
      | (refine Lr 40 (δ 10) ao.o Ο an ?_)
      | (refine Lr 40 (δ 13) c9.o Ο c8 ?_)
      | (go_at_call 101;(with_reducible refine f146.o.mono ?_);rintro e w8 ⟨r,H,ak,a1⟩;obtain⟨bn,bo,bp,bq,br,bt,bu,bw,bz,k4,rfl⟩:=H.form;have dd:=Z H;have b0:=Z ak;have E:=Z (a1.heap E.o);have de:=Z a1;clear H ak a1)
      | (refine Sr 40 (δ 6) (δ 70) rfl E.o Ae rfl (Av _ _ _ rfl rfl rfl) ?_))
     refine ω (v:=ϗ #[.agg (dA (U bn bo bp) (U bq br bt) (U bu bw bz)),.int Φ k4]) (Bi rfl _ _ _ _ _ _ _ rfl _ rfl (Χ w8 _ _ (dA (U bn bo bp) (U bq br bt) (U bu bw bz)) 40 (0,0) E.o) Ο rfl Ae) rfl ?_;refine⟨r,dd.o.setRow (λd' h=>by subst h;exact (Ll m p d' b8.o cq b0.o).1) E.o _,?_,(aj.o.t de.o).setRow (by omega) _⟩;refine bj.o r ?_;show if hi=G then _ else if hi<0 then _ else _
     rw[if_neg b9.o,if_neg (show ¬ hi<0 by omega)];exact⟨J o,ca.o,by show Dr p o (hi-G).toNat r;rw[HM.o,Int.toNat_natCast];exact b0.o⟩
   have ct:hi<0:=eg.o.1 rfl;have f147:=λW (hW:Ext w5 W)=>Z (GJ d cf.o cb _ W (bd.o W (ah.o.t hW)) (Ξ a6 (ah.o.t hW).size) (dz.o.ext hW))
   have ei:=Z ct;clear ct;go_upto_region 9 with (first
    | (refine Lr 40 (δ 3) H3.o Ο cg ?_)
    | (go_at_call 102;(with_reducible refine (f147 _ (Κ w5)).o.mono ?_);rintro e w6 ⟨o,H,ej,bk⟩;obtain⟨cu,cv,cw,cy,cz,c3,c4,c5,c6,k3,rfl⟩:=H.form;have X:=Z H;have dg:=Z ej;have c7:=Z bk;clear H ej bk)
    | (refine Sr 40 (δ 11) (δ 43) rfl (Ad w6 (Β #[U I 0 0,U I 0 0,U I 0 0] 40)) Ae rfl (Av _ _ _ rfl rfl rfl) ?_))
   obtain⟨VO,ai⟩:=Xq (dA (U cu cv cw) (U cy cz c3) (U c4 c5 c6));have c8:(Η.info? 40).map (·.size)=J VO.size:=by rw[<-ai];exact Ae
   rw[ai] at X;simp only[ai];clear ai;obtain⟨T,ab⟩:=Dv w6 VO;obtain⟨w7,az⟩:=Xq ((w6.alloc (Β #[U I 0 0,U I 0 0,U I 0 0] 40)).setRow w6.heap.size VO);rw[az] at T ab;simp only[az];clear az;have af:=c7.o.t T;have aj:=Z (ah.o.t af);have E:=Z (af.heap E.o);have ao:=Z (af.heap ao.o);have c9:=Z ab;have X:=Z (X.o.ext T);have aw:=Z (aw.o.ext af);generalize w6.heap.size=fo at *;clear T ab f147 af;cases o with
   | none=>
    obtain⟨rfl,hz⟩:=X.o.none_inv;have da:=Z Ga;have HR:=Z (bj.o I (by show if hi=G then _ else if hi<0 then _ else _;rw[if_neg b9.o,if_pos ei.o];exact⟨I,dg.o,rfl⟩));clear hz;go_wp2_with (first
     | (refine Bk rfl 40 _ rfl #[U I 0 0,U I 0 0,U I 0 0] ?_ ?_;(simp;with_reducible exact da.o))
     | (refine Sr 40 (δ 6) (δ 47) rfl E.o Ae rfl Fg ?_))
    refine ω (v:=ϗ #[zD,.int Φ 2]) (Bi rfl _ _ _ _ _ _ _ rfl _ rfl (Χ w7 _ _ #[U I 0 0,U I 0 0,U I 0 0] 40 (0,0) E.o) Ο rfl Ae) rfl ?_;exact⟨I,rfl,HR.o,aj.o.setRow (by omega) _⟩
   | some o=>
    obtain⟨rfl,bl⟩:=X.o.some_inv;obtain⟨bm,db⟩:=GM dg.o o rfl;have f31:=Z (Ka p o b8.o bm cq db _ _ w7 (bd.o w7 aj.o) (Ξ a6 aj.o.size) aw.o bl);clear bl bm;go_wp2_with (first
     | (refine Lr 40 (δ 10) ao.o Ο an ?_)
     | (refine Lr 40 (δ 11) c9.o Ο c8 ?_)
     | (go_at_call 18;(with_reducible refine f31.o.mono ?_);rintro e w8 ⟨r,H,ak,a1⟩;obtain⟨bn,bo,bp,bq,br,bt,bu,bw,bz,k4,rfl⟩:=H.form;have dd:=Z H;have b0:=Z ak;have E:=Z (a1.heap E.o);have de:=Z a1;clear H ak a1)
     | (refine Sr 40 (δ 6) (δ 52) rfl E.o Ae rfl (Av _ _ _ rfl rfl rfl) ?_))
    refine ω (v:=ϗ #[.agg (dA (U bn bo bp) (U bq br bt) (U bu bw bz)),.int Φ k4]) (Bi rfl _ _ _ _ _ _ _ rfl _ rfl (Χ w8 _ _ (dA (U bn bo bp) (U bq br bt) (U bu bw bz)) 40 (0,0) E.o) Ο rfl Ae) rfl ?_;refine⟨r,dd.o.setRow (λd' h=>(I2 b0.o d' h).1) E.o _,?_,(aj.o.t de.o).setRow (by omega) _⟩;refine bj.o r ?_;show if hi=G then _ else if hi<0 then _ else _
    rw[if_neg b9.o,if_pos ei.o];exact⟨J o,dg.o,b0.o⟩
  have HR:=Z (bj.o (J p) (by show if hi=G then _ else _;rw[if_pos (ed.o.1 rfl)]));go_wp2_with (first
   | (refine Lr 40 (δ 10) ao.o Ο an ?_)
   | (refine Sr 40 (δ 6) (δ 36) rfl E.o an dy.o dx ?_))
  refine ω (v:=ϗ #[.agg VP,.int Φ 0]) (Bi rfl _ _ _ _ _ _ _ rfl _ rfl (Χ w5 _ _ VP 40 (0,0) E.o) Ο rfl an) rfl ?_;exact⟨J p,⟨_,rfl,IsD.setRow b8.o aw.o E.o _⟩,HR.o,ah.o.setRow (by omega) _⟩
open Go
section
variable {P:Program} {ops:Array Oper} {Q:Exit->Act->World->Prop}
def C2 (o:ϳ) (a:ø):Δ:=match o.dst with|some d=>a.tmps.getD d Ω|none=>Ω
structure FInvP (ops:Array ϳ) (R:Γ->Γ->Prop) (F:Nat->Δ->Γ->Prop) (Ne:Nat->Nat->Δ->Δ->Prop) (a0:ø) (w1:Γ) (listed:Array Bool) (a:ø) (w:Γ):Prop where
 ext:R w1 w
 defers:a.defers=a0.defers
 size:a.tmps.size=a0.tmps.size
 done:∀ i o,ops[i]? = J o->listed.getD i Ε=Α->F i (C2 o a) w
 rest:∀ d,(∀ i o,ops[i]? = J o->listed.getD i Ε=Α->o.dst≠J d)->a.tmps.getD d Ω=a0.tmps.getD d Ω
 ne:∀ i j oi oj,i≠j->ops[i]? = J oi->ops[j]? = J oj->listed.getD i Ε=Α->listed.getD j Ε=Α->Ne i j (C2 oi a) (C2 oj a)
def POp (P:Program) (ops:Array ϳ) (Q:Exit->ø->Γ->Prop) (R:Γ->Γ->Prop) (F:Nat->Δ->Γ->Prop) (Ne:Nat->Nat->Δ->Δ->Prop) (a0:ø) (w1:Γ) (i:Nat):Prop:=
 ∀ o,ops[i]? = J o->∀ a w,R w1 w->(∀ j oj,ops[j]? = J oj->(∃ e∈o.after,Region.binds .any e=Α/\e.on=j)->F j (C2 oj a) w)->(∀ e,(∀ (j:Nat) (oj:ϳ),ops[j]? = J oj->oj.dst≠J e)->a.tmps.getD e Ω=a0.tmps.getD e Ω)->ϧ o (yielded ops a.tmps)=Α/\o.wp P a w (λE w'=>∃ v,(o.dst=I->v=Ω)/\E=a.put o.dst v/\R w w'/\F i v w'/\∀ j u,j≠i->F j u w->(∀ k ok,ops[k]? = J ok->(∃ e∈o.after,Region.binds .any e=Α/\e.on=k)->k≠j->Ne k j (C2 ok a) u)->Ne i j v u) Q
def Fo (ops:Array ϳ) (sz:Nat):Bool:=(π ops.size).all λi=>match ops[i]? with
 | none=>Ε
 | some o=>match o.dst with
  | none=>Α
  | some d=>decide (d<sz)&&(π ops.size).all λj=>decide (j=i)||match ops[j]? with|none=>Ε|some oj=>decide (oj.dst≠J d)
theorem Iy {sz:Nat} (h:Fo ops sz=Α) (i:Nat) (o:ϳ) (G:ops[i]? = J o):∀ d,o.dst=J d->d<sz/\∀ j oj,j≠i->ops[j]? = J oj->oj.dst≠J d:=by
 unfold Fo at h;rw[Í] at h;have hi:=(ϝ.1 G).1;have h1:=h i (ϔ.2 hi);rw[G] at h1;simp only at h1;intro d hd;rw[hd] at h1;simp only[ψ,decide_eq_true_eq,Í,Bool.or_eq_true,ϔ] at h1;refine⟨h1.1,λj oj T H=>?_⟩;rcases h1.2 j (ϝ.1 H).1 with E|E
 ·exact absurd E T
 rw[H] at E
 simpa using E
theorem Jl (a:ø) (d:Option Tmp) (v:Δ):(a.put d v).tmps.size=a.tmps.size/\(a.put d v).defers=a.defers:=by
 cases d with
 | none=>exact⟨rfl,rfl⟩
 | some d=>exact⟨Nm a d v,rfl⟩
theorem M4 {sz:Nat} (hd:Fo ops sz=Α) {i:Nat} {o:ϳ} (H:ops[i]? = J o) {a:ø} (T:a.tmps.size=sz) {v:Δ} (X:o.dst=I->v=Ω) {j:Nat} {oj:ϳ} (E:ops[j]? = J oj) :
  C2 oj (a.put o.dst v)=if j=i then v else C2 oj a:=by
 by_cases e:j=i
 ·subst e;rw[H] at E;injection E with E
  subst E;rw[if_pos rfl];unfold C2;cases G:o.dst with
  | none=>exact (X G).symm
  | some d=>simp only;rw[D6 _ _ _ _ (by rw[T];exact (Iy hd j o H d G).1),if_pos rfl]
 rw[if_neg e];unfold C2;cases aa:oj.dst with
 | none=>rfl
 | some dj=>
  simp only;cases G:o.dst with
  | none=>rfl
  | some d=>rw[D6 _ _ _ _ (by rw[T];exact (Iy hd i o H d G).1)];rw[if_neg (λh=>(Iy hd i o H d G).2 j oj e E (by rw[aa,h]))]
theorem TM {R:Γ->Γ->Prop} (a1:∀ x y z,R x y->R y z->R x z) {F:Nat->Δ->Γ->Prop} {Ne:Nat->Nat->Δ->Δ->Prop} (a6:∀ i j v u,Ne i j v u->Ne j i u v) (hF:∀ i v w w',F i v w->R w w'->F i v w') {a0:ø} {w1:Γ} {sz:Nat} (a8:a0.tmps.size=sz) (hd:Fo ops sz=Α) {listed:Array Bool} {a:ø} {w:Γ} (E:FInvP ops R F Ne a0 w1 listed a w)
  {i:Nat} (hi:i∈Region.ready .any ops listed) (H:POp P ops Q R F Ne a0 w1 i):wpOp P ops Q i (λa' w'=>FInvP ops R F Ne a0 w1 (listed.setIfInBounds i Α) a' w') a w:=by
 obtain⟨ba,o,X,ae⟩:=mem_ready.1 hi;have ao:i<listed.size:=by
  rcases Nat.lt_or_ge i listed.size with h|h
  ·exact h
  simp[Array.getElem?_eq_none h] at ba
 have hg:∀ j,(listed.setIfInBounds i Α).getD j Ε=Α->j=i\/listed.getD j Ε=Α:=λj hj=>by
  by_cases e:i=j
  ·exact .inl e.symm
  rw[getD_set_ne Ε e] at hj;exact .inr hj
 obtain⟨hw,bc⟩:=H o X a w E.ext (λj oj G ⟨e,he,hb,bd⟩=>E.done j oj G (by rw[<-bd];exact ae e he hb)) (λe he=>E.rest e λj oj G _=>he j oj G);unfold wpOp;rw[X];simp only[hw,if_true];refine .inl (ϳ.wp_mono (λa' w' h=>?_) bc);obtain⟨v,af,rfl,hE,hv,au⟩:=h;have has:a.tmps.size=sz:=by rw[E.size,a8]
 refine⟨a1 _ _ _ E.ext hE,by rw[(Jl a o.dst v).2];exact E.defers,by rw[(Jl a o.dst v).1];exact E.size,λj oj G ab=>?_,λe he=>?_,λj k oj ok aw G ad ab ax=>?_⟩
 ·rw[M4 hd X has af G];by_cases e:j=i
  ·rw[if_pos e,e];exact hv
  rw[if_neg e];rcases hg j ab with h|h
  ·exact absurd h e
  exact hF _ _ _ _ (E.done j oj G h) hE
 ·have h1:(a.put o.dst v).tmps.getD e Ω=a.tmps.getD e Ω:=by
   cases ay:o.dst with
   | none=>rfl
   | some d=>rw[D6 _ _ _ _ (by rw[has];exact (Iy hd i o X d ay).1),if_neg];exact λh=>he i o X (by simp[ao]) (by rw[ay,h])
  rw[h1];refine E.rest e λj oj G ab=>he j oj G ?_
  by_cases e':i=j
  ·subst e';simp[ao]
  rw[getD_set_ne Ε e'];exact ab
 rw[M4 hd X has af G,M4 hd X has af ad];by_cases e1:j=i
 ·have T:k≠i:=λh=>aw (by rw[e1,h])
  rw[if_pos e1,if_neg T,e1];rcases hg k ax with h|h
  ·exact absurd h T
  exact au k _ T (E.done k ok ad h) (λq oq ah ⟨e,he,hb,ai⟩ aj=>E.ne q k oq ok aj ah ad (by rw[<-ai];exact ae e he hb) h)
 rw[if_neg e1];rcases hg j ab with h|ak
 ·exact absurd h e1
 by_cases T:k=i
 ·rw[if_pos T,T];exact a6 _ _ _ _ (au j _ e1 (E.done j oj G ak) (λq oq ah ⟨e,he,hb,ai⟩ aj=>E.ne q j oq oj aj ah G (by rw[<-ai];exact ae e he hb) ak))
 rw[if_neg T];rcases hg k ax with h|bf
 ·exact absurd h T
 exact E.ne j k oj ok aw G ad ak bf
theorem Wl {sz:Nat} (hd:Fo ops sz=Α) (a a0:ø) (X:a0.tmps.size=sz) (vs:Nat->Δ) (aa:∀ i o,ops[i]? = J o->vs i=C2 o a) (e:Nat):∀ k,k<=ops.size->((∃ i o,i<k/\ops[i]? = J o/\o.dst=J e)->(Bq ops vs k a0).tmps.getD e Ω=a.tmps.getD e Ω)/\((∀ i o,i<k->ops[i]? = J o->o.dst≠J e)->(Bq ops vs k a0).tmps.getD e Ω=a0.tmps.getD e Ω)
 | 0,_=>⟨fun⟨i,o,h,_⟩=>by omega,λ_=>rfl⟩
 | k+1,hk=>by
  obtain⟨h1,h2⟩:=Wl hd a a0 X vs aa e k (by omega);obtain⟨o,G⟩:∃ o,ops[k]? = J o:=⟨_,Ϛ (by omega)⟩;have af:Bq ops vs (k+1) a0=(Bq ops vs k a0).put o.dst (vs k):=by show (Bq ops vs k a0).put ((ops[k]?).bind (·.dst)) (vs k)=_;rw[G];rfl
  have hg:(Bq ops vs (k+1) a0).tmps.getD e Ω=if o.dst=J e then a.tmps.getD e Ω else (Bq ops vs k a0).tmps.getD e Ω:=by
   rw[af];cases ab:o.dst with
   | none=>simp[η]
   | some d=>
    rw[D6 _ _ _ _ (by rw[(Lj vs a0 k).1,X];exact (Iy hd k o G d ab).1)];by_cases E:e=d
    ·subst E;rw[if_pos rfl,if_pos rfl,aa k o G];unfold C2;rw[ab]
    rw[if_neg E,if_neg (λh=>E (ό h).symm)]
  rw[hg];constructor
  ·rintro⟨i,T,hi,H,ad⟩;by_cases E:o.dst=J e
   ·rw[if_pos E]
   rw[if_neg E];refine h1 ⟨i,T,?_,H,ad⟩;by_cases ag:i=k
   ·subst ag;rw[G] at H;injection H with H
    subst H;exact absurd ad E
   omega
  intro h;rw[if_neg (h k o (by omega) G)];exact h2 λi T hi=>h i T (by omega)
theorem TN {R:Γ->Γ->Prop} {F:Nat->Δ->Γ->Prop} {Ne:Nat->Nat->Δ->Δ->Prop} {a0:ø} {w1:Γ} {sz:Nat} (ah:a0.tmps.size=sz) (hd:Fo ops sz=Α) {listed:Array Bool} {a:ø} {w:Γ} (G:FInvP ops R F Ne a0 w1 listed a w) (T:∀ i,i<ops.size->listed.getD i Ε=Α) :
  ∃ vs:Nat->Δ,a=Bq ops vs ops.size a0/\(∀ i,i<ops.size->F i (vs i) w)/\∀ i j,i<ops.size->j<ops.size->i≠j->Ne i j (vs i) (vs j):=by
 obtain⟨vs,H⟩:∃ vs:Nat->Δ,∀ i o,ops[i]? = J o->vs i=C2 o a:=⟨λi=>match ops[i]? with|some o=>C2 o a|none=>Ω,λi o E=>by simp only[E]⟩;have get:∀ i,i<ops.size->∃ o,ops[i]? = J o:=λi hi=>⟨_,Ϛ hi⟩
 refine⟨vs,?_,λi hi=>?_,λi j hi hj ai=>?_⟩
 ·have hg:=λe=>Wl hd a a0 ah vs H e ops.size (Υ _)
  obtain⟨s1,s2⟩:=Lj (ops:=ops) vs a0 ops.size;have ht:a.tmps=(Bq ops vs ops.size a0).tmps:=by
   apply Array.ext
   ·rw[s1,G.size]
   intro e h1 h2;have he:a.tmps.getD e Ω=(Bq ops vs ops.size a0).tmps.getD e Ω:=by
    obtain⟨g1,g2⟩:=hg e;by_cases ad:∃ i o,i<ops.size/\ops[i]? = J o/\o.dst=J e
    ·exact (g1 ad).symm
    have ae:∀ i o,i<ops.size->ops[i]? = J o->o.dst≠J e:=λi o hi E ar=>ad ⟨i,o,hi,E,ar⟩
    rw[g2 ae];exact G.rest e λi o E _=>ae i o (ϝ.1 E).1 E
   rw[ϕ,ϕ,Ϛ h1,Ϛ h2] at he;exact he
  have X:=G.defers;rw[<-s2] at X;generalize Bq ops vs ops.size a0=b at *;cases a;cases b
  simp only at ht X;rw[ht,X]
 ·obtain⟨o,E⟩:=get i hi;rw[H i o E];exact G.done i o E (T i hi)
 obtain⟨o,E⟩:=get i hi;obtain⟨o',ag⟩:=get j hj;rw[H i o E,H j o' ag];exact G.ne i j o o' ai E ag (T i hi) (T j hj)
theorem Wp {R:Γ->Γ->Prop} (ab:∀ x y z,R x y->R y z->R x z) {F:Nat->Δ->Γ->Prop} {Ne:Nat->Nat->Δ->Δ->Prop} (ad:∀ i j v u,Ne i j v u->Ne j i u v) (hF:∀ i v w w',F i v w->R w w'->F i v w') {a0:ø} {w1:Γ} {sz:Nat} (T:a0.tmps.size=sz) (hd:Fo ops sz=Α) (hE:Fn ops ops.size=Α)
  (ag:∀ i,i<ops.size->POp P ops Q R F Ne a0 w1 i) (ah:∀ (vs:Nat->Δ) (w':Γ),R w1 w'->(∀ i,i<ops.size->F i (vs i) w')->(∀ i j,i<ops.size->j<ops.size->i≠j->Ne i j (vs i) (vs j))->Q .normal (Bq ops vs ops.size a0) w') :
  ∀ (f:Nat) (listed:Array Bool) (a:ø) (w:Γ),listed.size=ops.size->FInvP ops R F Ne a0 w1 listed a w->unl ops.size listed=f->wpAny P .any ops Q f listed a w
 | 0,listed,a,w,X,E,hu=>by
  have ai:=Ib _ listed hu;obtain⟨vs,rfl,h1,h2⟩:=TN T hd E ai;refine⟨?_,ah vs w E.ext h1 h2⟩;refine List.eq_nil_iff_forall_not_mem.2 λi hi=>?_
  obtain⟨G,o,ho,_⟩:=mem_ready.1 hi;have aq:=(ϝ.1 ho).1;have:=ai i aq;have H:i<listed.size:=by omega
  rw[ϕ,Ϛ H] at G this;rw[Option.getD_some] at G this;rw[this] at G;cases G
 | f+1,listed,a,w,X,E,hu=>by
  obtain⟨k,hk,au,aw⟩:=J0 ops.size listed (by omega);have aj:=L3 hE X (Υ _) k hk aw au;refine⟨λh0=>(by rw[h0] at aj;cases aj),λi hi=>?_⟩;obtain⟨ak,o,ho,_⟩:=mem_ready.1 hi;have an:=(ϝ.1 ho).1;have H:i<listed.size:=by omega
  have ax:listed.getD i Ε=Ε:=by rw[ϕ,Ϛ H] at ak ⊢;exact ak
  refine wpOp_mono (λa' w' h=>Wp ab ad hF T hd hE ag ah f _ a' w' (by rw[Array.size_setIfInBounds];exact X) h ?_) (TM ab ad hF T hd E hi (ag i an));have:=I9 _ listed i an H ax;show unl ops.size (listed.setIfInBounds i Α)=f;omega
def Jm (ops:Array ϳ) (sz:Nat):Bool:=Fo ops sz&&Fn ops ops.size
theorem EH {id:Nat} {a0:ø} {w:Γ} (n sz:Nat) (H:ops.size=n) (hm:P.follows .mixedOrders=Α) (G:Jm ops sz=Α) (T:a0.tmps.size=sz) (R:Γ->Γ->Prop) (X:∀ x,R x x) (aa:∀ x y z,R x y->R y z->R x z) (F:Nat->Δ->Γ->Prop) (Ne:Nat->Nat->Δ->Δ->Prop) (ab:∀ i j v u,Ne i j v u->Ne j i u v) (hF:∀ i v w w',F i v w->R w w'->F i v w')
  (ae:∀ i,i<n->POp P ops Q R F Ne a0 w.drew i) (af:∀ (vs:Nat->Δ) (w':Γ),R w.drew w'->(∀ i,i<n->F i (vs i) w')->(∀ i j,i<n->j<n->i≠j->Ne i j (vs i) (vs j))->Q .normal (Bq ops vs n a0) w'):(Code.region id ops Α).wp P Q a0 w:=by
 subst H;simp only[Jm,ψ] at G;refine wp_region_any hm (Wp aa ab hF T G.1 G.2 ae af _ _ a0 w.drew (by simp) ⟨X _,rfl,rfl,λi o _ E=>(by rw[Ϡ] at E;cases E),λd _=>rfl,λi j _ _ _ _ _ E=>(by rw[Ϡ] at E;cases E)⟩ ?_);have hu:∀ m,unl m (Array.replicate ops.size Ε)=m:=λm=>by
  induction m with
  | zero=>rfl
  | succ m ih=>rw[Fq,ih,Ϡ];simp
 exact hu _
def Hr (ops:Array ϳ) (i j dj:Nat):Bool:=(match ops[j]? with|some oj=>decide (oj.dst=J dj)|none=>Ε)&&ý .any ops i j
def Ou (ops:Array ϳ) (i j:Nat):Bool:=(match ops[j]? with|some oj=>decide (oj.dst=I)|none=>Ε)&&ý .any ops i j
def Nt (ops:Array ϳ) (e:Nat):Bool:=(π ops.size).all λj=>match ops[j]? with|none=>Α|some oj=>decide (oj.dst≠J e)
theorem Wu {R:Γ->Γ->Prop} {F:Nat->Δ->Γ->Prop} {Ne:Nat->Nat->Δ->Δ->Prop} {a0:ø} {w1:Γ} {i:Nat} (o:ϳ) (h0:ops.toList[i]? = J o) (hg:o.guard=I)
  (H:∀ a w,R w1 w->(∀ j dj,Hr ops i j dj=Α->F j (a.tmps.getD dj Ω) w)->(∀ j,Ou ops i j=Α->F j Ω w)->(∀ e,Nt ops e=Α->a.tmps.getD e Ω=a0.tmps.getD e Ω)->
   o.wp P a w (λa' w'=>∃ v,(o.dst=I->v=Ω)/\a'=a.put o.dst v/\R w w'/\F i v w'/\∀ j u,j≠i->F j u w->(∀ k X,Hr ops i k X=Α->k≠j->Ne k j (a.tmps.getD X Ω) u)->Ne i j v u) Q):POp P ops Q R F Ne a0 w1 i:=by
 intro o' aa a w hE ae ag;rw[<-Ç,h0] at aa;injection aa with aa
 subst aa;have ho:ops[i]? = J o:=by rw[<-Ç];exact h0
 have ab:∀ j,ý .any ops i j=Α->∃ e∈o.after,Region.binds .any e=Α/\e.on=j:=λj h=>by obtain⟨oi,ai,e,he,hb,aj⟩:=Region.waitsFor_spec h;have:oi=o:=ό (ai.symm.trans ho);subst this;exact⟨e,he,hb,aj⟩
 have ak:∀ j dj,Hr ops i j dj=Α->∃ oj,ops[j]? = J oj/\(∃ e∈o.after,Region.binds .any e=Α/\e.on=j)/\C2 oj a=a.tmps.getD dj Ω:=λj dj h=>by
  unfold Hr at h;simp only[ψ] at h;obtain⟨h1,G⟩:=h;cases E:ops[j]? with
  | none=>rw[E] at h1;cases h1
  | some oj=>rw[E] at h1;have T:oj.dst=J dj:=of_decide_eq_true h1;exact⟨oj,rfl,ab j G,by unfold C2;rw[T]⟩
 refine⟨by simp[ϧ,hg],ϳ.wp_mono (λa' w' ⟨v,h1,G,h3,h4,h5⟩=>⟨v,h1,G,h3,h4,λj u ar hF hd=>h5 j u ar hF λk X hk ax=>by obtain⟨oj,e1,e2,e3⟩:=ak k X hk;have:=hd k oj e1 e2 ax;rw[e3] at this;exact this⟩) (H a w hE (λj dj h=>?_) (λj h=>?_) (λe h=>ag e λj oj E=>?_))⟩
 ·unfold Hr at h;simp only[ψ] at h;obtain⟨h1,G⟩:=h;cases E:ops[j]? with
  | none=>rw[E] at h1;cases h1
  | some oj=>rw[E] at h1;have T:oj.dst=J dj:=of_decide_eq_true h1;have:=ae j oj E (ab j G);unfold C2 at this;rw[T] at this;exact this
 ·unfold Ou at h;simp only[ψ] at h;obtain⟨h1,G⟩:=h;cases E:ops[j]? with
  | none=>rw[E] at h1;cases h1
  | some oj=>rw[E] at h1;have T:oj.dst=I:=of_decide_eq_true h1;have:=ae j oj E (ab j G);unfold C2 at this;rw[T] at this;exact this
 unfold Nt at h;rw[Í] at h;have:=h j (ϔ.2 (ϝ.1 E).1);rw[E] at this;exact of_decide_eq_true this
theorem Jn {R:Γ->Γ->Prop} {F:Nat->Δ->Γ->Prop} {Ne:Nat->Nat->Δ->Δ->Prop} {a0:ø} {w1:Γ} {i:Nat} (o:ϳ) (d:Tmp) (h0:ops.toList[i]? = J o) (hd:o.dst=J d) (hg:o.guard=I)
  (H:∀ a w,R w1 w->(∀ j dj,Hr ops i j dj=Α->F j (a.tmps.getD dj Ω) w)->(∀ j,Ou ops i j=Α->F j Ω w)->(∀ e,Nt ops e=Α->a.tmps.getD e Ω=a0.tmps.getD e Ω)->o.wp P a w (λE w'=>∃ v,E=a.put (J d) v/\R w w'/\F i v w'/\∀ j u,j≠i->F j u w->Ne i j v u) Q):POp P ops Q R F Ne a0 w1 i:=
 Wu o h0 hg λa w h1 T X h4=>ϳ.wp_mono (λE w' ⟨v,e,h⟩=>⟨v,λG=>(by rw[hd] at G;cases G),by rw[hd];exact e,h.1,h.2.1,λj u a b _=>h.2.2 j u a b⟩) (H a w h1 T X h4)
theorem Wt {R:Γ->Γ->Prop} {F:Nat->Δ->Γ->Prop} {Ne:Nat->Nat->Δ->Δ->Prop} {a0:ø} {w1:Γ} {i:Nat} (o:ϳ) (d:Tmp) (h0:ops.toList[i]? = J o) (hd:o.dst=J d) (hg:o.guard=I)
  (H:∀ a w,R w1 w->(∀ j dj,Hr ops i j dj=Α->F j (a.tmps.getD dj Ω) w)->(∀ j,Ou ops i j=Α->F j Ω w)->(∀ e,Nt ops e=Α->a.tmps.getD e Ω=a0.tmps.getD e Ω)->o.wp P a w (λE w'=>∃ v,E=a.put (J d) v/\R w w'/\F i v w'/\∀ j u,j≠i->F j u w->(∀ k G,Hr ops i k G=Α->k≠j->Ne k j (a.tmps.getD G Ω) u)->Ne i j v u) Q):POp P ops Q R F Ne a0 w1 i:=
 Wu o h0 hg λa w h1 X h3 h4=>ϳ.wp_mono (λE w' ⟨v,e,h⟩=>⟨v,λT=>(by rw[hd] at T;cases T),by rw[hd];exact e,h⟩) (H a w h1 X h3 h4)
end
open Go Go.RowKit
theorem Ek {W:Γ} {base e g n E:Nat} {xs:List Δ} (h:W.ownsRow base e 1 (U (J ⟨g,0,I⟩) n E) n xs):∃ C,W.heap[g]? = J (Β C e (0,0))/\n<=C.size:=by
 obtain⟨_,⟨h1,_⟩|⟨T,X,cur,G,_,hg,hn,_,hs,_⟩⟩:=h
 ·cases h1
 injection G with h1 h2 H
 injection h1 with h1
 injection h1 with h1
 subst h1;subst H;exact⟨cur,hg,by omega⟩
theorem B3 {W:Γ} {base e size:Nat} {v:Δ} {n:Nat} {xs:List Δ} (h:W.ownsRow base e size v n xs) {g:Nat} {cs:Array Δ} {t:TypeId} {fr:Nat × Nat} (hg:W.heap[g]? = J (Β cs t fr)) (E:t≠e):v.ownBlock=I\/v.ownBlock≠J g:=by
 obtain⟨_,⟨rfl,_⟩|⟨G,aa,cur,rfl,_,H,_⟩⟩:=h
 ·exact .inl rfl
 refine .inr λT=>?_
 have:G=g:=ό T;subst this;rw[H] at hg;injection hg with hg
 injection hg with _ X _
 exact E X.symm
def Cv (f:Nat->Nat) (m k:Nat):List Nat:=(π m).map λq=>if q<k then f q else 0
theorem E1 (f:Nat->Nat) (m k:Nat):(Cv f m k).length=m:=by simp[Cv]
theorem Mc (f:Nat->Nat) (m:Nat):Cv f m 0=θ m 0:=by
 apply Ϯ;intro i;simp only[Cv,ν,Ò,Nat.not_lt_zero,if_false];by_cases h:i<m
 ·simp[h]
 simp[h]
theorem Ok (f:Nat->Nat) (m:Nat):Cv f m m=(π m).map f:=by unfold Cv;exact List.map_congr_left λq E=>if_pos (ϔ.1 E)
theorem J6 (f:Nat->Nat) (m k:Nat) (G:k<m):(Cv f m k).set k (f k)=Cv f m (k+1):=by
 apply Ϯ;intro i;rw[Ú,E1];simp only[Cv,ν];by_cases e:k=i
 ·subst e;simp[G]
 by_cases hi:i<m
 ·simp only[î hi,æ,e,if_false];by_cases E:i<k
  ·simp[E,Nat.lt_succ_of_lt E]
  have:¬ i<k+1:=by omega
  simp[E,this]
 simp[e,hi]
theorem Gz {P:Program} (w:Γ) {o:ϳ} {a:ø} {K:ø->Γ->Prop} {Q:Exit->ø->Γ->Prop}
  (l c:Operand) (t:TypeId) (H:o.op=Op.makeSlice t l c)
  (base:Nat) (e:TypeId) (i:TypeInfo) (z:Δ) (size:Nat) (h1:P.underlying t=J (.slice e)) (T:P.info? e=J i) (X:i.zero=J z) (h4:i.size=size)
  (E G:IntKind) (L C:Int) (n:Nat) (hl:a.eval l=.int E L) (hc:a.eval c=.int G C) (hL:L=(n:Int)) (hC:C=(n:Int)) (b2:i.bytes*n<=281474976710656) (b3:n<=ϐ) (b4:base<=w.heap.size)
  (hK:∀ w',w'.ownsRow base e size (U (J ⟨w.heap.size,0,I⟩) n n) n (madeCells z.cells (n*size)).toList->w.grownBy w' I->K (a.put o.dst (U (J ⟨w.heap.size,0,I⟩) n n)) w') :
  o.wp P a w K Q:=by
 obtain⟨w',ag,r1,r2⟩:=run_make_full (P:=P) w base t e i z size h1 T X h4 E G n b2 b3 b4;subst hL;subst hC;unfold ϳ.wp;simp[execOp,H,hl,hc,ag,Result.andThen];exact hK w' r1 r2
theorem XD (a E G:Option Addr) (n H T c X aa:Nat):Η.built 40 [(0,U a n c),(1,U E H X),(2,U G T aa)]=J (dA (U a n c) (U E H X) (U G T aa)):=by kernel_rfl
theorem L6:(Η.info? 54).map (λi=>(i.zero,i.size,i.bytes))=J (J (U I 0 0),1,24):=by kernel_rfl
theorem BL {w:Γ} {p:Addr} {v:Δ} (h:w.cell? p=J v):p.block<w.heap.size:=by
 rcases Nat.lt_or_ge p.block w.heap.size with h1|h1
 ·exact h1
 unfold Γ.cell? at h;rw[Array.getElem?_eq_none h1] at h;simp at h
theorem Ff {W:Γ} {base E e size:Nat} {v:Δ} {n:Nat} {xs:List Δ} (h:W.ownsRow base e size v n xs) (hb:E<=base):W.ownsRow E e size v n xs:=by
 obtain⟨h1,G|⟨g,H,cur,T,hg,rest⟩⟩:=h
 ·exact⟨h1,.inl G⟩
 exact⟨h1,.inr ⟨g,H,cur,T,μ hb hg,rest⟩⟩
def Hk (_ _:Nat) (_ _:Δ):Prop:=True
theorem Jr (i j:Nat) (v u:Δ) (_:Hk i j v u):Hk j i u v:=trivial
theorem Ww {l L:List Cls} (h:IsCells l L):Parts L:=⟨h.nz,h.dis,h.cover⟩
theorem WD {L:List Cls} (h:IsCells [] L):∃ c,L=[c]/\∀ b,b<256->c.getLsbD b=Α:=by
 have E:∀ c∈L,∀ b,b<256->c.getLsbD b=Α:=λc hc b hb=>by obtain⟨i,hi,G⟩:=O5 (h.nz c hc);exact (h.cls c hc i hi G b hb).2 (λx hx=>by cases hx)
 obtain⟨c,hc,_⟩:=h.cover 0 (by omega);cases L with
 | nil=>cases hc
 | cons a L=>
  cases L with
  | nil=>exact⟨a,rfl,E a (by simp)⟩
  | cons b L=>
   exfalso
   have hd:=(List.pairwise_cons.1 h.dis).1 b (by simp);exact hd 0 ⟨E a (by simp) 0 (by omega),E b (by simp) 0 (by omega)⟩
theorem LW (w:Γ) (vc:Δ) (c:Cls) (a:Bool) (X:Cs w vc [c]) :
  IsD (((w.alloc (Β #[.int Φ 0] 3)).alloc (Β #[U (J ⟨w.heap.size,0,I⟩) 1 1] 54)).alloc (Β #[.bool a] 4)) (.agg #[vc,U (J ⟨w.heap.size+1,0,I⟩) 1 1,U (J ⟨w.heap.size+1+1,0,I⟩) 1 1]) (D7 c a):=by
 have e1:=(Κ w).alloc (Β #[.int Φ 0] 3);have G:=Ah (Ah (Ad w (Β #[.int Φ 0] 3)) (Β #[U (J ⟨w.heap.size,0,I⟩) 1 1] 54)) (Β #[.bool a] 4);have H:=Ah (ϒ w (Β #[.int Φ 0] 3) (Β #[U (J ⟨w.heap.size,0,I⟩) 1 1] 54)) (Β #[.bool a] 4);have E:=Ad ((w.alloc (Β #[.int Φ 0] 3)).alloc (Β #[U (J ⟨w.heap.size,0,I⟩) 1 1] 54)) (Β #[.bool a] 4);rw[Ρ,Ρ] at E;have T:=((e1.alloc (Β #[U (J ⟨w.heap.size,0,I⟩) 1 1] 54)).alloc (Β #[.bool a] 4));obtain⟨W,hW⟩:=Xq (((w.alloc (Β #[.int Φ 0] 3)).alloc (Β #[U (J ⟨w.heap.size,0,I⟩) 1 1] 54)).alloc (Β #[.bool a] 4));rw[hW] at G H E T ⊢;refine⟨vc,_,_,rfl,X.ext T,⟨[U (J ⟨w.heap.size,0,I⟩) 1 1],rfl,?_,λi hi=>?_⟩,?_⟩
 ·refine⟨by show (1:Nat)<=_;omega,.inr ⟨by show 0<1;omega,_,0,1,rfl,Al H,λi hi=>?_⟩⟩;obtain rfl:i=0:=by have:i<1*1:=hi;omega
  exact (Τ W _ 0 _ _ _ H).trans rfl
 ·obtain rfl:i=0:=by have:i<1:=hi;omega
  refine⟨by show (1:Nat)<=_;omega,.inr ⟨by show 0<1;omega,_,0,1,rfl,Al G,λi hi=>?_⟩⟩;obtain rfl:i=0:=by have:i<1*1:=hi;omega
  exact (Τ W _ 0 _ _ _ G).trans rfl
 refine⟨by show (1:Nat)<=_;omega,.inr ⟨by show 0<1;omega,_,0,1,rfl,Al E,λi hi=>?_⟩⟩;obtain rfl:i=0:=by have:i<1*1:=hi;omega
 exact (Τ W _ 0 _ _ _ E).trans rfl
theorem VF (w:Γ):Cs w (U I 0 0) []:=Sl.nil w _ _
theorem Xl (w:Γ) (hT:Tab w) (T:0<w.heap.size) :
  ϛ Η 72 #[] w λe w'=>∃ r,ResOf w' e (J r)/\Cano r/\(∀ u,r.has u=Ε)/\Ext w w':=by
 have aj:=Z (λW (G:Ext w W)=>hT.below G.below T);have X:=(Κ w).alloc (Β #[U I 0 0,U I 0 0,U I 0 0] 40);have H0:=Ad w (Β #[U I 0 0,U I 0 0,U I 0 0] 40);have f143:=λW (G:Ext w W)=>Z (BJ [] _ W (aj.o W G) (Ξ T G.size) (VF W))
 clear hT;go_enter Tryz.func72,Tryz.ntmps72;go_upto_region 1 with (fail)
 obtain⟨w1,ab⟩:=Xq (w.alloc (Β #[U I 0 0,U I 0 0,U I 0 0] 40));rw[ab] at X H0;simp only[ab];clear ab;have E:=Z H0;have ak:=Z X;clear H0 X;go_wp2_with (first
  | (go_at_call 95;(with_reducible refine (f143 _ ak.o).o.mono ?_);rintro e w2 ⟨vc,L,rfl,H,hP,-,ae⟩;obtain⟨c,ao,af⟩:=WD ((Y8 []).perm hP);rw[ao] at H;obtain⟨ac,cc,be⟩:∃ ac cc,vc=U ac 1 cc:=Sl.len H;have hI:=LW w2 vc c Ε H;have ag:=Z ((((ak.o.t ae).alloc (Β #[.int Φ 0] 3)).alloc (Β #[U (J ⟨w2.heap.size,0,I⟩) 1 1] 54)).alloc (Β #[.bool Ε] 4));have HC:=Z af;have bg:=Z (Tg (D7 c Ε) (LY c af Ε).val (by show (1:Nat)<=64;omega) _ _ (aj.o _ ag.o) (Ξ T ag.o.size) hI);subst be;have E:=Z (Ah (Ah (Ah (ae.heap E.o) (Β #[.int Φ 0] 3)) (Β #[U (J ⟨w2.heap.size,0,I⟩) 1 1] 54)) (Β #[.bool Ε] 4));clear hI ae H hP af ao L)
  | (go_at_call 80;(with_reducible refine bg.o.mono ?_);rintro e w9 ⟨r,ah,au,aw,ax⟩;obtain⟨ay,az,a1,a6,a7,a8,ba,bb,bc,k2,rfl⟩:=ah.form;have bk:=Z ah;have bd:=Z au;have bl:=Z aw;clear ah au aw;have E:=Z (ax.heap E.o))
  | (refine Sr 40 (δ 0) (δ 8) rfl E.o Ae rfl (Av _ _ _ rfl rfl rfl) ?_))
 refine ω (v:=ϗ #[.agg (dA (U ay az a1) (U a6 a7 a8) (U ba bb bc)),.int Φ k2]) (Bi rfl _ _ _ _ _ _ _ rfl _ rfl (Χ w9 _ _ (dA (U ay az a1) (U a6 a7 a8) (U ba bb bc)) 40 (0,0) E.o) Ο rfl Ae) rfl ?_;exact⟨r,bk.o.setRow (λd' h=>by injection h with h;subst h;exact bd.o.val) E.o _,bd.o,λx=>by rw[bl.o,LX c HC.o],(ag.o.t ax).setRow (by omega) _⟩
theorem WA (r:List Nat) (h0:0<r.length) (h1:r.length<=65536) (b o c:Nat) (w:Γ) (h:∀ s,s<r.length->w.cell? ⟨b,o+s,I⟩=J (iv (r.getD s 0))) :
  ϛ Η 99 #[U (J ⟨b,o,I⟩) r.length c] w λe w'=>∃ g G,e=Ψ (U (J ⟨g,0,I⟩) r.length G)/\OwnI w' w.heap.size (U (J ⟨g,0,I⟩) r.length G) r/\Ext w w':=by
 obtain⟨j0,E,ae,af,ag⟩:=ϓ Dw;have H:=Γ.ownsRow_lit (base:=w.heap.size) (e:=3) (size:=1) w #[] 0 (Υ _) (by unfold ϐ;omega) rfl;have T:=(Κ w).alloc (Β #[] 3);have X:∀ j u,(r.map iv)[j]? = J u->(w.alloc (Β #[] 3)).cell? ((⟨b,o,I⟩:Addr).add j)=J u:=λj u E=>by
  obtain⟨ah,ai⟩:=List.getElem?_eq_some_iff.1 E;have aa:j<r.length:=by rwa [ι] at ah
  have e:(⟨b,o,I⟩:Addr).add j=⟨b,o+j,I⟩:=by
   unfold Addr.add;by_cases h0:j=0
   ·subst h0;rfl
   simp[h0]
  rw[e,T.cell (h j aa),<-ai,List.getElem_map,Ζ,Ι aa];rfl
 have HN:=Z X;clear X h;have au:∀ W,(binOp .eql 54 (U (J ⟨b,o,I⟩) r.length c) (U I 0 0)).run Η W=.ok (.bool Ε) W:=λW=>Lib.run_eql_slice_nil W 54 3 _ _ _ _ _ Ϥ
 go_enter Tryz.func99,Tryz.ntmps99;go_wp2_with (at_builtin;refine Ϙ _ rfl _ _ 54 rfl w.heap.size 3 j0 (.int Φ 0) 1 8 Ϥ E ae af ag rfl (by decide) _ 0 [] rfl H ⟨b,o,I⟩ r.length _ (r.map iv) rfl (by simp) HN.o (λu hu=>by obtain⟨b',_,rfl⟩:=List.mem_map.1 hu;rfl) h0 (by unfold ϐ;omega) (by omega) (by rw[Ρ];omega) _ rfl ?_);intro g7 c7 w7 aq ab _ aw;have ar:Ext w w7:=T.grown ab (λk e=>by have:w.heap.size=k:=ό e;omega);clear H ab;go_wp2;go_ret;exact⟨g7,c7,rfl,aq,ar⟩
theorem VD (w:Γ) (c:Cls):Cs (w.alloc (Β (Ab c) 91)) (U (J ⟨w.heap.size,0,I⟩) 1 1) [c]:=by
 refine⟨by show (1:Nat)<=_;omega,.inr ⟨by show 0<1;omega,_,0,1,rfl,by rw[Ρ];omega,λi hi=>?_⟩⟩;have hi:i<4:=by have:i<1*4:=hi;omega
 rw[Τ _ w.heap.size (0+i) _ _ _ (Ad w (Β (Ab c) 91)),ϖ,Iw c i hi];have E:i / 4=0:=by omega
 have G:i % 4=i:=by omega
 show _=J (Â .u64 (wd ([c].getD (i / 4) 0#256) (i % 4)));rw[E,G];rfl
theorem X4 {α:Type} (L:List Cls) (F:Cls->α):(π L.length).map (λq=>F (L.getD q 0#256))=L.map F:=by
 apply Ϯ;intro i;simp only[ν];by_cases h:i<L.length
 ·simp[î h,Ζ,Ι h]
 rw[List.getElem?_eq_none (by simp;omega),List.getElem?_eq_none (by omega)];rfl
def Dl (c k:Cls):Bool:=Ft c (Bx (Ax k 256))
theorem SC {c:Cls} {L:List Cls} (h:IsCells [c] L) (b:Nat) (hb:b<256):Dl c (L.getD (Am L b) 0#256)=Α↔c.getLsbD b=Α:=by
 have E:=Ww h;have G:=cell_lt E hb;have X:=Gx E hb;have hm:L.getD (Am L b) 0#256∈L:=by rw[Ζ,Ι G];exact ϣ G
 generalize L.getD (Am L b) 0#256=k at *;obtain⟨h1,h2,H⟩:=Jz k (h.nz k hm);obtain⟨z,T⟩:∃ z:Nat,Bx (Ax k 256)=z:=⟨(Bx (Ax k 256)).toNat,by omega⟩;rw[T,Int.toNat_natCast] at H;have aa:z<256:=by omega
 have:=(h.cls k hm b hb X z aa).1 H;have ab:=this c (by simp);unfold Dl Ft;rw[T,Int.toNat_natCast,<-ab]
def Rc (E m:Nat) (vc:Δ):Nat->Δ->Γ->Prop
 | 0,v,_=>v=vc
 | 1,v,_=>v=iv m
 | 2,v,W=>∃ g,v=U (J ⟨g,0,I⟩) m m/\W.ownsRow E 3 1 v m ((θ m 0).map iv)
 | 3,v,_=>v=vc
 | 4,v,_=>v=iv m
 | 5,v,W=>∃ g,v=U (J ⟨g,0,I⟩) m m/\W.ownsRow E 3 1 v m ((θ m 0).map iv)
 | 6,v,W=>∃ g,v=U (J ⟨g,0,I⟩) m m/\W.ownsRow E 3 1 v m ((θ m 0).map iv)
 | _,v,W=>∃ g,v=U (J ⟨g,0,I⟩) m m/\W.ownsRow E 3 1 v m ((θ m 0).map iv)
def Rb (i j:Nat) (v u:Δ):Prop:=((i=2\/i=6)/\(j=5\/j=7)\/(j=2\/j=6)/\(i=5\/i=7))->v≠u
theorem PG (i j:Nat) (v u:Δ) (h:Rb i j v u):Rb j i u v:=λE=>(h (by omega)).symm
theorem PH (H m:Nat) (vc:Δ):∀ (i:Nat) (v:Δ) (w w':Γ),Rc H m vc i v w->Ext w w'->Rc H m vc i v w'
 | 0,_,_,_,h,_=>h
 | 1,_,_,_,h,_=>h
 | 2,_,_,_,⟨g,h1,E⟩,G=>⟨g,h1,Aa E G⟩
 | 3,_,_,_,h,_=>h
 | 4,_,_,_,h,_=>h
 | 5,_,_,_,⟨g,h1,E⟩,G=>⟨g,h1,Aa E G⟩
 | 6,_,_,_,⟨g,h1,E⟩,G=>⟨g,h1,Aa E G⟩
 | _+7,_,_,_,⟨g,h1,E⟩,G=>⟨g,h1,Aa E G⟩
theorem lt8 (i:Nat) (h:i<8):i=0\/i=1\/i=2\/i=3\/i=4\/i=5\/i=6\/i=7:=by omega
theorem Nq {W:Γ} {base m g:Nat} {u:Δ} {xs:List Δ} (hu:u=U (J ⟨g,0,I⟩) m m) (G:W.ownsRow base 3 1 u m xs) (n c:Nat):Ϗ (J ⟨W.heap.size,0,I⟩) n c≠u:=by
 intro e;rw[hu] at e G;injection e with E _ _
 injection E with E
 injection E with E _ _
 have:=(G.lt g rfl).2;omega
theorem PF (c:Cls) (w:Γ) (hT:Tab w) (bp:0<w.heap.size) :
  ϛ Η 73 #[.agg (Ab c)] w λe w'=>∃ r,ResOf w' e (J r)/\Cano r/\(∀ u,r.has u=Α↔∃ x:UInt8,u=[x]/\c.getLsbD x.toNat=Α)/\Ext w w':=by
 have cu:=Z (λW (hW:Ext w W)=>hT.below hW.below bp);have de:=((Κ w).alloc (Β (Ab c) 91)).alloc (Β #[U I 0 0,U I 0 0,U I 0 0] 40);have H1:=Ah (Ad w (Β (Ab c) 91)) (Β #[U I 0 0,U I 0 0,U I 0 0] 40);have H2:=ϒ w (Β (Ab c) 91) (Β #[U I 0 0,U I 0 0,U I 0 0] 40);have f105:=λW=>Z (IK c W)
 have e0:=Uy c;clear hT;go_enter Tryz.func73,Tryz.ntmps73;go_upto_region 1 with (fail)
 obtain⟨w1,dh⟩:=Xq ((w.alloc (Β (Ab c) 91)).alloc (Β #[U I 0 0,U I 0 0,U I 0 0] 40));rw[dh] at de H1 H2;simp only[dh];clear dh;have ay:=Z H1;have ae:=Z H2;have dk:=Z de;clear H1 H2 de;obtain⟨bz,gn⟩:=Xq (((sz c:Int)==0));have e3:bz=Α↔c=0#256:=by rw[<-gn,<-e0];simp
 have gp:=Z e3;clear e3 e0;cases bz
 ·go_upto_region 4 with (first
   | (refine Lr 91 (δ 1) ay.o ϋ Bg ?_)
   | (go_at_call 96;(with_reducible refine (f105 _).o.mono ?_);rintro e w2 ⟨rfl,ba⟩;have bg:=Z (dk.o.t ba);have ay:=Z (ba.heap ay.o);have ae:=Z (ba.heap ae.o);clear ba)
   | (go_at_call 95;(with_reducible refine (BJ [c] _ _ (cu.o _ (bg.o.alloc (Β (Ab c) 91))) (Ξ bp (bg.o.alloc (Β (Ab c) 91)).size) (VD w2 c)).mono ?_);rintro e E ⟨vc,L,rfl,e4,hP,-,bo⟩;have e6:=Z ((Y8 [c]).perm hP);have cv:=Z e4;have ao:=((Κ w2).alloc (Β (Ab c) 91)).trans bo;have e7:=Z (bg.o.t ao);have ay:=Z (ao.heap ay.o);have ae:=Z (ao.heap ae.o);clear bo ao e4 hP))
  have cw:=Ww e6.o;have e8:=cw.pos;have ik:=cw.le;obtain⟨X,oc,cc,rfl,e9⟩:=â cv.o e8;have dn:=Z e9;have dp:=Z cw;have fa:=Ad (E.alloc (Β #[.bool Ε,.bool Α,.bool Ε] 4)) (Β #[U I 0 0,U I 0 0,U I 0 0] 40);clear e9 cw;generalize hm:L.length=m at *;have HM:=Z hm;clear hm;go_upto_region 5 with (first
   | (refine Sr 40 (δ 5) (δ 21) rfl fa Ae rfl (Av _ _ _ rfl rfl rfl) ?_))
  clear fa;have ao:=((Κ E).alloc (Β #[.bool Ε,.bool Α,.bool Ε] 4)).alloc (Β #[U (J ⟨X,oc,I⟩) m cc,U I 0 0,U (J ⟨E.heap.size,0,I⟩) 3 3] 40);have HA:=Ah (Ad E (Β #[.bool Ε,.bool Α,.bool Ε] 4)) (Β #[U (J ⟨X,oc,I⟩) m cc,U I 0 0,U (J ⟨E.heap.size,0,I⟩) 3 3] 40);have H5:=ϒ E (Β #[.bool Ε,.bool Α,.bool Ε] 4) (Β #[U (J ⟨X,oc,I⟩) m cc,U I 0 0,U (J ⟨E.heap.size,0,I⟩) 3 3] 40);obtain⟨w4,c3⟩:=Xq ((E.alloc (Β #[.bool Ε,.bool Α,.bool Ε] 4)).alloc (Β #[U (J ⟨X,oc,I⟩) m cc,U I 0 0,U (J ⟨E.heap.size,0,I⟩) 3 3] 40));have il:w4.heap.size=E.heap.size+1+1:=by rw[<-c3,Ρ,Ρ]
  rw[c3] at ao HA H5;simp only[c3];clear c3;have HA:=Z HA;have H5:=Z H5;have gq:=Z (e7.o.t ao);have gu:=cv;have gv:=ae;have gw:=Z ao;have dn:=Z (λi hi=>ao.cell (dn.o i hi));have cv:=Z (cv.o.ext ao);have ay:=Z (ao.heap ay.o);have ae:=Z (ao.heap ae.o);clear ao f105 bg dk;obtain⟨i0,hi,fc,fe,ff⟩:=ϓ Dw;refine EH 8 60 rfl (by kernel_rfl) (by kernel_rfl) rfl Ext Κ (λ_ _ _ h k=>h.trans k) (Rc w4.heap.size m (U (J ⟨X,oc,I⟩) m cc)) Rb PG (PH _ _ _) (λi gx=>?_) (λvs w5 fg hF hN=>?_)
  ·have fj:=(Κ w4).drew;rcases lt8 i gx with rfl|rfl|rfl|rfl|rfl|rfl|rfl|rfl
   ·refine Jn _ _ rfl rfl rfl λc W hW aq bh a6=>?_
    have h3:c.tmps.getD 4 Ω=U (J ⟨X,oc,I⟩) m cc:=a6 4 (by kernel_rfl);go_simp;exact⟨_,rfl,Κ W,rfl,λj u _ _ h=>by omega⟩
   ·refine Jn _ _ rfl rfl rfl λc W hW aq bh a6=>?_
    have h3:c.tmps.getD 22 Ω=U (J ⟨X,oc,I⟩) m cc:=aq 0 22 (by kernel_rfl);go_simp;exact⟨_,rfl,Κ W,rfl,λj u _ _ h=>by omega⟩
   ·refine Jn _ _ rfl rfl rfl λc W hW aq bh a6=>?_
    have h3:c.tmps.getD 23 Ω=iv m:=aq 1 23 (by kernel_rfl);refine Gz W _ _ 54 rfl w4.heap.size 3 i0 (.int Φ 0) 1 Ϥ hi fc fe Φ Φ _ _ m h3 h3 rfl rfl (by rw[ff];omega) (by unfold ϐ;omega) (fj.t hW).size ?_;intro W' dq bd;refine⟨_,rfl,(Κ W).grown bd (λk e=>by cases e),⟨_,rfl,by rw[<-B8];exact dq⟩,λj u _ hu hj=>?_⟩;have dt:j=5\/j=7:=by omega
    rcases dt with rfl|rfl
    ·obtain⟨g',bj,bk⟩:=hu;exact Nq bj bk _ _
    obtain⟨g',bj,bk⟩:=hu;exact Nq bj bk _ _
   ·refine Jn _ _ rfl rfl rfl λc W hW aq bh a6=>?_
    have h3:c.tmps.getD 4 Ω=U (J ⟨X,oc,I⟩) m cc:=a6 4 (by kernel_rfl);go_simp;exact⟨_,rfl,Κ W,rfl,λj u _ _ h=>by omega⟩
   ·refine Jn _ _ rfl rfl rfl λc W hW aq bh a6=>?_
    have h3:c.tmps.getD 25 Ω=U (J ⟨X,oc,I⟩) m cc:=aq 3 25 (by kernel_rfl);go_simp;exact⟨_,rfl,Κ W,rfl,λj u _ _ h=>by omega⟩
   ·refine Jn _ _ rfl rfl rfl λc W hW aq bh a6=>?_
    have h3:c.tmps.getD 26 Ω=iv m:=aq 4 26 (by kernel_rfl);refine Gz W _ _ 54 rfl w4.heap.size 3 i0 (.int Φ 0) 1 Ϥ hi fc fe Φ Φ _ _ m h3 h3 rfl rfl (by rw[ff];omega) (by unfold ϐ;omega) (fj.t hW).size ?_;intro W' dq bd;refine⟨_,rfl,(Κ W).grown bd (λk e=>by cases e),⟨_,rfl,by rw[<-B8];exact dq⟩,λj u _ hu hj=>?_⟩;have dt:j=2\/j=6:=by omega
    rcases dt with rfl|rfl
    ·obtain⟨g',bj,bk⟩:=hu;exact Nq bj bk _ _
    obtain⟨g',bj,bk⟩:=hu;exact Nq bj bk _ _
   ·refine Wt _ _ rfl rfl rfl λc W hW aq bh a6=>?_
    obtain⟨g,h3,h4⟩:∃ g,c.tmps.getD 24 Ω=U (J ⟨g,0,I⟩) m m/\W.ownsRow w4.heap.size 3 1 (c.tmps.getD 24 Ω) m ((θ m 0).map iv):=aq 2 24 (by kernel_rfl);rw[h3] at h4;refine Cr (v:=U (J ⟨g,0,I⟩) m m) (w':=W) ?_ ?_
    ·simp only[execOp,á,h3];rfl
    exact⟨_,rfl,Κ W,⟨g,rfl,h4⟩,λj u gy _ hd hj=>by have:=hd 2 24 (by kernel_rfl) (by omega) (by omega);rw[h3] at this;exact this⟩
   refine Wt _ _ rfl rfl rfl λc W hW aq bh a6=>?_
   obtain⟨g,h3,h4⟩:∃ g,c.tmps.getD 27 Ω=U (J ⟨g,0,I⟩) m m/\W.ownsRow w4.heap.size 3 1 (c.tmps.getD 27 Ω) m ((θ m 0).map iv):=aq 5 27 (by kernel_rfl);rw[h3] at h4;refine Cr (v:=U (J ⟨g,0,I⟩) m m) (w':=W) ?_ ?_
   ·simp only[execOp,á,h3];rfl
   exact⟨_,rfl,Κ W,⟨g,rfl,h4⟩,λj u gy _ hd hj=>by have:=hd 5 27 (by kernel_rfl) (by omega) (by omega);rw[h3] at this;exact this⟩
  have v0:vs 0=U (J ⟨X,oc,I⟩) m cc:=hF 0 (by omega);have v1:vs 1=iv m:=hF 1 (by omega);obtain⟨g2,v2,-⟩:∃ g,vs 2=U (J ⟨g,0,I⟩) m m/\_:=hF 2 (by omega);have v3:vs 3=U (J ⟨X,oc,I⟩) m cc:=hF 3 (by omega);have v4:vs 4=iv m:=hF 4 (by omega);obtain⟨g5,v5,-⟩:∃ g,vs 5=U (J ⟨g,0,I⟩) m m/\_:=hF 5 (by omega);obtain⟨g6,v6,G⟩:∃ g,vs 6=U (J ⟨g,0,I⟩) m m/\_:=hF 6 (by omega);obtain⟨T,v7,H⟩:∃ g,vs 7=U (J ⟨g,0,I⟩) m m/\_:=hF 7 (by omega);have dv:g6≠T:=λe=>hN 6 7 (by omega) (by omega) (by omega) (by omega) (by rw[v6,v7,e])
  rw[v6] at G;rw[v7] at H;have dw:=(Κ w4).drew.t fg;simp only[Bq,v0,v1,v2,v3,v4,v5,v6,v7,List.getElem?_toArray,List.getElem?_cons_zero,List.getElem?_cons_succ,Option.bind_some,η,Θ,Μ,Λ];clear hF hN v0 v1 v2 v3 v4 v5 v6 v7 fg;have fq:=dw.size;have hA:Cv (λq=>if Dl c (L.getD q 0#256) then 1 else 2) m 0=θ m 0:=Mc _ _;have hB:Cv (λ_=>2) m 0=θ m 0:=Mc _ _;rw[<-hA] at G;rw[<-hB] at H;clear hA hB;go_wp2_with (fail);go_loopw [30] (λvk W=>∃ k:Nat,k<=m/\vk=.int Φ k/\Ext w4 W/\w4.heap.size<=W.heap.size/\W.ownsRow w4.heap.size 3 1 (U (J ⟨g6,0,I⟩) m m) m ((Cv (λq=>if Dl c (L.getD q 0#256) then 1 else 2) m k).map iv)/\W.ownsRow w4.heap.size 3 1 (U (J ⟨T,0,I⟩) m m) m ((Cv (λ_=>2) m k).map iv))
   (λvk _=>m-(intOf vk).toNat)
  case atStart=>exact⟨0,by omega,rfl,dw,fq,G,H⟩
  clear dw fq G H;obtain⟨k,hk,rfl,hE,gz,G,H⟩:=hrel;by_cases be:k<m
  ·obtain⟨a0,a1,a2,a3⟩:=Kf (W:=wr) (λi hi=>hE.cell (dn.o i (by rw[<-HM.o];exact hi))) k (by rw[HM.o];exact be);obtain⟨K,hK⟩:=Xq (L.getD k 0#256);rw[hK] at a0 a1 a2 a3;have fx:K≠0#256:=by rw[<-hK];exact dp.o.nz _ (by rw[Ζ,Ι (by rw[HM.o];exact be)];exact ϣ _)
   obtain⟨ix,iy,-⟩:=Jz K fx;obtain⟨z,hz⟩:∃ z:Nat,Bx (Ax K 256)=z:=⟨(Bx (Ax K 256)).toNat,by omega⟩;have ha:=Z hK;clear hK fx;go_upto_region 9 with (fail)
   obtain⟨wz,c8⟩:=Xq (wr.alloc (Β (Ab K) 91));have c9:Ext wr wz:=c8▸(Κ wr).alloc _;have H9:=show wz.heap[wr.heap.size]? = J (Β (Ab K) 91 (0,0)) from c8▸Ad wr _;simp only[c8];clear c8 a0 a1 a2 a3;have iz:w4.heap.size<=wr.heap.size:=gz;generalize wr.heap.size=g9 at *;have G:=Aa G c9;have H:=Aa H c9;have hE:=hE.t c9;have c6:=Au 0 G (E1 _ _ _).symm k (by rw[E1];exact be);have r6:=G.frozenAt k;obtain⟨ea,ax⟩:=Ba G k 2;rw[show iv 2=Â Φ 2 from rfl] at ea ax;have da:=H.kept ax (.inr λe=>dv (ό e).symm);have c7:=Au 0 da (E1 _ _ _).symm k (by rw[E1];exact be);have r7:=da.frozenAt k;obtain⟨bt,bu⟩:=Ba da k 2;rw[show iv 2=Â Φ 2 from rfl] at bt bu;rw[J6 (λ_=>2) _ _ be] at bt;have eb:=ea.kept bu (.inr λe=>dv (ό e));have ga:w4.heap.size<=g6:=(G.lt g6 rfl).1;have hn:w4.heap.size<=T:=(H.lt T rfl).1;have ho:g9≠g6:=λe=>by
    obtain⟨C,hC,-⟩:=Ek G;rw[<-e,H9] at hC;injection hC with h1
    injection h1 with _ h2 _
    exact absurd h2 (by decide)
   have hp:g9≠T:=λe=>by
    obtain⟨C,hC,-⟩:=Ek H;rw[<-e,H9] at hC;injection hC with h1
    injection h1 with _ h2 _
    exact absurd h2 (by decide)
   have H9:=(ax.block g9 (Al H9) (by simp[ho])).trans H9;have H9:=(bu.block g9 (Al H9) (by simp[hp])).trans H9;have hE:=(hE.grown ax (λk e=>by cases e;exact ga)).grown bu (λk e=>by cases e;exact hn);clear ax bu G H ea da c9;go_upto_region 10 with (fail)
   clear c6 r6 c7 r7;obtain⟨wy,ec⟩:=Xq ((wz.setCell ⟨g6,k,I⟩ (.int Φ 2)).setCell ⟨T,k,I⟩ (.int Φ 2));rw[ec] at eb bt H9 hE;rw[ec];clear ec;have H9:=Z H9;have ed:=gq.o.t hE;have f144:=λW (hW:Ext wy W)=>Z ((Re K W (cu.o W (ed.t hW)) (Ξ bp (ed.t hW).size)).mono (R':=λe w'=>e=Ψ (.int Φ (z:Int))/\Ext W w') λe w' ⟨h1,h2,_⟩=>⟨by rw[h1,hz],h2⟩)
   have f131:=λW=>Z (Zn c (z:Int) (by omega) (by omega) W)
   have gb:(if Dl c (L.getD k 0#256) then 1 else 2:Nat)=if Ft c (z:Int) then 1 else 2:=by rw[ha.o];unfold Dl;rw[hz]
   have gd:=Z gb;have hq:IntKind.u8.wrap (z:Int)=(z:Int):=IntWalk.u8_in _ ⟨by omega,by omega⟩;obtain⟨bx,ee⟩:=Xq (Ft c (z:Int));rw[ee] at f131;have gf:=Z ee;have hr:=Z (hE.heap ay.o);clear gb ee hz ed;refine Bl 4 [(0,Α),(1,Α),(2,Ε),(3,Α),(4,Ε)] (by kernel_rfl) (by kernel_rfl) (λ_ _ _ _ h=>h) (λV=>Ext wy V) (Κ wy).drew ?_;have b4:=(Κ wy).drew;obtain⟨wx,ef⟩:=Xq (wy.drew);rw[ef] at b4;rw[ef];clear ef;refine Af (v:=.agg (Ab c)) rfl rfl (λV hV=>?_) ?_
   ·exact Em 91 (δ 1) rfl w.heap.size rfl _ _ _ _ (hV.heap hr.o) ϋ rfl Bg
   simp only[η,Θ,Μ,Λ];refine Af (v:=.agg (Ab K)) rfl rfl (λV hV=>?_) ?_
   ·exact Em 91 (δ 9) rfl g9 rfl _ _ _ _ (hV.heap H9.o) ϋ rfl Bg
   simp only[η,Θ,Μ,Λ];refine Ao rfl (λKk hK=>?_);go_simp
   (with_reducible refine (f144 wx b4).o.mono ?_)
   rintro e w7 ⟨rfl,bo⟩;refine hK _ _ (λ_=>b4.t bo) ?_;clear hK Kk;refine Af (v:=.int .u8 (z:Int)) rfl rfl (λV _=>?_) ?_
   ·go_simp
   simp only[η,Θ,Μ,Λ];refine Ao rfl (λKk hK=>?_);go_simp
   (with_reducible refine (f131 w7).o.mono ?_)
   rintro e w8 ⟨rfl,gg⟩;refine hK _ _ (λh=>absurd h (by omega)) ?_;clear hK Kk;refine Bj ?_;have db:=(b4.t bo).trans gg;have bf:=Aa eb db;have b5:=Aa bt db;have a7:=hE.t db;have gi:=a7.size;clear eb bt hE b4 bo gg db f131 f144 hq;cases bx
   ·have e2:(Cv (λq=>if Dl c (L.getD q 0#256) then 1 else 2) m k).set k 2=Cv (λq=>if Dl c (L.getD q 0#256) then 1 else 2) m (k+1):=by
     rw[<-J6 _ _ _ be]
     congr 1
     show 2=if Dl c (L.getD k 0#256) then 1 else 2
     rw[gd.o,gf.o];rfl
    rw[e2] at bf;clear e2;go_wp2;go_roundw
    case rel=>exact⟨k+1,by omega,by go_num,a7,gi,bf,b5⟩
    simp[intOf];omega
   have c6:=Au 0 bf (by rw[υ,E1]) k (by rw[υ,E1];exact be);have r6:=bf.frozenAt k;obtain⟨ei,ax⟩:=Ba bf k 1;have e2:((Cv (λq=>if Dl c (L.getD q 0#256) then 1 else 2) m k).set k 2).set k 1=Cv (λq=>if Dl c (L.getD q 0#256) then 1 else 2) m (k+1):=by
    rw[List.set_set,<-J6 _ _ _ be]
    congr 1
    show 1=if Dl c (L.getD k 0#256) then 1 else 2
    rw[gd.o,gf.o];rfl
   rw[e2] at ei;rw[show iv 1=Â Φ 1 from rfl] at ei ax;have hy:=b5.kept ax (.inr λe=>dv (ό e).symm);have gj:=a7.grown ax (λk e=>by cases e;exact ga);have h5:=gj.size;clear e2 ax bf b5 a7 gi;go_wp2;go_roundw
   case rel=>exact⟨k+1,by omega,by go_num,gj,h5,ei,hy⟩
   simp[intOf];omega
  obtain rfl:m=k:=by omega
  rw[Ok] at G H;have b7:((π m).map λ_=>2).length=m:=by simp
  have f145:=WA ((π m).map λ_=>2) (by rw[b7];exact e8) (by rw[b7];omega) T 0 m wr (λs hs=>by rw[ϖ];exact Au 0 H b7.symm s hs);rw[b7] at f145;have f145:=Z f145;clear b7;go_upto_region 14 with (go_at_call 99;(with_reducible refine f145.o.mono ?_);rintro e w9 ⟨gc,ak,rfl,au,dc⟩;have G:=Aa G dc;have H:=Aa H dc;have hE:=hE.t dc;have b8:=hE.heap H5.o;have cF:=(Τ (w9.alloc (Β #[U (J ⟨g6,0,I⟩) m m,U (J ⟨T,0,I⟩) m m,U (J ⟨gc,0,I⟩) m ak] 54)) _ 1 _ _ _ (Ah b8 (Β #[U (J ⟨g6,0,I⟩) m m,U (J ⟨T,0,I⟩) m m,U (J ⟨gc,0,I⟩) m ak] 54))).trans (show (#[U (J ⟨X,oc,I⟩) m cc,U I 0 0,U (J ⟨E.heap.size,0,I⟩) 3 3]:Array Δ)[1]? = J (U I 0 0) from rfl);have fF:=È (w9.alloc (Β #[U (J ⟨g6,0,I⟩) m m,U (J ⟨T,0,I⟩) m m,U (J ⟨gc,0,I⟩) m ak] 54)) _ 1 _ _ (Ah b8 (Β #[U (J ⟨g6,0,I⟩) m m,U (J ⟨T,0,I⟩) m m,U (J ⟨gc,0,I⟩) m ak] 54)))
  have ej:=Ϭ (w9.alloc (Β #[U (J ⟨g6,0,I⟩) m m,U (J ⟨T,0,I⟩) m m,U (J ⟨gc,0,I⟩) m ak] 54)) (E.heap.size+1) 1 _ 40 (0,0) (U (J ⟨w9.heap.size,0,I⟩) 3 3) (Ah b8 (Β #[U (J ⟨g6,0,I⟩) m m,U (J ⟨T,0,I⟩) m m,U (J ⟨gc,0,I⟩) m ak] 54));have gk:(#[U (J ⟨X,oc,I⟩) m cc,U I 0 0,U (J ⟨E.heap.size,0,I⟩) 3 3]:Array Δ).setIfInBounds 1 (U (J ⟨w9.heap.size,0,I⟩) 3 3)=dA (U (J ⟨X,oc,I⟩) m cc) (U (J ⟨w9.heap.size,0,I⟩) 3 3) (U (J ⟨E.heap.size,0,I⟩) 3 3):=rfl;rw[gk] at ej;rw[ej];clear cF fF ej gk;have bm:=Ah b8 (Β #[U (J ⟨g6,0,I⟩) m m,U (J ⟨T,0,I⟩) m m,U (J ⟨gc,0,I⟩) m ak] 54);have a8:=Ad w9 (Β #[U (J ⟨g6,0,I⟩) m m,U (J ⟨T,0,I⟩) m m,U (J ⟨gc,0,I⟩) m ak] 54);have ek:=(gw.o.t hE).alloc (Β #[U (J ⟨g6,0,I⟩) m m,U (J ⟨T,0,I⟩) m m,U (J ⟨gc,0,I⟩) m ak] 54);have en:=Ah (hE.heap HA.o) (Β #[U (J ⟨g6,0,I⟩) m m,U (J ⟨T,0,I⟩) m m,U (J ⟨gc,0,I⟩) m ak] 54);have G:=G.alloc (Β #[U (J ⟨g6,0,I⟩) m m,U (J ⟨T,0,I⟩) m m,U (J ⟨gc,0,I⟩) m ak] 54);have H:=H.alloc (Β #[U (J ⟨g6,0,I⟩) m m,U (J ⟨T,0,I⟩) m m,U (J ⟨gc,0,I⟩) m ak] 54);have au:w9.ownsRow wr.heap.size 3 1 (U (J ⟨gc,0,I⟩) m ak) m (((π m).map λ_=>2).map iv):=by have:=au;unfold OwnI at this;rw[show ((π m).map λ_=>2).length=m by simp] at this;exact this
  have au:=au.alloc (Β #[U (J ⟨g6,0,I⟩) m m,U (J ⟨T,0,I⟩) m m,U (J ⟨gc,0,I⟩) m ak] 54);obtain⟨eo,ep⟩:=Xq (w9.alloc (Β #[U (J ⟨g6,0,I⟩) m m,U (J ⟨T,0,I⟩) m m,U (J ⟨gc,0,I⟩) m ak] 54));rw[ep] at bm a8 ek en G H au;simp only[ep];clear ep b8;have bd:=Cc eo (E.heap.size+1) (dA (U (J ⟨X,oc,I⟩) m cc) (U (J ⟨w9.heap.size,0,I⟩) 3 3) (U (J ⟨E.heap.size,0,I⟩) 3 3));have G:=G.kept bd (B3 G bm (by decide));have H:=H.kept bd (B3 H bm (by decide));have au:=au.kept bd (B3 au bm (by decide));have h9:w9.heap.size≠E.heap.size+1:=λe=>by
   rw[e,bm] at a8;injection a8 with h1
   injection h1 with _ h2 _
   exact absurd h2 (by decide)
  have a8:=Bm a8 h9 (dA (U (J ⟨X,oc,I⟩) m cc) (U (J ⟨w9.heap.size,0,I⟩) 3 3) (U (J ⟨E.heap.size,0,I⟩) 3 3));have dd:=Bm en (show E.heap.size≠E.heap.size+1 by omega) (dA (U (J ⟨X,oc,I⟩) m cc) (U (J ⟨w9.heap.size,0,I⟩) 3 3) (U (J ⟨E.heap.size,0,I⟩) 3 3));have er:=Χ eo _ _ (dA (U (J ⟨X,oc,I⟩) m cc) (U (J ⟨w9.heap.size,0,I⟩) 3 3) (U (J ⟨E.heap.size,0,I⟩) 3 3)) _ _ bm;have b9:=ek.setRow (show E.heap.size<=E.heap.size+1 by omega) (dA (U (J ⟨X,oc,I⟩) m cc) (U (J ⟨w9.heap.size,0,I⟩) 3 3) (U (J ⟨E.heap.size,0,I⟩) 3 3));generalize w9.heap.size=gl at *;obtain⟨aw,et⟩:=Xq (eo.setRow (E.heap.size+1) (dA (U (J ⟨X,oc,I⟩) m cc) (U (J ⟨gl,0,I⟩) 3 3) (U (J ⟨E.heap.size,0,I⟩) 3 3)));rw[et] at G H au a8 dd er b9;simp only[et];clear et bm ek en bd;have gm:IsD aw (.agg (dA (U (J ⟨X,oc,I⟩) m cc) (U (J ⟨gl,0,I⟩) 3 3) (U (J ⟨E.heap.size,0,I⟩) 3 3))) (C0 L (Dl c)):=by
   have bf:(π m).map (λq=>if Dl c (L.getD q 0#256) then 1 else 2)=L.map λk=>if Dl c k then 1 else 2:=by rw[<-HM.o];exact X4 L (λk=>if Dl c k then 1 else 2)
   have b5:(π m).map (λ_=>2)=L.map λ_=>2:=by rw[<-HM.o];exact X4 L (λ_=>2)
   rw[bf] at G;rw[b5] at H au;have ints:∀ {base:Nat} {v:Δ} {r:List Nat},aw.ownsRow base 3 1 v m (r.map iv)->r.length=m->Ints aw v r:=λ{base v r} h hl=>by
    have:OwnI aw base v r:=by unfold OwnI;rw[hl];exact h
    exact this.ints (by omega)
   refine⟨_,_,_,rfl,gu.o.ext b9,⟨[U (J ⟨g6,0,I⟩) m m,U (J ⟨T,0,I⟩) m m,U (J ⟨gc,0,I⟩) m ak],rfl,?_,λi hi=>?_⟩,?_⟩
   ·refine⟨by show (3:Nat)<=_;omega,.inr ⟨by show 0<3;omega,_,0,3,rfl,Al a8,λi hi=>?_⟩⟩;have hi:i<3:=by have:i<3*1:=hi;omega
    rw[ϖ,Τ aw _ i _ _ _ a8]
    match i,hi with
    | 0,_=>rfl
    | 1,_=>rfl
    | 2,_=>rfl
   ·have hi:i<3:=hi
    match i,hi with
    | 0,_=>exact (show Ints aw _ (L.map λk=>if Dl c k then 1 else 2) from ints G (by rw[ι];exact HM.o))
    | 1,_=>exact (show Ints aw _ (L.map λ_=>2) from ints H (by rw[ι];exact HM.o))
    | 2,_=>exact (show Ints aw _ (L.map λ_=>2) from ints au (by rw[ι];exact HM.o))
   refine⟨by show (3:Nat)<=_;omega,.inr ⟨by show 0<3;omega,_,0,3,rfl,Al dd,λi hi=>?_⟩⟩;have hi:i<3:=by have:i<3*1:=hi;omega
   rw[ϖ,Τ aw _ i _ _ _ dd]
   match i,hi with
   | 0,_=>rfl
   | 1,_=>rfl
   | 2,_=>rfl
  have a7:=e7.o.t b9;have ib:=Z (Tg (C0 L (Dl c)) (PI dp.o _) (by show (3:Nat)<=64;omega) _ aw (cu.o aw a7) (Ξ bp a7.size) gm);have ae:=Z (b9.heap gv.o);have HX:=Z er;have ie:=Z a7;have ig:=Z (λu=>PJ dp.o (Dl c) c (λb hb=>SC e6.o b hb) u);clear gm a7 er dd a8 G H au hE dc f145 b9;go_wp2_with (first
   | (refine Lr 40 (δ 5) HX.o Ο Ae ?_)
   | (go_at_call 80;(with_reducible refine ib.o.mono ?_);rintro e eu ⟨r,bn,ca,cb,cd⟩;obtain⟨cf,cg,cj,ck,cl,cm,cn,cp,cq,k2,rfl⟩:=bn.form;have ew:=Z bn;have ct:=Z ca;have ey:=Z cb;clear bn ca cb;have ae:=Z (cd.heap ae.o))
   | (refine Sr 40 (δ 2) (δ 58) rfl ae.o Ae rfl (Av _ _ _ rfl rfl rfl) ?_))
  refine ω (v:=ϗ #[.agg (dA (U cf cg cj) (U ck cl cm) (U cn cp cq)),.int Φ k2]) (Bi rfl _ _ _ _ _ _ _ rfl _ rfl (Χ eu _ _ (dA (U cf cg cj) (U ck cl cm) (U cn cp cq)) 40 (0,0) ae.o) Ο rfl Ae) rfl ?_;exact⟨r,ew.o.setRow (λd' h=>by injection h with h;subst h;exact ct.o.val) ae.o _,ct.o,λu=>by rw[ey.o];exact ig.o u,(ie.o.t cd).setRow (by omega) _⟩
 have f117:=λW (hW:Ext w W)=>Z (Xl W (cu.o W hW) (Ξ bp hW.size))
 go_wp2_with (first
  | (refine Lr 91 (δ 1) ay.o ϋ Bg ?_)
  | (go_at_call 96;(with_reducible refine (f105 _).o.mono ?_);rintro e w2 ⟨rfl,ba⟩;have bg:=Z (dk.o.t ba);have ae:=Z (ba.heap ae.o);clear ba)
  | (go_at_call 72;(with_reducible refine (f117 _ bg.o).o.mono ?_);rintro e eu ⟨r,bn,ca,cb,cd⟩;obtain⟨cf,cg,cj,ck,cl,cm,cn,cp,cq,k2,rfl⟩:=bn.form;have ew:=Z bn;have ct:=Z ca;have ey:=Z cb;clear bn ca cb;have ae:=Z (cd.heap ae.o))
  | (refine Sr 40 (δ 2) (δ 14) rfl ae.o Ae rfl (Av _ _ _ rfl rfl rfl) ?_))
 refine ω (v:=ϗ #[.agg (dA (U cf cg cj) (U ck cl cm) (U cn cp cq)),.int Φ k2]) (Bi rfl _ _ _ _ _ _ _ rfl _ rfl (Χ eu _ _ (dA (U cf cg cj) (U ck cl cm) (U cn cp cq)) 40 (0,0) ae.o) Ο rfl Ae) rfl ?_;refine⟨r,ew.o.setRow (λd' h=>by injection h with h;subst h;exact ct.o.val) ae.o _,ct.o,λu=>?_,(bg.o.t cd).setRow (by omega) _⟩;rw[ey.o];have ij:=gp.o.1 (by simp);constructor
 ·intro h;cases h
 rintro⟨x,_,hx⟩;rw[ij] at hx;simp at hx
end Go.Proofs.YtilncahcpjlfnaaGreatDoor
