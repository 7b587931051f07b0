import Derived.Test.YtaiogolidlamiaaGreatDoorN17
import Derived.Test.YtaiogolidlamiaaGreatDoorN06
import Derived.Great.BuildSlice
import Derived.Test.YtaiogolidlamiaaGreatDoorN11
import Derived.Test.YtaiogolidlamiaaGreatDoorN09
import Derived.Test.YtaiogolidlamiaaGreatDoorN16
set_option linter.unusedVariables false
set_option linter.unusedSimpArgs false
open Array renaming toList_setIfInBounds → â
open Bool renaming true → Ξ, false → Τ
open Go renaming World → Λ, Value → Ν, undef → ς, Operand → ϵ, info_parts → Ϟ, heap_alloc2_new → Ϗ, wpList_load_row → Ο, wpList_store_row → Φ, setRow_heap → μ, wpList_make_full → ϩ, maxLen → ϛ, wpList_append_lies → Ϙ, cell_one_new → ϭ, bodyPost_ret → ω, results_cell_row → Ϲ
open Go.Act renaming put → Ϛ
open Go.Ending renaming returned → θ
open Go.IntKind renaming i64 → ε
open Go.Lib renaming hid → Α
open Go.Obj renaming cells → Ε
open Go.Operand renaming tmp → η
open Go.Proofs.Tryz renaming prog → Ζ, underlying79 → Ϻ, zeroCells79 → ϖ, zeroCells77 → ώ, underlying68 → ϔ, underlying27 → î, underlying28 → Ã, underlying30 → Κ
open Go.Region renaming wanted → Ë
open Go.RowKit renaming Hid → À
open Go.Value renaming pointer → Ω, slice → Β, bool → ο, oneCell' → ό, slice → Ϥ
open Go.World renaming ownsRow → Ϡ, size_alloc → Ρ, ownsRow_lit → Ý
open List renaming replicate → ζ, getD_eq_getElem?_getD → Η, length_set → ϒ, set_cons_zero → Χ, length_append → Υ, mem_of_getElem? → Â, setIfInBounds_toArray → Ι, set_cons_succ → Ψ, range → ι, length_map → ϋ, map_append → ϝ, getElem?_eq_getElem → Μ, mem_cons → Ú, not_mem_nil → ù, map_cons → Æ, getElem?_map → ϕ
open Nat renaming le_refl → ν, lt_of_lt_of_le → δ
open Option renaming some → Δ, none → Γ
open Option.some renaming inj → ύ
namespace Go.Proofs.YtaiogolidlamiaaGreatDoor
set_option maxRecDepth 100000
set_option maxHeartbeats 8000000
open Go.RowKit Go.Shelf
structure ClsI (c:Nat->Nat) (n b:Nat) (L:List Cls):Prop where
 len:L.length=n
 bit:∀ i,i<n->∀ y,y<256->((L.getD i 0#256).getLsbD y=Ξ↔y<b/\c y=i)
theorem Al7 (c:Nat->Nat) (n:Nat):ClsI c n 0 (ζ n 0#256) where
 len:=List.length_replicate
 bit:=λi hi y _=>by
  have:(ζ n 0#256).getD i 0#256=0#256:=by
   rw[Η,List.getElem?_replicate];split<;>rfl
  rw[this];simp
theorem Al8 {c:Nat->Nat} {n b:Nat} {L:List Cls} (h:ClsI c n b L) (I:b<256) (J:c b<n):ClsI c n (b+1) (L.set (c b) (Bp (L.getD (c b) 0#256) (b:Int))) where
 len:=by rw[ϒ];exact h.len
 bit:=λi hi y G=>by
  rw[Bb _ _ _ _ _ (by rw[h.len];exact J)];by_cases e:i=c b
  ·subst e;rw[if_pos rfl,I6 _ _ _ I,Bool.or_eq_true,h.bit _ hi y G,decide_eq_true_eq];constructor
   ·rintro (⟨E,D⟩|rfl)
    ·exact⟨by omega,D⟩
    ·exact⟨by omega,rfl⟩
   ·rintro⟨E,D⟩;by_cases e:y=b
    ·exact .inr e
    ·exact .inl ⟨by omega,D⟩
  ·rw[if_neg e,h.bit i hi y G];constructor
   ·rintro⟨E,D⟩;exact⟨by omega,D⟩
   ·rintro⟨E,D⟩;refine⟨?_,D⟩;by_cases M:y=b
    ·subst M;exact absurd D.symm e
    ·omega
theorem Mi (r:List Nat) (m v:Nat) (h:r.length<m):(r++ζ (m-r.length) 0).set r.length v=(r++[v])++ζ (m-(r++[v]).length) 0:=by
 obtain⟨j,D⟩:∃ j,m-r.length=j+1:=⟨m-r.length-1,by omega⟩;rw[List.set_append_right _ _ (ν _),Nat.sub_self,D,List.replicate_succ,Χ,List.append_assoc,Υ,show m-(r.length+[v].length)=j by simp;omega];rfl
theorem Hp.at0 {w0 W:Λ} {L:List Ch} (h:Hp w0 W L) {g:Nat} (hg:g<w0.heap.size) (cs:Array Ν):∀ c,c∈L->c.At w0.heap.size (W.setRow g cs):=λc D=>
 Ch.kept (h.at_ c D) (Cd W g cs) λk E e=>by
  have:=(Ch.lt (h.at_ c D) k E).1;have:=ύ e;omega
theorem Za {base:Nat} {W:Λ} {L:List Ch} (h:∀ c,c∈L->c.At base W) (i k:Nat) {v:Ν} {vs:List Ν} {N:List (List Nat)} (G:L[i]? = Δ (.row 68 1 v vs.length vs)) (I:∀ j,L[j+k]? = (C1 vs N)[j]?) (D:vs.length=N.length) (hn:N.length<=4611686018427387904) (hm:∀ j,j<N.length->(N.getD j []).length<=4611686018427387904):Rows W v N:=by
 refine⟨vs,D,?_,λj E=>OwnI.ints (base:=base) (h _ (Â ((I j).trans (Tu D j E)))) (hm j E)⟩;have:=Sl.of_owns (h _ (Â G):Ϡ _ _ _ _ _ _ _) (by rw[D];exact hn) ς;rw[D] at this;exact this
theorem Abm {P:Program} {ops:Array Oper} {o:Oper} {a:Act} {w:Λ} {K:Act->Λ->Prop} {Q:Exit->Act->Λ->Prop} {E:Prop} (ty:TypeId) (x y:ϵ) (D:o.op=.store ty x y) (G:o.guard=Γ)
  (b k:Nat) (cells:Array Ν) (I:a.eval x=Ω (Δ ⟨b,k,Γ⟩)) (J:a.eval y=.agg cells) (M:w.there b k cells.size) (hi:(P.info? ty).map (·.size)=Δ cells.size)
  (T:cells.all (·.oneCell')=Ξ) (h:K (a.put o.dst ς) (w.setCells b k cells.toList)):if Ë o (yielded ops a.tmps)=Ξ then Oper.wp P o a w K Q else E:=by
 have U:Ë o (yielded ops a.tmps)=Ξ:=by simp[Ë,G]
 rw[if_pos U];exact wp_store_mid ty x y D b k cells I J M hi T h
theorem Mq (t:Tbl) (hv:TVal t) (hn:t.n.length<=65536):Zw t:=by
 intro A w h;obtain⟨_,_,_,_,_,_,iu,lg,_⟩:=h.opened hv;obtain⟨i0,hi,db,dc,dd⟩:=Ϟ Cp;obtain⟨i4,lj,lk,ll,ln⟩:=Ϟ D8;obtain⟨i6,lp,lq,lr,ls⟩:=Ϟ (show (Ζ.info? 68).map (λi=>(i.zero,i.size,i.bytes))=Δ (Δ (Β Γ 0 0),1,24) by kernel_rfl);obtain⟨lu,lv,lx,ly,lz⟩:=Ϟ Qe;have l2:(Ζ.info? 79).map (·.size)=Δ A.size:=by rw[iu];exact Co
 have de:=((Θ w).alloc (Ε A 79)).alloc (Ε #[Β Γ 0 0,Β Γ 0 0,Β Γ 0 0] 30);have H0:=Ag (Aa w (Ε A 79)) (Ε #[Β Γ 0 0,Β Γ 0 0,Β Γ 0 0] 30);have H1:=Ϗ w (Ε A 79) (Ε #[Β Γ 0 0,Β Γ 0 0,Β Γ 0 0] 30);have f99:=λW (G:Ext w W)=>Α (Aiq t hv hn A W (h.ext G))
 clear h iu lg;go_enter Tryz.func57,Tryz.ntmps57;go_upto_region 1 with (fail)
 obtain⟨w1,dg⟩:∃ W,(w.alloc (Ε A 79)).alloc (Ε #[Β Γ 0 0,Β Γ 0 0,Β Γ 0 0] 30)=W:=⟨_,rfl⟩;have l4:w1.heap.size=w.heap.size+1+1:=by rw[<-dg,Ρ,Ρ]
 have e7:À (w.heap.size+1<w1.heap.size):=Α (by omega);rw[dg] at de H0 H1;simp only[dg];obtain⟨g2,e8⟩:∃ y,w.heap.size+1=y:=⟨_,rfl⟩;have l5:À (w.heap.size<=g2):=Α (by omega);rw[e8] at H1 e7;simp only[e8];clear dg l4 e8;have iw:=Α H0;have cm:=Α H1;have ix:=Α de;have f99:=f99 w1 de;clear H0 H1 de;go_upto_region 2 with (first
  | (refine Ο rfl 79 (η 1) rfl _ rfl _ _ _ _ iw.out Ϻ rfl l2 ?_)
  | (go_at_call 99;with_reducible refine f99.out.mono ?_;rintro e w2 ⟨A2,C0,P0,f0,rfl,dk,hu,dm⟩;obtain⟨bn,on,cn,ba,oa,ca,jb,l6,fa,fb,fc,fe,ff⟩:=hu.opened (V9 hv dk);have fg:(Ζ.info? 79).map (·.size)=Δ A2.size:=(by rw[jb];exact Co);have l7:ϖ.size=A2.size:=(by rw[Fb,jb]))
  | (refine Φ rfl 79 (η 3) (η 19) rfl _ A2 rfl rfl _ _ (Aa w2 _) fg l7 l6 ?_))
 have HU:=Α (V9 hv dk);have jc:=Α (Aip hv dk);have dq:(Cw t C0 P0).n.length<=65536:=by simp[Cw];exact hn
 obtain⟨u,jd⟩:∃ u,Cw t C0 P0=u:=⟨_,rfl⟩;rw[jd] at hu fa fb fc fe ff HU jc dq;clear jd dk f99 hv;have nv:=HU.out.cle;have nw:=HU.out.cpos;have fh:=HU.out.pos;have E:=((Hp.nil w2).new (Ε ϖ 79)).box 0 rfl A2;have fj:À (g2<w2.heap.size):=Α (δ e7.out dm.size);have fk:=Α (ix.out.trans dm);have cm:=Α (dm.heap cm.out);have dr:=Α (λW (G:Ext w2 W)=>hu.ext G);have l8:=Α fa;have l9:=Α fb;have ma:=Α fc;have fl:=Α (λW (G:Ext w2 W)=>fe.ext G);have fm:=Α (λW (G:Ext w2 W) s (hs:s<u.n.length)=>G.cell (ff s hs));clear hu fa fb fc fe ff dm iw e7 ix;obtain⟨w3,dt⟩:∃ X,(w2.alloc (Ε ϖ 79)).setRow w2.heap.size A2=X:=⟨_,rfl⟩;obtain⟨g3,fq⟩:∃ y,w2.heap.size=y:=⟨_,rfl⟩;rw[fq] at dt E;rw[dt] at E;simp only[fq];simp only[dt];clear dt fq;replace E:Hp w2 w3 [.obj g3 (Ε A2 79 (0,0))]:=E;have HO:=Α (E.obj 0 rfl);refine B2 8 [(0,Ξ),(1,Ξ),(2,Τ),(3,Τ),(4,Ξ),(5,Ξ),(6,Ξ),(7,Ξ),(8,Τ)] (by kernel_rfl) (by kernel_rfl) (λ_ _ _ _ h=>h)
  (λW=>Ext w3 W) (Θ w3).drew ?_
 have du:=(Θ w3).drew;obtain⟨w4,fs⟩:∃ W,w3.drew=W:=⟨_,rfl⟩;rw[fs] at du;rw[fs];clear fs;iterate 2
  refine Ff (v:=.agg A2) rfl rfl (λW G=>D2 79 (η 3) rfl _ rfl _ _ _ _ (G.heap HO.out) Ϻ rfl fg) ?_;simp only[Ϛ,Ι,Χ,Ψ]
 refine Dc rfl (λK hK=>?_);go_simp;with_reducible refine (Ad9 u HU.out dq A2 w4 (dr.out _ (E.ext.trans du))).mono ?_
 rintro e w5 ⟨vl,l,rfl,hl,jf,jg⟩;have dv:=du.trans jg;have HL:=Α hl;have ny:l.length<=u.n.length:=by
  have:=Dy l (ι u.n.length) HL.out.nodup λs hs=>List.mem_range.2 (HL.out.lt s hs)
  simpa using this
 have mf:À (l.length<=65536):=Α (by omega);clear hl;refine hK _ _ (λ_=>dv) ?_;clear hK K;refine Dc rfl (λK hK=>?_);go_simp;with_reducible refine (Ank u HU.out dq l HL.out mf.out A2 vl w5 (dr.out _ (E.ext.trans dv)) jf).mono ?_
 rintro e w6 ⟨vN,vR,N,R,rfl,jj,hB,ft,fu,jl⟩;have dw:=dv.trans jl;have jm:=Α jj;have HB:=Α hB;clear hB jj jf;refine hK _ _ (λ_=>dw) ?_;clear hK K;iterate 4
  refine Ff (v:=?_) rfl rfl (λW G=>?_) ?_
  rotate_left
  ·go_simp;first|done|with_reducible rfl
  simp only[Ϛ,Ι,Χ,Ψ]
 refine Dc rfl (λK hK=>?_);go_simp;refine hK _ _ (λ_=>dw) ?_;clear hK K;refine B3 ?_;have bt:=E.extW dw;have jn:0<R.length:=by
  have:=HB.out.blk.lt 0 HL.out.zero;omega
 have fv:R.length<=65536:=by
  have:=Jq HB.out.blk;omega
 have jo:=Α (λi (hi:i<R.length)=>HL.out.lt _ (HB.out.blk.mem i hi));have fw:=Α (λi (hi:i<R.length) k (hk:k<u.cells)=>HB.out.blk.lt _ (HL.out.closed _ (HB.out.blk.mem i hi) k hk));have mh:=Α (λi (hi:i<R.length) b (hb:b<256)=>δ (fw.out i hi _ (HU.out.cell_lt b hb)) fv);have fx:=HB.out.blk.lt 0 HL.out.zero;clear du jg jl dv dw E HO;have jq:Sl w6 vN 1 u.n.length (λi=>iv (N.getD i 0)):=by rw[<-jm.out];exact ft
 have f102:=Α (Amh u HU.out dq N jm.out R jn fv jo.out mh.out A2 vN vR w6 (dr.out _ bt.ext) ft fu);obtain⟨bB,oB,cB,rfl,js⟩:=Û jq fh;obtain⟨bR,oR,cR,rfl,jt⟩:=Û fu jn;have HO:=Α (bt.obj 0 rfl);clear ft jq fu;go_upto_region 3 with (fail)
 go_upto_region 4 with (first
  | (refine Ο rfl 79 (η 3) rfl _ rfl _ _ _ _ HO.out Ϻ rfl fg ?_)
  | (go_at_call 102;with_reducible refine f102.out.mono ?_;rintro e w7 ⟨vP,P,C,f,rfl,eb,ju,jv⟩;obtain⟨AC,cg⟩:∃ X,(Ar λb=>C.getD b 0)=X:=⟨_,rfl⟩;have jw:(Ζ.info? 77).map (·.size)=Δ AC.size:=(by rw[<-cg,C3];exact Fj);have jx:AC.all (·.oneCell')=Ξ:=(by rw[<-cg];exact Ht _);have jy:ώ.size=AC.size:=(by rw[F9,<-cg,C3,C3]);simp only[cg])
  | (refine Φ rfl 77 (η 7) (η 33) rfl _ AC rfl rfl _ _ (Aa w7 (Ε ώ 77)) jw jy jx ?_))
 have jz:0<P.length:=by have:=eb.fi.lt 0 (by omega);omega
 have n4:P.length<=256:=eb.fi.le;obtain⟨bP,oP,cP,rfl,j1⟩:=Û ju jz;have ct:=((Θ w7).alloc (Ε ώ 77)).setRow (ν _) AC;have ee:=μ (w7.alloc (Ε ώ 77)) w7.heap.size _ AC _ _ (Aa w7 _);obtain⟨J,ef⟩:∃ X,(w7.alloc (Ε ώ 77)).setRow w7.heap.size AC=X:=⟨_,rfl⟩;obtain⟨mi,fz⟩:∃ y,w7.heap.size=y:=⟨_,rfl⟩;rw[fz] at ef ee ct;rw[ef] at ee ct;simp only[fz];simp only[ef];clear ef fz;have cu:=jv.trans ct;have ch:=Α (bt.ext.trans cu);have gb:=Α (λW (G:Ext J W)=>G.heap (cu.heap HO.out));have mj:=Α (λW (G:Ext J W) b (hb:b<256)=>Av (G.heap ee) (show AC[b]? = Δ (iv (C.getD b 0)) by rw[<-cg,Hu _ _ hb]));have gd:=Α (λW (G:Ext J W) k (hk:k<u.n.length)=>(cu.trans G).cell (js k (by omega)));have ml:=Α (λW (G:Ext J W) k (hk:k<R.length)=>(cu.trans G).cell (jt k (by omega)));have mm:=Α (λW (G:Ext J W) k (hk:k<P.length)=>(ct.trans G).cell (j1 k (by omega)));have fl:=Α (λW (G:Ext J W)=>fl.out W (ch.out.trans G));have fm:=Α (λW (G:Ext J W)=>fm.out W (ch.out.trans G));have cm:=Α (ch.out.heap cm.out);have fj:À (g2<J.heap.size):=Α (δ fj.out ch.out.size);have fk:=Α (fk.out.trans ch.out);have gf:=Α eb;clear jv ct cu ee js jt j1 ju eb f102 jw jx jy cg HO bt dr ch;go_upto_region 5 with (at_make;refine ϩ _ rfl _ _ 68 rfl J.heap.size 3 i0 (.int ε 0) 1 ϔ hi db dc ε ε _ _ R.length rfl rfl rfl rfl (by rw[dd];omega) (by unfold ϛ;omega) (ν _) ?_;intro w9 j2 j3)
 have E:=(Hp.nil J).made (show w9.ownsRow J.heap.size 3 1 (Β (Δ ⟨J.heap.size,0,Γ⟩) R.length R.length) R.length ((Ea R.length 0).map ov) by rw[Qn,<-B6];exact j2) j3;obtain⟨gp,gg⟩:∃ y,J.heap.size=y:=⟨_,rfl⟩;rw[gg] at E;simp only[gg];clear gg j2 j3;go_wp2_with (fail);go_loopw [9] (λvi W=>∃ k:Nat,k<=R.length/\vi=.int ε k/\Hp J W [.row 3 1 (Β (Δ ⟨gp,0,Γ⟩) R.length R.length) R.length ((Ea R.length k).map ov)])
  (λvi _=>R.length-(intOf vi).toNat)
 case atStart=>exact⟨0,by omega,rfl,E⟩
 case round=>
  clear E;obtain⟨k,hk,rfl,E⟩:=hrel;by_cases au:k<R.length
  ·have mq:(k:Int)<(R.length:Int):=by omega
   have co:=Am Γ (E.row 0 rfl) (Hk _ _).symm k (by rw[Hk];exact au);have fo:=(E.row 0 rfl).frozenAt k;have ad:=E.putf 0 rfl k Γ;rw[Qo _ _ au] at ad;clear E;go_wp2_with (fail);go_roundw
   case rel=>exact⟨k+1,by omega,by go_num,ad⟩
   case measure=>simp[intOf];omega
  ·obtain rfl:k=R.length:=by omega
   rw[Qp] at E;have cv:=gd.out wr E.ext 0 fh;obtain⟨x0,eg⟩:∃ x,N.getD 0 0=x:=⟨_,rfl⟩;rw[eg,Nat.add_zero] at cv;rw[eg] at fx;have gh:=Α eg;clear eg;have co:=Am Γ (E.row 0 rfl) (by simp) x0 (by simpa using fx);have fo:=(E.row 0 rfl).frozenAt x0;have ad:=E.putf 0 rfl x0 (Δ 0);have eh:=Α (Vy (t:=u) (B:=λs=>N.getD s 0) (R:=R) (K:=P.map u.cell) (show N.getD 0 0<R.length by rw[gh.out];exact fx) R.length rfl (ζ (P.map u.cell).length 0) (by simp));rw[gh.out] at eh;go_upto_region 10 with (fail)
   clear co fo E;obtain⟨wa,bw⟩:∃ X,wr.setCell ⟨gp,x0,Γ⟩ (ov (Δ 0))=X:=⟨_,rfl⟩;rw[bw] at ad;have cw:wr.setCell ⟨gp,x0,Γ⟩ (.int ε 0)=wa:=bw;simp only[cw];clear bw cw cv;have cv:=gd.out wa ad.ext 0 fh;rw[gh.out,Nat.add_zero] at cv;go_upto_region 11 with (fail)
   have ej:=ad.lit 3 1 #[iv x0] 1 (by unfold ϛ;omega) rfl;obtain⟨wb,bz⟩:∃ X,wa.alloc (Ε #[iv x0] 3)=X:=⟨_,rfl⟩;obtain⟨j5,gi⟩:∃ y,wa.heap.size=y:=⟨_,rfl⟩;rw[bz,gi] at ej;simp only[bz,gi];clear bz gi cv ad;have ek:=ej.size;have j6:=Α (Yw (Δ ⟨wb.heap.size,0,Γ⟩) P.length P.length);go_upto_region 12 with (first
    | (at_make;refine ϩ _ rfl _ _ 26 rfl J.heap.size 62 lu (.agg zA) 4 Tryz.underlying26 lv lx ly ε ε _ _ P.length rfl rfl rfl rfl (by rw[lz];omega) (by unfold ϛ;omega) ek ?_;intro wc j7 j8)
    | (refine Bw rfl 30 _ rfl (dA (Β (Δ ⟨wb.heap.size,0,Γ⟩) P.length P.length) (Β Γ 0 0) (Β Γ 0 0)) ?_ ?_;(simp[Act.eval];with_reducible exact j6.out))
    | (refine Φ rfl 30 (η 11) (η 58) rfl _ (dA (Β (Δ ⟨wb.heap.size,0,Γ⟩) P.length P.length) (Β Γ 0 0) (Β Γ 0 0)) rfl rfl _ _ (Aa wc _) Ad rfl (Aq _ _ _ rfl rfl rfl) ?_))
   have j9:=ej.made (show wc.ownsRow J.heap.size 62 4 (Β (Δ ⟨wb.heap.size,0,Γ⟩) P.length P.length) P.length (Cy (ζ P.length 0#256)) by rw[<-Ahf];exact j7) j8;have bd:=(j9.new (Ε #[Β Γ 0 0,Β Γ 0 0,Β Γ 0 0] 30)).box 0 rfl (dA (Β (Δ ⟨wb.heap.size,0,Γ⟩) P.length P.length) (Β Γ 0 0) (Β Γ 0 0));obtain⟨M,gj⟩:∃ y,wb.heap.size=y:=⟨_,rfl⟩;rw[gj] at bd;simp only[gj];obtain⟨n9,en⟩:∃ X,(wc.alloc (Ε #[Β Γ 0 0,Β Γ 0 0,Β Γ 0 0] 30)).setRow wc.heap.size (dA (Β (Δ ⟨M,0,Γ⟩) P.length P.length) (Β Γ 0 0) (Β Γ 0 0))=X:=⟨_,rfl⟩;obtain⟨a7,gk⟩:∃ y,wc.heap.size=y:=⟨_,rfl⟩;rw[gk] at en bd;rw[en] at bd;simp only[gk];simp only[en];clear en gk gj j6 j7 j8 j9 ej ek;go_wp2_with (fail);go_loopw [12] (λvb W=>∃ (Cl:List Cls) (b:Nat),b<=256/\vb=.int ε b/\Hp J W [.obj a7 (Ε (dA (Β (Δ ⟨M,0,Γ⟩) P.length P.length) (Β Γ 0 0) (Β Γ 0 0)) 30 (0,0)),.row 62 4 (Β (Δ ⟨M,0,Γ⟩) P.length P.length) P.length (Cy Cl),.row 3 1 (Β (Δ ⟨j5,0,Γ⟩) [x0].length 1) [x0].length ([x0].map iv),.row 3 1 (Β (Δ ⟨gp,0,Γ⟩) R.length R.length) R.length (((ζ R.length Γ).set x0 (Δ 0)).map ov)]/\À (ClsI (λx=>C.getD x 0) P.length b Cl))
    (λvb _=>256-(intOf vb).toNat)
   case atStart=>exact⟨_,0,by omega,rfl,bd,Α (Al7 _ _)⟩
   case round=>
    clear bd;obtain⟨Cl,b,hb,rfl,E,HC⟩:=hrel;by_cases au:b<256
    ·have mr:(b:Int)<256:=by omega
     go_upto_region 15 with (fail)
     obtain⟨cb,cx⟩:∃ x,C.getD b 0=x:=⟨_,rfl⟩;have eo:cb<P.length:=by rw[<-cx];exact gf.out.fi.lt b au
     have gm:=Al8 HC.out au (show C.getD b 0<P.length by rw[cx];exact eo);simp only[cx] at gm;have ka:=Α gm;have a8:=Α HC.out.len;have kb:Row wr J.heap.size (Β (Δ ⟨M,0,Γ⟩) Cl.length P.length) Cl:=by
      show Ϡ _ _ _ _ _ _ _;rw[a8.out];exact E.row 1 rfl
     have gn:=Α kb;obtain⟨D,hD⟩:∃ x,Cl.getD cb 0#256=x:=⟨_,rfl⟩;rw[hD] at ka;have HF:=Α (λW (G:Ext wr W)=>(show W.cell? ⟨a7,0,Γ⟩=Δ (Β (Δ ⟨M,0,Γ⟩) P.length P.length)/\W.cell? ⟨mi,b,Γ⟩=Δ (iv cb)/\W.cell? ⟨M,cb*4,Γ⟩=Δ (.int .u64 (wd D 0))/\W.cell? ⟨M,cb*4+1,Γ⟩=Δ (.int .u64 (wd D 1))/\
       W.cell? ⟨M,cb*4+2,Γ⟩=Δ (.int .u64 (wd D 2))/\W.cell? ⟨M,cb*4+3,Γ⟩=Δ (.int .u64 (wd D 3)) from
      ⟨Av (G.heap (E.obj 0 rfl)) rfl,by rw[<-cx];exact mj.out W (E.ext.trans G) b au,by rw[<-hD];exact M7 (Ah gn.out G) cb (by rw[a8.out];exact eo)⟩))
     have hd:=(Θ wr).drew;clear cx gm kb hD;refine B2 15 [(0,Ξ),(1,Ξ),(2,Ξ),(3,Ξ),(4,Ξ),(5,Ξ),(6,Ξ),(7,Ξ),(8,Ξ),(9,Ξ),(10,Ξ),(11,Ξ),(12,Ξ),(13,Τ),(14,Ξ),(15,Τ)] (by kernel_rfl) (by kernel_rfl) (λ_ _ _ _ h=>h)
      (λW=>Ext wr W) hd ?_
     obtain⟨wq,b0⟩:∃ X,wr.drew=X:=⟨_,rfl⟩;rw[b0] at hd;rw[b0];clear b0;iterate 13
      refine Ao (v:=?_) rfl rfl (λV hV=>?_) ?_
      rotate_left
      ·obtain⟨k0,k1,k2,k3,k4,k5⟩:=HF.out V hV;go_simp;first|done|with_reducible rfl
      simp only[Ϛ,Ι,Χ,Ψ]
     refine A5 rfl (λKq af=>?_);go_simp;with_reducible refine (Aak D (b:Int) (by omega) mr wq).mono ?_
     rintro e we ⟨rfl,ke⟩;have hE:=hd.trans ke;refine af _ _ (λ_=>hE) ?_;clear af Kq;have gw:=Ah gn.out hE;have kf:=Α (Oo gw cb (by rw[a8.out];exact eo));have hr:=L6 gw cb (by rw[a8.out];exact eo) (Bp D (b:Int));have bb:=(E.extW hE).grow 1 rfl (c':=.row 62 4 (Β (Δ ⟨M,0,Γ⟩) P.length P.length) P.length (Cy (Cl.set cb (Bp D (b:Int))))) hr.2 (by
      have:=hr.1;show Ϡ _ _ _ _ _ _ _;rw[show Row _ _ _ _=Ϡ _ _ _ _ _ _ _ from rfl,ϒ,a8.out] at this;exact this) (λg hg=>.inl hg)
     refine Ao (v:=?_) rfl rfl (λV hV=>?_) ?_
     rotate_left
     ·clear hV;go_simp;first|done|with_reducible rfl
     simp only[Ϛ,Ι,Χ,Ψ];clear gw hr E hd ke hE gn HF;refine A5 rfl (λKq af=>?_);refine Abm 62 (η 77) (η 76) rfl rfl M (cb*4) (Ab (Bp D (b:Int))) rfl rfl kf.out Bf (Eq _) ?_;refine af _ _ (λh=>absurd h (by omega)) ?_;clear af Kq kf;refine B3 ?_;go_wp2;go_roundw
     case rel=>exact⟨Cl.set cb (Bp D (b:Int)),b+1,by omega,by go_num,bb,ka⟩
     case measure=>simp[intOf];omega
    ·obtain rfl:b=256:=by omega
     clear au;simp only[show ((256:Nat):Int)=256 from rfl];have gy:=Ag4 HU.out (B:=λs=>N.getD s 0) (R:=R) (λi hi k hk=>δ (fw.out i hi k hk) fv) gf.out.fi HC.out.len (λi hi y hy=>by
      rw[HC.out.bit i hi y hy];exact⟨λh=>h.2,λh=>⟨hy,h⟩⟩)
     have a8:=Α HC.out.len;have kg:=Α (λk (hk:k<P.length)=>(show (P.map u.cell).getD k 0=u.cell (P.getD k 0) from M3 _ _ _ hk));have gz:(P.map u.cell).length=P.length:=ϋ _;obtain⟨Kc,kh⟩:∃ x,P.map u.cell=x:=⟨_,rfl⟩;rw[kh] at gy kg eh gz;have HM:=Α gy;have b5:=Α gz;have bt:=(E.nilRow 4 1).nilRow 68 1;clear gy kh gz E HC;go_wp2_with (fail);go_loopw [10,13] (λvo vi W=>∃ (O:List Nat) (P2:List (Option Nat)) (N':List (List Nat)) (Ac:List Bool) (T:List Ν) (go co:Nat) (vn va:Ν) (i:Nat),i<=O.length/\vo=Β (Δ ⟨go,0,Γ⟩) O.length co/\vi=.int ε i/\
       Hp J W (.row 68 1 vn T.length T::.row 4 1 va Ac.length (Ac.map ο)::.obj a7 (Ε (dA (Β (Δ ⟨M,0,Γ⟩) P.length P.length) vn va) 30 (0,0))::.row 62 4 (Β (Δ ⟨M,0,Γ⟩) P.length P.length) P.length (Cy Cl)::.row 3 1 (Β (Δ ⟨go,0,Γ⟩) O.length co) O.length (O.map iv)::.row 3 1 (Β (Δ ⟨gp,0,Γ⟩) R.length R.length) R.length (P2.map ov)::C1 T N')/\À (T.length=N'.length/\LInv u (λs=>N.getD s 0) R Kc i 0 O P2 N' (ζ Kc.length 0)/\Ac.length=i/\∀ j,j<i->Ac.getD j Τ=u.ok (R.getD (O.getD j 0) 0)))
      (λ_ vi _=>R.length-(intOf vi).toNat)
     case atStart=>exact⟨[x0],(ζ R.length Γ).set x0 (Δ 0),[],[],[],j5,1,Β Γ 0 0,Β Γ 0 0,0,by omega,rfl,rfl,bt,Α ⟨rfl,eh.out,rfl,λj hj=>by omega⟩⟩
     case round=>
      clear bt eh;obtain⟨O,P2,N',Ac,T,go,co,vn,va,i,od,rfl,rfl,E,HI⟩:=hrel;have oe:=HI.out.2.1.len_le;by_cases au:i<O.length
      ·have og:(i:Int)<(O.length:Int):=by omega
       have cO:=Am 0 (E.row 4 rfl) rfl i au;have et:=HI.out.2.1.lt i au;obtain⟨x,hh⟩:∃ x,O.getD i 0=x:=⟨_,rfl⟩;rw[hh] at cO et;have kj:=Α hh;clear hh;have cR:=ml.out wr E.ext x et;have c2:=jo.out x et;have kk:=Α (fw.out x et);obtain⟨s,hq⟩:∃ s,R.getD x 0=s:=⟨_,rfl⟩;rw[hq] at cR c2 kk;have kl:=Α hq;clear hq;have oh:(s:Int)<(u.n.length:Int):=by omega
       go_upto_region 20 with (fail)
       clear cO cR;have bd:=E.lit 3 1 #[] 0 (by unfold ϛ;omega) rfl;go_upto_region 21 with (fail)
       obtain⟨wb,bz⟩:∃ X,wr.alloc (Ε #[] 3)=X:=⟨_,rfl⟩;obtain⟨mw,ht⟩:∃ y,wr.heap.size=y:=⟨_,rfl⟩;rw[bz,ht] at bd;simp only[bz,ht];clear bz ht E;go_wp2_with (fail);go_loopw [10,15,16] (λvo vr vk W=>∃ (I:List Nat) (P3:List (Option Nat)) (r:List Nat) (b6 b7 gr cr k:Nat),k<=P.length/\vo=Β (Δ ⟨b6,0,Γ⟩) I.length b7/\vr=Β (Δ ⟨gr,0,Γ⟩) r.length cr/\vk=.int ε k/\
         Hp J W (.row 3 1 (Β (Δ ⟨gr,0,Γ⟩) r.length cr) r.length (r.map iv)::.row 68 1 vn T.length T::.row 4 1 va Ac.length (Ac.map ο)::.obj a7 (Ε (dA (Β (Δ ⟨M,0,Γ⟩) P.length P.length) vn va) 30 (0,0))::.row 62 4 (Β (Δ ⟨M,0,Γ⟩) P.length P.length) P.length (Cy Cl)::.row 3 1 (Β (Δ ⟨b6,0,Γ⟩) I.length b7) I.length (I.map iv)::.row 3 1 (Β (Δ ⟨gp,0,Γ⟩) R.length R.length) R.length (P3.map ov)::C1 T N')/\À (r.length=k/\LInv u (λs=>N.getD s 0) R Kc i k I P3 N' (r++ζ (P.length-r.length) 0)/\i<I.length/\∀ j,j<=i->I.getD j 0=O.getD j 0))
        (λ_ _ vk _=>P.length-(intOf vk).toNat)
       case atStart=>exact⟨O,P2,[],go,co,mw,0,0,by omega,rfl,rfl,rfl,bd,Α ⟨rfl,by have:=HI.out.2.1;rw[b5.out] at this;exact this,au,λ_ _=>rfl⟩⟩
       case round=>
        clear bd;obtain⟨I,P3,r,b6,b7,gr,cr,k,hk,rfl,rfl,rfl,E,U⟩:=hrel;have c3:=Α U.out.2.1.lenP;have om:=U.out.2.1.len_le;have oo:r.length<=256:=by have:=U.out.1;omega
        have ek:=E.size;by_cases bk:k<P.length
        ·have mq:(k:Int)<(P.length:Int):=by omega
         go_upto_region 24 with (fail)
         obtain⟨p,hp⟩:∃ p,P.getD k 0=p:=⟨_,rfl⟩;have eu:=(gf.out.fi.byte k bk).1;have ev:=kg.out k bk;rw[hp] at eu ev;have c4:=HU.out.cell_lt p eu;obtain⟨c,hc⟩:∃ c,u.cell p=c:=⟨_,rfl⟩;rw[hc] at c4 ev;have h4:=HU.out.tgt s c2 c c4;have ck:N.getD (u.ent2 s c) 0<R.length:=kk.out c c4;obtain⟨br,ey,km,kn,ko⟩:=fl.out J (Θ J) s c2;have ky:=ko c c4;have cl:À (N.getD (u.ent2 (R.getD (I.getD i 0) 0) (Kc.getD k 0)) 0=N.getD (u.ent2 s c) 0):=Α (by rw[U.out.2.2.2 i (ν _),kj.out,kl.out,ev]);obtain⟨y,hy⟩:∃ y,u.ent2 s c=y:=⟨_,rfl⟩;rw[hy] at h4 ck ky cl;obtain⟨z,hz⟩:∃ z,N.getD y 0=z:=⟨_,rfl⟩;rw[hz] at ck cl;have q1:=λW (G:Ext wr W)=>Av (gb.out W (E.ext.trans G)) l9.out
         have q2:=λW (G:Ext wr W)=>(E.ext.trans G).cell kn
         have q3:=λW (G:Ext wr W)=>mm.out W (E.ext.trans G) k bk
         have q4:=λW (G:Ext wr W)=>Av (gb.out W (E.ext.trans G)) (l8.out p eu)
         have q5:=λW (G:Ext wr W)=>(E.ext.trans G).cell ky
         have q6:=λW (G:Ext wr W)=>gd.out W (E.ext.trans G) y h4
         rw[hp] at q3;rw[hc] at q4;rw[hz] at q6;clear ko hy hz hc hp ev;refine Dv 153 Ξ [Β (Δ ⟨bB,oB,Γ⟩) u.n.length cB,Ω (Δ ⟨g3,256,Γ⟩),Β (Δ ⟨bn,on,Γ⟩) u.n.length cn,iv s,Ω (Δ ⟨bn,on+s,Γ⟩),Β (Δ ⟨br,ey,Γ⟩) u.cells km,Β (Δ ⟨bP,oP,Γ⟩) P.length cP,iv k,Ω (Δ ⟨bP,oP+k,Γ⟩),iv p,Ω (Δ ⟨g3,0,Γ⟩),Ω (Δ ⟨g3,p,Γ⟩),iv c,Ω (Δ ⟨br,ey+c,Γ⟩),iv y,Ω (Δ ⟨bB,oB+y,Γ⟩),iv z,iv z] [.keep,.pure,I3 (η 99) g3 256 _ q1,.keep,I4 (η 100) (η 101) bn on u.n.length cn s c2,I2 (η 102) bn (on+s) _ q2,.keep,.keep,Cx (η 104) (η 105) bP oP P.length cP k bk,ld3 (η 106) bP (oP+k) _ q3,.pure,E4 (η 108) (η 107) g3 p eu,ld3 (η 109) g3 p _ q4,Cx (η 103) (η 110) br ey u.cells km c c4,ld3 (η 111) br (ey+c) _ q5,Cx (η 98) (η 112) bB oB u.n.length cB y h4,ld3 (η 113) bB (oB+y) _ q6,.keep] (λ_=>by kernel_rfl) (by kernel_rfl) rfl rfl (λW=>by kernel_rfl) (by kernel_rfl) ?_;intro W G;simp only[Bz,Ϛ,Ι,Χ,Ψ];have ad:=E.extW G;have cp:=Am Γ (ad.row 6 rfl) c3.out.symm z (by rw[c3.out];exact ck);have oq:(z:Int)<(R.length:Int):=by omega
         obtain⟨o,ho⟩:∃ o,P3.getD z Γ=o:=⟨_,rfl⟩;rw[ho] at cp;have HO:=Α ho;have mz:=ad.size;clear ho E G q1 q2 q3 q4 q5 q6 kn ky ek;cases o with
         | some v=>
          replace cp:W.cell? ⟨gp,z,Γ⟩=Δ (iv v):=cp;have ia:=Α (V0 U.out.2.1 (by rw[b5.out];exact bk) v (by
           show P3.getD (N.getD (u.ent2 (R.getD (I.getD i 0) 0) (Kc.getD k 0)) 0) Γ=Δ v;rw[cl.out];exact HO.out))
          go_upto_region 28 with (fail)
          go_upto_region 23 with (at_builtin;refine Ϙ _ rfl _ _ 68 rfl J.heap.size 3 i0 (.int ε 0) 1 8 ϔ hi db dc dd rfl (by decide) _ _ _ rfl ((ad.row 0 rfl).alloc _) _ 1 1 [iv v] rfl rfl (ϭ _ _ _) (by simp[ό]) (by decide) (by unfold ϛ;omega) (by omega) (by simp;omega) _ rfl ?_;intro gq c7 ez c5 bo bp _)
          have ar:=(ad.alloc (Ε #[iv v] 3)).app 0 rfl c5 bo bp;clear c5 bo bp ad cp;have ib:À ((r++[v]).length=k+1/\LInv u (λs=>N.getD s 0) R Kc i (k+1) I P3 N' ((r++[v])++ζ (P.length-(r++[v]).length) 0)/\i<I.length/\∀ j,j<=i->I.getD j 0=O.getD j 0):=Α ⟨by rw[Υ,U.out.1];rfl,by
           rw[<-Mi r P.length v (by rw[U.out.1];exact bk),U.out.1];have:=ia.out;rw[U.out.1] at this;exact this,U.out.2.2⟩
          go_wp2;go_roundw
          case rel=>exact⟨I,P3,r++[v],b6,b7,gq,c7,k+1,by omega,rfl,by rw[Υ];rfl,by go_num,by rw[Υ,ϝ];exact ar,ib⟩
          case measure=>simp[intOf];omega
         | none=>
          replace cp:W.cell? ⟨gp,z,Γ⟩=Δ (.int ε (-1)):=cp;have ic:=V1 U.out.2.1 (by rw[b5.out];exact bk) U.out.2.2.1 (by
           show N.getD (u.ent2 (R.getD (I.getD i 0) 0) (Kc.getD k 0)) 0<R.length;rw[cl.out];exact ck) (by
           show P3.getD (N.getD (u.ent2 (R.getD (I.getD i 0) 0) (Kc.getD k 0)) 0) Γ=Γ;rw[cl.out];exact HO.out)
          rw[cl.out] at ic;have ia:=Α ic;clear ic;have fp:=(ad.row 6 rfl).frozenAt z;have c6:=ad.putf 6 rfl z (Δ I.length);clear ad;go_upto_region 27 with (fail)
          obtain⟨nb,bw⟩:∃ X,W.setCell ⟨gp,z,Γ⟩ (ov (Δ I.length))=X:=⟨_,rfl⟩;rw[bw] at c6;have cw:W.setCell ⟨gp,z,Γ⟩ (.int ε (I.length:Int))=nb:=bw;simp only[cw];clear bw cw cp fp mz;have nc:=c6.size;go_upto_region 28 with (at_builtin;refine Ϙ _ rfl _ _ 68 rfl J.heap.size 3 i0 (.int ε 0) 1 8 ϔ hi db dc dd rfl (by decide) _ _ _ rfl ((c6.row 5 rfl).alloc _) _ 1 1 [iv z] rfl rfl (ϭ _ _ _) (by simp[ό]) (by decide) (by unfold ϛ;omega) (by omega) (by simp;omega) _ rfl ?_;intro gq c7 ez c5 bo bp _)
          have ar:=(c6.alloc (Ε #[iv z] 3)).app 5 rfl c5 bo bp;have nd:=ar.size;clear c5 bo bp c6 nc;have cp:=Am Γ (ar.row 6 rfl) (by rw[ϒ];exact c3.out.symm) z (by rw[ϒ,c3.out];exact ck);rw[Bb _ _ _ _ _ (by rw[c3.out];exact ck),if_pos rfl] at cp;replace cp:ez.cell? ⟨gp,z,Γ⟩=Δ (iv I.length):=cp;go_upto_region 23 with (at_builtin;refine Ϙ _ rfl _ _ 68 rfl J.heap.size 3 i0 (.int ε 0) 1 8 ϔ hi db dc dd rfl (by decide) _ _ _ rfl ((ar.row 0 rfl).alloc _) _ 1 1 [iv I.length] rfl rfl (ϭ _ _ _) (by simp[ό]) (by decide) (by unfold ϛ;omega) (by omega) (by simp;omega) _ rfl ?_;intro nf c8 ot kr ks kt _)
          have bb:=(ar.alloc (Ε #[iv I.length] 3)).app 0 rfl kr ks kt;clear kr ks kt ar cp nd;have ib:À ((r++[I.length]).length=k+1/\LInv u (λs=>N.getD s 0) R Kc i (k+1) (I++[z]) (P3.set z (Δ I.length)) N' ((r++[I.length])++ζ (P.length-(r++[I.length]).length) 0)/\i<(I++[z]).length/\∀ j,j<=i->(I++[z]).getD j 0=O.getD j 0):=Α ⟨by rw[Υ,U.out.1];rfl,by
           rw[<-Mi r P.length I.length (by rw[U.out.1];exact bk),U.out.1];have:=ia.out;rw[U.out.1] at this;exact this,by rw[Υ];have:=U.out.2.2.1;omega,λj hj=>by
           rw[Bt _ _ _ _ (by have:=U.out.2.2.1;omega)];exact U.out.2.2.2 j hj⟩
          go_wp2;go_roundw
          case rel=>exact⟨I++[z],P3.set z (Δ I.length),r++[I.length],gq,c7,nf,c8,k+1,by omega,by rw[Υ];rfl,by rw[Υ];rfl,by go_num,by rw[Υ,Υ,ϝ,ϝ];exact bb,ib⟩
          case measure=>simp[intOf];omega
        ·obtain rfl:k=P.length:=by omega
         have ku:=Vz (r:=r) (by
          have:=U.out.2.1;rw[U.out.1,Nat.sub_self,List.replicate_zero,List.append_nil] at this;rw[b5.out];exact this) U.out.2.2.1 (ζ Kc.length 0) (by simp)
         have nh:=Α ku;have ni:T.length<=65536:=by rw[HI.out.1,HI.out.2.1.lenN];omega
         clear ku;have c1:=Av (E.obj 3 rfl) (show (dA (Β (Δ ⟨M,0,Γ⟩) P.length P.length) vn va)[1]? = Δ vn from rfl);go_upto_region 30 with (at_builtin;refine Ϙ _ rfl _ _ 27 rfl J.heap.size 68 i6 (Β Γ 0 0) 1 24 î lp lq lr ls rfl (by decide) vn T.length T rfl ((E.row 1 rfl).alloc _) _ 1 1 [Β (Δ ⟨gr,0,Γ⟩) r.length cr] rfl rfl (ϭ _ _ _) (by simp[ό]) (by decide) (by unfold ϛ;omega) (by omega) (by simp;omega) _ rfl ?_;intro gq c7 ez kv bo bp _;have ar:=(E.alloc (Ε #[Β (Δ ⟨gr,0,Γ⟩) r.length cr] 68)).app 1 rfl kv bo bp;have nk:=Av (ar.obj 3 rfl) (show (dA (Β (Δ ⟨M,0,Γ⟩) P.length P.length) vn va)[1]? = Δ vn from rfl);have f17:=ar.frozen 3 rfl 1)
         have bb:=(ar.cell 3 rfl 1 (Β (Δ ⟨gq,0,Γ⟩) (T.length+1) c7) (show _=dA (Β (Δ ⟨M,0,Γ⟩) P.length P.length) (Β (Δ ⟨gq,0,Γ⟩) (T.length+1) c7) va from rfl)).park;clear c1 nk f17 kv bo bp ar E;obtain⟨wx,ig⟩:∃ X,ez.setCell ⟨a7,1,Γ⟩ (Β (Δ ⟨gq,0,Γ⟩) (T.length+1) c7)=X:=⟨_,rfl⟩;rw[ig] at bb;simp only[ig];clear ig;obtain⟨b8,ih⟩:∃ v,Ϥ (Δ ⟨gq,0,Γ⟩) (T.length+1) c7=v:=⟨_,rfl⟩;rw[ih] at bb;simp only[ih];clear ih;replace bb:Hp J wx (.row 68 1 b8 (T.length+1) (T++[Β (Δ ⟨gr,0,Γ⟩) r.length cr])::.row 4 1 va Ac.length (Ac.map ο)::.obj a7 (Ε (dA (Β (Δ ⟨M,0,Γ⟩) P.length P.length) b8 va) 30 (0,0))::.row 62 4 (Β (Δ ⟨M,0,Γ⟩) P.length P.length) P.length (Cy Cl)::.row 3 1 (Β (Δ ⟨b6,0,Γ⟩) I.length b7) I.length (I.map iv)::.row 3 1 (Β (Δ ⟨gp,0,Γ⟩) R.length R.length) R.length (P3.map ov)::C1 T N'++[.row 3 1 (Β (Δ ⟨gr,0,Γ⟩) r.length cr) r.length (r.map iv)]):=bb;obtain⟨ok,ij⟩:∃ b,u.ok s=b:=⟨_,rfl⟩;have ik:=fm.out J (Θ J) s c2;rw[ij] at ik;have nl:=Α ij;clear ij;have e0:=Α (λ(X:Λ) (vz:Ν) (xs:List Ν) (h:Hp J X (.row 68 1 b8 (T.length+1) (T++[Β (Δ ⟨gr,0,Γ⟩) r.length cr])::.row 4 1 vz xs.length xs::.obj a7 (Ε (dA (Β (Δ ⟨M,0,Γ⟩) P.length P.length) b8 va) 30 (0,0))::.row 62 4 (Β (Δ ⟨M,0,Γ⟩) P.length P.length) P.length (Cy Cl)::.row 3 1 (Β (Δ ⟨b6,0,Γ⟩) I.length b7) I.length (I.map iv)::.row 3 1 (Β (Δ ⟨gp,0,Γ⟩) R.length R.length) R.length (P3.map ov)::C1 T N'++[.row 3 1 (Β (Δ ⟨gr,0,Γ⟩) r.length cr) r.length (r.map iv)]))=>
          (show X.cell? ⟨a7,2,Γ⟩=Δ va/\X.cell? ⟨g3,257,Γ⟩=Δ (Β (Δ ⟨ba,oa,Γ⟩) u.n.length ca)/\X.cell? ⟨ba,oa+s,Γ⟩=Δ (.bool ok) from
           ⟨Av (h.obj 2 rfl) rfl,Av (gb.out X h.ext) ma.out,h.ext.cell ik⟩))
         have b9:=bb.extW (Θ wx).drew;have e1:(Ac.map ο).length=Ac.length:=ϋ _;refine B2 10 [(0,Ξ),(1,Ξ),(2,Ξ),(3,Ξ),(4,Ξ),(5,Ξ),(6,Ξ),(7,Τ),(8,Τ),(9,Ξ),(10,Τ)] (by kernel_rfl) (by kernel_rfl) (λ_ _ _ _ h=>h)
          (λW=>W.cell? ⟨a7,2,Γ⟩=Δ va/\W.cell? ⟨g3,257,Γ⟩=Δ (Β (Δ ⟨ba,oa,Γ⟩) u.n.length ca)/\W.cell? ⟨ba,oa+s,Γ⟩=Δ (.bool ok)) (e0.out _ _ (Ac.map ο) (by rw[e1];exact b9)) ?_
         clear bb ik;obtain⟨wq,b0⟩:∃ X,wx.drew=X:=⟨_,rfl⟩;rw[b0] at b9;rw[b0];clear b0;iterate 7
          refine Ao (v:=?_) rfl rfl (λV hV=>?_) ?_
          rotate_left
          ·obtain⟨k0,k1,k2⟩:=hV;go_simp;first|done|with_reducible rfl
          simp only[Ϛ,Ι,Χ,Ψ]
         have nn:=b9.size;have ou:Ac.length<=65536:=by rw[HI.out.2.2.1];omega
         refine A5 rfl (λKq af=>?_);go_simp;refine af _ _ (λ_=>e0.out _ _ (Ac.map ο) (by rw[e1];exact b9.alloc _)) ?_;clear af Kq;refine A5 rfl (λKq af=>?_);refine step_append_lies _ rfl _ _ 28 rfl J.heap.size 4 i4 (.bool Τ) 1 1 Ã lj lk ll ln rfl (by decide) va Ac.length (Ac.map ο) rfl ((b9.row 1 rfl).alloc _) _ 1 1 [.bool ok] rfl rfl (ϭ _ _ _) (by simp[ό]) (by decide) (by unfold ϛ;omega) (by omega) (by simp;omega) _ rfl ?_;intro ga im iq kx kz k6 _;have c9:=(b9.alloc (Ε #[.bool ok] 4)).app 1 rfl kx kz k6;clear kx kz k6 b9 nn;have k7:À (iq.cell? ⟨a7,2,Γ⟩=Δ va/\iq.cell? ⟨g3,257,Γ⟩=Δ (Β (Δ ⟨ba,oa,Γ⟩) u.n.length ca)/\iq.cell? ⟨ba,oa+s,Γ⟩=Δ (.bool ok)):=Α (e0.out _ _ (Ac.map ο++[.bool ok]) (by rw[Υ,e1];exact c9));refine af _ _ (λ_=>k7.out) ?_;clear af Kq;refine Ao (v:=?_) rfl rfl (λV hV=>?_) ?_
         rotate_left
         ·clear hV;go_simp;first|done|with_reducible rfl
         simp only[Ϛ,Ι,Χ,Ψ];have k2:=Av (c9.obj 2 rfl) (show (dA (Β (Δ ⟨M,0,Γ⟩) P.length P.length) b8 va)[2]? = Δ va from rfl);have f2:=c9.frozen 2 rfl 2;refine A5 rfl (λKq af=>?_);go_simp;refine af _ _ (λh=>absurd h (by omega)) ?_;clear af Kq k2 f2;refine B3 ?_;have np:=c9.cell 2 rfl 2 (Β (Δ ⟨ga,0,Γ⟩) (Ac.length+1) im) (show _=dA (Β (Δ ⟨M,0,Γ⟩) P.length P.length) b8 (Β (Δ ⟨ga,0,Γ⟩) (Ac.length+1) im) from rfl);clear c9 k7 e0 e1;have nq:À ((T++[Ϥ (Δ ⟨gr,0,Γ⟩) r.length cr]).length=(N'++[r]).length/\LInv u (λs=>N.getD s 0) R Kc (i+1) 0 I P3 (N'++[r]) (ζ Kc.length 0)/\(Ac++[ok]).length=i+1/\∀ j,j<i+1->(Ac++[ok]).getD j Τ=u.ok (R.getD (I.getD j 0) 0)):=
          Α ⟨by rw[Υ,Υ,HI.out.1];rfl,nh.out,by rw[Υ,HI.out.2.2.1];rfl,λj hj=>by
           rw[U.out.2.2.2 j (by omega),I7,HI.out.2.2.1];by_cases k9:j<i
           ·rw[if_pos k9];exact HI.out.2.2.2 j k9
           ·obtain rfl:j=i:=by omega
            rw[if_neg (by omega),if_pos rfl,kj.out,kl.out,nl.out]⟩
         have ow:=U.out.2.2.1;go_wp2;go_roundw
         case rel=>exact⟨I,P3,N'++[r],Ac++[ok],T++[Β (Δ ⟨gr,0,Γ⟩) r.length cr],b6,b7,b8,Β (Δ ⟨ga,0,Γ⟩) (Ac.length+1) im,i+1,by omega,rfl,by go_num,by rw[L4 HI.out.1,Υ,Υ,ϝ];exact np,nq⟩
         case measure=>simp[intOf];omega
      ·obtain rfl:i=O.length:=by omega
       have nr:0<Kc.length:=by rw[b5.out];exact jz
       have ns:=Α (V3 (L:=Cl) (by rw[b5.out,a8.out]) nr HI.out.2.1 rfl HI.out.2.2.1 HI.out.2.2.2);have la:=Α (Wc HU.out HL.out HB.out HM.out ns.out);have lb:=Α (E.ext.heap cm.out);obtain⟨an,e3,rfl⟩:=Eo (E.row 0 rfl);obtain⟨aa,e5,rfl⟩:=Eo (E.row 1 rfl);have HD:=Α (E.obj 2 rfl);have ni:T.length<=65536:=by rw[HI.out.1,HI.out.2.1.lenN];omega
       go_wp2_with (first
        | (refine Ο rfl 30 (η 11) rfl _ rfl _ _ _ _ HD.out Κ rfl Ad ?_)
        | (refine Φ rfl 30 (η 2) (η 152) rfl _ _ rfl rfl _ _ lb.out Ad rfl (Aq _ _ _ rfl rfl rfl) ?_))
       have ir:=E.at0 fj.out (dA (Β (Δ ⟨M,0,Γ⟩) P.length P.length) (Β an T.length e3) (Β aa Ac.length e5));refine ω (v:=.agg (dA (Β (Δ ⟨M,0,Γ⟩) P.length P.length) (Β an T.length e3) (Β aa Ac.length e5))) (Ϲ rfl _ _ _ _ _ _ _ rfl (μ wr _ _ (dA (Β (Δ ⟨M,0,Γ⟩) P.length P.length) (Β an T.length e3) (Β aa Ac.length e5)) 30 (0,0) lb.out) Κ rfl Ad) rfl ?_;refine⟨_,⟨Cl,N',Ac⟩,rfl,⟨_,_,_,rfl,?_,Za ir 0 6 rfl (λj=>rfl) HI.out.1 (by rw[<-HI.out.1];omega) (λj hj=>by rw[HI.out.2.1.rows j (by rw[<-HI.out.2.1.lenN];exact hj),b5.out];omega),OwnB.bools (base:=J.heap.size) (ir _ (Â (i:=1) rfl)) (by rw[HI.out.2.2.1];omega)⟩,la.out.1,λx=>by rw[la.out.2,jc.out],?_⟩
       ·have h1:Row (wr.setRow g2 (dA (Β (Δ ⟨M,0,Γ⟩) P.length P.length) (Β an T.length e3) (Β aa Ac.length e5))) J.heap.size (Β (Δ ⟨M,0,Γ⟩) Cl.length P.length) Cl:=by
         show Ϡ _ _ _ _ _ _ _;rw[a8.out];exact ir _ (Â (i:=3) rfl)
        have h2:=h1.toCs (by rw[a8.out];omega);rw[a8.out] at h2;exact h2
       ·exact (fk.out.trans E.ext).setRow l5.out _
theorem Tx {α:Type} (f:Nat->α) (v:α):(Array.map f (Array.range 1)).setIfInBounds 0 v=#[v]:=by
 apply Array.ext';rw[â,Array.toList_map,Array.toList_range];rfl
theorem Amy (c:Nat->Nat) (a:Option Addr) (l k:Nat) (D:Option Addr) (E k':Nat):Ζ.built 79 [(0,.agg (Ar c)),(1,Β a l k),(2,Β D E k')]=Δ (trA c (Β a l k) (Β D E k')):=by kernel_rfl
theorem N8 (c:Nat->Nat) (vn va v:Ν):(trA c vn va).setIfInBounds 257 v=trA c vn v:=by
 apply Array.ext';rw[â];unfold trA trL;simp only;rw[List.set_append_right _ _ (by simp)];simp
theorem Aaz {W:Λ} {g:Nat} {c:Nat->Nat} {vn va:Ν} {A:Array Ν} (E:A=trA c vn va) (h:W.heap[g]? = Δ (Ε A 79 (0,0))):W.rangeAt g 0 (Ar c).toList:=λj u hu=>by
 have D:j<256:=by
  have:=(List.getElem?_eq_some_iff.1 hu).1
  simpa [Ar] using this
 subst E;rw[Nat.zero_add,Av h (Ih c vn va j D)];rw[<-hu,Array.getElem?_toList,Hu c j D]
theorem S5 (l:List Nat) (m:Nat) (h:l.length=m):((ι m).map λj=>l.getD j 0+1)=l.map (·+1):=by
 subst h;refine List.ext_getElem (by simp) λi G D=>?_
 have E:i<l.length:=by simpa using D
 rw[List.getElem_map,List.getElem_map,List.getElem_range,Η,Μ E];rfl
def Qi (D G s I J n U:Nat) (c:Nat->Nat) (ok:Bool):Nat->Ν->Λ->Prop
 | 0,v,_=>v=Ω (Δ ⟨G,0,Γ⟩)
 | 1,v,_=>v=.agg (Ar c)
 | 2,v,W=>∃ g,v=Β (Δ ⟨g,0,Γ⟩) 0 0/\W.ownsRow D 3 1 v 0 []
 | 3,v,W=>∃ g E,v=Β (Δ ⟨g,0,Γ⟩) 1 1/\W.ownsRow D 68 1 v 1 [Β (Δ ⟨E,0,Γ⟩) 0 0]/\W.ownsRow D 3 1 (Β (Δ ⟨E,0,Γ⟩) 0 0) 0 []
 | 4,v,_=>v=Ω (Δ ⟨G,257,Γ⟩)
 | 5,v,_=>v=Β (Δ ⟨I,J,Γ⟩) n U
 | 6,v,_=>v=iv s
 | 7,v,_=>v=Ω (Δ ⟨I,J+s,Γ⟩)
 | 8,v,_=>v=.bool ok
 | 9,v,W=>∃ g,v=Β (Δ ⟨g,0,Γ⟩) 1 1/\W.ownsRow D 4 1 v 1 [.bool ok]
 | 10,v,W=>∃ M E T,v=.agg (trA c (Β (Δ ⟨M,0,Γ⟩) 1 1) (Β (Δ ⟨T,0,Γ⟩) 1 1))/\W.ownsRow D 68 1 (Β (Δ ⟨M,0,Γ⟩) 1 1) 1 [Β (Δ ⟨E,0,Γ⟩) 0 0]/\W.ownsRow D 3 1 (Β (Δ ⟨E,0,Γ⟩) 0 0) 0 []/\W.ownsRow D 4 1 (Β (Δ ⟨T,0,Γ⟩) 1 1) 1 [.bool ok]
 | _,v,W=>∃ g,v=Ω (Δ ⟨g,0,Γ⟩)/\W.heap[g]? = Δ (Ε ϖ 79 (0,0))/\D<=g
theorem Aj0 (M T s U oa n ca:Nat) (c:Nat->Nat) (ok:Bool):∀ (i:Nat) (v:Ν) (w w':Λ),Qi M T s U oa n ca c ok i v w->Ext w w'->Qi M T s U oa n ca c ok i v w'
 | 0,_,_,_,h,_=>h
 | 1,_,_,_,h,_=>h
 | 2,_,_,_,⟨g,E,G⟩,D=>⟨g,E,Ah G D⟩
 | 3,_,_,_,⟨g,J,E,G,I⟩,D=>⟨g,J,E,Ah G D,Ah I D⟩
 | 4,_,_,_,h,_=>h
 | 5,_,_,_,h,_=>h
 | 6,_,_,_,h,_=>h
 | 7,_,_,_,h,_=>h
 | 8,_,_,_,h,_=>h
 | 9,_,_,_,⟨g,E,G⟩,D=>⟨g,E,Ah G D⟩
 | 10,_,_,_,⟨g,J,ga,E,G,I,h4⟩,D=>⟨g,J,ga,E,Ah G D,Ah I D,Ah h4 D⟩
 | _+11,_,_,_,⟨g,E,G,I⟩,D=>⟨g,E,D.heap G,I⟩
theorem Hp.four {w0 W:Λ} (hE:Ext w0 W) {G I J:TypeId} {s1 s2 s3:Nat} {D v2 v3:Ν} {n1 n2 n3:Nat} {x1 x2 x3:List Ν} {g:Nat} {cs:Array Ν} {ty:TypeId}
  (M:W.ownsRow w0.heap.size G s1 D n1 x1) (T:W.ownsRow w0.heap.size I s2 v2 n2 x2) (U:W.ownsRow w0.heap.size J s3 v3 n3 x3) (h4:W.heap[g]? = Δ (Ε cs ty (0,0))) (hg:w0.heap.size<=g)
  (ar:G≠I) (au:G≠J) (aw:I≠J) (t1:ty≠G) (t2:ty≠I) (t3:ty≠J):Hp w0 W [.row G s1 D n1 x1,.row I s2 v2 n2 x2,.row J s3 v3 n3 x3,.obj g (Ε cs ty (0,0))]:=by
 have E:∀ {v u:Ν} {r:Option Nat},(v.ownBlock=Γ\/v.ownBlock≠r)->∀ k,v.ownBlock=Δ k->r≠Δ k:=λh k hk e=>by
  rcases h with h|h
  ·rw[h] at hk;cases hk
  ·exact h (hk.trans e.symm)
 refine⟨hE,λc hc=>?_,?_⟩
 ·simp only[Ú,ù,or_false] at hc;rcases hc with rfl|rfl|rfl|rfl
  ·exact M
  ·exact T
  ·exact U
  ·exact⟨hg,h4⟩
 ·refine List.pairwise_cons.2 ⟨λd hd=>?_,List.pairwise_cons.2 ⟨λd hd=>?_,List.pairwise_cons.2 ⟨λd hd=>?_,List.pairwise_singleton _ _⟩⟩⟩
  ·simp only[Ú,ù,or_false] at hd;rcases hd with rfl|rfl|rfl
   ·exact E (u:=D) (Aj M T ar)
   ·exact E (u:=D) (Aj M U au)
   ·exact E (u:=D) (Dr M h4 t1)
  ·simp only[Ú,ù,or_false] at hd;rcases hd with rfl|rfl
   ·exact E (u:=D) (Aj T U aw)
   ·exact E (u:=D) (Dr T h4 t2)
  ·simp only[Ú,ù,or_false] at hd;subst hd;exact E (u:=D) (Dr U h4 t3)
theorem Aj4 (t:Tbl) (hv:TVal t) (hn:t.n.length<=65535) (A:Array Ν) (s:Nat) (hs:s<t.n.length) (w:Λ) (h:IsR w A t) :
  Calls Ζ 52 #[.agg A,.int ε s] w λe w'=>∃ v d,e=θ v/\IsD w' v d/\Cano d/\(∀ u,d.has u=t.ok (t.run s u))/\Ext w w':=by
 obtain⟨bn,on,cn,ba,oa,ca,ji,jj,hh,ed,ee,ef,ck⟩:=h.opened hv;obtain⟨jk,jl,eg,-,-⟩:=h;obtain⟨i0,hi,ei,ej,ek⟩:=Ϟ Cp;obtain⟨i4,eo,ep,bu,hl⟩:=Ϟ D8;obtain⟨i6,et,eu,bw,ho⟩:=Ϟ (show (Ζ.info? 68).map (λi=>(i.zero,i.size,i.bytes))=Δ (Δ (Β Γ 0 0),1,24) by kernel_rfl);have jm:=hv.cle;have jn:=hv.cpos;have bx:=((Θ w).alloc (Ε A 79)).alloc (Ε #[Β Γ 0 0,Β Γ 0 0,Β Γ 0 0] 30);have H0:=Ag (Aa w (Ε A 79)) (Ε #[Β Γ 0 0,Β Γ 0 0,Β Γ 0 0] 30);have H1:=Ϗ w (Ε A 79) (Ε #[Β Γ 0 0,Β Γ 0 0,Β Γ 0 0] 30);have HV:=Α hv;have ev:=Α (λs (hs:s<t.n.length)=>hv.row s hs);have hp:=Α (Mq (Cg t s) (W5 hv hs) (by simp[Cg];omega));have hr:=Α (λu=>Ajz hv hs u);clear hv;obtain⟨ok,cm⟩:∃ b,t.ok s=b:=⟨_,rfl⟩;have cp:=ck s hs;rw[cm] at cp;have ht:=Α cm;have jo:(s:Int)<(t.n.length:Int):=by omega
 have ew:=Α (λW (E:Ext w W)=>ef.ext E);have hx:=Α (λW (E:Ext w W) s (hs:s<t.n.length)=>E.cell (ck s hs));have hy:=Α ed;have ey:=Α ee;have h0:=Α eg;clear ef ck hh ed ee cm eg;go_enter Tryz.func52,Tryz.ntmps52;go_upto_region 1 with (fail)
 obtain⟨w1,b0⟩:∃ X,(w.alloc (Ε A 79)).alloc (Ε #[Β Γ 0 0,Β Γ 0 0,Β Γ 0 0] 30)=X:=⟨_,rfl⟩;have h5:w1.heap.size=w.heap.size+1+1:=by rw[<-b0,Ρ,Ρ]
 have ez:À (w.heap.size+1<w1.heap.size):=Α (by omega);rw[b0] at bx H0 H1;simp only[b0];obtain⟨g2,ct⟩:∃ y,w.heap.size=y:=⟨_,rfl⟩;obtain⟨g4,cu⟩:∃ y,g2+1=y:=⟨_,rfl⟩;have h7:À (w.heap.size<=g4):=Α (by omega);rw[ct] at H0 H1 ez;rw[cu] at H1 ez;simp only[ct,cu];clear b0 h5 ct cu;have a6:=Α bx;have h8:=Α H1;have b4:=Α (λW (E:Ext w1 W)=>E.heap H0);have e0:=bx.cell cp;clear H0 H1 bx cp;refine Ic 12 97 (by kernel_rfl) (by kernel_rfl) rfl (Qi w1.heap.size g2 s ba oa t.n.length ca t.cell ok) Gk It (Aj0 _ _ _ _ _ _ _ _ _) (λi cv=>?_) (λvs w5 e1 hF hN=>?_)
 ·have a7:=(Θ w1).drew
  match i,cv with
  | 0,_=>
   refine Ap _ _ rfl rfl rfl λc W E G ad=>?_
   have h3:c.tmps.getD 2 ς=Ω (Δ ⟨g2,0,Γ⟩):=ad 2 (by kernel_rfl);go_simp;exact⟨_,rfl,Θ W,rfl,λ_ _ _ _ _=>trivial⟩
  | 1,_=>
   refine Ap _ _ rfl rfl rfl λc W E G ad=>?_
   have h3:c.tmps.getD 10 ς=Ω (Δ ⟨g2,0,Γ⟩):=G 0 10 (by kernel_rfl);refine C4 (Fl 77 (η 10) rfl g2 0 h3 (Ar t.cell).toList _ (Aaz h0.out (b4.out W (a7.trans E))) Tryz.underlying77 rfl (by rw[Array.length_toList,C3];exact Fj)) ?_;exact⟨_,rfl,Θ W,rfl,λ_ _ _ _ _=>trivial⟩
  | 2,_=>
   refine Ap _ _ rfl rfl rfl λc W E G ad=>?_
   go_simp;exact⟨_,rfl,(Θ W).alloc _,⟨_,rfl,Ý W #[] 0 (a7.trans E).size (by unfold ϛ;omega) rfl⟩,λ_ _ _ _ _=>trivial⟩
  | 3,_=>
   refine Ap _ _ rfl rfl rfl λc W E G ad=>?_
   obtain⟨g',e2,b5⟩:∃ g,c.tmps.getD 12 ς=Β (Δ ⟨g,0,Γ⟩) 0 0/\W.ownsRow w1.heap.size 3 1 (c.tmps.getD 12 ς) 0 []:=G 2 12 (by kernel_rfl);rw[e2] at b5;refine wp_buildSlice 27 68 1 #[(0,.tmp 12)] rfl #[Β (Δ ⟨g',0,Γ⟩) 0 0] i6 (Β Γ 0 0) î et eu (by rw[bw];omega) (by rw[bw];omega) ?_ ?_
   ·have e:(Array.map (λ(i,x)=>(i,c.eval x)) #[(0,ϵ.tmp 12)]).toList=[(0,c.eval (η 12))]:=by simp only[List.map_toArray,Æ,List.map_nil]
    rw[bw,e,show c.eval (η 12)=_ from e2];simp[Instr.fill,Ν.cells];exact Tx _ _
   exact⟨_,rfl,(Θ W).alloc _,⟨_,g',rfl,Ý W #[Β (Δ ⟨g',0,Γ⟩) 0 0] 1 (a7.trans E).size (by unfold ϛ;omega) rfl,b5.alloc _⟩,λ_ _ _ _ _=>trivial⟩
  | 4,_=>
   refine Ap _ _ rfl rfl rfl λc W E G ad=>?_
   have h3:c.tmps.getD 2 ς=Ω (Δ ⟨g2,0,Γ⟩):=ad 2 (by kernel_rfl);go_simp;exact⟨_,rfl,Θ W,rfl,λ_ _ _ _ _=>trivial⟩
  | 5,_=>
   refine Ap _ _ rfl rfl rfl λc W E G ad=>?_
   have h3:c.tmps.getD 14 ς=Ω (Δ ⟨g2,257,Γ⟩):=G 4 14 (by kernel_rfl);have c1:=Av (b4.out W (a7.trans E)) ey.out;go_simp;exact⟨_,rfl,Θ W,rfl,λ_ _ _ _ _=>trivial⟩
  | 6,_=>
   refine Ap _ _ rfl rfl rfl λc W E G ad=>?_
   have h3:c.tmps.getD 1 ς=iv s:=ad 1 (by kernel_rfl);go_simp;exact⟨_,rfl,Θ W,rfl,λ_ _ _ _ _=>trivial⟩
  | 7,_=>
   refine Ap _ _ rfl rfl rfl λc W E G ad=>?_
   have h3:c.tmps.getD 15 ς=Β (Δ ⟨ba,oa,Γ⟩) t.n.length ca:=G 5 15 (by kernel_rfl);have h4:c.tmps.getD 16 ς=iv s:=G 6 16 (by kernel_rfl);go_simp;exact⟨_,rfl,Θ W,rfl,λ_ _ _ _ _=>trivial⟩
  | 8,_=>
   refine Ap _ _ rfl rfl rfl λc W E G ad=>?_
   have h3:c.tmps.getD 17 ς=Ω (Δ ⟨ba,oa+s,Γ⟩):=G 7 17 (by kernel_rfl);have c1:=(a7.trans E).cell e0;go_simp;exact⟨_,rfl,Θ W,rfl,λ_ _ _ _ _=>trivial⟩
  | 9,_=>
   refine Ap _ _ rfl rfl rfl λc W E G ad=>?_
   have h3:c.tmps.getD 18 ς=.bool ok:=G 8 18 (by kernel_rfl);refine wp_buildSlice 28 4 1 #[(0,.tmp 18)] rfl #[.bool ok] i4 (.bool Τ) Ã eo ep (by rw[bu];omega) (by rw[bu];omega) ?_ ?_
   ·have e:(Array.map (λ(i,x)=>(i,c.eval x)) #[(0,ϵ.tmp 18)]).toList=[(0,c.eval (η 18))]:=by simp only[List.map_toArray,Æ,List.map_nil]
    rw[bu,e,show c.eval (η 18)=_ from h3];simp[Instr.fill,Ν.cells];exact Tx _ _
   exact⟨_,rfl,(Θ W).alloc _,⟨_,rfl,Ý W #[.bool ok] 1 (a7.trans E).size (by unfold ϛ;omega) rfl⟩,λ_ _ _ _ _=>trivial⟩
  | 10,_=>
   refine Ap _ _ rfl rfl rfl λc W E G ad=>?_
   have h3:c.tmps.getD 11 ς=.agg (Ar t.cell):=G 1 11 (by kernel_rfl);obtain⟨I,g',e3,e4,b5⟩:∃ g g',c.tmps.getD 13 ς=Β (Δ ⟨g,0,Γ⟩) 1 1/\W.ownsRow w1.heap.size 68 1 (c.tmps.getD 13 ς) 1 [Β (Δ ⟨g',0,Γ⟩) 0 0]/\W.ownsRow w1.heap.size 3 1 (Β (Δ ⟨g',0,Γ⟩) 0 0) 0 []:=G 3 13 (by kernel_rfl);obtain⟨T,e5,e6⟩:∃ g,c.tmps.getD 19 ς=Β (Δ ⟨g,0,Γ⟩) 1 1/\W.ownsRow w1.heap.size 4 1 (c.tmps.getD 19 ς) 1 [.bool ok]:=G 9 19 (by kernel_rfl);rw[e3] at e4;rw[e5] at e6;refine C4 (Hm 79 _ rfl (A:=trA t.cell (Β (Δ ⟨I,0,Γ⟩) 1 1) (Β (Δ ⟨T,0,Γ⟩) 1 1)) ?_ W) ?_
   ·have e:(Array.map (λ(i,x)=>(i,c.eval x)) #[(0,ϵ.tmp 11),(1,ϵ.tmp 13),(2,ϵ.tmp 19)]).toList=[(0,c.eval (η 11)),(1,c.eval (η 13)),(2,c.eval (η 19))]:=by simp only[List.map_toArray,Æ,List.map_nil]
    rw[e,show c.eval (η 11)=_ from h3,show c.eval (η 13)=_ from e3,show c.eval (η 19)=_ from e5];exact Amy _ _ _ _ _ _ _
   ·exact⟨_,rfl,Θ W,⟨I,g',T,rfl,e4,b5,e6⟩,λ_ _ _ _ _=>trivial⟩
  | 11,_=>
   refine Ap _ _ rfl rfl rfl λc W E G ad=>?_
   go_simp;exact⟨_,rfl,(Θ W).alloc _,⟨_,rfl,Aa W _,(a7.trans E).size⟩,λ_ _ _ _ _=>trivial⟩
 ·have e7:vs 0=Ω (Δ ⟨g2,0,Γ⟩):=hF 0 (by omega);have e8:vs 1=.agg (Ar t.cell):=hF 1 (by omega);obtain⟨x2,e9,-⟩:∃ g,vs 2=Β (Δ ⟨g,0,Γ⟩) 0 0/\_:=hF 2 (by omega);obtain⟨x3,-,fa,-⟩:∃ g g',vs 3=Β (Δ ⟨g,0,Γ⟩) 1 1/\_:=hF 3 (by omega);have fb:vs 4=Ω (Δ ⟨g2,257,Γ⟩):=hF 4 (by omega);have fc:vs 5=Β (Δ ⟨ba,oa,Γ⟩) t.n.length ca:=hF 5 (by omega);have fe:vs 6=iv s:=hF 6 (by omega);have ff:vs 7=Ω (Δ ⟨ba,oa+s,Γ⟩):=hF 7 (by omega);have fg:vs 8=.bool ok:=hF 8 (by omega);obtain⟨x9,fh,-⟩:∃ g,vs 9=Β (Δ ⟨g,0,Γ⟩) 1 1/\_:=hF 9 (by omega);obtain⟨I,g',T,fj,fk,fl,fm⟩:∃ I g' T,vs 10=.agg (trA t.cell (Β (Δ ⟨I,0,Γ⟩) 1 1) (Β (Δ ⟨T,0,Γ⟩) 1 1))/\_/\_/\_:=hF 10 (by omega);obtain⟨g5,fo,H5,fp⟩:∃ g,vs 11=Ω (Δ ⟨g,0,Γ⟩)/\_/\_:=hF 11 (by omega);simp only[Bq,List.drop_succ_cons,List.drop_zero,e7,e8,e9,fa,fb,fc,fe,ff,fg,fh,fj,fo,List.getElem?_toArray,List.getElem?_cons_zero,List.getElem?_cons_succ,Option.bind_some,Ϛ,Ι,Χ,Ψ];clear hF hN e7 e8 e9 fa fb fc fe ff fg fh fj fo e0;have D:=(Hp.four ((Θ w1).drew.trans e1) fl fk fm H5 fp (by decide) (by decide) (by decide) (by decide) (by decide) (by decide)).box 3 rfl (trA t.cell (Β (Δ ⟨I,0,Γ⟩) 1 1) (Β (Δ ⟨T,0,Γ⟩) 1 1));have fq:(Ζ.info? 79).map (·.size)=Δ (trA t.cell (Β (Δ ⟨I,0,Γ⟩) 1 1) (Β (Δ ⟨T,0,Γ⟩) 1 1)).size:=by rw[Dw];exact Co
  have fs:ϖ.size=(trA t.cell (Β (Δ ⟨I,0,Γ⟩) 1 1) (Β (Δ ⟨T,0,Γ⟩) 1 1)).size:=by rw[Fb,Dw]
  have ft:=G2 t.cell (Β (Δ ⟨I,0,Γ⟩) 1 1) (Β (Δ ⟨T,0,Γ⟩) 1 1) rfl rfl;go_upto_region 2 with (refine Φ rfl 79 (η 5) (η 20) rfl _ (trA t.cell (Β (Δ ⟨I,0,Γ⟩) 1 1) (Β (Δ ⟨T,0,Γ⟩) 1 1)) rfl rfl _ _ H5 fq fs ft ?_)
  clear fq fs ft H5 fk fl fm fp e1;obtain⟨w6,cx⟩:∃ X,w5.setRow g5 (trA t.cell (Β (Δ ⟨I,0,Γ⟩) 1 1) (Β (Δ ⟨T,0,Γ⟩) 1 1))=X:=⟨_,rfl⟩;rw[cx] at D;simp only[cx];clear cx;go_wp2_with (fail);obtain⟨br,b7,cr,fv,fw⟩:=ew.out w (Θ w) s hs;have fx:=Α fv;have ib:=Α fw;have b8:=Α (λW (E:Ext w1 W)=>Av (b4.out W E) hy.out);have fy:=Α (λs (hs:s<t.n.length) k (hk:k<t.cells)=>HV.out.tgt s hs k hk);clear fv fw;go_loopw [6] (λvi W=>∃ (r:List Nat) (gq cq k:Nat),k<=t.cells/\vi=.int ε k/\Hp w1 W [.row 3 1 (Β (Δ ⟨gq,0,Γ⟩) r.length cq) r.length (r.map iv),.row 68 1 (Β (Δ ⟨I,0,Γ⟩) 1 1) 1 [Β (Δ ⟨gq,0,Γ⟩) r.length cq],.row 4 1 (Β (Δ ⟨T,0,Γ⟩) 1 1) 1 [.bool ok],.obj g5 (Ε (trA t.cell (Β (Δ ⟨I,0,Γ⟩) 1 1) (Β (Δ ⟨T,0,Γ⟩) 1 1)) 79 (0,0))]/\À (r=(ι k).map λj=>t.ent2 s j+1))
   (λvi _=>t.cells-(intOf vi).toNat)
  case atStart=>exact⟨[],g',0,0,by omega,rfl,D,Α rfl⟩
  case round=>
   clear D;obtain⟨r,gq,cq,k,hk,rfl,D,HR⟩:=hrel;have fz:r.length<=256:=by rw[HR.out];simp;omega
   have c1:=b8.out wr D.ext;have c2:=(a6.out.trans D.ext).cell fx.out;by_cases gb:k<t.cells
   ·have ic:(k:Int)<(t.cells:Int):=by omega
    go_upto_region 5 with (fail)
    clear c1 c2;have bj:=ib.out k gb;have hz:=fy.out s hs k gb;obtain⟨z,bd⟩:∃ x,t.ent2 s k=x:=⟨_,rfl⟩;rw[bd] at bj hz;have ie:(z:Int)<65535:=by omega
    have jv:IntKind.i64.wrap ((z:Int)+1)=(z:Int)+1:=IntWalk.i64_in _ ⟨by omega,by omega⟩;have c4:À (r++[z+1]=(ι (k+1)).map λj=>t.ent2 s j+1):=Α (by rw[List.range_succ,ϝ,<-HR.out,<-bd];rfl);have aq:=Α (λ(X:Λ) (ch:Ch) (h:Hp w1 X [ch,.row 68 1 (Β (Δ ⟨I,0,Γ⟩) 1 1) 1 [Β (Δ ⟨gq,0,Γ⟩) r.length cq],.row 4 1 (Β (Δ ⟨T,0,Γ⟩) 1 1) 1 [.bool ok],.obj g5 (Ε (trA t.cell (Β (Δ ⟨I,0,Γ⟩) 1 1) (Β (Δ ⟨T,0,Γ⟩) 1 1)) 79 (0,0))])=>
     (show X.cell? ⟨g5,256,Γ⟩=Δ (Β (Δ ⟨I,0,Γ⟩) 1 1)/\X.cell? ⟨I,0,Γ⟩=Δ (Β (Δ ⟨gq,0,Γ⟩) r.length cq)/\X.cell? ⟨g2,256,Γ⟩=Δ (Β (Δ ⟨bn,on,Γ⟩) t.n.length cn)/\X.cell? ⟨bn,on+s,Γ⟩=Δ (Β (Δ ⟨br,b7,Γ⟩) t.cells cr)/\X.cell? ⟨br,b7+k,Γ⟩=Δ (iv z) from
      ⟨Av (h.obj 3 rfl) (Gc _ _ _),(Ϡ.cellAt (h.row 1 rfl) 0 (by omega)).trans rfl,b8.out X h.ext,(a6.out.trans h.ext).cell fx.out,(a6.out.trans h.ext).cell bj⟩))
    clear bd bj;have U:=D.extW (Θ wr).drew;refine B2 18 [(0,Ξ),(1,Ξ),(2,Ξ),(3,Ξ),(4,Ξ),(5,Ξ),(6,Ξ),(7,Ξ),(8,Ξ),(9,Ξ),(10,Ξ),(11,Ξ),(12,Ξ),(13,Ξ),(14,Ξ),(15,Τ),(16,Τ),(17,Ξ),(18,Τ)] (by kernel_rfl) (by kernel_rfl) (λ_ _ _ _ h=>h)
     (λW=>W.cell? ⟨g5,256,Γ⟩=Δ (Β (Δ ⟨I,0,Γ⟩) 1 1)/\W.cell? ⟨I,0,Γ⟩=Δ (Β (Δ ⟨gq,0,Γ⟩) r.length cq)/\W.cell? ⟨g2,256,Γ⟩=Δ (Β (Δ ⟨bn,on,Γ⟩) t.n.length cn)/\W.cell? ⟨bn,on+s,Γ⟩=Δ (Β (Δ ⟨br,b7,Γ⟩) t.cells cr)/\W.cell? ⟨br,b7+k,Γ⟩=Δ (iv z)) (aq.out _ _ U) ?_
    clear D;obtain⟨wq,be⟩:∃ X,wr.drew=X:=⟨_,rfl⟩;rw[be] at U;rw[be];clear be;iterate 15
     refine Ao (v:=?_) rfl rfl (λV hV=>?_) ?_
     rotate_left
     ·obtain⟨k0,k1,k2,k3,k4⟩:=hV;go_simp;first|done|with_reducible rfl
     simp only[Ϛ,Ι,Χ,Ψ]
    have c5:=U.size;refine A5 rfl (λKq M=>?_);go_simp;refine M _ _ (λ_=>aq.out _ _ (U.alloc _)) ?_;clear M Kq;refine A5 rfl (λKq M=>?_);refine step_append_lies _ rfl _ _ 68 rfl w1.heap.size 3 i0 (.int ε 0) 1 8 ϔ hi ei ej ek rfl (by decide) _ _ _ rfl ((U.row 0 rfl).alloc _) _ 1 1 [.int ε ((z:Int)+1)] rfl rfl (ϭ _ _ _) (by simp[ό]) (by decide) (by unfold ϛ;omega) (by omega) (by simp;omega) _ rfl ?_;intro g7 c7 w7 bo ay az _;have al:=(U.alloc (Ε #[.int ε ((z:Int)+1)] 3)).app 0 rfl bo ay az;have c9:=Α (aq.out _ _ al);clear bo ay az U c5;refine M _ _ (λ_=>c9.out) ?_;clear M Kq;refine Ao (v:=?_) rfl rfl (λV hV=>?_) ?_
    rotate_left
    ·clear hV;go_simp;first|done|with_reducible rfl
    simp only[Ϛ,Ι,Χ,Ψ];have k2:=c9.out.2.1;have f2:=(al.row 1 rfl).frozenAt 0;refine A5 rfl (λKq M=>?_);go_simp;refine M _ _ (λh=>absurd h (by omega)) ?_;clear M Kq k2 f2;refine B3 ?_;have bk:=al.put 1 rfl 0 (Β (Δ ⟨g7,0,Γ⟩) (r.length+1) c7);clear al c9 aq;go_wp2;go_roundw
    case rel=>exact⟨r++[z+1],g7,c7,k+1,by omega,by go_num,by rw[Υ,ϝ];exact bk,c4⟩
    case measure=>simp[intOf];omega
   ·obtain rfl:k=t.cells:=by omega
    have da:=D.park;have gd:À (r=(t.n.getD s []).map (·+1)):=Α (by
     rw[HR.out];exact S5 _ _ (ev.out s hs))
    obtain⟨r0,gf⟩:∃ x,x=r:=⟨_,rfl⟩;rw[<-gf] at gd da fz;clear D HR gf;go_wp2_with (fail);go_loopw [7] (λvi W=>∃ (N:List (List Nat)) (J:List Ν) (Ac:List Bool) (vn va:Ν) (q:Nat),q<=t.n.length/\vi=.int ε q/\Hp w1 W (.row 68 1 vn J.length J::.row 4 1 va Ac.length (Ac.map ο)::.obj g5 (Ε (trA t.cell vn va) 79 (0,0))::C1 J N)/\
      À (J.length=N.length/\N=r0::(ι q).map (λj=>(t.n.getD j []).map (·+1))/\Ac=ok::(ι q).map t.ok))
     (λvi _=>t.n.length-(intOf vi).toNat)
    case atStart=>exact⟨[r0],[Β (Δ ⟨gq,0,Γ⟩) r0.length cq],[ok],(Β (Δ ⟨I,0,Γ⟩) 1 1),(Β (Δ ⟨T,0,Γ⟩) 1 1),0,by omega,rfl,da,Α ⟨rfl,rfl,rfl⟩⟩
    case round=>
     clear da;obtain⟨N,J,Ac,vn,va,q,hq,rfl,D,HN⟩:=hrel;have jx:J.length<=65537:=by rw[HN.out.1,HN.out.2.1];simp;omega
     have jy:Ac.length<=65537:=by rw[HN.out.2.2];simp;omega
     have cN:=b8.out wr D.ext;by_cases cd:q<t.n.length
     ·have jz:(q:Int)<(t.n.length:Int):=by omega
      have db:=D.lit 3 1 #[] 0 (by unfold ϛ;omega) rfl;go_upto_region 10 with (fail)
      obtain⟨w4,dc⟩:∃ X,wr.alloc (Ε #[] 3)=X:=⟨_,rfl⟩;obtain⟨ik,dd⟩:∃ y,wr.heap.size=y:=⟨_,rfl⟩;rw[dc,dd] at db;simp only[dc,dd];clear dc dd D cN;obtain⟨j1,j2,j3,gh,gi⟩:=ew.out w (Θ w) q cd;have il:=Α gh;have im:=Α gi;clear gh gi;go_wp2_with (fail);go_loopw [8,9] (λvr vk W=>∃ (r:List Nat) (g8 c8 k:Nat),k<=t.cells/\vr=Β (Δ ⟨g8,0,Γ⟩) r.length c8/\vk=.int ε k/\Hp w1 W (.row 3 1 (Β (Δ ⟨g8,0,Γ⟩) r.length c8) r.length (r.map iv)::.row 68 1 vn J.length J::.row 4 1 va Ac.length (Ac.map ο)::.obj g5 (Ε (trA t.cell vn va) 79 (0,0))::C1 J N)/\À (r=(ι k).map λj=>t.ent2 q j+1))
       (λ_ vk _=>t.cells-(intOf vk).toNat)
      case atStart=>exact⟨[],ik,0,0,by omega,rfl,rfl,db,Α rfl⟩
      case round=>
       clear db;obtain⟨r,g8,c8,k,hk,rfl,rfl,D,HR⟩:=hrel;have fz:r.length<=256:=by rw[HR.out];simp;omega
       have c1:=b8.out wr D.ext;have c2:=(a6.out.trans D.ext).cell il.out;have ir:=D.size;by_cases gj:k<t.cells
       ·have ic:(k:Int)<(t.cells:Int):=by omega
        have bj:=(a6.out.trans D.ext).cell (im.out k gj);have hz:=fy.out q cd k gj;obtain⟨z,bd⟩:∃ x,t.ent2 q k=x:=⟨_,rfl⟩;rw[bd] at bj hz;have ie:(z:Int)<65535:=by omega
        have c4:À (r++[z+1]=(ι (k+1)).map λj=>t.ent2 q j+1):=Α (by rw[List.range_succ,ϝ,<-HR.out,<-bd];rfl);clear bd;go_upto_region 13 with (fail)
        go_upto_region 12 with (at_builtin;refine Ϙ _ rfl _ _ 68 rfl w1.heap.size 3 i0 (.int ε 0) 1 8 ϔ hi ei ej ek rfl (by decide) _ _ _ rfl ((D.row 0 rfl).alloc _) _ 1 1 [.int ε ((z:Int)+1)] rfl rfl (ϭ _ _ _) (by simp[ό]) (by decide) (by unfold ϛ;omega) (by omega) (by simp;omega) _ rfl ?_;intro g7 c7 w7 bo ay az _)
        have al:=(D.alloc (Ε #[.int ε ((z:Int)+1)] 3)).app 0 rfl bo ay az;clear bo ay az D c1 c2 bj ir;go_wp2;go_roundw
        case rel=>exact⟨r++[z+1],g7,c7,k+1,by omega,by rw[Υ];rfl,by go_num,by rw[Υ,ϝ];exact al,c4⟩
        case measure=>simp[intOf];omega
       ·obtain rfl:k=t.cells:=by omega
        have iu:À (r=(t.n.getD q []).map (·+1)):=Α (by
         rw[HR.out];exact S5 _ _ (ev.out q cd))
        have c3:=Av (D.obj 3 rfl) (Gc _ _ _);go_upto_region 15 with (at_builtin;refine Ϙ _ rfl _ _ 27 rfl w1.heap.size 68 i6 (Β Γ 0 0) 1 24 î et eu bw ho rfl (by decide) vn J.length J rfl ((D.row 1 rfl).alloc _) _ 1 1 [Β (Δ ⟨g8,0,Γ⟩) r.length c8] rfl rfl (ϭ _ _ _) (by simp[ό]) (by decide) (by unfold ϛ;omega) (by omega) (by simp;omega) _ rfl ?_;intro df c7 w7 gk ay az _;have al:=(D.alloc (Ε #[Β (Δ ⟨g8,0,Γ⟩) r.length c8] 68)).app 1 rfl gk ay az;have ix:=Av (al.obj 3 rfl) (Gc _ _ _);have f17:=al.frozen 3 rfl 256)
        have bk:=(al.cell 3 rfl 256 (Β (Δ ⟨df,0,Γ⟩) (J.length+1) c7) (N7 _ _ _ _)).park;clear c1 c2 c3 ix f17 gk ay az al D;obtain⟨wx,dg⟩:∃ X,w7.setCell ⟨g5,256,Γ⟩ (Β (Δ ⟨df,0,Γ⟩) (J.length+1) c7)=X:=⟨_,rfl⟩;rw[dg] at bk;simp only[dg];clear dg;obtain⟨dh,dk⟩:∃ v,Ϥ (Δ ⟨df,0,Γ⟩) (J.length+1) c7=v:=⟨_,rfl⟩;rw[dk] at bk;simp only[dk];clear dk;obtain⟨a1,dm⟩:∃ b,t.ok q=b:=⟨_,rfl⟩;have dn:=hx.out w (Θ w) q cd;rw[dm] at dn;have iy:=Α dm;have cf:(Ac.map ο).length=Ac.length:=ϋ _;have aq:=Α (λ(X:Λ) (vz:Ν) (xs:List Ν) (h:Hp w1 X (.row 68 1 dh (J.length+1) (J++[Β (Δ ⟨g8,0,Γ⟩) r.length c8])::.row 4 1 vz xs.length xs::.obj g5 (Ε (trA t.cell dh va) 79 (0,0))::C1 J N++[.row 3 1 (Β (Δ ⟨g8,0,Γ⟩) r.length c8) r.length (r.map iv)]))=>
         (show X.cell? ⟨g5,257,Γ⟩=Δ va/\X.cell? ⟨g2,257,Γ⟩=Δ (Β (Δ ⟨ba,oa,Γ⟩) t.n.length ca)/\X.cell? ⟨ba,oa+q,Γ⟩=Δ (.bool a1) from
          ⟨Av (h.obj 2 rfl) (J3 _ _ _),Av (b4.out X h.ext) ey.out,(a6.out.trans h.ext).cell dn⟩))
        have U:=bk.extW (Θ wx).drew;refine B2 10 [(0,Ξ),(1,Ξ),(2,Ξ),(3,Ξ),(4,Ξ),(5,Ξ),(6,Ξ),(7,Τ),(8,Τ),(9,Ξ),(10,Τ)] (by kernel_rfl) (by kernel_rfl) (λ_ _ _ _ h=>h)
         (λW=>W.cell? ⟨g5,257,Γ⟩=Δ va/\W.cell? ⟨g2,257,Γ⟩=Δ (Β (Δ ⟨ba,oa,Γ⟩) t.n.length ca)/\W.cell? ⟨ba,oa+q,Γ⟩=Δ (.bool a1)) (aq.out _ _ (Ac.map ο) (by rw[cf];exact U)) ?_
        clear bk dn dm;obtain⟨wq,be⟩:∃ X,wx.drew=X:=⟨_,rfl⟩;rw[be] at U;rw[be];clear be;iterate 7
         refine Ao (v:=?_) rfl rfl (λV hV=>?_) ?_
         rotate_left
         ·obtain⟨k0,k1,k2⟩:=hV;go_simp;first|done|with_reducible rfl
         simp only[Ϛ,Ι,Χ,Ψ]
        have c5:=U.size;refine A5 rfl (λKq M=>?_);go_simp;refine M _ _ (λ_=>aq.out _ _ (Ac.map ο) (by rw[cf];exact U.alloc _)) ?_;clear M Kq;refine A5 rfl (λKq M=>?_);refine step_append_lies _ rfl _ _ 28 rfl w1.heap.size 4 i4 (.bool Τ) 1 1 Ã eo ep bu hl rfl (by decide) va Ac.length (Ac.map ο) rfl ((U.row 1 rfl).alloc _) _ 1 1 [.bool a1] rfl rfl (ϭ _ _ _) (by simp[ό]) (by decide) (by unfold ϛ;omega) (by omega) (by simp;omega) _ rfl ?_;intro gm gp dp gr gu gv _;have cg:=(U.alloc (Ε #[.bool a1] 4)).app 1 rfl gr gu gv;clear gr gu gv U c5;have dq:À (dp.cell? ⟨g5,257,Γ⟩=Δ va/\dp.cell? ⟨g2,257,Γ⟩=Δ (Β (Δ ⟨ba,oa,Γ⟩) t.n.length ca)/\dp.cell? ⟨ba,oa+q,Γ⟩=Δ (.bool a1)):=Α (aq.out _ _ (Ac.map ο++[.bool a1]) (by rw[Υ,cf];exact cg));refine M _ _ (λ_=>dq.out) ?_;clear M Kq;refine Ao (v:=?_) rfl rfl (λV hV=>?_) ?_
        rotate_left
        ·clear hV;go_simp;first|done|with_reducible rfl
        simp only[Ϛ,Ι,Χ,Ψ];have k2:=dq.out.1;have f2:=cg.frozen 2 rfl 257;refine A5 rfl (λKq M=>?_);go_simp;refine M _ _ (λh=>absurd h (by omega)) ?_;clear M Kq k2 f2;refine B3 ?_;have ja:=cg.cell 2 rfl 257 (Β (Δ ⟨gm,0,Γ⟩) (Ac.length+1) gp) (N8 _ _ _ _);clear cg dq aq cf;have jb:À ((J++[Ϥ (Δ ⟨g8,0,Γ⟩) r.length c8]).length=(N++[r]).length/\N++[r]=r0::(ι (q+1)).map (λj=>(t.n.getD j []).map (·+1))/\Ac++[a1]=ok::(ι (q+1)).map t.ok):=
         Α ⟨by rw[Υ,Υ,HN.out.1];rfl,by rw[List.range_succ,ϝ,HN.out.2.1,iu.out];rfl,by rw[List.range_succ,ϝ,HN.out.2.2,<-iy.out];rfl⟩
        go_wp2;go_roundw
        case rel=>exact⟨N++[r],J++[Β (Δ ⟨g8,0,Γ⟩) r.length c8],Ac++[a1],dh,Β (Δ ⟨gm,0,Γ⟩) (Ac.length+1) gp,q+1,by omega,by go_num,by rw[L4 HN.out.1,Υ,Υ,ϝ];exact ja,jb⟩
        case measure=>simp[intOf];omega
     ·obtain rfl:q=t.n.length:=by omega
      obtain⟨Af,cj⟩:∃ X,trA t.cell vn va=X:=⟨_,rfl⟩;have jc:(Ζ.info? 79).map (·.size)=Δ Af.size:=by rw[<-cj,Dw];exact Co
      have HO:=Α (D.obj 2 rfl);rw[cj] at HO;have bp:N=(Cg t s).n:=by
       rw[HN.out.2.1,gd.out];show _=(t.n.getD s []).map (·+1)::t.n.map λr=>r.map (·+1)
       congr 1
       refine List.ext_getElem (by simp) λi h1 h2=>?_
       have cv:i<t.n.length:=by simpa using h2
       rw[List.getElem_map,List.getElem_map,List.getElem_range,Η,Μ cv];rfl
      have gx:Ac=(Cg t s).acc:=by
       rw[HN.out.2.2,<-ht.out];show _=t.ok s::t.acc
       congr 1
       refine List.ext_getElem (by simp[HV.out.accL]) λi h1 h2=>?_
       rw[List.getElem_map,List.getElem_range];unfold Tbl.ok;rw[Η,Μ h2];rfl
      have gy:IsR wr Af (Cg t s):=⟨vn,va,cj.symm,by
       rw[<-bp];exact D.rows 0 3 rfl (λj=>rfl) HN.out.1 (by rw[<-HN.out.1];omega) (λj hj=>by
        have:(Cg t s).n.getD j []∈(Cg t s).n:=D9 _ _ _ (by rw[<-bp];exact hj);rw[bp,(W5 HV.out hs).row j (by rw[<-bp];exact hj)];show t.cells<=_;omega),by
       rw[<-gx];exact OwnB.bools (D.row 1 rfl) (by omega)⟩
      have f57:=Α (hp.out Af wr gy);have je:=a6.out.trans D.ext;have jf:=Α (D.ext.heap h8.out);clear gy gx bp cj;go_upto_region 16 with (fail)
      clear cN;go_wp2_with (first
       | (refine Ο rfl 79 (η 5) rfl _ rfl _ _ _ _ HO.out Ϻ rfl jc ?_)
       | (go_at_call 57;with_reducible refine f57.out.mono ?_;rintro e w9 ⟨v,d,rfl,hD,hc,jh,hf⟩;obtain⟨ac,lc,cc,an,dw,aa,la,ea,rfl⟩:=hD.agg;have eb:=Α (hf.heap jf.out))
       | (refine Φ rfl 30 (η 4) (η 96) rfl _ (dA (Β ac lc cc) (Β an d.n.length dw) (Β aa la ea)) rfl rfl _ _ eb.out Ad rfl (Aq _ _ _ rfl rfl rfl) ?_))
      refine ω (v:=.agg (dA (Β ac lc cc) (Β an d.n.length dw) (Β aa la ea))) (Ϲ rfl _ _ _ _ _ _ _ rfl (μ w9 _ _ (dA (Β ac lc cc) (Β an d.n.length dw) (Β aa la ea)) 30 (0,0) eb.out) Κ rfl Ad) rfl ?_;exact⟨_,d,rfl,hD.setRow hc.val eb.out _,hc,λu=>by rw[jh,hr.out],(je.trans hf).setRow h7.out _⟩
def Eb (l:List Cls) (b i:Nat):Nat:=((l.take i).filter λc=>Aw c b).length
theorem Hs (l:List Cls) (b i:Nat) (hi:i<l.length):Eb l b (i+1)=Eb l b i+if Aw (l.getD i 0#256) b then 1 else 0:=by
 unfold Eb;rw[List.take_succ_eq_append_getElem hi,List.filter_append,Υ];have e:l.getD i 0#256=l[i]:=by rw[Η,Μ hi];rfl
 rw[e]
 congr 1
 by_cases h:Aw l[i] b=Ξ<;>simp[h]
def Fq (l:List Cls):Prop:=1<=l.length/\l.length<=256/\(∀ i,i<l.length->l.getD i 0#256≠0#256)/\∀ b,b<256->Eb l b l.length=1
theorem Ec {r:Bool} {p:Prop} (h:r=Ξ↔p) (hn:¬ p):r=Τ:=by
 cases r with
 | false=>rfl
 | true=>exact absurd (h.1 rfl) hn
theorem Afm (l:List Cls) (r:Bool) (I:r=Ξ↔Fq l) (v:Ν) (w:Λ) (h:Cs w v l) :
  Calls Ζ 132 #[v] w λe w'=>e=θ (.bool r)/\Ext w w':=by
 have M:=Α I;by_cases h1:l.length<1
 ·obtain rfl:=Ec I (λh=>absurd h.1 (by omega));obtain⟨a,ar,rfl⟩:=Sl.len h;have T:decide ((l.length:Int)<1)=Ξ:=by simp;omega
  clear I h M;go_enter Tryz.func132,Tryz.ntmps132;go_wp2;go_ret;exact⟨rfl,Θ w⟩
 ·by_cases h2:256<l.length
  ·obtain rfl:=Ec I (λh=>absurd h.2.1 (by omega));obtain⟨a,ar,rfl⟩:=Sl.len h;have T:decide ((l.length:Int)<1)=Τ:=by simp;omega
   have e2:decide ((256:Int)<(l.length:Int))=Ξ:=by simp;omega
   clear I h M;go_enter Tryz.func132,Tryz.ntmps132;go_wp2;go_ret;exact⟨rfl,Θ w⟩
  ·obtain⟨a,bl,ar,rfl,hc⟩:=Û h (by omega);have T:decide ((l.length:Int)<1)=Τ:=by simp;omega
   have e2:decide ((256:Int)<(l.length:Int))=Τ:=by simp;omega
   have HC:=Α (λW (hW:Ext w W) i (hi:i<l.length)=>F6 (W:=W) (λj E=>hW.cell (hc j E)) i hi);have ae:=Α (show 1<=l.length/\l.length<=256 by omega);clear I h hc;obtain⟨n,hn⟩:∃ n,l.length=n:=⟨_,rfl⟩;have G:=Α hn;rw[hn] at h1 h2 T e2 HC ae;rw[hn];clear hn;have aw:=Θ w;go_enter Tryz.func132,Tryz.ntmps132;go_wp2_with (fail);clear T e2;go_loopw [3] (λvi W=>∃ i:Nat,i<=n/\vi=.int ε i/\Ext w W/\À (∀ j,j<i->l.getD j 0#256≠0#256))
    (λvi _=>n-(intOf vi).toNat)
   case atStart=>exact⟨0,by omega,rfl,aw,Α λj E=>by omega⟩
   case round=>
    clear aw;obtain⟨i,hi,rfl,D,HZ⟩:=hrel;by_cases ay:i<n
    ·have bm:(i:Int)<(n:Int):=by omega
     obtain⟨a0,a1,a2,a3⟩:=HC.out wr D i ay;obtain⟨c,J⟩:∃ c,l.getD i 0#256=c:=⟨_,rfl⟩;rw[J] at a0 a1 a2 a3;have az:=Α J;clear J;obtain⟨z,hz⟩:∃ z,(c==0#256)=z:=⟨_,rfl⟩;have g1:=Gr c z hz;have a6:=Α hz;clear hz;cases z with
     | true=>
      obtain rfl:=Ec M.out (λh=>h.2.2.1 i (by rw[G.out];exact ay) (by rw[az.out];simpa using a6.out));go_wp2;go_ret;exact⟨rfl,D⟩
     | false=>
      have bg:À (∀ j,j<i+1->l.getD j 0#256≠0#256):=Α λj E=>by
       by_cases e:j=i
       ·rw[e,az.out];simpa using a6.out
       ·exact HZ.out j (by omega)
      go_wp2;go_roundw
      case rel=>exact⟨i+1,by omega,by go_num,D,bg⟩
      case measure=>simp[intOf];omega
    ·obtain rfl:i=n:=by omega
     go_wp2_with (fail);go_loopw [4] (λvb W=>∃ b:Nat,b<=256/\vb=.int ε b/\Ext w W/\À (∀ j,j<b->Eb l j i=1))
      (λvb _=>256-(intOf vb).toNat)
     case atStart=>exact⟨0,by omega,rfl,D,Α λj E=>by omega⟩
     case round=>
      clear D;obtain⟨b,hb,rfl,D,HB⟩:=hrel;by_cases bh:b<256
      ·have bo:(b:Int)<256:=by omega
       go_wp2_with (fail);go_loopw [5,6] (λvn vk W=>∃ (m k:Nat),k<=i/\m<=k/\vn=.int ε m/\vk=.int ε k/\Ext w W/\À (m=Eb l b k))
        (λ_ vk _=>i-(intOf vk).toNat)
       case atStart=>exact⟨0,0,by omega,by omega,rfl,rfl,D,Α rfl⟩
       case round=>
        clear D;obtain⟨m,k,hk,hm,rfl,rfl,D,U⟩:=hrel;by_cases ba:k<i
        ·have bq:(k:Int)<(i:Int):=by omega
         obtain⟨a0,a1,a2,a3⟩:=HC.out wr D k ba;have HS:=Α (Hs l b k (by rw[G.out];exact ba));obtain⟨c,J⟩:∃ c,l.getD k 0#256=c:=⟨_,rfl⟩;rw[J] at a0 a1 a2 a3 HS;clear J;have f:=Α (Wu c b (by omega) (by omega) wr);obtain⟨q,hq⟩:∃ q,Aw c b=q:=⟨_,rfl⟩;rw[hq] at f HS;clear hq;cases q with
         | true=>
          have an:À (m+1=Eb l b (k+1)):=Α (by rw[HS.out,U.out];rfl);go_wp2_with (first
           | (go_at_call 133;(with_reducible refine f.out.mono ?_);rintro e wy ⟨rfl,ao⟩))
          have aq:=D.trans ao;go_roundw
          case rel=>exact⟨m+1,k+1,by omega,by omega,by go_num,by go_num,aq,an⟩
          case measure=>simp[intOf];omega
         | false=>
          have an:À (m=Eb l b (k+1)):=Α (by rw[HS.out,U.out];rfl);go_wp2_with (first
           | (go_at_call 133;(with_reducible refine f.out.mono ?_);rintro e wy ⟨rfl,ao⟩))
          have aq:=D.trans ao;go_roundw
          case rel=>exact⟨m,k+1,by omega,by omega,rfl,by go_num,aq,an⟩
          case measure=>simp[intOf];omega
        ·obtain rfl:k=i:=by omega
         by_cases bc:m=1
         ·subst bc;have bk:À (∀ j,j<b+1->Eb l j k=1):=Α λj E=>by
           by_cases e:j=b
           ·rw[e];exact U.out.symm
           ·exact HB.out j (by omega)
          go_wp2;go_roundw
          case rel=>exact⟨b+1,by omega,by go_num,D,bk⟩
          case measure=>simp[intOf];omega
         ·have br:((m:Int) != 1)=Ξ:=by simp;omega
          obtain rfl:=Ec M.out (λh=>bc (by
           have:=h.2.2.2 b bh;rw[G.out,<-U.out] at this;exact this))
          go_wp2;go_ret;exact⟨rfl,D⟩
      ·obtain rfl:b=256:=by omega
       obtain rfl:r=Ξ:=M.out.2 ⟨by rw[G.out];exact ae.out.1,by rw[G.out];exact ae.out.2,λj E=>HZ.out j (by rw[<-G.out];exact E),λb hb=>by rw[G.out];exact HB.out b hb⟩;go_wp2;go_ret;exact⟨rfl,D⟩
structure Dz where
 cls:List Cls
 n:List (List Int)
 acc:List Bool
def SlW (W:Λ) (v:Ν) (k n:Nat) (f:Nat->Ν):Prop:=(n=0/\∃ a D,v=Β a 0 D)\/
  (0<n/\∃ b E D,v=Β (Δ ⟨b,E,Γ⟩) n D/\b<W.heap.size/\∀ i,i<n*k->W.cell? ⟨b,E+i,Γ⟩=Δ (f i))
theorem SlW.sl {W:Λ} {v:Ν} {k n:Nat} {f:Nat->Ν} (h:SlW W v k n f) (hn:n<=4611686018427387904):Sl W v k n f:=⟨hn,h⟩
theorem SlW.form {W:Λ} {v:Ν} {k n:Nat} {f:Nat->Ν} (h:SlW W v k n f) (I:0<n) :
  ∃ b D E,v=Β (Δ ⟨b,D,Γ⟩) n E/\∀ i,i<n*k->W.cell? ⟨b,D+i,Γ⟩=Δ (f i):=by
 obtain⟨hn,_⟩|⟨_,b,D,E,hv,_,G⟩:=h
 ·omega
 ·exact⟨b,D,E,hv,G⟩
theorem SlW.len {W:Λ} {v:Ν} {k n:Nat} {f:Nat->Ν} (h:SlW W v k n f):∃ a D,v=Β a n D:=by
 obtain⟨hn,a,D,rfl⟩|⟨_,b,E,D,rfl,_⟩:=h
 ·exact⟨a,D,by rw[hn]⟩
 ·exact⟨_,D,rfl⟩
theorem SlW.ext {W W':Λ} {v:Ν} {k n:Nat} {f:Nat->Ν} (h:SlW W v k n f) (D:Ext W W'):SlW W' v k n f:=by
 obtain h|⟨hn,b,E,G,hv,I,J⟩:=h
 ·exact .inl h
 ·exact .inr ⟨hn,b,E,G,hv,δ I D.size,λi hi=>D.cell (J i hi)⟩
def Rr (W:Λ) (v:Ν) (l:List Int):Prop:=SlW W v 1 l.length (λi=>.int ε (l.getD i 0))
def Nw (W:Λ) (v:Ν) (l:List Bool):Prop:=SlW W v 1 l.length (λi=>.bool (l.getD i Τ))
def RowsZ (W:Λ) (v:Ν) (N:List (List Int)):Prop:=
 ∃ vs:List Ν,vs.length=N.length/\Sl W v 1 N.length (λi=>vs.getD i ς)/\∀ i,i<N.length->Rr W (vs.getD i ς) (N.getD i [])
def IsDz (W:Λ) (v:Ν) (z:Dz):Prop:=∃ D vn va,v=.agg #[D,vn,va]/\Cs W D z.cls/\RowsZ W vn z.n/\Nw W va z.acc
theorem RowsZ.ext {W W':Λ} {v:Ν} {N:List (List Int)} (h:RowsZ W v N) (D:Ext W W'):RowsZ W' v N:=by
 obtain⟨vs,E,G,I⟩:=h;exact⟨vs,E,Sl.ext G D,λi hi=>SlW.ext (I i hi) D⟩
theorem IsDz.ext {W W':Λ} {v:Ν} {z:Dz} (h:IsDz W v z) (D:Ext W W'):IsDz W' v z:=by
 obtain⟨E,vn,va,hv,G,I,J⟩:=h;exact⟨E,vn,va,hv,Sl.ext G D,I.ext D,SlW.ext J D⟩
def Ci (z:Dz) (s k:Nat):Int:=(z.n.getD s []).getD k 0
def Lj (z:Dz):Prop:=0<z.n.length/\z.acc.length=z.n.length/\Fq z.cls/\∀ s,s<z.n.length->(z.n.getD s []).length=z.cls.length/\∀ k,k<z.cls.length->0<=Ci z s k/\Ci z s k<z.n.length
def dz (d:Dfa):Dz:=⟨d.cls,d.n.map λr=>r.map Int.ofNat,d.acc⟩
theorem Q0 (d:Dfa) (s:Nat):(dz d).n.getD s []=(d.n.getD s []).map Int.ofNat:=by
 unfold dz;simp only[Η,ϕ];cases d.n[s]?<;>rfl
theorem Ala (d:Dfa) (s k:Nat):Ci (dz d) s k=d.ent2 s k:=by
 unfold Ci Dfa.ent2;rw[Q0];simp only[Η,ϕ];cases (d.n[s]?.getD [])[k]?<;>rfl
theorem IsD.dz {W:Λ} {v:Ν} {d:Dfa} (h:IsD W v d):IsDz W v (dz d):=by
 obtain⟨E,vn,va,hv,G,⟨vs,I,J,M⟩,T⟩:=h;have D:(d.n.map λr=>r.map Int.ofNat).length=d.n.length:=ϋ _;refine⟨E,vn,va,hv,G,⟨vs,by rw[I];exact D.symm,by show Sl W vn 1 (d.n.map _).length _;rw[D];exact J,λi hi=>?_⟩,T.2⟩;have U:i<d.n.length:=by rw[<-D];exact hi
 have:=M i U;rw[Q0];show SlW W _ 1 ((d.n.getD i []).map Int.ofNat).length _;rw[ϋ];refine (Sl.congr this λk _=>?_).2;simp only[Η,ϕ];cases (d.n[i]?.getD [])[k]?<;>rfl
theorem Al2 {l:List Cls} (h:Parts l) (b:Nat) (E:b<256):∀ i,i<=l.length->Eb l b i=if Ak l b<i then 1 else 0:=by
 intro i;induction i with
 | zero=>intro _;rfl
 | succ i I=>
  intro hi;rw[Hs l b i (by omega),I (by omega)];have hm:Aw (l.getD i 0#256) b=decide (Ak l b=i):=by
   have e:Aw (l.getD i 0#256) b=(l.getD i 0#256).getLsbD b:=by unfold Aw;simp
   rw[e];by_cases D:Ak l b=i
   ·rw[decide_eq_true D,<-D];exact E7 h E
   ·rw[decide_eq_false D,<-Bool.not_eq_true];exact λhm=>D (E6 h E (by omega) hm)
  rw[hm];by_cases D:Ak l b=i
  ·rw[if_neg (by omega),if_pos (by simpa using D),if_pos (by omega)]
  ·by_cases G:Ak l b<i
   ·rw[if_pos G,if_neg (by simpa using D),if_pos (by omega)]
   ·rw[if_neg G,if_neg (by simpa using D),if_neg (by omega)]
theorem Parts.z {l:List Cls} (h:Parts l):Fq l:=
 ⟨h.pos,h.le,λi hi=>h.nz _ (D9 l i 0#256 hi),λb D=>by rw[Al2 h b D _ (ν _),if_pos (cell_lt h D)]⟩
theorem Val.z {d:Dfa} (h:Val d):Lj (dz d):=by
 have D:(dz d).n.length=d.n.length:=ϋ _;refine⟨by rw[D];exact h.pos,by rw[D];exact h.accL,h.parts.z,λs hs=>?_⟩;rw[D] at hs;refine⟨by rw[Q0,ϋ];exact h.row s hs,λk E=>?_⟩;rw[Ala,D];have:=h.tgt s hs k E;exact⟨by omega,by omega⟩
theorem Ab7 (z:Dz) (r:Bool) (hr:r=Ξ↔Lj z) (v:Ν) (w:Λ) (h:IsDz w v z) :
  Calls Ζ 96 #[v] w λe w'=>e=θ (.bool r)/\Ext w w':=by
 obtain⟨vc,vn,va,rfl,hC,⟨vs,cd,hN,bk⟩,hA⟩:=h;have M:=Α hr;have bm:=Α hC;obtain⟨ac,cc,rfl⟩:=Sl.len hC;obtain⟨T,U,rfl⟩:=Sl.len hN;obtain⟨aa,ca,rfl⟩:=SlW.len hA;have bo:=Α hN;have ay:=Α bk;have cf:z.n.length<=4611686018427387904:=hN.1;clear hC hN hA bk hr;obtain⟨n,hn⟩:∃ n,z.n.length=n:=⟨_,rfl⟩;obtain⟨m,hm⟩:∃ n,z.cls.length=n:=⟨_,rfl⟩;obtain⟨G,az⟩:∃ n,z.acc.length=n:=⟨_,rfl⟩;have J:=Α hn;have HM:=Α hm;have bp:=Α az;rw[hn] at bo ay cf;rw[hm] at bm;rw[hn,hm,az];clear hn hm az cd;have a1:=(Θ w).alloc (Ε #[Β ac m cc,Β T n U,Β aa G ca] 30);have H0:=Aa w (Ε #[Β ac m cc,Β T n U,Β aa G ca] 30);obtain⟨p,hp⟩:∃ p:Bool,(p=Ξ↔Fq z.cls):=by
  by_cases h:Fq z.cls
  ·exact⟨Ξ,by simp[h]⟩
  ·exact⟨Τ,by simp[h]⟩
 have HP:=Α hp;clear hp;go_enter Tryz.func96,Tryz.ntmps96;go_upto_region 1 with (fail)
 obtain⟨w1,a6⟩:∃ W,w.alloc (Ε #[Β ac m cc,Β T n U,Β aa G ca] 30)=W:=⟨_,rfl⟩;obtain⟨g0,a7⟩:∃ y,w.heap.size=y:=⟨_,rfl⟩;rw[a6] at a1 H0;rw[a7] at H0;simp only[a6,a7];clear a6 a7;have bt:=Α (λW (hW:Ext w1 W)=>Av (hW.heap H0) (show (#[Β ac m cc,Β T n U,Β aa G ca]:Array Ν)[0]? = Δ (Β ac m cc) from rfl));have ba:=Α (λW (hW:Ext w1 W)=>Av (hW.heap H0) (show (#[Β ac m cc,Β T n U,Β aa G ca]:Array Ν)[1]? = Δ (Β T n U) from rfl));have k1:=ba.out w1 (Θ w1);have k2:=Av H0 (show (#[Β ac m cc,Β T n U,Β aa G ca]:Array Ν)[2]? = Δ (Β aa G ca) from rfl);have k0:=bt.out w1 (Θ w1);have D:=Α a1;clear H0 a1;by_cases h1:n<1
 ·obtain rfl:=Ec M.out (λh=>absurd h.1 (by rw[J.out];omega));have e1:decide ((n:Int)<1)=Ξ:=by simp;omega
  go_wp2;go_ret;exact⟨rfl,D.out⟩
 ·have e1:decide ((n:Int)<1)=Τ:=by simp;omega
  by_cases h2:G=n
  ·have e2:((G:Int) != (n:Int))=Τ:=by simp;omega
   have f132:=Α (Afm z.cls p HP.out (Β ac m cc) w1 (by
    have:=bm.out.ext D.out;rw[<-HM.out] at this ⊢;exact this))
   cases p with
   | false=>
    obtain rfl:=Ec M.out (λh=>by have:=HP.out.2 h.2.2.1;cases this);go_wp2_with (first
     | (go_at_call 132;(with_reducible refine f132.out.mono ?_);rintro e w2 ⟨rfl,aq⟩))
    go_ret;exact⟨rfl,D.out.trans aq⟩
   | true=>
    have bb:=Α (HP.out.1 rfl);clear HP;go_wp2_with (first
     | (go_at_call 132;(with_reducible refine f132.out.mono ?_);rintro e w2 ⟨rfl,aq⟩))
    clear f132 k0 k1 k2 e1 e2;obtain⟨bn,on,dg,ck,bz⟩:=Û bo.out (by omega);injection ck with cl cm cp
    subst cl;clear cm;have b0:=Α bz;clear bz cp;go_loopw [4] (λvi W=>∃ s:Nat,s<=n/\vi=.int ε s/\Ext w1 W/\À (∀ q,q<s->(z.n.getD q []).length=m/\∀ k,k<m->0<=Ci z q k/\Ci z q k<n))
     (λvi _=>n-(intOf vi).toNat)
    case atStart=>exact⟨0,by omega,rfl,aq,Α λq hq=>by omega⟩
    case round=>
     clear aq;obtain⟨s,hs,rfl,E,HQ⟩:=hrel;by_cases ai:s<n
     ·have dh:(s:Int)<(n:Int):=by omega
      go_upto_region 7 with (fail)
      have hd:=(Θ wr).drew;have ag:=E.trans hd;have c0:=bt.out _ ag;have c1:=ba.out _ ag;have c2:=(D.out.trans ag).cell (b0.out s (by omega));obtain⟨ar,cr,ak⟩:=SlW.len (ay.out s ai);rw[ak] at c2;obtain⟨I,bc⟩:∃ x,(z.n.getD s []).length=x:=⟨_,rfl⟩;rw[bc] at c2 ak;have aw:=Α bc;have bd:=ay.out s ai;rw[ak] at bd;have cq:=Α bd;have ct:=Α ak;clear bc ak bd;by_cases b6:I=m
      ·have e3:((I:Int) != (m:Int))=Τ:=by simp;omega
       subst b6;have dn:1<=I:=by have:=bb.out.1;rw[HM.out] at this;exact this
       have dp:I<=256:=by have:=bb.out.2.1;rw[HM.out] at this;exact this
       obtain⟨br,cv,dq,cw,be⟩:=SlW.form cq.out (by rw[aw.out];omega);rw[aw.out] at be;injection cw with cx cy cz
       subst cx;clear cy cz;have c3:=Α be;clear be;go_region
       clear c0 c1 c2 e3;obtain⟨wo,bf⟩:∃ W,wr.drew=W:=⟨_,rfl⟩;rw[bf] at ag hd;simp only[bf];clear bf;go_wp2_with (fail);go_loopw [5] (λvi W=>∃ k:Nat,k<=I/\vi=.int ε k/\Ext w1 W/\À (∀ j,j<k->0<=Ci z s j/\Ci z s j<n))
        (λvi _=>I-(intOf vi).toNat)
       case atStart=>exact⟨0,by omega,rfl,ag,Α λj hj=>by omega⟩
       case round=>
        clear ag hd E;obtain⟨k,hk,rfl,E,HJ⟩:=hrel;have c1:=ba.out _ E;have c2:=(D.out.trans E).cell (b0.out s (by omega));rw[ct.out] at c2;by_cases b9:k<I
        ·have du:(k:Int)<(I:Int):=by omega
         have ce:=(D.out.trans E).cell (c3.out k (by omega));obtain⟨x,hx⟩:∃ x,Ci z s k=x:=⟨_,rfl⟩;have HX:=Α hx;replace ce:wr.cell? ⟨br,cv+k,Γ⟩=Δ (.int ε x):=by rw[<-hx];exact ce
         clear hx;by_cases c5:x<0
         ·have e4:decide (x<0)=Ξ:=by simp;omega
          obtain rfl:=Ec M.out (λh=>absurd c5 (by
           have:=((h.2.2.2 s (by rw[J.out];exact ai)).2 k (by rw[HM.out];exact b9)).1;rw[HX.out] at this;omega))
          go_wp2;go_ret;exact⟨rfl,D.out.trans E⟩
         ·have e4:decide (x<0)=Τ:=by simp;omega
          by_cases c7:(n:Int)<=x
          ·have e5:decide ((n:Int)<=x)=Ξ:=by simp;omega
           obtain rfl:=Ec M.out (λh=>absurd c7 (by
            have:=((h.2.2.2 s (by rw[J.out];exact ai)).2 k (by rw[HM.out];exact b9)).2;rw[HX.out,J.out] at this;omega))
           go_wp2;go_ret;exact⟨rfl,D.out.trans E⟩
          ·have e5:decide ((n:Int)<=x)=Τ:=by simp;omega
           have c9:À (∀ j,j<k+1->0<=Ci z s j/\Ci z s j<n):=Α λj hj=>by
            by_cases e:j=k
            ·rw[e,HX.out];omega
            ·exact HJ.out j (by omega)
           go_wp2;go_roundw
           case rel=>exact⟨k+1,by omega,by go_num,E,c9⟩
           case measure=>simp[intOf];omega
        ·obtain rfl:k=I:=by omega
         have da:À (∀ q,q<s+1->(z.n.getD q []).length=k/\∀ j,j<k->0<=Ci z q j/\Ci z q j<n):=Α λq hq=>by
          by_cases e:q=s
          ·rw[e];exact⟨aw.out,HJ.out⟩
          ·exact HQ.out q (by omega)
         go_wp2;go_roundw
         case rel=>exact⟨s+1,by omega,by go_num,E,da⟩
         case measure=>simp[intOf];omega
      ·have e3:((I:Int) != (m:Int))=Ξ:=by simp;omega
       obtain rfl:=Ec M.out (λh=>b6 (by
        have:=(h.2.2.2 s (by rw[J.out];exact ai)).1;rw[aw.out,HM.out] at this;exact this))
       go_region
       go_wp2;go_ret;exact⟨rfl,D.out.trans ag⟩
     ·obtain rfl:s=n:=by omega
      obtain rfl:r=Ξ:=M.out.2 ⟨by rw[J.out];omega,by rw[bp.out,J.out];exact h2,bb.out,λq hq=>by
       rw[J.out] at hq ⊢;rw[HM.out];exact HQ.out q hq⟩
      go_wp2;go_ret;exact⟨rfl,D.out.trans E⟩
  ·have e2:((G:Int) != (n:Int))=Ξ:=by simp;omega
   obtain rfl:=Ec M.out (λh=>h2 (by
    have:=h.2.1;rw[J.out,bp.out] at this;exact this))
   go_wp2;go_ret;exact⟨rfl,D.out⟩
end Go.Proofs.YtaiogolidlamiaaGreatDoor
