import Derived.Test.YtilncahcpjlfnaaGreatDoorM04
import Derived.Test.YtilncahcpjlfnaaGreatDoorM03
import Derived.Test.YtilncahcpjlfnaaGreatDoorM02
set_option linter.unusedVariables false
set_option linter.unusedSimpArgs false
set_option maxRecDepth 100000
set_option maxHeartbeats 4000000
open Array renaming getElem?_toList → Ç, getD_eq_getD_getElem? → ϕ, getElem?_eq_getElem → Ϛ, replicate → í
open Bool renaming true → Α, false → Ε, and_eq_true → ψ, or_eq_true → Û, false_eq_true → Ó
open Go renaming Value → Δ, World → Γ, TypeId → ϡ, Oper → ϳ, Act → ø, Operand → Ñ, maxLen → ϐ, undef → Ω, execOp → ê, Calls → ϛ, info_parts → ϓ, heap_alloc2_new → ϒ, setRow_heap → Χ, size_setRow → ù, bodyPost_ret → ω, wpList_append_lies → Ϙ, cell_of_row → Τ, cell_one_new → Ý, frozen_of_row → È, setCell_eq_setRow → Ϭ, Program → Þ, yielded → ü, results_cell_row → Ì, getD_replicate_false → Ϡ
open Go.Act renaming eval → á, put → η
open Go.Ending renaming returned → Ψ
open Go.IntKind renaming u64 → ζ, i64 → Φ, u64 → ϯ
open Go.Lib renaming hid → Z
open Go.Obj renaming cells → Β
open Go.Operand renaming tmp → δ
open Go.Proofs.Tryz renaming prog → Η, zeroCells84 → γ, underlying103 → Î, underlying84 → ϸ, underlying40 → Ο, zeroCells82 → Ϣ
open Go.Region renaming wanted → ϧ, ready → ϻ
open Go.RowKit renaming Hid → ϟ
open Go.Value renaming slice → U, tuple → ϗ, oneCell' → ξ, slice → Ϗ, pointer → ε, int → Â
open Go.World renaming size_alloc → Ρ, ownsRow_nil → À, ownsRow → ϥ
open List renaming getElem?_append_right → ς, getElem?_eq_some_iff → ο, getElem?_append_left → χ, length_map → ι, replicate → θ, length_append → Ν, setIfInBounds_toArray → Θ, set_cons_zero → Μ, set_cons_succ → Λ, range → π, all_eq_true → Í, mem_range → ϔ, drop_succ_cons → Ä, drop_zero → ϰ
open Nat renaming le_refl → Υ, le_trans → μ, lt_of_lt_of_le → Ξ
open Option renaming some → J, none → I, isSome → ñ, getD_some → ϱ
open Option.some renaming inj → ό
namespace Go.Proofs.YtilncahcpjlfnaaGreatDoor
open Go.RowKit Go.Shelf
open Go.Maps (Keyed)
def flS (l:List Sta):List Δ:=l.flatMap stL
theorem TB (l m:List Sta):flS (l++m)=flS l++flS m:=by simp[flS]
theorem SZ (x:Sta):flS [x]=stL x:=by simp[flS]
theorem TA (l:List Sta) (k:Nat) (x:Sta) (h:l[k]? = J x):(flS l)[k*3]? = J (iv x.p)/\(flS l)[k*3+1]? = J (iv x.q)/\(flS l)[k*3+2]? = J (.int ζ (x.s:Int)):=by
 induction l generalizing k with
 | nil=>simp at h
 | cons y l G=>
  have e:flS (y::l)=stL y++flS l:=rfl;cases k with
  | zero=>
   have:y=x:=by simpa using h
   subst this;rw[e];exact⟨rfl,rfl,rfl⟩
  | succ k=>
   have H:l[k]? = J x:=by simpa using h
   obtain⟨h1,T,X⟩:=G k H;have E:(stL y).length=3:=rfl;rw[e];refine⟨?_,?_,?_⟩
   ·rw[ς (by rw[E];omega),E,show (k+1)*3-3=k*3 by omega];exact h1
   ·rw[ς (by rw[E];omega),E,show (k+1)*3+1-3=k*3+1 by omega];exact T
   rw[ς (by rw[E];omega),E,show (k+1)*3+2-3=k*3+2 by omega];exact X
abbrev Mx (W:Γ) (base:Nat) (v:Δ) (l:List Sta):Prop:=W.ownsRow base 103 3 v l.length (flS l)
theorem Lb {W:Γ} {base g E:Nat} {l:List Sta} (h:Mx W base (U (J ⟨g,0,I⟩) l.length E) l) (k:Nat) (x:Sta) (hx:l[k]? = J x) :
  W.cell? ⟨g,k*3,I⟩=J (iv x.p)/\W.cell? ⟨g,k*3+1,I⟩=J (iv x.q)/\W.cell? ⟨g,k*3+2,I⟩=J (.int ζ (x.s:Int)):=by
 have T:k<l.length:=(ο.1 hx).1;obtain⟨h1,G,H⟩:=TA l k x hx;rw[h.cellAt _ (by omega),h.cellAt _ (by omega),h.cellAt _ (by omega)];exact⟨h1,G,H⟩
theorem Ud {κ:Type} {W:Γ} {k:ϡ} {key:κ->Δ} {b n:Nat} {f:κ->Option Nat} {ops:Array ϳ} {rest:List ϳ} {o:ϳ} {a:ø} {Q:Exit->ø->Γ->Prop} [DecidableEq κ] (hg:o.guard=I) (m x v:Ñ) (t:ϡ) (T:o.op=Op.insert t m x v) (K:Keyed Η k) (X:Η.underlying t=J (.map k 3)) (hm:a.eval m=.map (J b)) (h:IsMp W k key b n f) (hn:n<ϐ)
  (ab:∀ y z,key y=key z->y=z) (y:κ) (hx:a.eval x=key y) (E:∃ l,keyOf Η k (key y)=J l) (i:Nat) (hv:a.eval v=iv i) (hi:i<9223372036854775808)
  (hK:∀ W',IsMp W' k key b (n+1) (λz=>if z=y then J i else f z)->W.grownBy W' (J b)->wpList Η ops Q rest (a.put o.dst Ω) W'):wpList Η ops Q (o::rest) a W:=by
 obtain⟨D,h1,h2⟩:=h;obtain⟨l,E⟩:=E;refine wpList_plain hg λK' af=>?_
 obtain⟨W',ag,r1,r2⟩:=h1.update K X hn E (plainElem_int Tryz.underlying3 (M2 i hi));unfold ϳ.wp;simp[ê,T,hm,hx,hv,ag,Result.andThen];refine af _ _ (hK W' ⟨_,r1,λz lz G=>?_⟩ r2);by_cases e:z=y
 ·subst e;rw[E] at G;cases G
  simp only[if_true];exact⟨Maps.has_put_same h1.isMap (K.key E) _,Maps.atKey_put_same h1.isMap (K.key E) _ _⟩
 have H:lz≠l:=λe'=>e (ab _ _ (K.inj G (e'▸E)))
 simp only[e,if_false];rw[Maps.has_put_other H,Maps.atKey_put_other H];exact h2 z lz G
theorem XP (c:Nat->Nat) (n:Nat):Η.built 84 [(0,.agg (B0 c)),(1,iv n)]=J (Ak c n (U I 0 0) (U I 0 0)):=by kernel_rfl
theorem XN:Η.built 84 []=J γ:=by kernel_rfl
theorem Us (c:Nat->Nat) (n:Nat) (G E v:Δ):(Ak c n G E).setIfInBounds 257 v=Ak c n v E:=by
 apply Array.ext';rw[Array.toList_setIfInBounds];unfold Ak;simp only;apply List.ext_getElem?;intro i;unfold Es;rw[List.getElem?_set];by_cases hi:i<256
 ·have:257≠i:=by omega
  rw[if_neg this,χ (by simpa using hi),χ (by simpa using hi)]
 by_cases e:257=i
 ·subst e;simp[ς]
 rw[if_neg e,ς (by simp;omega),ς (by simp;omega)];obtain⟨j,rfl⟩:∃ j,i=256+j:=⟨i-256,by omega⟩;have H:j≠1:=by omega
 simp only[ι,List.length_range,Nat.add_sub_cancel_left]
 match j,H with
 | 0,_=>rfl
 | 2,_=>rfl
 | j+3,_=>rfl
def Pb (w:Γ) (g:Nat) (E:Array Δ) (nx:Sta->Nat->Sta) (Good:Sta->Prop):Prop:=
 ∀ W,Ext w W->∀ x,Good x->∀ b,b<256->ϛ Η g (#[.agg #[iv x.p,iv x.q,.int ζ (x.s:Int)],iv b]++E) W λe w'=>e=Ψ (stV (nx x b))/\Ext W w'
def O9 (w:Γ) (g:Nat) (E:Array Δ) (ac:Sta->Bool) (Good:Sta->Prop):Prop:=
 ∀ W,Ext w W->∀ x,Good x->ϛ Η g (#[.agg #[iv x.p,iv x.q,.int ζ (x.s:Int)]]++E) W λe w'=>e=Ψ (.bool (ac x))/\Ext W w'
theorem SK {nx:Sta->Nat->Sta} {st:Sta} {Good:Sta->Prop} (h0:Good st) (E:∀ x,Good x->∀ b,b<256->Good (nx x b)) (w:List UInt8):Good (Aq nx st w):=by
 induction w using Hb with
 | h0=>exact h0
 | h1 w x G=>rw[E9];exact E _ G _ x.toNat_lt
theorem Se (c:Nat->Nat) (bs:List Nat) (kd:0<bs.length) (mh:bs.length<=256) (hb:∀ k,k<bs.length->bs.getD k 0<256) (st:Sta) (nx:Sta->Nat->Sta) (ac:Sta->Bool) (Good:Sta->Prop) (gv:∀ x,Good x->x.ok) (h0:Good st) (gw:∀ x,Good x->∀ b,b<256->Good (nx x b))
  (a8:Nat) (mi:0<a8) (mj:a8<=1073741824) (gn ga:Nat) (gx gz:Array Δ) (en:∀ args w,(callFunc gn args).run Η w=.ok (.enter gn args) w) (ea:∀ args w,(callFunc ga args).run Η w=.ok (.enter ga args) w)
  (vb:Δ) (w:Γ) (hiB:Ints w vb bs) (hN:Pb w gn gx nx Good) (hA:O9 w ga gz ac Good) :
  ϛ Η 46 #[.agg (B0 c),vb,.agg #[iv st.p,iv st.q,.int ζ (st.s:Int)],.func (.func gn) #[] gx,.func (.func ga) #[] gz,.int Φ (a8:Int)] w λe w'=>Ext w w'/\
   ((∃ A l t,e=Ψ (ϗ #[.agg A,.bool Α])/\IsT w' A t/\Expl c bs st nx ac l t/\l.length<=a8/\(∀ g cs,g<w.heap.size->IsT (w'.setRow g cs) A t)/\∀ W,Near w' W->IsT W A t)\/(Cx nx st a8/\e=Ψ (ϗ #[.agg γ,.bool Ε]))):=by
 obtain⟨bB,oB,cB,rfl,hl⟩:=â hiB kd;obtain⟨i0,hi,kf,kg,kh⟩:=ϓ Dw;obtain⟨i4,kj,kk,kl,km⟩:=ϓ Fi;obtain⟨i6,ko,kq,kr,ks⟩:=ϓ (show (Η.info? 54).map (λi=>(i.zero,i.size,i.bytes))=J (J (U I 0 0),1,24) by kernel_rfl);obtain⟨i7,ku,kv,kx,ky⟩:=ϓ RI;have cj:=(((Κ w).alloc (Β (B0 c) 82)).alloc (Β #[iv st.p,iv st.q,.int ζ (st.s:Int)] 103)).alloc (Β γ 84);have H6:=Ah (Ah (Ad w (Β (B0 c) 82)) (Β #[iv st.p,iv st.q,.int ζ (st.s:Int)] 103)) (Β γ 84);have H8:=Ah (ϒ w (Β (B0 c) 82) (Β #[iv st.p,iv st.q,.int ζ (st.s:Int)] 103)) (Β γ 84);have dc:=Ad ((w.alloc (Β (B0 c) 82)).alloc (Β #[iv st.p,iv st.q,.int ζ (st.s:Int)] 103)) (Β γ 84);rw[Ρ,Ρ] at dc;have kz:=Z (λ(W:Γ) (hW:Ext w W) k (hk:k<bs.length)=>hW.cell (hl k (by omega)));have HN:=Z hN;have HA:=Z hA;have hn:(Η.info? 82).map (·.size)=J (B0 c).size:=by rw[E7];exact L5
 have e1:=Z (XP c bs.length);clear hiB hl hN hA;obtain⟨T0,cw⟩:=Xq (Ak c bs.length (U I 0 0) (U I 0 0));rw[cw] at e1;have hp:γ.size=T0.size:=by rw[<-cw,Dd,Ex]
 have hq:(Η.info? 84).map (·.size)=J T0.size:=by rw[<-cw,Ex];exact Ci
 have hr:T0.all (·.oneCell')=Α:=by rw[<-cw];exact Ic c bs.length (U I 0 0) (U I 0 0) rfl rfl
 have k7:=Z cw;clear cw;obtain⟨A0,e2⟩:=Xq (B0 c);rw[e2] at cj H6 H8 dc hn e1;rw[e2];clear e2;go_enter Tryz.func46,Tryz.ntmps46;go_upto_region 1 with (fail)
 obtain⟨w1,dz⟩:=Xq (((w.alloc (Β A0 82)).alloc (Β #[iv st.p,iv st.q,.int ζ (st.s:Int)] 103)).alloc (Β γ 84));have mu:w.heap.size+1+1<w1.heap.size:=by rw[<-dz,Ρ,Ρ,Ρ];omega
 rw[dz] at cj H6 H8 dc;simp only[dz];clear dz;have la:=Z H6;have ht:=Z H8;have hy:=Z dc;clear H6 H8 dc;have lb:=@run_makeMap Η;go_upto_region 2 with (first
  | (refine Lr 82 (δ 6) la.o Tryz.underlying82 hn ?_)
  | (refine Bk rfl 84 _ rfl T0 ?_ ?_;(simp[á];with_reducible exact e1.o))
  | (refine Sr 84 (δ 14) (δ 27) rfl (Ad w1 (Β γ 84)) hq hp hr ?_))
 have e3:=((Κ w1).alloc (Β γ 84)).setRow (Υ _) T0;have eb:=Χ (w1.alloc (Β γ 84)) w1.heap.size _ T0 _ _ (Ad w1 _);have ec:((w1.alloc (Β γ 84)).setRow w1.heap.size T0).heap.size=w1.heap.size+1:=by rw[ù,Ρ]
 obtain⟨wa,e5⟩:=Xq ((w1.alloc (Β γ 84)).setRow w1.heap.size T0);rw[e5] at e3 eb ec;simp only[e5];clear e5 hp hq hr;rw[<-k7.o] at eb;have ed:=It wa 103 stV;have ee:=e3.alloc (.map #[] 0);have ef:=Ah eb (.map #[] 0);have e6:(wa.alloc (.map #[] 0)).heap.size=w1.heap.size+1+1:=by rw[Ρ,ec]
 rw[ec] at ed;have e7:=Z (ee.heap ht.o);have lf:=U7 st (gv st h0);obtain⟨wb,h2⟩:=Xq (wa.alloc (.map #[] 0));rw[h2] at ed ee ef e6 e7;go_upto_region 3 with (first
  | (refine Lr 103 (δ 8) e7.o Î Ea ?_)
  | (refine Ud rfl _ _ _ 159 rfl N8 Tryz.underlying159 rfl ed (by unfold ϐ;omega) U8 st rfl lf 0 rfl (by omega) ?_;intro wc h3 eg))
 clear lb h2 ed e3 eb e7 ec;have e8:=ee.grown eg (λk e=>by cases e;omega);have h4:=(eg.block w1.heap.size (Al ef) (by simp)).trans ef;have h5:w1.heap.size+1+1<=wc.heap.size:=μ (Nat.le_of_eq e6.symm) eg.size;have h6:=Z (e8.heap ht.o);clear e6 eg ee ef;go_upto_region 4 with (refine Lr 103 (δ 8) h6.o Î Ea ?_)
 have e9:=e8.alloc (Β #[iv st.p,iv st.q,.int ζ (st.s:Int)] 103);have fa:=Ah h4 (Β #[iv st.p,iv st.q,.int ζ (st.s:Int)] 103);have fb:=h3.alloc (Β #[iv st.p,iv st.q,.int ζ (st.s:Int)] 103);have fc:Mx (wc.alloc (Β #[iv st.p,iv st.q,.int ζ (st.s:Int)] 103)) (w1.heap.size+1+1) (U (J ⟨wc.heap.size,0,I⟩) 1 1) [st]:=Γ.ownsRow_lit (base:=w1.heap.size+1+1) (e:=103) (size:=3) wc #[iv st.p,iv st.q,.int ζ (st.s:Int)] 1 h5 (by unfold ϐ;omega) rfl;have fe:w1.heap.size+1+1<=(wc.alloc (Β #[iv st.p,iv st.q,.int ζ (st.s:Int)] 103)).heap.size:=by rw[Ρ];omega
 obtain⟨ff,fg⟩:=Xq (wc.alloc (Β #[iv st.p,iv st.q,.int ζ (st.s:Int)] 103));rw[fg] at e9 fa fb fc fe;simp only[fg];clear fg;clear h3 e8 h4 h5 h6;have h7:=À ff (w1.heap.size+1+1) 54 1;have h8:=À ff (w1.heap.size+1+1) 4 1;have ia:RowsO ff (w1.heap.size+1+1) [] [] (λ_=>False):=⟨rfl,λj hj=>by simp at hj⟩;have ib:=Z fa;generalize wc.heap.size=lg at *;clear fa;go_wp2_with (fail);go_loopw [16,17] (λvo vi W=>∃ (i:Nat) (l:List Sta) (f:Sta->Option Nat) (N':List (List Nat)) (E:List Bool) (vs:List Δ) (go co:Nat) (vnx ag:Δ),i<=l.length/\l.length<=a8/\vi=.int Φ i/\vo=U (J ⟨go,0,I⟩) l.length co/\Ext w1 W/\w1.heap.size+1+1<=W.heap.size/\IsMp W 103 stV (w1.heap.size+1) l.length f/\Mx W (w1.heap.size+1+1) vo l/\ϟ (W.heap[w1.heap.size]? = J (Β (Ak c bs.length vnx ag) 84 (0,0)))/\W.ownsRow (w1.heap.size+1+1) 54 1 vnx vs.length vs/\OwnB W (w1.heap.size+1+1) ag E/\RowsO W (w1.heap.size+1+1) vs N' (λ_=>False)/\ϟ (EInv bs st nx i 0 l f N' (θ bs.length 0)/\E.length=i/\∀ j s,j<i->l[j]? = J s->E.getD j Ε=ac s))
  (λ_ vi _=>a8-(intOf vi).toNat)
 case atStart=>exact⟨0,[st],_,[],[],[],lg,1,_,_,by omega,by simp;omega,rfl,rfl,e9,fe,fb,fc,ib,h7,h8,ia,Z ⟨AE bs st nx _ (by simp),rfl,λj s hj=>by omega⟩⟩
 clear e9 fe fb fc ib h7 h8 ia;obtain⟨i,l,f,N',E,vs,go,co,vnx,ag,mw,ic,rfl,rfl,hE,de,ca,hL,HD,ab,bd,hV,H⟩:=hrel;by_cases ie:i<l.length
 ·obtain⟨wo,lh⟩:∃ W,W=wr:=⟨_,rfl⟩;subst lh;obtain⟨s,fh⟩:∃ s,l[i]? = J s:=⟨l[i],by simp[ie]⟩;have lj:=Z fh;have ig:Good s:=by obtain⟨u,hu⟩:=H.o.1.reach s (List.mem_of_getElem? fh);rw[<-hu];exact SK h0 gw u
  have fj:=Z ig;clear fh ig;go_upto_region 8 with (at_make;refine wpList_make_full _ rfl _ _ 54 rfl (w1.heap.size+1+1) 3 i0 (.int Φ 0) 1 Tryz.underlying54 hi kf kg Φ Φ _ _ bs.length rfl rfl rfl rfl (by rw[kh];omega) (by unfold ϐ;omega) (by omega) ?_;intro w5 ih bp)
  have ij:=hE.grown bp (λk e=>by cases e);have fk:w5.ownsRow (w1.heap.size+1+1) 3 1 (U (J ⟨wo.heap.size,0,I⟩) bs.length bs.length) bs.length ((θ bs.length 0).map iv):=by rw[<-B8];exact ih
  have ik:=ca.kept bp (by simp);have il:=Bz hL bp;have im:=Z ((bp.block w1.heap.size (Al HD.o) (by simp)).trans HD.o);have ir:=Bz ab bp;have iu:=Bz bd bp;have iw:=(hV.av (av':=λo=>o=J wo.heap.size) (λv l X cy e=>by have:=(X.lt _ e).2;omega)).kept bp (λv l X cy=>by cases v.ownBlock<;>simp)
  have ix:=μ de bp.size;have my:=(fk.lt wo.heap.size rfl).1;generalize wo.heap.size=gr at *;clear ih bp ca hL HD ab bd hV hE de;go_wp2_with (fail);go_loopw [16,44] (λvo vi W=>∃ (k:Nat) (T:List Sta) (f2:Sta->Option Nat) (r:List Nat) (cl ei:Nat),k<=bs.length/\T.length<=a8/\vi=.int Φ k/\vo=U (J ⟨cl,0,I⟩) T.length ei/\Ext w1 W/\w1.heap.size+1+1<=W.heap.size/\IsMp W 103 stV (w1.heap.size+1) T.length f2/\Mx W (w1.heap.size+1+1) vo T/\W.ownsRow (w1.heap.size+1+1) 3 1 (U (J ⟨gr,0,I⟩) bs.length bs.length) bs.length (r.map iv)/\ϟ (W.heap[w1.heap.size]? = J (Β (Ak c bs.length vnx ag) 84 (0,0)))/\W.ownsRow (w1.heap.size+1+1) 54 1 vnx vs.length vs/\OwnB W (w1.heap.size+1+1) ag E/\RowsO W (w1.heap.size+1+1) vs N' (λo=>o=J gr)/\ϟ (EInv bs st nx i k T f2 N' r/\i<T.length/\∀ j,j<=i->T[j]? = l[j]?))
   (λ_ vi _=>bs.length-(intOf vi).toNat)
  case atStart=>exact⟨0,l,f,_,go,co,by omega,ic,rfl,rfl,ij,ix,ik,il,fk,im,ir,iu,iw,Z ⟨H.o.1,ie,λ_ _=>rfl⟩⟩
  clear ij ix ik il fk im ir iu iw;obtain⟨k,T,f2,r,cl,ei,hk,iy,rfl,rfl,hE,de,ca,hL,hQ,HD,ab,bd,hV,HJ⟩:=hrel;have dh:=Z HJ.o.1.lenr;have mz:=HJ.o.2.1;have bq:ϟ (T[i]? = J s):=Z (by rw[HJ.o.2.2 i (Υ _)];exact lj.o);obtain⟨w5,ll⟩:∃ W,W=wr:=⟨_,rfl⟩;subst ll;by_cases cz:k<bs.length
  ·have cb:=kz.o w5 (cj.t hE) k cz;have ej:=hb k cz;obtain⟨b,fl⟩:=Xq (bs.getD k 0);rw[fl] at cb ej;have ja:=Z fl;clear fl;obtain⟨s0,s1,s2⟩:=Lb hL i s bq.o;obtain⟨y,ek⟩:=Xq (nx s b);have fm:=Z (HN.o w5 (cj.t hE) s fj.o b ej);rw[ek] at fm;have eo:Good y:=by rw[<-ek];exact gw s fj.o b ej
   have fo:=U7 y (gv y eo);have ep:ϟ (nx s (bs.getD k 0)=y):=Z (by rw[ja.o];exact ek);clear ek;go_upto_region 12 with (first
    | ((with_reducible refine fm.o.mono ?_);rintro e w6 ⟨rfl,jb⟩)
    | (refine wpList_store_row rfl 103 (δ 21) (δ 55) rfl _ #[iv y.p,iv y.q,.int ζ (y.s:Int)] rfl rfl _ _ (Ad w6 (Β #[.int Φ 0,.int Φ 0,.int ζ 0] 103)) Ea rfl (Vc y) ?_))
   have ar:=jb.t (((Κ w6).alloc (Β #[.int Φ 0,.int Φ 0,.int ζ 0] 103)).setRow (Υ _) #[iv y.p,iv y.q,.int ζ (y.s:Int)]);have fp:=Χ (w6.alloc (Β #[.int Φ 0,.int Φ 0,.int ζ 0] 103)) w6.heap.size _ #[iv y.p,iv y.q,.int ζ (y.s:Int)] _ _ (Ad w6 _);obtain⟨w7,fs⟩:=Xq ((w6.alloc (Β #[.int Φ 0,.int Φ 0,.int ζ 0] 103)).setRow w6.heap.size #[iv y.p,iv y.q,.int ζ (y.s:Int)]);rw[fs] at ar fp;simp only[fs];clear fs jb fm cb s0 s1 s2;have c3:=Z fp;clear fp;generalize w6.heap.size=gy at *;have bk:=Aa hL ar;have ai:=Aa hQ ar;have au:=Aa ab ar;have bl:=Aa bd ar;have cm:=hV.kept (ar.grownBy I) (λv l _ _=>by cases v.ownBlock<;>simp);have bb:=Z (ar.heap HD.o);have aw:=ca.ext ar;have bm:=hE.t ar;have cn:=μ de ar.size;clear hL hQ ab bd hV HD ca hE ar de;cases hf:f2 y with
   | some v=>
    have fu:=Z (So HJ.o.1 cz bq.o v (by rw[ep.o];exact hf));have cq:=Au 0 ai dh.o.symm k (by rw[dh.o];exact cz);have fq:=ai.frozenAt k;obtain⟨br,G⟩:=Ba ai k v;have bt:=bm.grown G (λk e=>by cases e;omega);have aj:=bk.kept G (Aj bk ai (by decide));have bu:=au.kept G (Aj au ai (by decide));have bw:=bl.kept G (Aj bl ai (by decide));have cd:=cm.kept G (λv l X cy=>.inr (λe=>cy e));have bz:=Z ((G.block w1.heap.size (Al bb.o) (λe=>by have:=ό e;omega)).trans bb.o);have b0:=aw.kept G (λe=>by have:=ό e;omega);have cp:=μ cn G.size;clear G bk ai au bl cm bb bm cn;go_wp2_with (first
     | (refine Lr 103 (δ 21) c3.o Î Ea ?_)
     | (at_lookup;refine D0 rfl _ _ 159 rfl N8 Tryz.underlying159 rfl aw y rfl fo ?_;rw[hf];dsimp only [ñ,Option.getD]))
    go_roundw
    case rel=>exact⟨k+1,T,f2,r.set k v,cl,ei,by omega,iy,by go_num,rfl,bt,cp,b0,aj,br,bz,bu,bw,cd,Z ⟨fu.o,HJ.o.2⟩⟩
    simp[intOf];omega
   | none=>
    go_upto_region 15 with (first
     | (refine Lr 103 (δ 21) c3.o Î Ea ?_)
     | (at_lookup;refine D0 rfl _ _ 159 rfl N8 Tryz.underlying159 rfl aw y rfl fo ?_;rw[hf];dsimp only [ñ,Option.getD]))
    by_cases fv:T.length=a8
    ·have lp:((T.length:Int)==(a8:Int))=Α:=by simp[fv]
     have lq:=Z XN;have dm:=Z (bm.heap hy.o);have fw:Cx nx st a8:=by
      refine⟨T++[y],?_,λx hx=>?_,by rw[Ν,fv];simp⟩
      ·rw[List.nodup_append];refine⟨HJ.o.1.nodup,by simp,λx hx z hz=>?_⟩;have hz:z=y:=by simpa using hz
       subst hz;rintro rfl;obtain⟨v,hv⟩:=List.getElem?_of_mem hx;have:=(HJ.o.1.num x v).2 hv;rw[hf] at this;cases this
      rcases List.mem_append.1 hx with hx|hx
      ·exact HJ.o.1.reach x hx
      have hx:x=y:=by simpa using hx
      subst hx;obtain⟨u,hu⟩:=HJ.o.1.reach s (List.mem_of_getElem? bq.o);refine⟨u++[UInt8.ofNat b],?_⟩;rw[E9,hu,u8n b ej,<-ja.o];exact ep.o
     have fw:=Z fw;have zo:γ.all (·.oneCell')=Α:=by kernel_rfl
     clear fv;go_wp2_with (first
      | (refine Bk rfl 84 _ rfl γ ?_ ?_;(simp;with_reducible exact lq.o))
      | (refine Sr 84 (δ 12) (δ 69) rfl dm.o (by rw[Dd];exact Ci) rfl zo ?_))
     refine ω (v:=ϗ #[.agg γ,.bool Ε]) (Bi rfl _ _ _ _ _ _ _ rfl _ rfl (Χ w7 _ _ γ 84 (0,0) dm.o) ϸ rfl (by rw[Dd];exact Ci)) rfl ?_;exact⟨(cj.t bm).setRow (by omega) _,.inr ⟨fw.o,rfl⟩⟩
    have lp:((T.length:Int)==(a8:Int))=Ε:=by simp;omega
    have fy:=Ss HJ.o.1 cz hb bq.o (by rw[ep.o];exact hf);rw[ep.o] at fy;have fu:=Z fy;clear fy;go_upto_region 18 with (first
     | (refine Lr 103 (δ 21) c3.o Î Ea ?_)
     | (at_mapUpdate;refine G0 rfl _ _ _ 159 rfl N8 Tryz.underlying159 rfl aw (by unfold ϐ;omega) U8 y rfl fo T.length rfl (by omega) ?_;intro w8 b0 G))
    have aj:=bk.kept G (aw.far bk);have br:=ai.kept G (aw.far ai);have bu:=au.kept G (aw.far au);have bw:=bl.kept G (aw.far bl);have cd:=cm.kept G (λv l X cy=>aw.far X);have bz:=Z ((G.block w1.heap.size (Al bb.o) (by simp)).trans bb.o);have bt:=bm.grown G (λk e=>by cases e;omega);have cp:=μ cn G.size;have eo:gy<w7.heap.size:=Al c3.o;have jc:gy≠w1.heap.size+1:=λe=>by obtain⟨_,⟨es,na,lv,_⟩,_⟩:=aw;have:=c3.o;rw[e,lv] at this;cases this
    have jd:=Z ((G.block gy eo (λe=>jc (ό e))).trans c3.o);clear G bk ai au bl cm bb bm cn aw jc eo;go_upto_region 19 with (first
     | (refine Lr 103 (δ 21) jd.o Î Ea ?_)
     | (at_builtin;refine Ϙ _ rfl _ _ 160 rfl (w1.heap.size+1+1) 103 i7 (.agg #[.int Φ 0,.int Φ 0,.int ζ 0]) 3 24 Tryz.underlying160 ku kv kx ky rfl (by decide) _ _ _ rfl (aj.alloc _) _ 1 1 (stL y) rfl rfl (Γ.news_of_block (Ad w8 _)) (by simp[stL,ξ]) (by decide) (by unfold ϐ;omega) (by omega) (by simp;omega) _ rfl ?_;intro g9 c9 w9 cf b4 _ _))
    have ae:=(bt.alloc (Β #[iv y.p,iv y.q,.int ζ (y.s:Int)] 103)).grown b4 (λk e=>by have:=(aj.lt k e).1;omega);have bf:=(br.alloc (Β #[iv y.p,iv y.q,.int ζ (y.s:Int)] 103)).kept b4 (Aj br aj (by decide));have ct:=(bu.alloc (Β #[iv y.p,iv y.q,.int ζ (y.s:Int)] 103)).kept b4 (Aj bu aj (by decide));have cu:=(bw.alloc (Β #[iv y.p,iv y.q,.int ζ (y.s:Int)] 103)).kept b4 (Aj bw aj (by decide));have c4:=(cd.alloc (Β #[iv y.p,iv y.q,.int ζ (y.s:Int)] 103)).kept b4 (λv l X _=>Aj X (aj.alloc (Β #[iv y.p,iv y.q,.int ζ (y.s:Int)] 103)) (by decide));have b5:=Z ((b4.block w1.heap.size (Ξ (Al bz.o) (by rw[Ρ];omega)) (λe=>by have:=(aj.lt _ e.symm).1;omega)).trans (Ah bz.o _));have c5:=(b0.alloc (Β #[iv y.p,iv y.q,.int ζ (y.s:Int)] 103)).kept b4 (b0.ne_row aj);have c6:w1.heap.size+1+1<=w9.heap.size:=by have:=b4.size;rw[Ρ] at this;omega
    have fz:ϟ (Mx w9 (w1.heap.size+1+1) (U (J ⟨g9,0,I⟩) (T++[y]).length c9) (T++[y])):=Z (by show ϥ _ _ _ _ _ _ _;rw[Ν,TB,SZ];exact cf)
    clear b4 aj br bu bw cd bz bt cp b0 cf jd;have cq:=Au 0 bf dh.o.symm k (by rw[dh.o];exact cz);have fq:=bf.frozenAt k;obtain⟨dn,b6⟩:=Ba bf k T.length;have et:=ae.grown b6 (λk e=>by cases e;omega);have lx:=Z (fz.o.kept b6 (Aj fz.o bf (by decide)));have dp:=ct.kept b6 (Aj ct bf (by decide));have bg:=cu.kept b6 (Aj cu bf (by decide));have eu:=c4.kept b6 (λv l X cy=>.inr (λe=>cy e));have c8:=Z ((b6.block w1.heap.size (Al b5.o) (λe=>by have:=ό e;omega)).trans b5.o);have dq:=c5.kept b6 (λe=>by have:=ό e;omega);have gb:=μ c6 b6.size;clear b6 fz bf ct cu c4 b5 ae c6 c5;go_wp2_with (fail);go_roundw
    case rel=>
     refine⟨k+1,T++[y],_,r.set k T.length,g9,c9,by omega,by rw[Ν];simp;omega,by go_num,?_,et,gb,?_,?_,dn,c8,dp,bg,eu,Z ⟨fu.o,?_,λj hj=>?_⟩⟩
     ·rw[Ν];rfl
     ·rw[Ν];exact dq
     ·have h9:ϥ _ _ _ _ _ _ _:=lx.o;show ϥ _ _ _ _ _ _ _;rw[show (T++[y]).length=T.length+1 by simp] at h9 ⊢;exact h9
     ·rw[Ν];have:=HJ.o.2.1;omega
     rw[χ (by have:=HJ.o.2.1;omega)];exact HJ.o.2.2 j hj
    case measure=>simp[intOf];omega
  obtain rfl:k=bs.length:=by omega
  have c1:=(Τ w5 w1.heap.size 257 _ _ _ HD.o).trans (K7 _ _ _ _);have nb:vs.length<=1073741824:=by rw[hV.1,HJ.o.1.lenN];omega
  go_upto_region 22 with (at_builtin;refine Ϙ _ rfl _ _ 37 rfl (w1.heap.size+1+1) 54 i6 (U I 0 0) 1 24 Tryz.underlying37 ko kq kr ks rfl (by decide) vnx vs.length vs rfl (ab.alloc _) _ 1 1 [U (J ⟨gr,0,I⟩) bs.length bs.length] rfl rfl (Ý _ _ _) (by simp[ξ]) (by decide) (by unfold ϐ;omega) (by omega) (by simp;omega) _ rfl ?_;intro g7 c7 w7 au b7 _ _;have bb:ϟ (w7.heap[w1.heap.size]? = _):=Z ((b7.block w1.heap.size (Ξ (Al HD.o) (by rw[Ρ];omega)) (λe=>by have:=(ab.lt _ e.symm).1;omega)).trans (Ah HD.o _));have ly:=(Τ w7 w1.heap.size 257 _ _ _ bb.o).trans (K7 _ _ _ _);have f17:=È w7 w1.heap.size 257 _ _ bb.o)
  clear c1 ly f17;have aw:=(ca.alloc (Β #[U (J ⟨gr,0,I⟩) bs.length bs.length] 54)).kept b7 (ca.ne_row ab);have bk:=(hL.alloc (Β #[U (J ⟨gr,0,I⟩) bs.length bs.length] 54)).kept b7 (Aj hL ab (by decide));have ai:=(hQ.alloc (Β #[U (J ⟨gr,0,I⟩) bs.length bs.length] 54)).kept b7 (Aj hQ ab (by decide));have bl:=(bd.alloc (Β #[U (J ⟨gr,0,I⟩) bs.length bs.length] 54)).kept b7 (Aj bd ab (by decide));have cm:=(hV.alloc (Β #[U (J ⟨gr,0,I⟩) bs.length bs.length] 54)).kept b7 (λv l X _=>Aj X (ab.alloc (Β #[U (J ⟨gr,0,I⟩) bs.length bs.length] 54)) (by decide));have ar:=(hE.alloc (Β #[U (J ⟨gr,0,I⟩) bs.length bs.length] 54)).grown b7 (λk e=>by have:=(ab.lt k e).1;omega);have cn:w1.heap.size+1+1<=w7.heap.size:=by have:=b7.size;rw[Ρ] at this;omega
  clear b7 ca hL hQ bd hV hE ab HD;have au:w7.ownsRow (w1.heap.size+1+1) 54 1 (U (J ⟨g7,0,I⟩) (vs.length+1) c7) (vs++[Ϗ (J ⟨gr,0,I⟩) bs.length bs.length]).length (vs++[Ϗ (J ⟨gr,0,I⟩) bs.length bs.length]):=by rw[Ν];exact au
  obtain⟨row,gd⟩:=Xq (Ϗ (J ⟨gr,0,I⟩) bs.length bs.length);have nc:row.ownBlock=J gr:=by rw[<-gd];rfl
  rw[gd] at au ai;clear gd;obtain⟨af,jj⟩:=Xq (Ϗ (J ⟨g7,0,I⟩) (vs.length+1) c7);rw[jj] at au;have G:=Cc w7 w1.heap.size (Ak c bs.length af ag);have dr:w7.setCell ⟨w1.heap.size,257,I⟩ af=w7.setRow w1.heap.size (Ak c bs.length af ag):=by rw[Ϭ w7 _ _ _ _ _ _ bb.o,Us]
  have bm:=ar.setRow (Υ _) (Ak c bs.length af ag);have b0:=aw.kept G (by simp);have aj:=bk.kept G (A3 bk (by omega));have br:=ai.kept G (A3 ai (by omega));have bu:=au.kept G (A3 au (by omega));have bw:=bl.kept G (A3 bl (by omega));have cd:=cm.kept G (λv l X _=>A3 X (by omega));have bz:=Z (Χ w7 w1.heap.size _ (Ak c bs.length af ag) _ _ bb.o);have cp:w1.heap.size+1+1<=(w7.setRow w1.heap.size (Ak c bs.length af ag)).heap.size:=by rw[ù];exact cn
  rw[jj,dr];clear G aw bk ai au bl cm ar cn bb dr;obtain⟨w8,gf⟩:=Xq (w7.setRow w1.heap.size (Ak c bs.length af ag));rw[gf] at b0 aj br bu bw cd bz bm cp;rw[gf];clear gf;have c5:=b0.ext (Κ w8).drew;have cf:=Aa aj (Κ w8).drew;have bf:=Aa br (Κ w8).drew;have ct:=Aa bu (Κ w8).drew;have cu:=Aa bw (Κ w8).drew;have c4:=cd.kept ((Κ w8).drew.grownBy I) (λv l _ _=>by cases v.ownBlock<;>simp);have b5:ϟ (w8.drew.heap[w1.heap.size]? = J (Β (Ak c bs.length af ag) 84 (0,0))):=Z bz.o;have bt:=bm.drew;have c6:w1.heap.size+1+1<=w8.drew.heap.size:=cp;obtain⟨s0,s1,s2⟩:=Lb cf i s bq.o;have c2:∀ W:Γ,W.heap[w1.heap.size]? = J (Β (Ak c bs.length af ag) 84 (0,0))->W.cell? ⟨w1.heap.size,258,I⟩=J ag:=λW hW=>(Τ W w1.heap.size 258 _ _ _ hW).trans (Ie _ _ _ _)
  have nd:E.length<=1073741824:=by rw[H.o.2.1];omega
  have l3:=Z (λ(W:Γ) (hW:Ext w W)=>HA.o W hW s fj.o);refine Bl 11 [(0,Α),(1,Α),(2,Α),(3,Α),(4,Α),(5,Α),(6,Α),(7,Ε),(8,Ε),(9,Ε),(10,Α),(11,Ε)] (by kernel_rfl) (by kernel_rfl) (λ_ _ _ _ h=>h)
   (λW=>W.heap[w1.heap.size]? = J (Β (Ak c bs.length af ag) 84 (0,0))/\W.cell? ⟨cl,i*3,I⟩=J (iv s.p)/\W.cell? ⟨cl,i*3+1,I⟩=J (iv s.q)/\W.cell? ⟨cl,i*3+2,I⟩=J (.int ζ (s.s:Int))) ⟨b5.o,s0,s1,s2⟩ ?_
  obtain⟨w9,gg⟩:=Xq (w8.drew);rw[gg] at c5 cf bf ct cu c4 b5 bt c6 s0 s1 s2;rw[gg];clear gg b0 aj br bu bw cd bz bm cp;clear s0 s1 s2;iterate 7
   refine G5 (v:=?_) rfl rfl (λW hW=>?_) ?_
   rotate_left
   ·obtain⟨jk,t0,t1,t2⟩:=hW;have k2:=c2 W jk;clear jk;go_simp;first|done|with_reducible rfl
   simp only[η,Θ,Μ,Λ]
  refine D5 rfl (λK hK=>?_);go_simp
  (with_reducible refine (l3.o w9 (cj.t bt)).mono ?_)
  rintro e gi ⟨rfl,ae⟩;obtain⟨s0,s1,s2⟩:=Lb cf i s bq.o;refine hK _ _ (λ_=>⟨ae.heap b5.o,ae.cell s0,ae.cell s1,ae.cell s2⟩) ?_;clear hK K s0 s1 s2;have dq:=c5.ext ae;have ev:=Aa cf ae;have dn:=Aa bf ae;have dp:=Aa ct ae;have bg:=Aa cu ae;have eu:=c4.kept (ae.grownBy I) (λv l _ _=>by cases v.ownBlock<;>simp);have c8:=Z (ae.heap b5.o);have et:=bt.t ae;have gb:=μ c6 ae.size;clear c5 cf bf ct cu c4 b5 bt c6 ae;obtain⟨s0,s1,s2⟩:=Lb ev i s bq.o;have l4:ϟ (∀ j x,j<i+1->T[j]? = J x->(E++[ac s]).getD j Ε=ac x):=Z λj x hj hx=>by
   rw[Og,H.o.2.1];by_cases jm:j<i
   ·rw[if_pos jm];rw[HJ.o.2.2 j (by omega)] at hx;exact H.o.2.2 j x jm hx
   obtain rfl:j=i:=by omega
   rw[if_neg (by omega),if_pos rfl];rw[bq.o] at hx;injection hx with hx
   rw[hx]
  generalize ac s=bx at *;refine D5 rfl (λK hK=>?_);go_simp;refine hK _ _ (λ_=>⟨Ah c8.o _,((Κ gi).alloc _).cell s0,((Κ gi).alloc _).cell s1,((Κ gi).alloc _).cell s2⟩) ?_;clear hK K s0 s1 s2;refine D5 rfl (λK hK=>?_);refine step_append_lies _ rfl _ _ 38 rfl (w1.heap.size+1+1) 4 i4 (.bool Ε) 1 1 Tryz.underlying38 kj kk kl km rfl (by decide) ag E.length (E.map Δ.bool) rfl (bg.alloc _) _ 1 1 [.bool bx] rfl rfl (Ý _ _ _) (by simp[ξ]) (by decide) (by unfold ϐ;omega) (by omega) (by simp;omega) _ rfl ?_;intro jn jo bh da b8 _ _;have jq:=(et.alloc (Β #[.bool bx] 4)).grown b8 (λk e=>by have:=(bg.lt k e).1;omega);have db:=Z ((b8.block w1.heap.size (Ξ (Al c8.o) (by rw[Ρ];omega)) (λe=>by have:=(bg.lt _ e.symm).1;omega)).trans (Ah c8.o _));have jr:=(dq.alloc (Β #[.bool bx] 4)).kept b8 (dq.ne_row bg);have ew:=(ev.alloc (Β #[.bool bx] 4)).kept b8 (Aj ev bg (by decide));have gj:=(dn.alloc (Β #[.bool bx] 4)).kept b8 (Aj dn bg (by decide));have gk:=(dp.alloc (Β #[.bool bx] 4)).kept b8 (Aj dp bg (by decide));have js:=(eu.alloc (Β #[.bool bx] 4)).kept b8 (λv l X _=>Aj X (bg.alloc (Β #[.bool bx] 4)) (by decide));have jt:w1.heap.size+1+1<=bh.heap.size:=by have:=b8.size;rw[Ρ] at this;omega
  have da:OwnB bh (w1.heap.size+1+1) (U (J ⟨jn,0,I⟩) (E.length+1) jo) (E++[bx]):=by show ϥ _ _ _ _ _ _ _;rw[Ν,List.map_append];exact da
  clear b8 dq ev dn dp bg eu c8 et gb;obtain⟨s0,s1,s2⟩:=Lb ew i s bq.o;refine hK _ _ (λ_=>⟨db.o,s0,s1,s2⟩) ?_;clear hK K s0 s1 s2;refine G5 (v:=?_) rfl rfl (λW hW=>?_) ?_
  rotate_left
  ·clear hW;go_simp;first|done|with_reducible rfl
  simp only[η,Θ,Μ,Λ];have k2:=c2 bh db.o;have l5:=È bh w1.heap.size 258 _ _ db.o;refine D5 rfl (λK hK=>?_);go_simp;refine hK _ _ (λh=>absurd h (by omega)) ?_;clear hK K k2 l5 c2;refine Bj ?_;obtain⟨cg,ju⟩:=Xq (Ϗ (J ⟨jn,0,I⟩) (E.length+1) jo);rw[ju] at da;have cv:=Cc bh w1.heap.size (Ak c bs.length af cg);have dr:bh.setCell ⟨w1.heap.size,258,I⟩ cg=bh.setRow w1.heap.size (Ak c bs.length af cg):=by rw[Ϭ bh _ _ _ _ _ _ db.o,Pm]
  have jv:=jq.setRow (Υ _) (Ak c bs.length af cg);have jw:=jr.kept cv (by simp);have jx:=ew.kept cv (A3 ew (by omega));have gl:=gj.kept cv (A3 gj (by omega));have jy:=gk.kept cv (A3 gk (by omega));have jz:=da.kept cv (A3 da (by omega));have gm:=js.kept cv (λv l X _=>A3 X (by omega));have j0:=Z (Χ bh w1.heap.size _ (Ak c bs.length af cg) _ _ db.o);have j1:w1.heap.size+1+1<=(bh.setRow w1.heap.size (Ak c bs.length af cg)).heap.size:=by rw[ù];exact jt
  rw[ju,dr];clear cv jr ew gj gk da js jq jt db dr;obtain⟨l6,gp⟩:=Xq (bh.setRow w1.heap.size (Ak c bs.length af cg));rw[gp] at jw jx gl jy jz gm j0 jv j1;rw[gp];clear gp;have j2:OwnI l6 (w1.heap.size+1+1) row r:=by show ϥ _ _ _ _ _ _ _;rw[dh.o];exact gl
  have l7:=(gm.av (av':=λ_=>False) (λv l _ _ e=>e)).snoc j2 (λe=>e);have l8:=Z (AF HJ.o.1 HJ.o.2.1 (θ bs.length 0) (by simp));have l9:ϟ ((E++[bx]).length=i+1):=Z (by rw[Ν,H.o.2.1];rfl);clear gl gm j2;go_wp2;go_roundw
  case rel=>exact⟨i+1,T,f2,N'++[r],E++[bx],vs++[row],cl,ei,af,cg,by omega,iy,by go_num,rfl,jv,j1,jw,jx,j0,jy,jz,l7,Z ⟨l8.o,l9.o,l4.o⟩⟩
  simp[intOf];omega
 obtain rfl:i=l.length:=by omega
 have ma:=Z (AG (c:=c) (ac:=ac) H.o.1 rfl H.o.2.1 (λj s hs=>H.o.2.2 j s (ο.1 hs).1 hs));have dm:=Z (hE.heap hy.o);have mc:=hV.rows ab (by rw[H.o.1.lenN];omega) (λj hj=>by rw[H.o.1.rows j (by rw[<-H.o.1.lenN];exact hj)];omega);obtain⟨an,a1,rfl⟩:=Nr ab;obtain⟨aa,a7,rfl⟩:=Nr bd;have ey:(Η.info? 84).map (·.size)=J (Ak c bs.length (U an vs.length a1) (U aa E.length a7)).size:=by rw[Ex];exact Ci
 have j4:γ.size=(Ak c bs.length (U an vs.length a1) (U aa E.length a7)).size:=by rw[Ex,Dd]
 have j5:=Ic c bs.length (U an vs.length a1) (U aa E.length a7) rfl rfl;have ez:=Cc wr (w.heap.size+1+1) (Ak c bs.length (U an vs.length a1) (U aa E.length a7));have dt:=ab.kept ez (A3 ab (by omega));have du:=bd.kept ez (A3 bd (by omega));have e0:=hV.kept ez (λv l X _=>A3 X (by omega));have j6:=(cj.t hE).setRow (show w.heap.size<=w.heap.size+1+1 by omega) (Ak c bs.length (U an vs.length a1) (U aa E.length a7));have j7:IsT (wr.setRow (w.heap.size+1+1) (Ak c bs.length (U an vs.length a1) (U aa E.length a7))) (Ak c bs.length (U an vs.length a1) (U aa E.length a7)) ⟨c,bs.length,N',E⟩:=
  ⟨_,_,rfl,e0.rows dt (by rw[H.o.1.lenN];omega) (λj hj=>by rw[H.o.1.rows j (by rw[<-H.o.1.lenN];exact hj)];omega),OwnB.bools (l:=E) du (by rw[H.o.2.1];omega)⟩
 have j8:∀ g cs,g<w.heap.size->IsT ((wr.setRow (w.heap.size+1+1) (Ak c bs.length (U an vs.length a1) (U aa E.length a7))).setRow g cs) (Ak c bs.length (U an vs.length a1) (U aa E.length a7)) ⟨c,bs.length,N',E⟩:=λg cs hg=>by have gq:=Cc (wr.setRow (w.heap.size+1+1) (Ak c bs.length (U an vs.length a1) (U aa E.length a7))) g cs;have me:=dt.kept gq (A3 dt (by omega));have mf:=du.kept gq (A3 du (by omega));have mg:=e0.kept gq (λv l X _=>A3 X (by omega));exact⟨_,_,rfl,mg.rows me (by rw[H.o.1.lenN];omega) (λj hj=>by rw[H.o.1.rows j (by rw[<-H.o.1.lenN];exact hj)];omega),OwnB.bools (l:=E) mf (by rw[H.o.2.1];omega)⟩
 have j9:=Z j8;have ka:∀ W,Near (wr.setRow (w.heap.size+1+1) (Ak c bs.length (U an vs.length a1) (U aa E.length a7))) W->IsT W (Ak c bs.length (U an vs.length a1) (U aa E.length a7)) ⟨c,bs.length,N',E⟩:=λW hW=>⟨_,_,rfl,(hW.rows e0).rows (hW.owns dt (by decide)) (by rw[H.o.1.lenN];omega) (λj hj=>by rw[H.o.1.rows j (by rw[<-H.o.1.lenN];exact hj)];omega),OwnB.bools (l:=E) (hW.owns du (by decide)) (by rw[H.o.2.1];omega)⟩
 have kb:=Z ka;clear ez dt du e0 mc j8 ka;obtain⟨TT,kc⟩:=Xq (Ak c bs.length (U an vs.length a1) (U aa E.length a7));rw[kc] at HD ey j4 j5 j6 j7 j9 kb;clear kc;go_wp2_with (first
  | (refine Lr 84 (δ 14) HD.o ϸ ey ?_)
  | (refine Sr 84 (δ 12) (δ 99) rfl dm.o ey j4 j5 ?_))
 refine ω (v:=ϗ #[.agg TT,.bool Α]) (Bi rfl _ _ _ _ _ _ _ rfl _ rfl (Χ wr _ _ TT 84 (0,0) dm.o) ϸ rfl ey) rfl ?_;exact⟨j6,.inl ⟨TT,l,_,rfl,j7,ma.o,ic,j9.o,kb.o⟩⟩
theorem Af {P:Þ} {ops:Array ϳ} {Q:Exit->ø->Γ->Prop} {C:Γ->Prop} {n i:Nat} {is:List (Nat × Bool)} {o:ϳ} {v:Δ} {a:ø} {w:Γ} (h0:ops.toList[i]? = J o) (E:ϧ o (ü ops a.tmps)=Α) (G:∀ W,C W->(ê a.eval o).run P W=.ok (.value v) W)
  (h:Df P ops Q C n is (a.put o.dst v) w):Df P ops Q C n ((i,Α)::is) a w:=G5 (by rw[<-Ç];exact h0) E G h
theorem Ao {P:Þ} {ops:Array ϳ} {Q:Exit->ø->Γ->Prop} {C:Γ->Prop} {n i:Nat} {is:List (Nat × Bool)} {o:ϳ} {a:ø} {w:Γ} (h0:ops.toList[i]? = J o)
  (h:∀ K:ø->Γ->Prop,(∀ E w',(i<n->C w')->Df P ops Q C n is E w'->K E w')->if ϧ o (ü ops a.tmps)=Α then ϳ.wp P o a w K Q else K (a.put o.dst Ω) w):Df P ops Q C n ((i,Ε)::is) a w:=D5 (by rw[<-Ç];exact h0) h
theorem Fy {P:Þ} {o:ϳ} {a:ø} (t:ϡ) (parts:Array (Nat × Ñ)) (E:o.op=.build t parts) {A:Array Δ} (hb:P.built t (parts.map λ(i,x)=>(i,a.eval x)).toList=J A) (w:Γ):(ê a.eval o).run P w=.ok (.value (.agg A)) w:=by unfold ê;simp only[E,Sem.run_bind,run_build w t _ A hb,Result.andThen_ok];rfl
theorem Ik {P:Þ} {ops:Array ϳ} {o:ϳ} {a:ø} {w:Γ} {K:ø->Γ->Prop} {Q:Exit->ø->Γ->Prop} {E:Prop} (ty:ϡ) (x y:Ñ) (H:o.op=.store ty x y) (T:o.guard=I)
  (g:Nat) (cells:Array Δ) (hx:a.eval x=ε (J ⟨g,0,I⟩)) (X:a.eval y=.agg cells) (t:ϡ) (G:Array Δ) (hg:w.heap[g]? = J (Β G t (0,0))) (hi:(P.info? ty).map (·.size)=J cells.size)
  (aa:G.size=cells.size) (h1:cells.all (·.oneCell')=Α) (h:K (a.put o.dst Ω) (w.setRow g cells)):if ϧ o (ü ops a.tmps)=Α then ϳ.wp P o a w K Q else E:=by
 have hw:ϧ o (ü ops a.tmps)=Α:=by simp[ϧ,T]
 rw[if_pos hw];exact wp_store_row ty x y H g cells hx X t G hg hi aa h1 h
theorem XL (p q:Int):Η.built 103 [(0,.int Φ p),(1,.int Φ q)]=J #[.int Φ p,.int Φ q,.int ζ 0]:=by kernel_rfl
def pNx (x y:Tbl) (s:Sta) (b:Nat):Sta:=⟨x.stp s.p b,y.stp s.q b,0⟩
def pAc (x y:Tbl) (g:Bool->Bool->Bool) (s:Sta):Bool:=g (x.ok s.p) (y.ok s.q)
def Qo (x y:Tbl) (s:Sta):Prop:=s.p<x.n.length/\s.q<y.n.length/\s.s=0
theorem KE (x y:Tbl) (hx:TVal x) (hy:TVal y) (A B:Array Δ) (H T:Nat) (w:Γ) (hA:IsT w A x) (hB:IsT w B y) (aa:w.heap[H]? = J (Β A 84 (0,0))) (ab:w.heap[T]? = J (Β B 84 (0,0))) :
  Pb w 91 #[ε (J ⟨H,0,I⟩),ε (J ⟨T,0,I⟩)] (pNx x y) (Qo x y):=by
 intro W hW s hs b hb;obtain⟨hp,hq,-⟩:=hs;obtain⟨bn,on,cn,_,_,_,_,_,a8,_,ba,_,bb,_⟩:=(hA.ext hW).opened hx;obtain⟨bd,be,b4,_,_,_,_,_,bf,_,bg,_,bh,_⟩:=(hB.ext hW).opened hy;have aa:=hW.heap aa;have ab:=hW.heap ab;have a7:=(Τ W H 257 _ _ _ aa).trans ba;have ac:=(Τ W H b _ _ _ aa).trans (a8 b hb);have b7:=(Τ W T 257 _ _ _ ab).trans bg;have bc:=(Τ W T b _ _ _ ab).trans (bf b hb);obtain⟨br,or',cr,ak,bk⟩:=bb s.p hp;obtain⟨bl,bm,b5,an,bo⟩:=bh s.q hq;have ad:=bk _ (hx.cell_lt b hb);have ae:=bo _ (hy.cell_lt b hb);have cf:=hx.cell_lt b hb;have cg:=hy.cell_lt b hb;have bp:x.ent2 s.p (x.cell b)=x.stp s.p b:=rfl;have bq:y.ent2 s.q (y.cell b)=y.stp s.q b:=rfl;rw[bp] at ad;rw[bq] at ae;show ϛ _ _ _ _ λe w'=>e=Ψ (.agg #[iv (x.stp s.p b),iv (y.stp s.q b),.int ζ ((0:Nat):Int)])/\Ext W w'
 have G:=((Κ W).alloc (Β #[iv s.p,iv s.q,.int ζ (s.s:Int)] 103)).alloc (Β #[.int Φ 0,.int Φ 0,.int ζ 0] 103);have H4:=Ah (Ad W (Β #[iv s.p,iv s.q,.int ζ (s.s:Int)] 103)) (Β #[.int Φ 0,.int Φ 0,.int ζ 0] 103);have H6:=ϒ W (Β #[iv s.p,iv s.q,.int ζ (s.s:Int)] 103) (Β #[.int Φ 0,.int Φ 0,.int ζ 0] 103);clear hA hB hx hy a8 bf ba bg bb bh bp bq bk bo aa ab;generalize x.stp s.p b=X at *;generalize y.stp s.q b=q2 at *;generalize x.cell b=cx at *;generalize y.cell b=cy at *;have cj:(b:Int)<256:=by omega
 generalize x.cells=mx at *;generalize y.cells=my at *;generalize x.n.length=nx at *;generalize y.n.length=ny at *;go_enter Tryz.func91,Tryz.ntmps91;go_upto_region 1 with (fail)
 obtain⟨w1,ar⟩:=Xq ((W.alloc (Β #[iv s.p,iv s.q,.int ζ (s.s:Int)] 103)).alloc (Β #[.int Φ 0,.int Φ 0,.int ζ 0] 103));rw[ar] at G H4 H6;simp only[ar];clear ar;have a7:=G.cell a7;have ac:=G.cell ac;have b7:=G.cell b7;have bc:=G.cell bc;have ak:=G.cell ak;have ad:=G.cell ad;have an:=G.cell an;have ae:=G.cell ae;have c0:=(Τ w1 W.heap.size 0 _ _ _ H4).trans (show (#[iv s.p,iv s.q,.int ζ (s.s:Int)]:Array Δ)[0]? = J (iv s.p) from rfl);have c1:=(Τ w1 W.heap.size 1 _ _ _ H4).trans (show (#[iv s.p,iv s.q,.int ζ (s.s:Int)]:Array Δ)[1]? = J (iv s.q) from rfl);have b9:∀ V,Ext w1 V->V.cell? ⟨H,257,I⟩=J (U (J ⟨bn,on,I⟩) nx cn)/\V.cell? ⟨H,b,I⟩=J (iv cx)/\V.cell? ⟨T,257,I⟩=J (U (J ⟨bd,be,I⟩) ny b4)/\V.cell? ⟨T,b,I⟩=J (iv cy)/\V.cell? ⟨bn,on+s.p,I⟩=J (U (J ⟨br,or',I⟩) mx cr)/\V.cell? ⟨br,or'+cx,I⟩=J (iv X)/\V.cell? ⟨bd,be+s.q,I⟩=J (U (J ⟨bl,bm,I⟩) my b5)/\V.cell? ⟨bl,bm+cy,I⟩=J (iv q2)/\V.cell? ⟨W.heap.size,0,I⟩=J (iv s.p)/\V.cell? ⟨W.heap.size,1,I⟩=J (iv s.q):=
  λV E=>⟨E.cell a7,E.cell ac,E.cell b7,E.cell bc,E.cell ak,E.cell ad,E.cell an,E.cell ae,E.cell c0,E.cell c1⟩
 clear a7 ac b7 bc ak ad an ae c0 c1;have ca:=Z (XL (X:Int) (q2:Int));refine Bl 25 [(0,Α),(1,Α),(2,Α),(3,Α),(4,Α),(5,Α),(6,Α),(7,Α),(8,Α),(9,Α),(10,Α),(11,Α),(12,Α),(13,Α),(14,Α),(15,Α),(16,Α),(17,Α),(18,Α),(19,Α),(20,Α),(21,Α),(22,Α),(23,Α),(24,Α),(25,Ε)] (by kernel_rfl) (by kernel_rfl) (λ_ _ _ _ h=>h)
  (λV=>Ext w1 V) (Κ w1).drew ?_
 have au:=(Κ w1).drew;have aw:=au.heap H6;obtain⟨w2,ax⟩:=Xq (w1.drew);rw[ax] at au aw;rw[ax];clear ax H4 H6;iterate 24
  refine Af (v:=?_) rfl rfl (λV E=>?_) ?_
  rotate_left
  ·obtain⟨k0,k1,k2,k3,k4,k5,k6,k7,k8,k9⟩:=b9 V E;clear E;go_simp;first|done|with_reducible rfl
  simp only[η,Θ,Μ,Λ]
 refine Af (v:=.agg #[iv X,iv q2,.int ζ 0]) rfl rfl (λV _=>?_) ?_
 ·exact Fy 103 _ rfl (by simpa [á] using ca.o) V
 simp only[η,Θ,Μ,Λ];refine Ao rfl (λK hK=>?_);refine Ik 103 (δ 6) (δ 31) rfl rfl _ _ rfl rfl _ _ aw Ea rfl (by simp[ξ]) ?_;refine hK _ _ (λh=>absurd h (by omega)) ?_;clear hK K;refine Bj ?_;have cc:=(G.t au).setRow (show W.heap.size<=W.heap.size+1 by omega) #[iv X,iv q2,.int ζ 0];have H7:=Χ w2 _ _ #[iv X,iv q2,.int ζ 0] 103 (0,0) aw;go_wp2;refine ω (v:=.agg #[iv X,iv q2,.int ζ 0]) (Ì rfl _ _ _ _ _ _ _ rfl H7 Î rfl Ea) rfl ?_;exact⟨rfl,cc⟩
def I8 (gh:Nat) (g:Bool->Bool->Bool):Prop:=∀ (W:Γ) (x y:Bool),ϛ Η gh #[.bool x,.bool y] W λe w'=>e=Ψ (.bool (g x y))/\Ext W w'
theorem JW (x y:Tbl) (hx:TVal x) (hy:TVal y) (A B:Array Δ) (T X g5:Nat) (gh:Nat) (g:Bool->Bool->Bool) (hg:I8 gh g) (eh:∀ args w,(callFunc gh args).run Η w=.ok (.enter gh args) w) (w:Γ) (hA:IsT w A x) (hB:IsT w B y)
  (ad:w.heap[T]? = J (Β A 84 (0,0))) (ae:w.heap[X]? = J (Β B 84 (0,0))) (aw:w.heap[g5]? = J (Β #[.func (.func gh) #[] #[]] 88 (0,0))) :
  O9 w 92 #[ε (J ⟨g5,0,I⟩),ε (J ⟨T,0,I⟩),ε (J ⟨X,0,I⟩)] (pAc x y g) (Qo x y):=by
 intro W H s hs;obtain⟨hp,hq,-⟩:=hs;obtain⟨_,_,_,ba,oa,ca,_,_,_,_,_,az,_,a1⟩:=(hA.ext H).opened hx;obtain⟨_,_,_,a6,a7,bl,_,_,_,_,_,bc,_,bd⟩:=(hB.ext H).opened hy;have ad:=H.heap ad;have ae:=H.heap ae;have a8:=(Τ W T 258 _ _ _ ad).trans az;have b8:=(Τ W X 258 _ _ _ ae).trans bc;have f5:=(Τ W g5 0 _ _ _ (H.heap aw)).trans (show (#[.func (.func gh) #[] #[]]:Array Δ)[0]? = J (.func (.func gh) #[] #[]) from rfl);have aa:=a1 s.p hp;have bb:=bd s.q hq;show ϛ _ _ _ _ λe w'=>e=Ψ (.bool (g (x.ok s.p) (y.ok s.q)))/\Ext W w'
 have G:=(Κ W).alloc (Β #[iv s.p,iv s.q,.int ζ (s.s:Int)] 103);have H4:=Ad W (Β #[iv s.p,iv s.q,.int ζ (s.s:Int)] 103);clear hA hB hx hy az bc a1 bd ad ae aw;generalize x.ok s.p=p2 at *;generalize y.ok s.q=q2 at *;generalize x.n.length=nx at *;generalize y.n.length=ny at *;have HG:=Z (λV x y=>hg V x y);clear hg;go_enter Tryz.func92,Tryz.ntmps92;go_upto_region 1 with (fail)
 obtain⟨w1,ak⟩:=Xq (W.alloc (Β #[iv s.p,iv s.q,.int ζ (s.s:Int)] 103));rw[ak] at G H4;simp only[ak];clear ak;have a8:=G.cell a8;have b8:=G.cell b8;have f5:=G.cell f5;have aa:=G.cell aa;have bb:=G.cell bb;have c0:=(Τ w1 W.heap.size 0 _ _ _ H4).trans (show (#[iv s.p,iv s.q,.int ζ (s.s:Int)]:Array Δ)[0]? = J (iv s.p) from rfl);have c1:=(Τ w1 W.heap.size 1 _ _ _ H4).trans (show (#[iv s.p,iv s.q,.int ζ (s.s:Int)]:Array Δ)[1]? = J (iv s.q) from rfl);have bo:∀ V,Ext w1 V->V.cell? ⟨T,258,I⟩=J (U (J ⟨ba,oa,I⟩) nx ca)/\V.cell? ⟨X,258,I⟩=J (U (J ⟨a6,a7,I⟩) ny bl)/\V.cell? ⟨g5,0,I⟩=J (.func (.func gh) #[] #[])/\V.cell? ⟨ba,oa+s.p,I⟩=J (.bool p2)/\V.cell? ⟨a6,a7+s.q,I⟩=J (.bool q2)/\V.cell? ⟨W.heap.size,0,I⟩=J (iv s.p)/\V.cell? ⟨W.heap.size,1,I⟩=J (iv s.q):=
  λV E=>⟨E.cell a8,E.cell b8,E.cell f5,E.cell aa,E.cell bb,E.cell c0,E.cell c1⟩
 clear a8 b8 f5 aa bb c0 c1;refine Bl 14 [(0,Α),(1,Α),(2,Α),(3,Α),(4,Α),(5,Α),(6,Α),(7,Α),(8,Α),(9,Α),(10,Α),(11,Α),(12,Α),(13,Ε),(14,Ε)] (by kernel_rfl) (by kernel_rfl) (λ_ _ _ _ h=>h)
  (λV=>Ext w1 V) (Κ w1).drew ?_
 have an:=(Κ w1).drew;obtain⟨w2,ao⟩:=Xq (w1.drew);rw[ao] at an;rw[ao];clear ao H4;iterate 13
  refine Af (v:=?_) rfl rfl (λV E=>?_) ?_
  rotate_left
  ·obtain⟨k0,k1,k2,k3,k4,k5,k6⟩:=bo V E;clear E;go_simp;first|done|with_reducible rfl
  simp only[η,Θ,Μ,Λ]
 refine Ao rfl (λK hK=>?_);go_simp
 (with_reducible refine (HG.o w2 p2 q2).mono ?_)
 rintro e w3 ⟨rfl,bf⟩;refine hK _ _ (λ_=>an.t bf) ?_;clear hK K;refine Ao rfl (λK hK=>?_);go_simp;refine hK _ _ (λh=>absurd h (by omega)) ?_;clear hK K;refine Bj ?_;have bq:=(G.t an).trans bf;go_wp2;go_ret;exact⟨rfl,bq⟩
theorem LH:I8 100 (λx y=>x||y):=by
 intro W x y;go_enter Tryz.func100,Tryz.ntmps100;cases x<;>cases y
 all_goals
  go_wp2;go_ret;exact⟨rfl,Κ W⟩
theorem YR:I8 37 (λx y=>x&&y):=by
 intro W x y;go_enter Tryz.func37,Tryz.ntmps37;cases x<;>cases y
 all_goals
  go_wp2;go_ret;exact⟨rfl,Κ W⟩
open Go
section
variable {P:Program} {ops:Array Oper} {Q:Exit->Act->World->Prop} {n:Nat}
structure FInvR (ops:Array ϳ) (n:Nat) (F:Nat->Δ->Γ->Prop) (Ne:Nat->Nat->Δ->Δ->Prop) (a0:ø) (w1:Γ) (listed:Array Bool) (a:ø) (w:Γ):Prop where
 ext:Ext w1 w
 defers:a.defers=a0.defers
 size:a.tmps.size=a0.tmps.size
 done:∀ i o d,i<n->ops[i]? = J o->o.dst=J d->listed.getD i Ε=Α->F i (a.tmps.getD d Ω) w
 rest:∀ d,(∀ i o,i<n->ops[i]? = J o->listed.getD i Ε=Α->o.dst≠J d)->a.tmps.getD d Ω=a0.tmps.getD d Ω
 ne:∀ i j oi oj di dj,i<n->j<n->i≠j->ops[i]? = J oi->ops[j]? = J oj->oi.dst=J di->oj.dst=J dj->listed.getD i Ε=Α->listed.getD j Ε=Α->Ne i j (a.tmps.getD di Ω) (a.tmps.getD dj Ω)
theorem D6 (a:ø) (d e:Nat) (v:Δ) (h:d<a.tmps.size):(a.put (J d) v).tmps.getD e Ω=if e=d then v else a.tmps.getD e Ω:=by
 simp only[η,ϕ,Array.getElem?_setIfInBounds];by_cases hd:d=e
 ·subst hd;simp[h]
 simp[hd,Ne.symm hd]
theorem Nm (a:ø) (d:Nat) (v:Δ):(a.put (J d) v).tmps.size=a.tmps.size:=by simp[η]
def FOp (P:Þ) (ops:Array ϳ) (Q:Exit->ø->Γ->Prop) (n:Nat) (F:Nat->Δ->Γ->Prop) (Ne:Nat->Nat->Δ->Δ->Prop) (a0:ø) (w1:Γ) (i:Nat):Prop:=
 ∀ o d,ops[i]? = J o->o.dst=J d->∀ a w,Ext w1 w->a.defers=a0.defers->a.tmps.size=a0.tmps.size->(∀ j oj dj,j<n->ops[j]? = J oj->oj.dst=J dj->(∃ e∈o.after,Region.binds .any e=Α/\e.on=j)->F j (a.tmps.getD dj Ω) w)->(∀ e,(∀ j oj,j<n->ops[j]? = J oj->oj.dst≠J e)->a.tmps.getD e Ω=a0.tmps.getD e Ω)->ϧ o (ü ops a.tmps)=Α/\o.wp P a w (λE w'=>∃ v,E=a.put (J d) v/\Ext w w'/\F i v w'/\∀ j u,j<n->j≠i->F j u w->Ne i j v u) Q
def E6 (ops:Array ϳ) (n:Nat) (sz:Nat):Bool:=(π n).all λi=>match ops[i]? with
 | none=>Ε
 | some o=>match o.dst with
  | none=>Ε
  | some d=>decide (d<sz)&&(π n).all λj=>decide (j=i)||match ops[j]? with|none=>Ε|some oj=>decide (oj.dst≠J d)
theorem Iz {sz:Nat} (h:E6 ops n sz=Α) (i:Nat) (hi:i<n):∃ o d,ops[i]? = J o/\o.dst=J d/\d<sz/\∀ j oj,j<n->j≠i->ops[j]? = J oj->oj.dst≠J d:=by
 unfold E6 at h;rw[Í] at h;have h1:=h i (ϔ.2 hi);cases G:ops[i]? with
 | none=>rw[G] at h1;cases h1
 | some o=>
  rw[G] at h1;simp only at h1;cases hd:o.dst with
  | none=>rw[hd] at h1;cases h1
  | some d=>
   rw[hd] at h1;simp only[ψ,decide_eq_true_eq,Í,Û,ϔ] at h1;refine⟨o,d,rfl,hd,h1.1,λj oj H T X=>?_⟩;rcases h1.2 j H with E|E
   ·exact absurd E T
   rw[X] at E
   simpa using E
theorem Zz {F:Nat->Δ->Γ->Prop} {Ne:Nat->Nat->Δ->Δ->Prop} (a8:∀ i j v u,Ne i j v u->Ne j i u v) (hF:∀ i v w w',F i v w->Ext w w'->F i v w') {a0:ø} {w1:Γ} {sz:Nat} (bb:a0.tmps.size=sz) (hd:E6 ops n sz=Α) {listed:Array Bool} {a:ø} {w:Γ} (X:FInvR ops n F Ne a0 w1 listed a w)
  {i:Nat} (hi:i∈ϻ .any ops listed) (aq:i<n) (H:FOp P ops Q n F Ne a0 w1 i):∃ o,ops[i]? = J o/\ϧ o (ü ops a.tmps)=Α/\o.wp P a w (λa' w'=>FInvR ops n F Ne a0 w1 (listed.setIfInBounds i Α) a' w') Q:=by
 obtain⟨o,d,ho,ak,bc,au⟩:=Iz hd i aq;obtain⟨bd,o',an,be⟩:=mem_ready.1 hi;rw[ho] at an;injection an with an
 subst an;have aw:i<listed.size:=by
  rcases Nat.lt_or_ge i listed.size with h|h
  ·exact h
  simp[Array.getElem?_eq_none h] at bd
 have hg:∀ j,(listed.setIfInBounds i Α).getD j Ε=Α->j=i\/listed.getD j Ε=Α:=λj G=>by
  by_cases e:i=j
  ·exact .inl e.symm
  rw[getD_set_ne Ε e] at G;exact .inr G
 obtain⟨hw,bg⟩:=H o d ho ak a w X.ext X.defers X.size (λj oj dj G E T ⟨e,he,hb,bh⟩=>X.done j oj dj G E T (by rw[<-bh];exact be e he hb)) (λe he=>X.rest e λj oj G E _=>he j oj G E);refine⟨o,ho,hw,ϳ.wp_mono (λa' w' h=>?_) bg⟩;obtain⟨v,rfl,hE,hv,ay⟩:=h;have ao:d<a.tmps.size:=by rw[X.size,bb];exact bc
 refine⟨X.ext.trans hE,X.defers,by rw[Nm];exact X.size,λj oj dj G E T af=>?_,λe he=>?_,λj k oj ok dj dk G hk az E ah T ai af a1=>?_⟩
 ·rw[D6 _ _ _ _ ao];by_cases e:j=i
  ·subst e;rw[ho] at E;injection E with E
   subst E;rw[ak] at T;injection T with T
   rw[if_pos T.symm];exact hv
  rw[if_neg (λh=>au j oj G e E (by rw[T,h]))];rcases hg j af with h|h
  ·exact absurd h e
  exact hF _ _ _ _ (X.done j oj dj G E T h) hE
 ·rw[D6 _ _ _ _ ao];have bk:e≠d:=λh=>he i o aq ho (by simp[aw]) (by rw[ak,h])
  rw[if_neg bk];refine X.rest e λj oj G E af=>he j oj G E ?_
  by_cases e':i=j
  ·subst e';simp[aw]
  rw[getD_set_ne Ε e'];exact af
 rw[D6 _ _ _ _ ao,D6 _ _ _ _ ao];have aj:∀ j oj dj,j<n->ops[j]? = J oj->oj.dst=J dj->(j=i->dj=d)/\(j≠i->dj≠d):=λj oj dj G E T=>by
  constructor
  ·rintro rfl;rw[ho] at E;injection E with E
   subst E;rw[ak] at T;injection T with T
   exact T.symm
  intro e h;exact au j oj G e E (by rw[T,h])
 by_cases e1:j=i
 ·have e2:k≠i:=λh=>az (by rw[e1,h])
  rw[if_pos ((aj j oj dj G E T).1 e1),if_neg ((aj k ok dk hk ah ai).2 e2)];rcases hg k a1 with h|h
  ·exact absurd h e2
  rw[e1];exact ay k _ hk e2 (X.done k ok dk hk ah ai h)
 rw[if_neg ((aj j oj dj G E T).2 e1)];rcases hg j af with h|a7
 ·exact absurd h e1
 by_cases e2:k=i
 ·rw[if_pos ((aj k ok dk hk ah ai).1 e2)];rw[e2];exact a8 _ _ _ _ (ay j _ G e1 (X.done j oj dj G E T a7))
 rw[if_neg ((aj k ok dk hk ah ai).2 e2)];rcases hg k a1 with h|bl
 ·exact absurd h e2
 exact X.ne j k oj ok dj dk G hk az E ah T ai a7 bl
theorem Z0 {F:Nat->Δ->Γ->Prop} {Ne:Nat->Nat->Δ->Δ->Prop} (E:∀ i j v u,Ne i j v u->Ne j i u v) (G:∀ i v w w',F i v w->Ext w w'->F i v w') {a0:ø} {w1:Γ} {sz:Nat} (T:a0.tmps.size=sz) (hd:E6 ops n sz=Α) {listed:Array Bool} {a:ø} {w:Γ} (X:FInvR ops n F Ne a0 w1 listed a w)
  {i:Nat} (hi:i∈ϻ .any ops listed) (aa:i<n) (H:FOp P ops Q n F Ne a0 w1 i):wpOp P ops Q i (λa' w'=>FInvR ops n F Ne a0 w1 (listed.setIfInBounds i Α) a' w') a w:=by
 obtain⟨o,ho,hw,h⟩:=Zz E G T hd X hi aa H;unfold wpOp;rw[ho];simp only[hw,if_true];exact .inl h
def Bq (ops:Array ϳ) (vs:Nat->Δ):Nat->ø->ø
 | 0,a=>a
 | k+1,a=>(Bq ops vs k a).put ((ops[k]?).bind (·.dst)) (vs k)
theorem Lj (vs:Nat->Δ) (a:ø):∀ k,(Bq ops vs k a).tmps.size=a.tmps.size/\(Bq ops vs k a).defers=a.defers
 | 0=>⟨rfl,rfl⟩
 | k+1=>by
  obtain⟨h1,E⟩:=Lj vs a k;unfold Bq;cases (ops[k]?).bind (·.dst) with
  | none=>exact⟨h1,E⟩
  | some d=>exact⟨by rw[Nm];exact h1,E⟩
theorem Wk {sz:Nat} (hd:E6 ops n sz=Α) (a a0:ø) (ab:a0.tmps.size=sz) (vs:Nat->Δ) (ad:∀ i o d,i<n->ops[i]? = J o->o.dst=J d->vs i=a.tmps.getD d Ω) (hr:∀ e,(∀ i o,i<n->ops[i]? = J o->o.dst≠J e)->a.tmps.getD e Ω=a0.tmps.getD e Ω) (e:Nat):∀ k,k<=n->((∃ i o,i<k/\ops[i]? = J o/\o.dst=J e)->(Bq ops vs k a0).tmps.getD e Ω=a.tmps.getD e Ω)/\((∀ i o,i<k->ops[i]? = J o->o.dst≠J e)->(Bq ops vs k a0).tmps.getD e Ω=a0.tmps.getD e Ω)
 | 0,_=>⟨fun⟨i,o,h,_⟩=>by omega,λ_=>rfl⟩
 | k+1,hk=>by
  obtain⟨h1,h2⟩:=Wk hd a a0 ab vs ad hr e k (by omega);obtain⟨o,d,H,T,ag,ao⟩:=Iz hd k (by omega);have ah:Bq ops vs (k+1) a0=(Bq ops vs k a0).put (J d) (vs k):=by show (Bq ops vs k a0).put ((ops[k]?).bind (·.dst)) (vs k)=_;rw[H];show (Bq ops vs k a0).put o.dst (vs k)=_;rw[T]
  rw[ah,D6 _ _ _ _ (by rw[(Lj vs a0 k).1,ab];exact ag)];constructor
  ·rintro⟨i,o',hi,E,G⟩;by_cases X:e=d
   ·rw[if_pos X,ad k o d (by omega) H T,X]
   rw[if_neg X];refine h1 ⟨i,o',?_,E,G⟩;by_cases ai:i=k
   ·subst ai;rw[H] at E;injection E with E
    subst E;rw[T] at G;injection G with G
    exact absurd G.symm X
   omega
  intro h;have aj:e≠d:=λh'=>h k o (by omega) H (by rw[T,h'])
  rw[if_neg aj];exact h2 λi o' hi=>h i o' (by omega)
theorem R7 {F:Nat->Δ->Γ->Prop} {Ne:Nat->Nat->Δ->Δ->Prop} {a0:ø} {w1:Γ} {sz:Nat} (aj:a0.tmps.size=sz) (hd:E6 ops n sz=Α) {listed:Array Bool} {a:ø} {w:Γ} (H:FInvR ops n F Ne a0 w1 listed a w) (T:∀ i,i<n->listed.getD i Ε=Α) :
  ∃ vs:Nat->Δ,a=Bq ops vs n a0/\(∀ i,i<n->F i (vs i) w)/\∀ i j,i<n->j<n->i≠j->Ne i j (vs i) (vs j):=by
 refine⟨λi=>a.tmps.getD (((ops[i]?).bind (·.dst)).getD 0) Ω,?_,λi hi=>?_,λi j hi X ak=>?_⟩
 ·have hr:∀ e,(∀ i o,i<n->ops[i]? = J o->o.dst≠J e)->a.tmps.getD e Ω=a0.tmps.getD e Ω:=λe he=>H.rest e λi o hi E _=>he i o hi E
  have hg:=λe=>Wk hd a a0 aj (λi=>a.tmps.getD (((ops[i]?).bind (·.dst)).getD 0) Ω) (λi o d hi E G=>by show a.tmps.getD (((ops[i]?).bind (·.dst)).getD 0) Ω=_;rw[E];show a.tmps.getD (o.dst.getD 0) Ω=_;rw[G];rfl) hr e n (Υ _)
  obtain⟨s1,s2⟩:=Lj (ops:=ops) (λi=>a.tmps.getD (((ops[i]?).bind (·.dst)).getD 0) Ω) a0 n;have ht:a.tmps=(Bq ops (λi=>a.tmps.getD (((ops[i]?).bind (·.dst)).getD 0) Ω) n a0).tmps:=by
   apply Array.ext
   ·rw[s1,H.size]
   intro e h1 h2;have he:a.tmps.getD e Ω=(Bq ops (λi=>a.tmps.getD (((ops[i]?).bind (·.dst)).getD 0) Ω) n a0).tmps.getD e Ω:=by
    obtain⟨g1,g2⟩:=hg e;by_cases ae:∃ i o,i<n/\ops[i]? = J o/\o.dst=J e
    ·exact (g1 ae).symm
    have af:∀ i o,i<n->ops[i]? = J o->o.dst≠J e:=λi o hi E aw=>ae ⟨i,o,hi,E,aw⟩
    rw[g2 af];exact hr e af
   rw[ϕ,ϕ,Ϛ h1,Ϛ h2] at he;exact he
  have aa:=H.defers;rw[<-s2] at aa;generalize Bq ops (λi=>a.tmps.getD (((ops[i]?).bind (·.dst)).getD 0) Ω) n a0=b at *;cases a;cases b
  simp only at ht aa;rw[ht,aa]
 ·obtain⟨o,d,E,G,_,_⟩:=Iz hd i hi;have:=H.done i o d hi E G (T i hi);show F i (a.tmps.getD (((ops[i]?).bind (·.dst)).getD 0) Ω) w;rw[E];show F i (a.tmps.getD (o.dst.getD 0) Ω) w;rw[G];exact this
 obtain⟨o,d,E,G,_,_⟩:=Iz hd i hi;obtain⟨o',d',ah,ai,_,_⟩:=Iz hd j X;have:=H.ne i j o o' d d' hi X ak E ah G ai (T i hi) (T j X);show Ne i j (a.tmps.getD (((ops[i]?).bind (·.dst)).getD 0) Ω) (a.tmps.getD (((ops[j]?).bind (·.dst)).getD 0) Ω);rw[E,ah];show Ne i j (a.tmps.getD (o.dst.getD 0) Ω) (a.tmps.getD (o'.dst.getD 0) Ω);rw[G,ai];exact this
def Fn (ops:Array ϳ) (n:Nat):Bool:=(π n).all λi=>match ops[i]? with|none=>Ε|some o=>o.after.all λe=>!Region.binds .any e||decide (e.on<i)
def unl (n:Nat) (listed:Array Bool):Nat:=((π n).filter λi=>!listed.getD i Ε).length
theorem L3 (E:Fn ops n=Α) {listed:Array Bool} (aa:listed.size=ops.size) (hn:n<=ops.size):∀ k,k<n->(∀ j,j<k->listed.getD j Ε=Α)->listed.getD k Ε=Ε->k∈ϻ .any ops listed:=by
 intro k T X H;unfold Fn at E;rw[Í] at E;have h1:=E k (ϔ.2 T);cases G:ops[k]? with
 | none=>rw[G] at h1;cases h1
 | some o=>
  rw[G] at h1;refine mem_ready.2 ⟨?_,o,G,λe he hb=>?_⟩
  ·have:k<listed.size:=by omega
   rw[ϕ,Ϛ this] at H ⊢;exact H
  have:=(Array.all_eq_true'.1 h1) e he;rw[Û] at this;rcases this with h|h
  ·rw[hb] at h;cases h
  exact X _ (of_decide_eq_true h)
theorem Fq (n:Nat) (listed:Array Bool):unl (n+1) listed=unl n listed+if listed.getD n Ε then 0 else 1:=by
 unfold unl;rw[List.range_succ,List.filter_append,Ν];cases h:listed.getD n Ε
 ·simp only[List.filter_cons,List.filter_nil,h,Bool.not_false,if_true,Ó,if_false];rfl
 simp only[List.filter_cons,List.filter_nil,h,Bool.not_true,if_true,Ó,if_false];rfl
theorem Um:∀ (n:Nat) (listed:Array Bool) (i:Nat),n<=i->unl n (listed.setIfInBounds i Α)=unl n listed
 | 0,_,_,_=>rfl
 | n+1,listed,i,h=>by rw[Fq,Fq,Um n listed i (by omega),getD_set_ne Ε (by omega)]
theorem I9:∀ (n:Nat) (listed:Array Bool) (i:Nat),i<n->i<listed.size->listed.getD i Ε=Ε->unl n (listed.setIfInBounds i Α)+1=unl n listed
 | 0,_,_,h,_,_=>by omega
 | n+1,listed,i,h,E,hu=>by
  rw[Fq,Fq];by_cases e:i=n
  ·subst e;rw[Um _ _ _ (Υ _),hu];have:(listed.setIfInBounds i Α).getD i Ε=Α:=by simp[E]
   rw[this];simp
  have:=I9 n listed i (by omega) E hu;rw[getD_set_ne Ε e];omega
theorem Ib:∀ (n:Nat) (listed:Array Bool),unl n listed=0->∀ i,i<n->listed.getD i Ε=Α
 | 0,_,_,_,h=>by omega
 | n+1,listed,h,i,hi=>by
  rw[Fq] at h;by_cases e:i=n
  ·subst e;cases hb:listed.getD i Ε
   ·rw[hb] at h;simp at h
   rfl
  exact Ib n listed (by omega) i (by omega)
theorem J0:∀ (n:Nat) (listed:Array Bool),unl n listed≠0->∃ k,k<n/\listed.getD k Ε=Ε/\∀ j,j<k->listed.getD j Ε=Α
 | 0,_,h=>absurd rfl h
 | n+1,listed,h=>by
  by_cases h0:unl n listed=0
  ·refine⟨n,by omega,?_,Ib n listed h0⟩;rw[Fq,h0] at h;cases hb:listed.getD n Ε
   ·rfl
   rw[hb] at h;simp at h
  obtain⟨k,h1,E,G⟩:=J0 n listed h0;exact⟨k,by omega,E,G⟩
theorem Zv {F:Nat->Δ->Γ->Prop} {Ne:Nat->Nat->Δ->Δ->Prop} (X:∀ i j v u,Ne i j v u->Ne j i u v) (hF:∀ i v w w',F i v w->Ext w w'->F i v w') {a0:ø} {w1:Γ} {sz g:Nat} (ab:a0.tmps.size=sz) (hd:E6 ops n sz=Α) (hs:Region.sinkB .any ops n=Α) (hc:Region.chainB .any ops n=Α) (hn:n<ops.size) (hE:Fn ops n=Α)
  (ag:∀ i,i<n->FOp P ops Q n F Ne a0 w1 i) (ah:∀ listed a w,HeadInv .any ops n listed->(∀ i,i<n->listed.getD i Ε=Α)->FInvR ops n F Ne a0 w1 listed a w->wpAny P .any ops Q g listed a w) :
  ∀ (f:Nat) (listed:Array Bool) (a:ø) (w:Γ),HeadInv .any ops n listed->FInvR ops n F Ne a0 w1 listed a w->unl n listed=f->wpAny P .any ops Q (f+g) listed a w
 | 0,listed,a,w,E,H,hu=>by rw[Nat.zero_add];exact ah listed a w E (Ib n listed hu) H
 | f+1,listed,a,w,E,H,hu=>by
  obtain⟨k,hk,an,ao⟩:=J0 n listed (by omega);have T:=L3 hE E.size (by omega) k hk ao an;have aq:=(mem_ready.1 T).1;rw[show f+1+g=(f+g)+1 by omega];refine⟨λh0=>(by rw[h0] at T;cases T),λi hi=>?_⟩;have G:i<n:=Nat.lt_of_not_le λh=>tail_waits hs hc hn E _ k rfl hk aq i h hi
  have aj:=(mem_ready.1 hi).1;have ak:i<listed.size:=by rw[E.size];omega
  have ar:listed.getD i Ε=Ε:=by rw[ϕ,Ϛ ak] at aj ⊢;exact aj
  refine wpOp_mono (λa' w' h=>Zv X hF ab hd hs hc hn hE ag ah f _ a' w' (E.set hi G) h ?_) (Z0 X hF ab hd H hi G (ag i G));have:=I9 n listed i G ak ar;omega
def Ew (m n:Nat):Array Bool:=((π m).map λi=>decide (i<n)).toArray
def Oh (ops:Array ϳ) (n sz:Nat):Bool:=
 E6 ops n sz&&Region.sinkB .any ops n&&Region.chainB .any ops n&&decide (n<ops.size)&&Fn ops n&&Region.seqB .any ops (ops.size-n) n (Ew ops.size n)
theorem Ia {id:Nat} {l:List ϳ} {a0:ø} {w:Γ} (n sz:Nat) (hm:P.follows .mixedOrders=Α) (T:Oh l.toArray n sz=Α) (X:a0.tmps.size=sz) (F:Nat->Δ->Γ->Prop) (Ne:Nat->Nat->Δ->Δ->Prop) (af:∀ i j v u,Ne i j v u->Ne j i u v) (hF:∀ i v w w',F i v w->Ext w w'->F i v w')
  (ah:∀ i,i<n->FOp P l.toArray Q n F Ne a0 w.drew i) (ai:∀ (vs:Nat->Δ) (w':Γ),Ext w.drew w'->(∀ i,i<n->F i (vs i) w')->(∀ i j,i<n->j<n->i≠j->Ne i j (vs i) (vs j))->wpList P l.toArray Q (l.drop n) (Bq l.toArray vs n a0) w'):(Code.region id l.toArray Α).wp P Q a0 w:=by
 simp only[Oh,ψ,decide_eq_true_eq] at T;obtain⟨⟨⟨⟨⟨hd,hs⟩,hc⟩,hn⟩,hE⟩,ab⟩:=T;refine wp_region_any hm ?_;have an:HeadInv .any l.toArray n (í l.toArray.size Ε):=
  ⟨by simp,λj oj _ E=>(by rw[Ϡ] at E;cases E),λt _ ht=>getD_in (by simpa using ht) (Ϡ _ _)⟩
 have aq:FInvR l.toArray n F Ne a0 w.drew (í l.toArray.size Ε) a0 w.drew:=
  ⟨Κ _,rfl,rfl,λi o d _ _ _ E=>(by rw[Ϡ] at E;cases E),λd _=>rfl,λi j _ _ _ _ _ _ _ _ _ _ _ E=>(by rw[Ϡ] at E;cases E)⟩
 have hu:∀ m,unl m (í l.toArray.size Ε)=m:=λm=>by
  induction m with
  | zero=>rfl
  | succ m ih=>rw[Fq,ih,Ϡ];simp
 have H:=Zv (P:=P) (Q:=Q) (g:=(l.drop n).length) af hF X hd hs hc hn hE ah (λlisted a w' G ad hI=>by
  obtain⟨vs,rfl,hv,aw⟩:=R7 X hd hI ad;have hL:listed=Ew l.toArray.size n:=by
   apply Array.ext
   ·rw[G.size];simp[Ew]
   intro i h1 h2;have h3:(Ew l.toArray.size n)[i]=decide (i<n):=by simp[Ew]
   rw[h3];by_cases hi:i<n
   ·have:=ad i hi;rw[ϕ,Ϛ h1] at this;simp only[ϱ] at this;rw[this];simp[hi]
   have:=G.tail i (by omega) (by rw[<-G.size];exact h1);rw[ϕ,Ϛ h1] at this;simp only[ϱ] at this;rw[this];simp[hi]
  have az:l.toArray.size-n=(l.drop n).length:=by simp
  rw[az] at ab;exact wpAny_of_seq (l.drop n) n listed _ w' (λj=>by simp[List.getElem?_drop]) (by rw[hL];exact ab) (ai vs w' hI.ext hv aw)) n _ a0 w.drew an aq (hu n)
 have e:n+(l.drop n).length=l.toArray.size:=by
  have:n<l.length:=by simpa using hn
  simp;omega
 rw[e] at H;exact H
/-! ### As it is used -/
def Nu (ops:Array ϳ) (n e:Nat):Bool:=(π n).all λj=>match ops[j]? with|none=>Α|some oj=>decide (oj.dst≠J e)
def Gt (ops:Array ϳ) (n i j dj:Nat):Bool:=decide (j<n)&&(match ops[j]? with|some oj=>decide (oj.dst=J dj)|none=>Ε)&&Region.waitsFor .any ops i j
theorem Ap {F:Nat->Δ->Γ->Prop} {Ne:Nat->Nat->Δ->Δ->Prop} {a0:ø} {w1:Γ} {i:Nat} (o:ϳ) (d:Tmp) (h0:ops.toList[i]? = J o) (hd:o.dst=J d) (hg:o.guard=I)
  (H:∀ a w,Ext w1 w->(∀ j dj,Gt ops n i j dj=Α->F j (a.tmps.getD dj Ω) w)->(∀ e,Nu ops n e=Α->a.tmps.getD e Ω=a0.tmps.getD e Ω)->
   o.wp P a w (λa' w'=>∃ v,a'=a.put (J d) v/\Ext w w'/\F i v w'/\∀ j u,j<n->j≠i->F j u w->Ne i j v u) Q):FOp P ops Q n F Ne a0 w1 i:=by
 intro o' d' G T a w hE _ _ ae af;rw[<-Ç,h0] at G;injection G with G
 subst G;rw[hd] at T;injection T with T
 subst T;refine⟨by simp[ϧ,hg],H a w hE (λj dj h=>?_) (λe h=>af e λj oj hj E=>?_)⟩
 ·unfold Gt at h;simp only[ψ,decide_eq_true_eq] at h;obtain⟨⟨hj,h1⟩,h2⟩:=h;cases E:ops[j]? with
  | none=>rw[E] at h1;cases h1
  | some oj=>
   rw[E] at h1;obtain⟨oi,X,e,he,hb,ah⟩:=Region.waitsFor_spec h2;rw[<-Ç,h0] at X;injection X with X
   subst X;exact ae j oj dj hj E (of_decide_eq_true h1) ⟨e,he,hb,ah⟩
 unfold Nu at h;rw[Í] at h;have:=h j (ϔ.2 hj);rw[E] at this
 simpa using this
theorem Cr {o:ϳ} {a:ø} {w w':Γ} {v:Δ} {next:ø->Γ->Prop} (h:(ê a.eval o).run P w=.ok (.value v) w') (E:next (a.put o.dst v) w'):o.wp P a w next Q:=by unfold ϳ.wp;rw[h];exact E
end
def Qk (w0:Γ) (E:Nat) (G vb:Array Δ) (a b:Dfa):Nat->Δ->Γ->Prop
 | 0,v,_=>v=.agg G
 | 1,v,_=>∃ A,v=.agg A/\IsT w0 A (Ai a)
 | 2,v,_=>v=.agg vb
 | 3,v,_=>∃ B,v=.agg B/\IsT w0 B (Ai b)
 | _,v,W=>∃ g,v=ε (J ⟨g,0,I⟩)/\W.heap[g]? = J (Β γ 84 (0,0))/\E<=g
def Qj (i j:Nat) (v u:Δ):Prop:=(i=4/\j=5\/i=5/\j=4)->v≠u
theorem JY (i j:Nat) (v u:Δ) (h:Qj i j v u):Qj j i u v:=λE=>(h (by omega)).symm
theorem JZ (w0:Γ) (E:Nat) (G vb:Array Δ) (a b:Dfa):∀ (i:Nat) (v:Δ) (w w':Γ),Qk w0 E G vb a b i v w->Ext w w'->Qk w0 E G vb a b i v w'
 | 0,_,_,_,h,_=>h
 | 1,_,_,_,h,_=>h
 | 2,_,_,_,h,_=>h
 | 3,_,_,_,h,_=>h
 | _+4,_,_,_,⟨g,h1,H,T⟩,X=>⟨g,h1,X.heap H,T⟩
theorem Qp (x y:Tbl):∀ (w:List UInt8) (p q:Nat),Aq (pNx x y) ⟨p,q,0⟩ w=⟨x.run p w,y.run q w,0⟩
 | [],_,_=>rfl
 | b::w,p,q=>Qp x y w (x.stp p b.toNat) (y.stp q b.toNat)
theorem Ext.setRow_both {a b:Γ} (h:Ext a b) {g:Nat} {E:Array Δ} {e:ϡ} {fr:Nat × Nat} (hg:a.heap[g]? = J (Β E e fr)) (cs:Array Δ):Ext (a.setRow g cs) (b.setRow g cs):=by
 have hb:=h.heap hg;refine⟨⟨h.below.os,h.below.tape,h.below.output,by rw[ù,ù];exact h.size,λk H=>?_⟩⟩;rw[ù] at H;by_cases G:k=g
 ·subst G;rw[Χ b k E cs e fr hb,Χ a k E cs e fr hg]
 rw[setRow_other b g k cs G,setRow_other a g k cs G];exact h.block H
def O3 (n m:Nat):List Sta:=(box n m).map λp=>⟨p.1,p.2,0⟩
theorem CI (n m:Nat):(O3 n m).length=n*m:=by rw[O3,ι,Tr]
theorem Wz {x y:Tbl} (hx:TVal x) (E:TVal y) (w:List UInt8):Aq (pNx x y) ⟨0,0,0⟩ w∈O3 x.n.length y.n.length:=by rw[Qp];exact List.mem_map.2 ⟨(x.run 0 w,y.run 0 w),Tq (hx.run_lt w hx.pos) (E.run_lt w E.pos),rfl⟩
theorem JX {x y:Tbl} (hx:TVal x) (G:TVal y) {c:Nat->Nat} {bs:List Nat} (E:Joint x.cell y.cell c bs) {g:Bool->Bool->Bool} {l:List Sta} {t:Tbl} (h:Expl c bs ⟨0,0,0⟩ (pNx x y) (pAc x y g) l t) :
  TVal t/\t.n.length<=x.n.length*y.n.length/\∀ u,t.has u=g (x.has u) (y.has u):=by
 refine⟨h.tval E,?_,λu=>?_⟩
 ·rw[h.len,<-CI];refine D8 l _ h.nodup λs H=>?_
  obtain⟨i,hi⟩:=List.getElem?_of_mem H;obtain⟨w,rfl⟩:=h.reach i s hi;exact Wz hx G w
 rw[h.has E (λs k T=>?_) u,Qp]
 ·rfl
 obtain⟨_,h1,X⟩:=E.rep k T;unfold pNx Tbl.stp;rw[h1,X]
theorem Wo (a b:Dfa) (ha:Val a) (hb:Val b) (ek:a.n.length<=64) (en:b.n.length<=64) (gh:Nat) (g:Bool->Bool->Bool) (hg:I8 gh g) (eh:∀ args w,(callFunc gh args).run Η w=.ok (.enter gh args) w) (va vb:Δ) (w:Γ) (hT:Tab w) (a6:0<w.heap.size) (bl:IsD w va a) (bm:IsD w vb b) :
  ϛ Η 66 #[va,vb,.func (.func gh) #[] #[]] w λe w'=>∃ A t,e=Ψ (.agg A)/\IsT w' A t/\TVal t/\t.n.length<=4096/\(∀ u,t.has u=g (a.has u) (b.has u))/\Ext w w':=by
 have cy:=Z bl;have cz:=Z bm;have ab:=Z ha;have ad:=Z hb;have HG:=Z hg;obtain⟨ac,lc,cc,an,cn,aa,la,ca,rfl⟩:=bl.agg;obtain⟨e0,e1,e2,e3,e4,e5,e6,e7,rfl⟩:=bm.agg;have c3:=λW (E:Ext w W)=>Z (K8 a ha _ w W E (hT.below E.below a6) (Ξ a6 E.size) cy.o)
 have c4:=λW (E:Ext w W)=>Z (K8 b hb _ w W E (hT.below E.below a6) (Ξ a6 E.size) cz.o)
 obtain⟨G,a7⟩:=Xq (dA (U ac lc cc) (U an a.n.length cn) (U aa la ca));obtain⟨H,a8⟩:=Xq (dA (U e0 e1 e2) (U e3 b.n.length e4) (U e5 e6 e7));have e8:(Η.info? 40).map (·.size)=J G.size:=by rw[<-a7];exact Ae
 have e9:(Η.info? 40).map (·.size)=J H.size:=by rw[<-a8];exact Ae
 rw[a7] at c3 cy;rw[a8] at c4 cz;rw[a7,a8];have ba:=((((Κ w).alloc (Β G 40)).alloc (Β H 40)).alloc (Β #[.func (.func gh) #[] #[]] 88)).alloc (Β γ 84);have H3:=Ah (Ah (Ah (Ad w (Β G 40)) (Β H 40)) (Β #[.func (.func gh) #[] #[]] 88)) (Β γ 84);have H4:=Ah (Ah (ϒ w (Β G 40) (Β H 40)) (Β #[.func (.func gh) #[] #[]] 88)) (Β γ 84);have H5:=Ah (Ad ((w.alloc (Β G 40)).alloc (Β H 40)) (Β #[.func (.func gh) #[] #[]] 88)) (Β γ 84);have H6:=Ad (((w.alloc (Β G 40)).alloc (Β H 40)).alloc (Β #[.func (.func gh) #[] #[]] 88)) (Β γ 84);rw[Ρ,Ρ] at H5;rw[Ρ,Ρ,Ρ] at H6;clear bl bm ha hb hg hT a7 a8;go_enter Tryz.func66,Tryz.ntmps66;go_upto_region 1 with (fail)
 obtain⟨w1,bd⟩:=Xq ((((w.alloc (Β G 40)).alloc (Β H 40)).alloc (Β #[.func (.func gh) #[] #[]] 88)).alloc (Β γ 84));have gj:w.heap.size+1+1+1<w1.heap.size:=by rw[<-bd,Ρ,Ρ,Ρ,Ρ];omega
 rw[bd] at ba H3 H4 H5 H6;simp only[bd];clear bd;have fa:=Z H3;have fb:=Z H4;have fc:=Z H5;have fe:=Z H6;clear H3 H4 H5 H6;refine Ia 6 35 (by kernel_rfl) (by kernel_rfl) rfl (Qk w w1.heap.size G H a b) Qj JY (JZ w w1.heap.size G H a b) (λi hi=>?_) (λvs w2 c5 hF hN=>?_)
 ·have ao:=(Κ w1).drew
  match i,hi with
  | 0,_=>
   refine Ap _ _ rfl rfl rfl λc W E ah ai=>?_
   have h3:=ai 3 (by kernel_rfl);refine Cr (Em 40 (δ 3) rfl w.heap.size h3 _ _ _ _ ((ao.t E).heap fa.o) Ο rfl e8) ?_;exact⟨_,rfl,Κ W,rfl,λj u _ _ _ h=>by omega⟩
  | 2,_=>
   refine Ap _ _ rfl rfl rfl λc W E ah ai=>?_
   have h3:=ai 4 (by kernel_rfl);refine Cr (Em 40 (δ 4) rfl (w.heap.size+1) h3 _ _ _ _ ((ao.t E).heap fb.o) Ο rfl e9) ?_;exact⟨_,rfl,Κ W,rfl,λj u _ _ _ h=>by omega⟩
  | 1,_=>
   refine Ap _ _ rfl rfl rfl λc W E ah ai=>?_
   have gk:c.tmps.getD 14 Ω=.agg G:=ah 0 14 (by kernel_rfl);go_simp
   (with_reducible refine (c3 W (ba.t (ao.t E))).o.mono ?_)
   rintro e W' ⟨A,rfl,hA,hE⟩;exact⟨_,rfl,hE,⟨A,rfl,hA⟩,λj u _ _ _ h=>by omega⟩
  | 3,_=>
   refine Ap _ _ rfl rfl rfl λc W E ah ai=>?_
   have gl:c.tmps.getD 16 Ω=.agg H:=ah 2 16 (by kernel_rfl);go_simp
   (with_reducible refine (c4 W (ba.t (ao.t E))).o.mono ?_)
   rintro e W' ⟨A,rfl,hA,hE⟩;exact⟨_,rfl,hE,⟨A,rfl,hA⟩,λj u _ _ _ h=>by omega⟩
  | 4,_=>
   refine Ap _ _ rfl rfl rfl λc W E ah ai=>?_
   go_simp;refine⟨_,rfl,(Κ W).alloc _,⟨_,rfl,Ad W _,(ao.t E).size⟩,λj u _ _ hu h=>?_⟩;obtain rfl:j=5:=by omega
   obtain⟨g',rfl,br,-⟩:=hu;intro e;have:W.heap.size=g':=by simpa using e
   have:=Al br;omega
  | 5,_=>
   refine Ap _ _ rfl rfl rfl λc W E ah ai=>?_
   go_simp;refine⟨_,rfl,(Κ W).alloc _,⟨_,rfl,Ad W _,(ao.t E).size⟩,λj u _ _ hu h=>?_⟩;obtain rfl:j=4:=by omega
   obtain⟨g',rfl,br,-⟩:=hu;intro e;have:W.heap.size=g':=by simpa using e
   have:=Al br;omega
 obtain⟨A,hA,bt⟩:=hF 1 (by omega);obtain⟨B,hB,bu⟩:=hF 3 (by omega);obtain⟨g7,h7,H7,ff⟩:=hF 4 (by omega);obtain⟨g8,h8,H8,fg⟩:=hF 5 (by omega);have c9:g7≠g8:=λe=>hN 4 5 (by omega) (by omega) (by omega) (by omega) (by rw[h7,h8,e])
 have da:=(Κ w1).drew.t c5;have db:vs 0=.agg G:=hF 0 (by omega);have dc:vs 2=.agg H:=hF 2 (by omega);simp only[Bq,Ä,ϰ,hA,hB,h7,h8,db,dc,List.getElem?_toArray,List.getElem?_cons_zero,List.getElem?_cons_succ,Option.bind_some,η,Θ,Μ,Λ];clear hF hN hA hB h7 h8 db dc;obtain⟨_,_,_,_,_,_,b4,fh,_⟩:=bt.opened (Bu ab.o);obtain⟨_,_,_,_,_,_,b5,fj,_⟩:=bu.opened (Bu ad.o);have dd:(Η.info? 84).map (·.size)=J A.size:=by rw[b4];exact Ci
 have hiB:(Η.info? 84).map (·.size)=J B.size:=by rw[b5];exact Ci
 have de:γ.size=A.size:=by rw[Dd,b4]
 have df:γ.size=B.size:=by rw[Dd,b5]
 have b6:=Bm H8 (Ne.symm c9) A;have be:=((da.setRow ff A).setRow fg B);have G7:=Bm (Χ w2 g7 _ A _ _ H7) c9 B;have G8:=Χ (w2.setRow g7 A) g8 _ B _ _ b6;clear b4 b5;go_upto_region 2 with (first
  | (refine Sr 84 (δ 7) (δ 15) rfl H7 dd de fh ?_)
  | (refine Sr 84 (δ 8) (δ 17) rfl b6 hiB df fj ?_))
 obtain⟨w3,b9⟩:=Xq ((w2.setRow g7 A).setRow g8 B);rw[b9] at be G7 G8;simp only[b9];clear b9 da H7 H8 b6 de df c5;have cb:=ba.t be;have dg:=Z (bt.ext cb);have dh:=Z (bu.ext cb);have dk:=Z G7;have dm:=Z G8;have hJ:=Z (Rk (Ai a) (Ai b) (Bu ab.o) (Bu ad.o) A B w3 dg.o dh.o);have dp:∀ c,Ϣ.size=(B0 c).size:=λc=>by rw[Kv,E7,E7]
 have dq:∀ c,(Η.info? 82).map (·.size)=J (B0 c).size:=λc=>by rw[E7];exact L5
 clear bt bu G7 G8;go_upto_region 3 with (first
  | (refine Lr 84 (δ 7) dk.o ϸ dd ?_)
  | (refine Lr 84 (δ 8) dm.o ϸ hiB ?_)
  | (go_at_call 42;(with_reducible refine hJ.o.mono ?_);rintro e X ⟨c,bs,vj,rfl,dt,du,dv⟩;have cd:=dp c;have cf:=dq c;have cg:=Oy c;obtain⟨A9,bf⟩:=Xq (B0 c);rw[bf] at cd cf cg;rw[bf])
  | (refine Sr 82 (δ 9) (δ 22) rfl (Ad X (Β Ϣ 82)) cf cd cg ?_))
 have af:=dv.t (((Κ X).alloc (Β Ϣ 82)).setRow (Υ _) A9);have H9:=Χ (X.alloc (Β Ϣ 82)) X.heap.size _ A9 _ _ (Ad X _);have ck:=du.ext (((Κ X).alloc (Β Ϣ 82)).setRow (Υ _) A9);obtain⟨w5,cl⟩:=Xq ((X.alloc (Β Ϣ 82)).setRow X.heap.size A9);rw[cl] at af H9 ck;simp only[cl];clear cl dv du dp dq hJ;have fl:=Z H9;have az:=Z dt;have fm:=Z bf;clear H9 dt bf cd cg;generalize X.heap.size=g9 at *;have fo:0<bs.length:=by have:=az.o.lt 0 (by omega);omega
 have fp:bs.length<=256:=by have:=Jq c 256 bs.length (λj hj=>⟨bs.getD j 0,(az.o.byte j hj).1,(az.o.byte j hj).2⟩);exact this
 have fq:=cb.t af;have dx:=Z (dg.o.ext af);have dy:=Z (dh.o.ext af);have cm:=af.heap dk.o;have cp:=af.heap dm.o;have dz:=(be.t af).heap fc.o;have fs:=Z (KE (Ai a) (Ai b) (Bu ab.o) (Bu ad.o) A B g7 g8 w5 dx.o dy.o cm cp);have ft:=Z (JW (Ai a) (Ai b) (Bu ab.o) (Bu ad.o) A B g7 g8 (w.heap.size+1+1) gh g HG.o eh w5 dx.o dy.o cm cp dz);have hX:=Z (Se c bs fo fp (λk hk=>(az.o.byte k hk).1) ⟨0,0,0⟩ (pNx (Ai a) (Ai b)) (pAc (Ai a) (Ai b) g) (Qo (Ai a) (Ai b))
  (λx hx=>⟨by have:=hx.1;have:x.p<a.n.length:=this;omega,by have:=hx.2.1;have:x.q<b.n.length:=this;omega,by rw[hx.2.2];omega⟩) ⟨ab.o.pos,ad.o.pos,rfl⟩
  (λx hx k hk=>⟨(Bu ab.o).stp_lt hx.1 hk,(Bu ad.o).stp_lt hx.2.1 hk,rfl⟩) 1073741824 (by omega) (by omega) 91 92 _ _ (enters_of Tryz.func91 (by kernel_rfl) rfl) (enters_of Tryz.func92 (by kernel_rfl) rfl) vj w5 ck fs.o ft.o)
 rw[fm.o] at hX;clear cm cp dz ck;have fu:ϟ (ϛ Η 46 #[.agg A9,vj,.agg #[.int Φ 0,.int Φ 0,.int ζ 0],.func (.func 91) #[] #[ε (J ⟨g7,0,I⟩),ε (J ⟨g8,0,I⟩)],.func (.func 92) #[] #[ε (J ⟨w.heap.size+1+1,0,I⟩),ε (J ⟨g7,0,I⟩),ε (J ⟨g8,0,I⟩)],.int Φ 1073741824] w5 λe w'=>
   ∃ A t,e=Ψ (ϗ #[.agg A,.bool Α])/\(IsT w' A t/\∀ g cs,g<w5.heap.size->IsT (w'.setRow g cs) A t)/\TVal t/\t.n.length<=4096/\(∀ u,t.has u=g (a.has u) (b.has u))/\Ext w5 w'):=Z (ϛ.mono hX.o λe w' ⟨hE,h⟩=>by
  have fv:a.n.length*b.n.length<=4096:=Nat.mul_le_mul ek en;rcases h with⟨A,l,t,he,hT,hX,_,fw,_⟩|⟨hM,_⟩
  ·obtain⟨h1,h2,h3⟩:=JX (Bu ab.o) (Bu ad.o) az.o hX;exact⟨A,t,he,⟨hT,fw⟩,h1,μ h2 fv,λu=>by rw[h3,Eg,Eg],hE⟩
  exact absurd hM (N3 (O3 a.n.length b.n.length) (λu=>Wz (Bu ab.o) (Bu ad.o) u) (by rw[CI];omega)))
 clear hX;have ea:Η.built 103 []=J #[.int Φ 0,.int Φ 0,.int ζ 0]:=by kernel_rfl
 have fy:=Z ea;clear ea;have eb:=Z ((be.t af).heap fe.o);have fz:(Η.info? 82).map (·.size)=J A9.size:=cf;go_upto_region 5 with (first
  | (refine Lr 82 (δ 9) fl.o Tryz.underlying82 fz ?_)
  | (refine Bk rfl 103 _ rfl #[.int Φ 0,.int Φ 0,.int ζ 0] ?_ ?_;(simp;with_reducible exact fy.o))
  | (go_at_call 46;(with_reducible refine fu.o.mono ?_);rintro e w6 ⟨T,t,rfl,⟨ec,ed⟩,ee,ga,gb,ef⟩;obtain⟨_,_,_,_,_,_,cq,eg,_⟩:=ec.opened ee;have bh:(Η.info? 84).map (·.size)=J T.size:=(by rw[cq];exact Ci);have ei:γ.size=T.size:=(by rw[Dd,cq]);clear cq)
  | (refine Sr 84 (δ 12) (δ 32) rfl (Ad w6 (Β γ 84)) bh ei eg ?_))
 have bj:=((Κ w6).alloc (Β γ 84)).setRow (Υ _) T;have ct:=Χ (w6.alloc (Β γ 84)) w6.heap.size _ T _ _ (Ad w6 _);obtain⟨w7,cu⟩:=Xq ((w6.alloc (Β γ 84)).setRow w6.heap.size T);rw[cu] at bj ct;simp only[cu];clear cu;have cv:=ef.heap eb.o;have gf:=(ed (w.heap.size+1+1+1) T (Al eb.o)).ext (bj.setRow_both cv T);have ej:=Z (bj.heap cv);have gg:=Z ct;have gi:=(((fq.t ef).trans bj)).setRow (show w.heap.size<=w.heap.size+1+1+1 by omega) T;clear ec ed cv ct;go_wp2_with (first
  | (refine Lr 84 (δ 12) gg.o ϸ bh ?_)
  | (refine Sr 84 (δ 6) (δ 34) rfl ej.o bh ei eg ?_))
 refine ω (v:=.agg T) (Ì rfl _ _ _ _ _ _ _ rfl (Χ w7 _ _ T 84 (0,0) ej.o) ϸ rfl bh) rfl ?_;exact⟨T,t,rfl,gf,ee,ga,gb,gi⟩
theorem Ep {P:Þ} {ops:Array ϳ} {rest:List ϳ} {o:ϳ} {a:ø} {w:Γ} {Q:Exit->ø->Γ->Prop} (E:ϧ o (ü ops a.tmps)=Α) (h:o.wp P a w (wpList P ops Q rest) Q):wpList P ops Q (o::rest) a w:=by
 show if _ then _ else _
 rw[if_pos E];exact .inl h
theorem ResOf.form {W:Γ} {e:Ending} {r:Option Dfa} (h:ResOf W e r):∃ ac E G H ln T X la ca k,e=Ψ (ϗ #[.agg (dA (U ac E G) (U H ln T) (U X la ca)),.int Φ k]):=by
 cases r with
 | none=>exact⟨I,0,0,I,0,0,I,0,0,2,h⟩
 | some d=>obtain⟨v,he,hD⟩:=h;obtain⟨ac,E,G,H,T,X,la,ca,rfl⟩:=hD.agg;exact⟨_,_,_,_,_,_,_,_,_,_,he⟩
theorem ResOf.ext {W W':Γ} {e:Ending} {r:Option Dfa} (h:ResOf W e r) (E:Ext W W'):ResOf W' e r:=by
 cases r with
 | none=>exact h
 | some d=>obtain⟨v,he,G⟩:=h;exact⟨v,he,G.ext E⟩
theorem ResOf.setRow {W:Γ} {e:Ending} {r:Option Dfa} (h:ResOf W e r) (E:∀ d,r=J d->Val d) {g:Nat} {t:ϡ} {fr:Nat × Nat} (hg:W.heap[g]? = J (Β #[U I 0 0,U I 0 0,U I 0 0] t fr)) (cs:Array Δ):ResOf (W.setRow g cs) e r:=by
 cases r with
 | none=>exact h
 | some d=>obtain⟨v,he,G⟩:=h;exact⟨v,he,G.setRow (E d rfl) hg cs⟩
theorem Hm {L:List UInt8->Prop} {r:Option Dfa} (h:Lim L r) (d:Dfa) (hd:r=J d):Val d:=by subst hd;exact h.1.val
theorem S2 (a b:Dfa) (ha:Val a) (hb:Val b) (a7:a.n.length<=64) (a8:b.n.length<=64) (gh:Nat) (g:Bool->Bool->Bool) (hg:I8 gh g) (eh:∀ args w,(callFunc gh args).run Η w=.ok (.enter gh args) w) (va vb:Δ) (w:Γ) (hT:Tab w) (bc:0<w.heap.size) (ao:IsD w va a) (aq:IsD w vb b) :
  ϛ Η 36 #[va,vb,.func (.func gh) #[] #[]] w λe w'=>∃ r,ResOf w' e r/\Lim (λu=>g (a.has u) (b.has u)=Α) r/\Ext w w':=by
 have ar:=Z ao;have au:=Z aq;obtain⟨ac,lc,cc,an,cn,aa,la,ca,rfl⟩:=ao.agg;obtain⟨cd,cf,cg,cj,ck,cl,cm,cp,rfl⟩:=aq.agg;have aw:=λW (E:Ext w W)=>Z (Fp a ha a7 _ W (ar.o.ext E))
 have ax:=λW (E:Ext w W)=>Z (Fp b hb a8 _ W (au.o.ext E))
 have f85:=λW (E:Ext w W)=>Z (Wo a b ha hb a7 a8 gh g hg eh _ _ W (hT.below E.below bc) (Ξ bc E.size) (ar.o.ext E) (au.o.ext E))
 obtain⟨H,ae⟩:=Xq (dA (U ac lc cc) (U an a.n.length cn) (U aa la ca));obtain⟨T,af⟩:=Xq (dA (U cd cf cg) (U cj b.n.length ck) (U cl cm cp));have bd:(Η.info? 40).map (·.size)=J H.size:=by rw[<-ae];exact Ae
 have be:(Η.info? 40).map (·.size)=J T.size:=by rw[<-af];exact Ae
 rw[ae] at aw f85 ar;rw[af] at ax f85 au;rw[ae,af];have ag:=(((Κ w).alloc (Β H 40)).alloc (Β T 40)).alloc (Β #[U I 0 0,U I 0 0,U I 0 0] 40);have H3:=Ah (Ah (Ad w (Β H 40)) (Β T 40)) (Β #[U I 0 0,U I 0 0,U I 0 0] 40);have H4:=Ah (ϒ w (Β H 40) (Β T 40)) (Β #[U I 0 0,U I 0 0,U I 0 0] 40);have H6:=Ad ((w.alloc (Β H 40)).alloc (Β T 40)) (Β #[U I 0 0,U I 0 0,U I 0 0] 40);rw[Ρ,Ρ] at H6;clear ao aq ha hb hg hT ae af;go_enter Tryz.func36,Tryz.ntmps36;go_upto_region 1 with (fail)
 obtain⟨w1,ai⟩:=Xq (((w.alloc (Β H 40)).alloc (Β T 40)).alloc (Β #[U I 0 0,U I 0 0,U I 0 0] 40));have c3:w.heap.size+1+1<w1.heap.size:=by rw[<-ai,Ρ,Ρ,Ρ];omega
 rw[ai] at ag H3 H4 H6;simp only[ai];clear ai;have aj:=Z H3;have X:=Z H4;have G:=Z H6;clear H3 H4 H6;go_upto_region 3 with (first
  | (refine Lr 40 (δ 3) aj.o Ο bd ?_)
  | (refine Ep rfl (wp_load_row 40 (δ 4) rfl _ rfl _ _ _ _ X.o Ο rfl be ?_))
  | (go_at_call 33;(with_reducible refine (aw _ ag).o.mono ?_);rintro e w2 ⟨rfl,ab⟩;have a1:=ag.t ab;have X:=Z (ab.heap X.o))
  | (go_at_call 33;(with_reducible refine (ax _ a1).o.mono ?_);rintro e w3 ⟨rfl,ad⟩;have bf:=a1.t ad))
 have aj:=Z ((ab.t ad).heap aj.o);have X:=Z (ad.heap X.o);have G:=Z ((ab.t ad).heap G.o);have bg:=Z bf;have c6:=bf.size;clear aw ax ag ab a1 ad;go_wp2_with (first
  | (refine Lr 40 (δ 3) aj.o Ο bd ?_)
  | (refine Lr 40 (δ 4) X.o Ο be ?_)
  | (go_at_call 66;(with_reducible refine (f85 _ bg.o).o.mono ?_);rintro e w4 ⟨A,t,rfl,ct,cu,c7,bh,bj⟩;have hL:=Z (Q8 t cu (show t.n.length<=65536 by omega) A w4 ct);have HH:=Z bh;clear bh)
  | (go_at_call 49;(with_reducible refine hL.o.mono ?_);rintro e w5 ⟨r,a6,bk,bl⟩;obtain⟨bm,bn,bo,bp,bq,br,bt,bu,bw,k1,rfl⟩:=a6.form;have cz:=Z a6;have bz:=Z bk;clear a6 bk;have G:=Z ((bj.t bl).heap G.o))
  | (refine Sr 40 (δ 6) (δ 22) rfl G.o Ae rfl (Av _ _ _ rfl rfl rfl) ?_))
 refine ω (v:=ϗ #[.agg (dA (U bm bn bo) (U bp bq br) (U bt bu bw)),.int Φ k1]) (Bi rfl _ _ _ _ _ _ _ rfl _ rfl (Χ w5 _ _ (dA (U bm bn bo) (U bp bq br) (U bt bu bw)) 40 (0,0) G.o) Ο rfl Ae) rfl ?_;exact⟨r,cz.o.setRow (Hm bz.o) G.o _,Gm bz.o (λu=>by rw[HH.o]),((bg.o.t bj).trans bl).setRow (by omega) _⟩
theorem Qs (a b:Dfa) (ha:Val a) (hb:Val b) (bh:a.n.length<=64) (bj:b.n.length<=64) (va vb:Δ) (w:Γ) (hT:Tab w) (au:0<w.heap.size) (ae:IsD w va a) (af:IsD w vb b) :
  ϛ Η 74 #[va,vb] w λe w'=>∃ r,ResOf w' e r/\Lim (λu=>a.has u=Α\/b.has u=Α) r/\Ext w w':=by
 have aw:=Z ae;have ax:=Z af;obtain⟨ac,lc,cc,an,cn,aa,la,ca,rfl⟩:=ae.agg;obtain⟨br,bt,bu,bw,bz,b0,b4,b5,rfl⟩:=af.agg;have f78:=λW (T:Ext w W)=>Z (S2 a b ha hb bh bj 100 (λx y=>x||y) LH (enters_of Tryz.func100 (by kernel_rfl) rfl) _ _ W (hT.below T.below au) (Ξ au T.size) (aw.o.ext T) (ax.o.ext T))
 obtain⟨E,X⟩:=Xq (dA (U ac lc cc) (U an a.n.length cn) (U aa la ca));obtain⟨G,ab⟩:=Xq (dA (U br bt bu) (U bw b.n.length bz) (U b0 b4 b5));have b6:(Η.info? 40).map (·.size)=J E.size:=by rw[<-X];exact Ae
 have b7:(Η.info? 40).map (·.size)=J G.size:=by rw[<-ab];exact Ae
 rw[X] at f78 aw;rw[ab] at f78 ax;rw[X,ab];have ag:=(((Κ w).alloc (Β E 40)).alloc (Β G 40)).alloc (Β #[U I 0 0,U I 0 0,U I 0 0] 40);have H3:=Ah (Ah (Ad w (Β E 40)) (Β G 40)) (Β #[U I 0 0,U I 0 0,U I 0 0] 40);have H4:=Ah (ϒ w (Β E 40) (Β G 40)) (Β #[U I 0 0,U I 0 0,U I 0 0] 40);have H6:=Ad ((w.alloc (Β E 40)).alloc (Β G 40)) (Β #[U I 0 0,U I 0 0,U I 0 0] 40);rw[Ρ,Ρ] at H6;clear ae af ha hb hT X ab;go_enter Tryz.func74,Tryz.ntmps74;go_upto_region 1 with (fail)
 obtain⟨w1,aj⟩:=Xq (((w.alloc (Β E 40)).alloc (Β G 40)).alloc (Β #[U I 0 0,U I 0 0,U I 0 0] 40));rw[aj] at ag H3 H4 H6;simp only[aj];clear aj;have b8:=Z H3;have b9:=Z H4;have H:=Z H6;have ay:=Z ag;clear H3 H4 H6 ag;go_wp2_with (first
  | (refine Lr 40 (δ 2) b8.o Ο b6 ?_)
  | (refine Lr 40 (δ 3) b9.o Ο b7 ?_)
  | (go_at_call 36;(with_reducible refine (f78 _ ay.o).o.mono ?_);rintro e w5 ⟨r,ak,az,a1⟩;obtain⟨a6,a7,a8,ba,bb,bc,bd,be,bf,k1,rfl⟩:=ak.form;have cd:=Z ak;have bg:=Z az;clear ak az;have H:=Z (a1.heap H.o))
  | (refine Sr 40 (δ 4) (δ 9) rfl H.o Ae rfl (Av _ _ _ rfl rfl rfl) ?_))
 refine ω (v:=ϗ #[.agg (dA (U a6 a7 a8) (U ba bb bc) (U bd be bf)),.int Φ k1]) (Bi rfl _ _ _ _ _ _ _ rfl _ rfl (Χ w5 _ _ (dA (U a6 a7 a8) (U ba bb bc) (U bd be bf)) 40 (0,0) H.o) Ο rfl Ae) rfl ?_;exact⟨r,cd.o.setRow (Hm bg.o) H.o _,Gm bg.o (λu=>by simp),(ay.o.t a1).setRow (by omega) _⟩
theorem DB (a b:Dfa) (ha:Val a) (hb:Val b) (bh:a.n.length<=64) (bj:b.n.length<=64) (va vb:Δ) (w:Γ) (hT:Tab w) (au:0<w.heap.size) (ae:IsD w va a) (af:IsD w vb b) :
  ϛ Η 13 #[va,vb] w λe w'=>∃ r,ResOf w' e r/\Lim (λu=>a.has u=Α/\b.has u=Α) r/\Ext w w':=by
 have aw:=Z ae;have ax:=Z af;obtain⟨ac,lc,cc,an,cn,aa,la,ca,rfl⟩:=ae.agg;obtain⟨br,bt,bu,bw,bz,b0,b4,b5,rfl⟩:=af.agg;have f78:=λW (T:Ext w W)=>Z (S2 a b ha hb bh bj 37 (λx y=>x&&y) YR (enters_of Tryz.func37 (by kernel_rfl) rfl) _ _ W (hT.below T.below au) (Ξ au T.size) (aw.o.ext T) (ax.o.ext T))
 obtain⟨E,X⟩:=Xq (dA (U ac lc cc) (U an a.n.length cn) (U aa la ca));obtain⟨G,ab⟩:=Xq (dA (U br bt bu) (U bw b.n.length bz) (U b0 b4 b5));have b6:(Η.info? 40).map (·.size)=J E.size:=by rw[<-X];exact Ae
 have b7:(Η.info? 40).map (·.size)=J G.size:=by rw[<-ab];exact Ae
 rw[X] at f78 aw;rw[ab] at f78 ax;rw[X,ab];have ag:=(((Κ w).alloc (Β E 40)).alloc (Β G 40)).alloc (Β #[U I 0 0,U I 0 0,U I 0 0] 40);have H3:=Ah (Ah (Ad w (Β E 40)) (Β G 40)) (Β #[U I 0 0,U I 0 0,U I 0 0] 40);have H4:=Ah (ϒ w (Β E 40) (Β G 40)) (Β #[U I 0 0,U I 0 0,U I 0 0] 40);have H6:=Ad ((w.alloc (Β E 40)).alloc (Β G 40)) (Β #[U I 0 0,U I 0 0,U I 0 0] 40);rw[Ρ,Ρ] at H6;clear ae af ha hb hT X ab;go_enter Tryz.func13,Tryz.ntmps13;go_upto_region 1 with (fail)
 obtain⟨w1,aj⟩:=Xq (((w.alloc (Β E 40)).alloc (Β G 40)).alloc (Β #[U I 0 0,U I 0 0,U I 0 0] 40));rw[aj] at ag H3 H4 H6;simp only[aj];clear aj;have b8:=Z H3;have b9:=Z H4;have H:=Z H6;have ay:=Z ag;clear H3 H4 H6 ag;go_wp2_with (first
  | (refine Lr 40 (δ 2) b8.o Ο b6 ?_)
  | (refine Lr 40 (δ 3) b9.o Ο b7 ?_)
  | (go_at_call 36;(with_reducible refine (f78 _ ay.o).o.mono ?_);rintro e w5 ⟨r,ak,az,a1⟩;obtain⟨a6,a7,a8,ba,bb,bc,bd,be,bf,k1,rfl⟩:=ak.form;have cd:=Z ak;have bg:=Z az;clear ak az;have H:=Z (a1.heap H.o))
  | (refine Sr 40 (δ 4) (δ 9) rfl H.o Ae rfl (Av _ _ _ rfl rfl rfl) ?_))
 refine ω (v:=ϗ #[.agg (dA (U a6 a7 a8) (U ba bb bc) (U bd be bf)),.int Φ k1]) (Bi rfl _ _ _ _ _ _ _ rfl _ rfl (Χ w5 _ _ (dA (U a6 a7 a8) (U ba bb bc) (U bd be bf)) 40 (0,0) H.o) Ο rfl Ae) rfl ?_;exact⟨r,cd.o.setRow (Hm bg.o) H.o _,Gm bg.o (λu=>by simp),(ay.o.t a1).setRow (by omega) _⟩
theorem CN (S q:Nat) (E:S<18446744073709551616):(bits BinOp.and ϯ ((S:Int) / 2 ^ q) 1==1)=S.testBit q:=by
 have G:((S:Nat):Int) / 2 ^ q=((S / 2 ^ q:Nat):Int):=by rw[Int.natCast_ediv];simp
 have H:S / 2 ^ q<18446744073709551616:=Nat.lt_of_le_of_lt (Nat.div_le_self _ _) E;rw[G,show (1:Int)=((1:Nat):Int) from rfl,u64_and_nat _ _ H (by omega),Nat.testBit_eq_decide_div_mod_eq,Nat.and_one_is_mod];generalize S / 2 ^ q=m;rw[Bool.eq_iff_iff];simp;omega
theorem IF (t:Tbl) (S:Nat) (h:∀ q,q<t.n.length->(t.ok q&&S.testBit q)=Ε):Cy t S=Ε:=by rw[<-Bool.not_eq_true,Ld];rintro⟨q,E,h1,G⟩;have:=h q E;rw[h1,G] at this;cases this
theorem IG (t:Tbl) (S q:Nat) (E:q<t.n.length) (h:(t.ok q&&S.testBit q)=Α):Cy t S=Α:=by rw[ψ] at h;exact (Ld t S).2 ⟨q,E,h.1,h.2⟩
theorem P1 (t:Tbl) (G:TVal t) (hn:t.n.length<=64) (A:Array Δ) (S:Nat) (hS:S<18446744073709551616) (w:Γ) (h:IsT w A t) :
  ϛ Η 48 #[.agg A,.agg #[.int ζ (S:Int)]] w λe w'=>e=Ψ (.bool (Cy t S))/\Ext w w':=by
 obtain⟨bn,on,cn,ba,oa,ca,aj,ak,_,_,_,X,_,aa⟩:=h.opened G;have a7:=G.pos;have an:=Z aa;have H:=((Κ w).alloc (Β A 84)).alloc (Β #[.int ζ (S:Int)] 101);have H0:=Ah (Ad w (Β A 84)) (Β #[.int ζ (S:Int)] 101);have H1:=ϒ w (Β A 84) (Β #[.int ζ (S:Int)] 101);clear aa G h;go_enter Tryz.func48,Tryz.ntmps48;go_upto_region 1 with (fail)
 generalize (w.alloc (Β A 84)).alloc (Β #[.int ζ (S:Int)] 101)=w1 at *;have k8:=(Τ w1 w.heap.size 258 _ _ _ H0).trans X;have HK:=Z (λ(W:Γ) (hW:Ext w1 W)=>(Τ W (w.heap.size+1) 0 _ _ _ (hW.heap H1)).trans rfl);clear H0 H1 X ak aj;go_wp2_with (fail);clear k8;go_loopw [10] (λi W=>∃ k:Nat,k<=t.n.length/\i=.int Φ k/\Ext w1 W/\ϟ (∀ q,q<k->(t.ok q&&S.testBit q)=Ε)) (λi _=>t.n.length-(intOf i).toNat)
 case atStart=>exact⟨0,by omega,rfl,Κ w1,Z (λq hq=>by omega)⟩
 obtain⟨k,hk,rfl,E,ae⟩:=hrel;by_cases af:k<t.n.length
 ·have ca:=(H.t E).cell (an.o k af);have cs:=HK.o wr E;have hb:=CN S k hS;have HH:=Z (IG t S k af);have ag:ϟ ((t.ok k&&S.testBit k)=Ε->∀ q,q<k+1->(t.ok q&&S.testBit q)=Ε):=Z λh0 q hq=>by
   by_cases e:q=k
   ·subst e;exact h0
   exact ae.o q (by omega)
  generalize t.ok k=b1 at *;generalize S.testBit k=b2 at *;cases b1
  ·go_wp2;go_roundw
   case rel=>exact⟨k+1,by omega,by go_num,E,Z (ag.o rfl)⟩
   simp[intOf];omega
  ·cases b2
   ·go_wp2;go_roundw
    case rel=>exact⟨k+1,by omega,by go_num,E,Z (ag.o rfl)⟩
    simp[intOf];omega
   have T:=Z (HH.o rfl);go_wp2;go_ret;exact⟨Qe T.o.symm,H.t E⟩
 obtain rfl:k=t.n.length:=by omega
 have T:=Z (IF t S ae.o);go_wp2;go_ret;exact⟨Qe T.o.symm,H.t E⟩
theorem Jb {t:Tbl} (E:TVal t) (H:t.n.length<=64) (S c:Nat) (hc:c<256):∀ n,n<=t.n.length->A5 t S c n<18446744073709551616
 | 0,_=>by simp[A5]
 | n+1,h=>by
  have G:=Jb E H S c hc n (by omega);simp only[A5];split
  ·have h1:=E.stp_lt (s:=n) (by omega) hc;have T:2 ^ t.stp n c<2 ^ 64:=Nat.pow_lt_pow_right (by omega) (by omega);have:=Nat.or_lt_two_pow (x:=A5 t S c n) (y:=2 ^ t.stp n c) (n:=64) G T;exact this
  exact G
theorem Xc (x:Int):(#[Â ζ x]).all (·.oneCell')=Α:=by simp[ξ]
theorem Ns (x r:Nat) (hx:x<18446744073709551616) (E:r<64):bits BinOp.or ϯ (x:Int) (ϯ.wrap (2 ^ r))=((x ||| 2 ^ r:Nat):Int):=by rw[Ph r E,u64_or_nat _ _ hx (No r E)]
theorem Uu (t:Tbl) (hv:TVal t) (hn:t.n.length<=64) (A:Array Δ) (S:Nat) (hS:S<18446744073709551616) (c:Nat) (hc:c<256) (w:Γ) (h:IsT w A t) :
  ϛ Η 45 #[.agg A,.agg #[.int ζ (S:Int)],.int Φ (c:Int)] w λe w'=>e=Ψ (.agg #[.int ζ (A5 t S c t.n.length:Nat)])/\Ext w w':=by
 obtain⟨bn,on,cn,ba,oa,ca,bf,bg,ak,_,ae,_,hR,_⟩:=h.opened hv;have cd:=hv.pos;have HR:=Z hR;have HV:=Z hv;have bj:=((((Κ w).alloc (Β A 84)).alloc (Β #[.int ζ (S:Int)] 101)).alloc (Β #[.int ζ 0] 101)).alloc (Β #[.int ζ 0] 101);have H0:=Ah (Ah (Ah (Ad w (Β A 84)) (Β #[.int ζ (S:Int)] 101)) (Β #[.int ζ 0] 101)) (Β #[.int ζ 0] 101);have H1:=Ah (Ah (ϒ w (Β A 84) (Β #[.int ζ (S:Int)] 101)) (Β #[.int ζ 0] 101)) (Β #[.int ζ 0] 101);have H2:=Ah (Ad ((w.alloc (Β A 84)).alloc (Β #[.int ζ (S:Int)] 101)) (Β #[.int ζ 0] 101)) (Β #[.int ζ 0] 101);have H3:=Ad (((w.alloc (Β A 84)).alloc (Β #[.int ζ (S:Int)] 101)).alloc (Β #[.int ζ 0] 101)) (Β #[.int ζ 0] 101);rw[Ρ,Ρ] at H2;rw[Ρ,Ρ,Ρ] at H3;clear hR hv h;go_enter Tryz.func45,Tryz.ntmps45;go_upto_region 2 with (fail)
 obtain⟨w2,aq⟩:=Xq ((((w.alloc (Β A 84)).alloc (Β #[.int ζ (S:Int)] 101)).alloc (Β #[.int ζ 0] 101)).alloc (Β #[.int ζ 0] 101));simp only[aq] at *;clear aq;have bl:=Z ae;have bm:=Z ak;have k7:=(Τ w2 w.heap.size 257 _ _ _ H0).trans ae;have bo:=Z H0;have bp:=Z H1;have bq:=Z H2;have bt:=Z H3;clear H0 H1 H2 H3 ae ak bg bf;go_wp2_with (fail);clear k7;go_loopw [12] (λi W=>∃ k:Nat,k<=t.n.length/\i=.int Φ k/\Ext w W/\W.heap[w.heap.size]? = J (Β A 84 (0,0))/\W.heap[w.heap.size+1]? = J (Β #[.int ζ (S:Int)] 101 (0,0))/\W.heap[w.heap.size+1+1]? = J (Β #[.int ζ 0] 101 (0,0))/\W.heap[w.heap.size+1+1+1]? = J (Β #[.int ζ (A5 t S c k:Nat)] 101 (0,0))) (λi _=>t.n.length-(intOf i).toNat)
 case atStart=>exact⟨0,by omega,rfl,bj,bo.o,bp.o,bq.o,bt.o⟩
 obtain⟨k,hk,rfl,hE,ar,au,aw,ax⟩:=hrel;have H:=Z ar;have ab:=Z au;have T:=Z aw;have E:=Z ax;clear ar au aw ax;by_cases ay:k<t.n.length
 ·have cS:=(Τ wr (w.heap.size+1) 0 _ _ _ ab.o).trans (show (#[Â ζ (S:Int)])[0]? = J (.int ζ (S:Int)) from rfl);have hb:=CN S k hS;have X:ϟ (A5 t S c (k+1)=if S.testBit k then A5 t S c k ||| 2 ^ t.stp k c else A5 t S c k):=Z rfl;have az:=Jb HV.o hn S c hc k (by omega);have bw:t.stp k c<64:=by have:=HV.o.stp_lt ay hc;omega
  generalize S.testBit k=b at *;cases b
  ·have G:=X.o;simp only[Ó,if_false] at G;have X:=Z G;clear G;go_wp2;go_roundw
   case rel=>exact⟨k+1,by omega,by go_num,hE,H.o,ab.o,T.o,by rw[X.o];exact E.o⟩
   simp[intOf];omega
  have G:=X.o;simp only[if_true] at G;have X:=Z G;have bz:=HV.o.cell_lt c hc;obtain⟨br,or',cr,a1,a6⟩:=HR.o k ay;have r1:=Aw (hE.cell a1);have r2:=Aw (hE.cell (a6 _ bz));have k7:=Aw ((Τ wr w.heap.size 257 _ _ _ H.o).trans bl.o);have kc:=Aw ((Τ wr w.heap.size c _ _ _ H.o).trans (bm.o c hc));have ko:=Aw ((Τ wr (w.heap.size+1+1+1) 0 _ _ _ E.o).trans (show (#[Â ζ (A5 t S c k:Nat)])[0]? = J (.int ζ (A5 t S c k:Nat)) from rfl));have bb:t.ent2 k (t.cell c)=t.stp k c:=rfl;rw[bb] at r2;have HO:=Z (Ns (A5 t S c k) (t.stp k c) az bw);clear bb a1 a6 az G;have cj:(c:Int)<256:=by omega
  generalize A5 t S c k=x at *;generalize t.stp k c=r at *;generalize t.cell c=q at *;go_upto_region 6 with (fail)
  refine Jk 16 (by kernel_rfl) (by kernel_rfl) ?_;simp only[List.take_succ_cons,List.take_zero,Ä,ϰ];iterate 16 (with_reducible refine wpQuiet_step (λK hK=>?_);go_simp;(refine hK _ ?_;clear hK K))
  refine wpQuiet_nil ?_;rintro _ ⟨e,rfl⟩;have H:=Z (e.ext.heap H.o);have ab:=Z (e.ext.heap ab.o);have T:=Z (e.ext.heap T.o);have E:=Z (e.ext.heap E.o);have b5:=hE.t e.ext;have ck:=ko e;have fo:=È e.W (w.heap.size+1+1+1) 0 _ _ E.o;clear r1 r2 k7 kc ko cS;generalize e.W=w5 at *;go_wp2;go_roundw
  case rel=>rw[Ϭ w5 _ _ _ _ _ _ E.o,HO.o];refine⟨k+1,by omega,by go_num,b5.setRow (by omega) _,Bm H.o (by omega) _,Bm ab.o (by omega) _,Bm T.o (by omega) _,?_⟩;rw[X.o];exact Χ w5 _ _ _ _ _ E.o
  case measure=>simp[intOf];omega
 obtain rfl:k=t.n.length:=by omega
 have i114:(Η.info? 101).map (·.size)=J 1:=by kernel_rfl
 go_wp2_with (first
  | (refine Lr 101 (δ 7) E.o Tryz.underlying101 i114 ?_)
  | (refine Sr 101 (δ 6) (δ 38) rfl T.o i114 rfl (Xc _) ?_))
 refine ω (v:=.agg #[.int ζ (A5 t S c t.n.length:Nat)]) (Ì rfl _ _ _ _ _ _ _ rfl (Χ wr _ _ #[.int ζ (A5 t S c t.n.length:Nat)] 101 (0,0) T.o) Tryz.underlying101 rfl i114) rfl ?_;exact⟨rfl,hE.setRow (by omega) _⟩
end Go.Proofs.YtilncahcpjlfnaaGreatDoor
