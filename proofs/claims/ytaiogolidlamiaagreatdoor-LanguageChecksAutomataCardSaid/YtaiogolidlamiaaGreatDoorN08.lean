import Derived.Test.YtaiogolidlamiaaGreatDoorN07
import Derived.Test.YtaiogolidlamiaaGreatDoorN03
set_option linter.unusedVariables false
set_option linter.unusedSimpArgs false
open Array renaming getElem?_toList → æ
open Bool renaming true → Ξ, false → Τ
open Go renaming Value → Ν, World → Λ, TypeId → Á, Oper → ϳ, Act → ú, Operand → ϵ, maxLen → ϛ, undef → ς, execOp → Ù, Calls → ϓ, info_parts → Ϟ, heap_alloc2_new → Ϗ, wpList_load_row → Ο, wpList_store_row → Φ, setRow_heap → μ, size_setRow → ò, bodyPost_ret → ω, wpList_append_lies → Ϙ, cell_of_row → γ, cell_one_new → ϭ, frozen_of_row → Ϸ, setCell_eq_setRow → Ϧ, Program → ã, results_cell_row → Ϲ
open Go.Act renaming put → Ϛ
open Go.Ending renaming returned → θ
open Go.IntKind renaming u64 → π, i64 → ε, u64 → ϱ
open Go.Lib renaming hid → Α
open Go.Obj renaming cells → Ε
open Go.Operand renaming tmp → η
open Go.Proofs.Tryz renaming prog → Ζ, zeroCells108 → ξ, underlying116 → Ê, underlying108 → Ϫ, underlying30 → Κ, zeroCells77 → ώ
open Go.Region renaming wanted → Ë
open Go.RowKit renaming Hid → À
open Go.Value renaming slice → Β, tuple → ϙ, oneCell' → ό, slice → Ϥ, pointer → Ω, int → ö
open Go.World renaming size_alloc → Ρ, ownsRow_nil → Ô, ownsRow → Ϡ
open List renaming getElem?_append_right → ϗ, getElem?_eq_some_iff → ϊ, getElem?_append_left → Ϣ, length_map → ϋ, replicate → ζ, mem_of_getElem? → Â, length_append → Υ, setIfInBounds_toArray → Ι, set_cons_zero → Χ, set_cons_succ → Ψ, drop_succ_cons → ó
open Nat renaming le_refl → ν, le_trans → ψ, lt_of_lt_of_le → δ
open Option renaming some → Δ, none → Γ
open Option.some renaming inj → ύ
namespace Go.Proofs.YtaiogolidlamiaaGreatDoor
set_option maxRecDepth 100000
set_option maxHeartbeats 4000000
open Go.RowKit Go.Shelf
open Go.Maps (Keyed)
def flS (l:List Sta):List Ν:=l.flatMap stL
theorem Aka (l m:List Sta):flS (l++m)=flS l++flS m:=by simp[flS]
theorem Aj8 (x:Sta):flS [x]=stL x:=by simp[flS]
theorem Aj9 (l:List Sta) (k:Nat) (x:Sta) (h:l[k]? = Δ x):(flS l)[k*3]? = Δ (iv x.p)/\(flS l)[k*3+1]? = Δ (iv x.q)/\(flS l)[k*3+2]? = Δ (.int π (x.s:Int)):=by
 induction l generalizing k with
 | nil=>simp at h
 | cons y l E=>
  have e:flS (y::l)=stL y++flS l:=rfl;cases k with
  | zero=>
   have:y=x:=by simpa using h
   subst this;rw[e];exact⟨rfl,rfl,rfl⟩
  | succ k=>
   have G:l[k]? = Δ x:=by simpa using h
   obtain⟨I,J,M⟩:=E k G;have D:(stL y).length=3:=rfl;rw[e];refine⟨?_,?_,?_⟩
   ·rw[ϗ (by rw[D];omega),D,show (k+1)*3-3=k*3 by omega];exact I
   ·rw[ϗ (by rw[D];omega),D,show (k+1)*3+1-3=k*3+1 by omega];exact J
   ·rw[ϗ (by rw[D];omega),D,show (k+1)*3+2-3=k*3+2 by omega];exact M
abbrev Lm (W:Λ) (base:Nat) (v:Ν) (l:List Sta):Prop:=W.ownsRow base 116 3 v l.length (flS l)
theorem J7 {W:Λ} {base g E:Nat} {l:List Sta} (h:Lm W base (Β (Δ ⟨g,0,Γ⟩) l.length E) l) (k:Nat) (x:Sta) (D:l[k]? = Δ x) :
  W.cell? ⟨g,k*3,Γ⟩=Δ (iv x.p)/\W.cell? ⟨g,k*3+1,Γ⟩=Δ (iv x.q)/\W.cell? ⟨g,k*3+2,Γ⟩=Δ (.int π (x.s:Int)):=by
 have M:k<l.length:=(ϊ.1 D).1;obtain⟨G,I,J⟩:=Aj9 l k x D;rw[h.cellAt _ (by omega),h.cellAt _ (by omega),h.cellAt _ (by omega)];exact⟨G,I,J⟩
theorem Rx {κ:Type} {W:Λ} {k:Á} {key:κ->Ν} {b n:Nat} {f:κ->Option Nat} {ops:Array ϳ} {rest:List ϳ} {o:ϳ} {a:ú} {Q:Exit->ú->Λ->Prop} [DecidableEq κ] (hg:o.guard=Γ) (m x v:ϵ) (t:Á) (T:o.op=Op.insert t m x v) (K:Keyed Ζ k) (U:Ζ.underlying t=Δ (.map k 3)) (hm:a.eval m=.map (Δ b)) (h:IsMp W k key b n f) (hn:n<ϛ)
  (aa:∀ y z,key y=key z->y=z) (y:κ) (hx:a.eval x=key y) (E:∃ l,keyOf Ζ k (key y)=Δ l) (i:Nat) (hv:a.eval v=iv i) (hi:i<9223372036854775808)
  (hK:∀ W',IsMp W' k key b (n+1) (λz=>if z=y then Δ i else f z)->W.grownBy W' (Δ b)->wpList Ζ ops Q rest (a.put o.dst ς) W'):wpList Ζ ops Q (o::rest) a W:=by
 obtain⟨D,I,h2⟩:=h;obtain⟨l,E⟩:=E;refine wpList_plain hg λK' af=>?_
 obtain⟨W',ag,r1,r2⟩:=I.update K U hn E (plainElem_int Tryz.underlying3 (Jz i hi));unfold ϳ.wp;simp[Ù,T,hm,hx,hv,ag,Result.andThen];refine af _ _ (hK W' ⟨_,r1,λz J G=>?_⟩ r2);by_cases e:z=y
 ·subst e;rw[E] at G;cases G
  simp only[if_true];exact⟨Maps.has_put_same I.isMap (K.key E) _,Maps.atKey_put_same I.isMap (K.key E) _ _⟩
 ·have M:J≠l:=λe'=>e (aa _ _ (K.inj G (e'▸E)))
  simp only[e,if_false];rw[Maps.has_put_other M,Maps.atKey_put_other M];exact h2 z J G
theorem Am8 (c:Nat->Nat) (n:Nat):Ζ.built 108 [(0,.agg (Ar c)),(1,iv n)]=Δ (Ai c n (Β Γ 0 0) (Β Γ 0 0)):=by kernel_rfl
theorem Am6:Ζ.built 108 []=Δ ξ:=by kernel_rfl
theorem Su (c:Nat->Nat) (n:Nat) (vn va v:Ν):(Ai c n vn va).setIfInBounds 257 v=Ai c n v va:=by
 apply Array.ext';rw[Array.toList_setIfInBounds];unfold Ai;simp only;apply List.ext_getElem?;intro i;unfold Eh;rw[List.getElem?_set];by_cases hi:i<256
 ·have:257≠i:=by omega
  rw[if_neg this,Ϣ (by simpa using hi),Ϣ (by simpa using hi)]
 ·by_cases e:257=i
  ·subst e;simp[ϗ]
  ·rw[if_neg e,ϗ (by simp;omega),ϗ (by simp;omega)];obtain⟨j,rfl⟩:∃ j,i=256+j:=⟨i-256,by omega⟩;have D:j≠1:=by omega
   simp only[ϋ,List.length_range,Nat.add_sub_cancel_left]
   match j,D with
   | 0,_=>rfl
   | 2,_=>rfl
   | j+3,_=>rfl
def Nt (w:Λ) (g:Nat) (D:Array Ν) (nx:Sta->Nat->Sta) (Good:Sta->Prop):Prop:=
 ∀ W,Ext w W->∀ x,Good x->∀ b,b<256->ϓ Ζ g (#[.agg #[iv x.p,iv x.q,.int π (x.s:Int)],iv b]++D) W λe w'=>e=θ (stV (nx x b))/\Ext W w'
def Nn (w:Λ) (g:Nat) (D:Array Ν) (ac:Sta->Bool) (Good:Sta->Prop):Prop:=
 ∀ W,Ext w W->∀ x,Good x->ϓ Ζ g (#[.agg #[iv x.p,iv x.q,.int π (x.s:Int)]]++D) W λe w'=>e=θ (.bool (ac x))/\Ext W w'
theorem Aju {nx:Sta->Nat->Sta} {st:Sta} {Good:Sta->Prop} (h0:Good st) (hs:∀ x,Good x->∀ b,b<256->Good (nx x b)) (w:List UInt8):Good (Ax nx st w):=by
 induction w using Et with
 | h0=>exact h0
 | h1 w x D=>rw[Ed];exact hs _ D _ x.toNat_lt
theorem Qq (c:Nat->Nat) (bs:List Nat) (ke:0<bs.length) (mg:bs.length<=256) (hb:∀ k,k<bs.length->bs.getD k 0<256) (st:Sta) (nx:Sta->Nat->Sta) (ac:Sta->Bool) (Good:Sta->Prop) (gv:∀ x,Good x->x.ok) (h0:Good st) (gx:∀ x,Good x->∀ b,b<256->Good (nx x b))
  (a1:Nat) (mh:0<a1) (mi:a1<=1073741824) (gn ga:Nat) (gz hc:Array Ν) (en:∀ args w,(callFunc gn args).run Ζ w=.ok (.enter gn args) w) (ea:∀ args w,(callFunc ga args).run Ζ w=.ok (.enter ga args) w)
  (vb:Ν) (w:Λ) (hiB:Ints w vb bs) (hN:Nt w gn gz nx Good) (hA:Nn w ga hc ac Good) :
  ϓ Ζ 74 #[.agg (Ar c),vb,.agg #[iv st.p,iv st.q,.int π (st.s:Int)],.func (.func gn) #[] gz,.func (.func ga) #[] hc,.int ε (a1:Int)] w λe w'=>Ext w w'/\
   ((∃ A l t,e=θ (ϙ #[.agg A,.bool Ξ])/\IsT w' A t/\Expl c bs st nx ac l t/\l.length<=a1/\(∀ g cs,g<w.heap.size->IsT (w'.setRow g cs) A t)/\∀ W,Near w' W->IsT W A t)\/(B8 nx st a1/\e=θ (ϙ #[.agg ξ,.bool Τ]))):=by
 obtain⟨bB,oB,cB,rfl,hq⟩:=Û hiB ke;obtain⟨i0,hi,kg,kh,ki⟩:=Ϟ Cp;obtain⟨i4,kk,kl,km,kn⟩:=Ϟ D8;obtain⟨i6,kq,kr,ks,kt⟩:=Ϟ (show (Ζ.info? 68).map (λi=>(i.zero,i.size,i.bytes))=Δ (Δ (Β Γ 0 0),1,24) by kernel_rfl);obtain⟨i7,kv,kx,ky,kz⟩:=Ϟ Ajf;have ch:=(((Θ w).alloc (Ε (Ar c) 77)).alloc (Ε #[iv st.p,iv st.q,.int π (st.s:Int)] 116)).alloc (Ε ξ 108);have H6:=Ag (Ag (Aa w (Ε (Ar c) 77)) (Ε #[iv st.p,iv st.q,.int π (st.s:Int)] 116)) (Ε ξ 108);have H8:=Ag (Ϗ w (Ε (Ar c) 77) (Ε #[iv st.p,iv st.q,.int π (st.s:Int)] 116)) (Ε ξ 108);have da:=Aa ((w.alloc (Ε (Ar c) 77)).alloc (Ε #[iv st.p,iv st.q,.int π (st.s:Int)] 116)) (Ε ξ 108);rw[Ρ,Ρ] at da;have k0:=Α (λ(W:Λ) (hW:Ext w W) k (hk:k<bs.length)=>hW.cell (hq k (by omega)));have HN:=Α hN;have HA:=Α hA;have hr:(Ζ.info? 77).map (·.size)=Δ (Ar c).size:=by rw[C3];exact Fj
 have e0:=Α (Am8 c bs.length);clear hiB hq hN hA;obtain⟨T0,cu⟩:∃ X,Ai c bs.length (Β Γ 0 0) (Β Γ 0 0)=X:=⟨_,rfl⟩;rw[cu] at e0;have ht:ξ.size=T0.size:=by rw[<-cu,Da,Em]
 have hy:(Ζ.info? 108).map (·.size)=Δ T0.size:=by rw[<-cu,Em];exact Cc
 have h2:T0.all (·.oneCell')=Ξ:=by rw[<-cu];exact G5 c bs.length (Β Γ 0 0) (Β Γ 0 0) rfl rfl
 have k9:=Α cu;clear cu;obtain⟨A0,e1⟩:∃ X,Ar c=X:=⟨_,rfl⟩;rw[e1] at ch H6 H8 da hr e0;rw[e1];clear e1;go_enter Tryz.func74,Tryz.ntmps74;go_upto_region 1 with (fail)
 obtain⟨w1,dx⟩:∃ W,((w.alloc (Ε A0 77)).alloc (Ε #[iv st.p,iv st.q,.int π (st.s:Int)] 116)).alloc (Ε ξ 108)=W:=⟨_,rfl⟩;have mr:w.heap.size+1+1<w1.heap.size:=by rw[<-dx,Ρ,Ρ,Ρ];omega
 rw[dx] at ch H6 H8 da;simp only[dx];clear dx;have lb:=Α H6;have h3:=Α H8;have h4:=Α da;clear H6 H8 da;have lf:=@run_makeMap Ζ;go_upto_region 2 with (first
  | (refine Ο rfl 77 (η 6) rfl _ rfl _ _ _ _ lb.out Tryz.underlying77 rfl hr ?_)
  | (refine Bw rfl 108 _ rfl T0 ?_ ?_;(simp[ú.eval];with_reducible exact e0.out))
  | (refine Φ rfl 108 (η 14) (η 27) rfl _ _ rfl rfl _ _ (Aa w1 (Ε ξ 108)) hy ht h2 ?_))
 have e2:=((Θ w1).alloc (Ε ξ 108)).setRow (ν _) T0;have dy:=μ (w1.alloc (Ε ξ 108)) w1.heap.size _ T0 _ _ (Aa w1 _);have eb:((w1.alloc (Ε ξ 108)).setRow w1.heap.size T0).heap.size=w1.heap.size+1:=by rw[ò,Ρ]
 obtain⟨wa,e4⟩:∃ W,(w1.alloc (Ε ξ 108)).setRow w1.heap.size T0=W:=⟨_,rfl⟩;rw[e4] at e2 dy eb;simp only[e4];clear e4 ht hy h2;rw[<-k9.out] at dy;have ec:=Kt wa 116 stV;have ed:=e2.alloc (.map #[] 0);have ee:=Ag dy (.map #[] 0);have e5:(wa.alloc (.map #[] 0)).heap.size=w1.heap.size+1+1:=by rw[Ρ,eb]
 rw[eb] at ec;have e6:=Α (ed.heap h3.out);have lg:=Ta st (gv st h0);obtain⟨wb,h5⟩:∃ W,wa.alloc (.map #[] 0)=W:=⟨_,rfl⟩;rw[h5] at ec ed ee e5 e6;go_upto_region 3 with (first
  | (refine Ο rfl 116 (η 8) rfl _ rfl _ _ _ _ e6.out Ê rfl D0 ?_)
  | (refine Rx rfl _ _ _ 167 rfl Mw Tryz.underlying167 rfl ec (by unfold ϛ;omega) Tb st rfl lg 0 rfl (by omega) ?_;intro wc h6 ef))
 clear lf h5 ec e2 dy e6 eb;have e7:=ed.grown ef (λk e=>by cases e;omega);have h7:=(ef.block w1.heap.size (An ee) (by simp)).trans ee;have h8:w1.heap.size+1+1<=wc.heap.size:=ψ (Nat.le_of_eq e5.symm) ef.size;have ia:=Α (e7.heap h3.out);clear e5 ef ed ee;go_upto_region 4 with (refine Ο rfl 116 (η 8) rfl _ rfl _ _ _ _ ia.out Ê rfl D0 ?_)
 have e8:=e7.alloc (Ε #[iv st.p,iv st.q,.int π (st.s:Int)] 116);have e9:=Ag h7 (Ε #[iv st.p,iv st.q,.int π (st.s:Int)] 116);have fa:=h6.alloc (Ε #[iv st.p,iv st.q,.int π (st.s:Int)] 116);have fb:Lm (wc.alloc (Ε #[iv st.p,iv st.q,.int π (st.s:Int)] 116)) (w1.heap.size+1+1) (Β (Δ ⟨wc.heap.size,0,Γ⟩) 1 1) [st]:=Λ.ownsRow_lit (base:=w1.heap.size+1+1) (e:=116) (size:=3) wc #[iv st.p,iv st.q,.int π (st.s:Int)] 1 h8 (by unfold ϛ;omega) rfl;have fc:w1.heap.size+1+1<=(wc.alloc (Ε #[iv st.p,iv st.q,.int π (st.s:Int)] 116)).heap.size:=by rw[Ρ];omega
 obtain⟨fe,ff⟩:∃ W,wc.alloc (Ε #[iv st.p,iv st.q,.int π (st.s:Int)] 116)=W:=⟨_,rfl⟩;rw[ff] at e8 e9 fa fb fc;simp only[ff];clear ff;clear h6 e7 h7 h8 ia;have ib:=Ô fe (w1.heap.size+1+1) 68 1;have ic:=Ô fe (w1.heap.size+1+1) 4 1;have ie:RowsO fe (w1.heap.size+1+1) [] [] (λ_=>False):=⟨rfl,λj hj=>by simp at hj⟩;have ig:=Α e9;generalize wc.heap.size=lh at *;clear e9;go_wp2_with (fail);go_loopw [16,17] (λvo vi W=>∃ (i:Nat) (l:List Sta) (f:Sta->Option Nat) (N':List (List Nat)) (Ac:List Bool) (vs:List Ν) (go co:Nat) (cv ab:Ν),i<=l.length/\l.length<=a1/\vi=.int ε i/\vo=Β (Δ ⟨go,0,Γ⟩) l.length co/\Ext w1 W/\w1.heap.size+1+1<=W.heap.size/\
   IsMp W 116 stV (w1.heap.size+1) l.length f/\Lm W (w1.heap.size+1+1) vo l/\
   À (W.heap[w1.heap.size]? = Δ (Ε (Ai c bs.length cv ab) 108 (0,0)))/\W.ownsRow (w1.heap.size+1+1) 68 1 cv vs.length vs/\OwnB W (w1.heap.size+1+1) ab Ac/\
   RowsO W (w1.heap.size+1+1) vs N' (λ_=>False)/\À (EInv bs st nx i 0 l f N' (ζ bs.length 0)/\Ac.length=i/\∀ j s,j<i->l[j]? = Δ s->Ac.getD j Τ=ac s))
  (λ_ vi _=>a1-(intOf vi).toNat)
 case atStart=>exact⟨0,[st],_,[],[],[],lh,1,_,_,by omega,by simp;omega,rfl,rfl,e8,fc,fa,fb,ig,ib,ic,ie,Α ⟨Qv bs st nx _ (by simp),rfl,λj s hj=>by omega⟩⟩
 case round=>
  clear e8 fc fa fb ig ib ic ie;obtain⟨i,l,f,N',Ac,vs,go,co,cv,ab,mv,ih,rfl,rfl,hE,dc,b9,hL,HD,J,ba,hV,E⟩:=hrel;by_cases ij:i<l.length
  ·obtain⟨wo,lj⟩:∃ W,W=wr:=⟨_,rfl⟩;subst lj;obtain⟨s,fg⟩:∃ s,l[i]? = Δ s:=⟨l[i],by simp[ij]⟩;have lk:=Α fg;have ik:Good s:=by
    obtain⟨u,hu⟩:=E.out.1.reach s (Â fg);rw[<-hu];exact Aju h0 gx u
   have fh:=Α ik;clear fg ik;go_upto_region 8 with (at_make;refine wpList_make_full _ rfl _ _ 68 rfl (w1.heap.size+1+1) 3 i0 (.int ε 0) 1 Tryz.underlying68 hi kg kh ε ε _ _ bs.length rfl rfl rfl rfl (by rw[ki];omega) (by unfold ϛ;omega) (by omega) ?_;intro w5 il bo)
   have im:=hE.grown bo (λk e=>by cases e);have fj:w5.ownsRow (w1.heap.size+1+1) 3 1 (Β (Δ ⟨wo.heap.size,0,Γ⟩) bs.length bs.length) bs.length ((ζ bs.length 0).map iv):=by rw[<-B6];exact il
   have iq:=b9.kept bo (by simp);have ir:=Cb hL bo;have iu:=Α ((bo.block w1.heap.size (An HD.out) (by simp)).trans HD.out);have iw:=Cb J bo;have ix:=Cb ba bo;have iy:=(hV.av (av':=λo=>o=Δ wo.heap.size) (λv l I cw e=>by
    have:=(I.lt _ e).2;omega)).kept bo (λv l I cw=>by cases v.ownBlock<;>simp)
   have iz:=ψ dc bo.size;have mw:=(fj.lt wo.heap.size rfl).1;generalize wo.heap.size=gr at *;clear il bo b9 hL HD J ba hV hE dc;go_wp2_with (fail);go_loopw [16,44] (λvo vi W=>∃ (k:Nat) (G:List Sta) (f2:Sta->Option Nat) (r:List Nat) (ck eh:Nat),k<=bs.length/\G.length<=a1/\vi=.int ε k/\vo=Β (Δ ⟨ck,0,Γ⟩) G.length eh/\Ext w1 W/\w1.heap.size+1+1<=W.heap.size/\
     IsMp W 116 stV (w1.heap.size+1) G.length f2/\Lm W (w1.heap.size+1+1) vo G/\W.ownsRow (w1.heap.size+1+1) 3 1 (Β (Δ ⟨gr,0,Γ⟩) bs.length bs.length) bs.length (r.map iv)/\
     À (W.heap[w1.heap.size]? = Δ (Ε (Ai c bs.length cv ab) 108 (0,0)))/\W.ownsRow (w1.heap.size+1+1) 68 1 cv vs.length vs/\OwnB W (w1.heap.size+1+1) ab Ac/\
     RowsO W (w1.heap.size+1+1) vs N' (λo=>o=Δ gr)/\À (EInv bs st nx i k G f2 N' r/\i<G.length/\∀ j,j<=i->G[j]? = l[j]?))
    (λ_ vi _=>bs.length-(intOf vi).toNat)
   case atStart=>exact⟨0,l,f,_,go,co,by omega,ih,rfl,rfl,im,iz,iq,ir,fj,iu,iw,ix,iy,Α ⟨E.out.1,ij,λ_ _=>rfl⟩⟩
   case round=>
    clear im iz iq ir fj iu iw ix iy;obtain⟨k,G,f2,r,ck,eh,hk,ja,rfl,rfl,hE,dc,b9,hL,hQ,HD,J,ba,hV,M⟩:=hrel;have df:=Α M.out.1.lenr;have my:=M.out.2.1;have bp:À (G[i]? = Δ s):=Α (by rw[M.out.2.2 i (ν _)];exact lk.out);obtain⟨w5,ln⟩:∃ W,W=wr:=⟨_,rfl⟩;subst ln;by_cases cx:k<bs.length
    ·have cb:=k0.out w5 (ch.trans hE) k cx;have ei:=hb k cx;obtain⟨b,fk⟩:∃ b,bs.getD k 0=b:=⟨_,rfl⟩;rw[fk] at cb ei;have jc:=Α fk;clear fk;obtain⟨s0,s1,s2⟩:=J7 hL i s bp.out;obtain⟨y,ej⟩:∃ y,nx s b=y:=⟨_,rfl⟩;have fl:=Α (HN.out w5 (ch.trans hE) s fh.out b ei);rw[ej] at fl;have ek:Good y:=by rw[<-ej];exact gx s fh.out b ei
     have fm:=Ta y (gv y ek);have eo:À (nx s (bs.getD k 0)=y):=Α (by rw[jc.out];exact ej);clear ej;go_upto_region 12 with (first
      | ((with_reducible refine fl.out.mono ?_);rintro e w6 ⟨rfl,jd⟩)
      | (refine Φ rfl 116 (η 21) (η 55) rfl _ #[iv y.p,iv y.q,.int π (y.s:Int)] rfl rfl _ _ (Aa w6 (Ε #[.int ε 0,.int ε 0,.int π 0] 116)) D0 rfl (Tc y) ?_))
     have al:=jd.trans (((Θ w6).alloc (Ε #[.int ε 0,.int ε 0,.int π 0] 116)).setRow (ν _) #[iv y.p,iv y.q,.int π (y.s:Int)]);have fo:=μ (w6.alloc (Ε #[.int ε 0,.int ε 0,.int π 0] 116)) w6.heap.size _ #[iv y.p,iv y.q,.int π (y.s:Int)] _ _ (Aa w6 _);obtain⟨w7,fp⟩:∃ W,(w6.alloc (Ε #[.int ε 0,.int ε 0,.int π 0] 116)).setRow w6.heap.size #[iv y.p,iv y.q,.int π (y.s:Int)]=W:=⟨_,rfl⟩;rw[fp] at al fo;simp only[fp];clear fp jd fl cb s0 s1 s2;have cy:=Α fo;clear fo;generalize w6.heap.size=gy at *;have bj:=Ah hL al;have af:=Ah hQ al;have ao:=Ah J al;have bk:=Ah ba al;have cl:=hV.kept (al.grownBy Γ) (λv l _ _=>by cases v.ownBlock<;>simp);have a7:=Α (al.heap HD.out);have aq:=b9.ext al;have bl:=hE.trans al;have cm:=ψ dc al.size;clear hL hQ J ba hV HD b9 hE al dc;cases hf:f2 y with
     | some v=>
      have ft:=Α (Qx M.out.1 cx bp.out v (by rw[eo.out];exact hf));have cq:=Am 0 af df.out.symm k (by rw[df.out];exact cx);have fq:=af.frozenAt k;obtain⟨bq,D⟩:=Bk af k v;have br:=bl.grown D (λk e=>by cases e;omega);have ag:=bj.kept D (Aj bj af (by decide));have bt:=ao.kept D (Aj ao af (by decide));have bu:=bk.kept D (Aj bk af (by decide));have cd:=cl.kept D (λv l I cw=>.inr (λe=>cw e));have bw:=Α ((D.block w1.heap.size (An a7.out) (λe=>by have:=ύ e;omega)).trans a7.out);have bz:=aq.kept D (λe=>by have:=ύ e;omega);have cn:=ψ cm D.size;clear D bj af ao bk cl a7 bl cm;go_wp2_with (first
       | (refine Ο rfl 116 (η 21) rfl _ rfl _ _ _ _ cy.out Ê rfl D0 ?_)
       | (at_lookup;refine Er rfl _ _ 167 rfl Mw Tryz.underlying167 rfl aq y rfl fm ?_;rw[hf];dsimp only [Option.isSome,Option.getD]))
      go_roundw
      case rel=>exact⟨k+1,G,f2,r.set k v,ck,eh,by omega,ja,by go_num,rfl,br,cn,bz,ag,bq,bw,bt,bu,cd,Α ⟨ft.out,M.out.2⟩⟩
      case measure=>simp[intOf];omega
     | none=>
      go_upto_region 15 with (first
       | (refine Ο rfl 116 (η 21) rfl _ rfl _ _ _ _ cy.out Ê rfl D0 ?_)
       | (at_lookup;refine Er rfl _ _ 167 rfl Mw Tryz.underlying167 rfl aq y rfl fm ?_;rw[hf];dsimp only [Option.isSome,Option.getD]))
      by_cases fu:G.length=a1
      ·have lq:((G.length:Int)==(a1:Int))=Ξ:=by simp[fu]
       have lr:=Α Am6;have dh:=Α (bl.heap h4.out);have fv:B8 nx st a1:=by
        refine⟨G++[y],?_,λx hx=>?_,by rw[Υ,fu];simp⟩
        ·rw[List.nodup_append];refine⟨M.out.1.nodup,by simp,λx hx z hz=>?_⟩;have hz:z=y:=by simpa using hz
         subst hz;rintro rfl;obtain⟨v,hv⟩:=List.getElem?_of_mem hx;have:=(M.out.1.num x v).2 hv;rw[hf] at this;cases this
        ·rcases List.mem_append.1 hx with hx|hx
         ·exact M.out.1.reach x hx
         ·have hx:x=y:=by simpa using hx
          subst hx;obtain⟨u,hu⟩:=M.out.1.reach s (Â bp.out);refine⟨u++[UInt8.ofNat b],?_⟩;rw[Ed,hu,u8n b ei,<-jc.out];exact eo.out
       have fv:=Α fv;have zo:ξ.all (·.oneCell')=Ξ:=by kernel_rfl
       clear fu;go_wp2_with (first
        | (refine Bw rfl 108 _ rfl ξ ?_ ?_;(simp;with_reducible exact lr.out))
        | (refine Φ rfl 108 (η 12) (η 69) rfl _ _ rfl rfl _ _ dh.out (by rw[Da];exact Cc) rfl zo ?_))
       refine ω (v:=ϙ #[.agg ξ,.bool Τ]) (A3 rfl _ _ _ _ _ _ _ rfl _ rfl (μ w7 _ _ ξ 108 (0,0) dh.out) Ϫ rfl (by rw[Da];exact Cc)) rfl ?_;exact⟨(ch.trans bl).setRow (by omega) _,.inr ⟨fv.out,rfl⟩⟩
      ·have lq:((G.length:Int)==(a1:Int))=Τ:=by simp;omega
       have fx:=Qy M.out.1 cx hb bp.out (by rw[eo.out];exact hf);rw[eo.out] at fx;have ft:=Α fx;clear fx;go_upto_region 18 with (first
        | (refine Ο rfl 116 (η 21) rfl _ rfl _ _ _ _ cy.out Ê rfl D0 ?_)
        | (at_mapUpdate;refine Jw rfl _ _ _ 167 rfl Mw Tryz.underlying167 rfl aq (by unfold ϛ;omega) Tb y rfl fm G.length rfl (by omega) ?_;intro w8 bz D))
       have ag:=bj.kept D (aq.far bj);have bq:=af.kept D (aq.far af);have bt:=ao.kept D (aq.far ao);have bu:=bk.kept D (aq.far bk);have cd:=cl.kept D (λv l I cw=>aq.far I);have bw:=Α ((D.block w1.heap.size (An a7.out) (by simp)).trans a7.out);have br:=bl.grown D (λk e=>by cases e;omega);have cn:=ψ cm D.size;have ek:gy<w7.heap.size:=An cy.out;have je:gy≠w1.heap.size+1:=λe=>by
        obtain⟨_,⟨es,na,lu,_⟩,_⟩:=aq;have:=cy.out;rw[e,lu] at this;cases this
       have jf:=Α ((D.block gy ek (λe=>je (ύ e))).trans cy.out);clear D bj af ao bk cl a7 bl cm aq je ek;go_upto_region 19 with (first
        | (refine Ο rfl 116 (η 21) rfl _ rfl _ _ _ _ jf.out Ê rfl D0 ?_)
        | (at_builtin;refine Ϙ _ rfl _ _ 168 rfl (w1.heap.size+1+1) 116 i7 (.agg #[.int ε 0,.int ε 0,.int π 0]) 3 24 Tryz.underlying168 kv kx ky kz rfl (by decide) _ _ _ rfl (ag.alloc _) _ 1 1 (stL y) rfl rfl (Λ.news_of_block (Aa w8 _)) (by simp[stL,ό]) (by decide) (by unfold ϛ;omega) (by omega) (by simp;omega) _ rfl ?_;intro g9 c9 w9 cf b0 _ _))
       have T:=(br.alloc (Ε #[iv y.p,iv y.q,.int π (y.s:Int)] 116)).grown b0 (λk e=>by have:=(ag.lt k e).1;omega);have bc:=(bq.alloc (Ε #[iv y.p,iv y.q,.int π (y.s:Int)] 116)).kept b0 (Aj bq ag (by decide));have cp:=(bt.alloc (Ε #[iv y.p,iv y.q,.int π (y.s:Int)] 116)).kept b0 (Aj bt ag (by decide));have cr:=(bu.alloc (Ε #[iv y.p,iv y.q,.int π (y.s:Int)] 116)).kept b0 (Aj bu ag (by decide));have cz:=(cd.alloc (Ε #[iv y.p,iv y.q,.int π (y.s:Int)] 116)).kept b0 (λv l I _=>Aj I (ag.alloc (Ε #[iv y.p,iv y.q,.int π (y.s:Int)] 116)) (by decide));have b4:=Α ((b0.block w1.heap.size (δ (An bw.out) (by rw[Ρ];omega)) (λe=>by have:=(ag.lt _ e.symm).1;omega)).trans (Ag bw.out _));have c3:=(bz.alloc (Ε #[iv y.p,iv y.q,.int π (y.s:Int)] 116)).kept b0 (bz.ne_row ag);have c4:w1.heap.size+1+1<=w9.heap.size:=by
        have:=b0.size;rw[Ρ] at this;omega
       have fy:À (Lm w9 (w1.heap.size+1+1) (Β (Δ ⟨g9,0,Γ⟩) (G++[y]).length c9) (G++[y])):=Α (by
        show Ϡ _ _ _ _ _ _ _;rw[Υ,Aka,Aj8];exact cf)
       clear b0 ag bq bt bu cd bw br cn bz cf jf;have cq:=Am 0 bc df.out.symm k (by rw[df.out];exact cx);have fq:=bc.frozenAt k;obtain⟨dk,b5⟩:=Bk bc k G.length;have er:=T.grown b5 (λk e=>by cases e;omega);have lv:=Α (fy.out.kept b5 (Aj fy.out bc (by decide)));have dm:=cp.kept b5 (Aj cp bc (by decide));have bd:=cr.kept b5 (Aj cr bc (by decide));have et:=cz.kept b5 (λv l I cw=>.inr (λe=>cw e));have c5:=Α ((b5.block w1.heap.size (An b4.out) (λe=>by have:=ύ e;omega)).trans b4.out);have dn:=c3.kept b5 (λe=>by have:=ύ e;omega);have fz:=ψ c4 b5.size;clear b5 fy bc cp cr cz b4 T c4 c3;go_wp2_with (fail);go_roundw
       case rel=>
        refine⟨k+1,G++[y],_,r.set k G.length,g9,c9,by omega,by rw[Υ];simp;omega,by go_num,?_,er,fz,?_,?_,dk,c5,dm,bd,et,Α ⟨ft.out,?_,λj hj=>?_⟩⟩
        ·rw[Υ];rfl
        ·rw[Υ];exact dn
        ·have h9:Ϡ _ _ _ _ _ _ _:=lv.out;show Ϡ _ _ _ _ _ _ _;rw[show (G++[y]).length=G.length+1 by simp] at h9 ⊢;exact h9
        ·rw[Υ];have:=M.out.2.1;omega
        ·rw[Ϣ (by have:=M.out.2.1;omega)];exact M.out.2.2 j hj
       case measure=>simp[intOf];omega
    ·obtain rfl:k=bs.length:=by omega
     have c1:=(γ w5 w1.heap.size 257 _ _ _ HD.out).trans (J4 _ _ _ _);have nb:vs.length<=1073741824:=by rw[hV.1,M.out.1.lenN];omega
     go_upto_region 22 with (at_builtin;refine Ϙ _ rfl _ _ 27 rfl (w1.heap.size+1+1) 68 i6 (Β Γ 0 0) 1 24 Tryz.underlying27 kq kr ks kt rfl (by decide) cv vs.length vs rfl (J.alloc _) _ 1 1 [Β (Δ ⟨gr,0,Γ⟩) bs.length bs.length] rfl rfl (ϭ _ _ _) (by simp[ό]) (by decide) (by unfold ϛ;omega) (by omega) (by simp;omega) _ rfl ?_;intro g7 c7 w7 ao b6 _ _;have a7:À (w7.heap[w1.heap.size]? = _):=Α ((b6.block w1.heap.size (δ (An HD.out) (by rw[Ρ];omega)) (λe=>by have:=(J.lt _ e.symm).1;omega)).trans (Ag HD.out _));have ly:=(γ w7 w1.heap.size 257 _ _ _ a7.out).trans (J4 _ _ _ _);have f17:=Ϸ w7 w1.heap.size 257 _ _ a7.out)
     clear c1 ly f17;have aq:=(b9.alloc (Ε #[Β (Δ ⟨gr,0,Γ⟩) bs.length bs.length] 68)).kept b6 (b9.ne_row J);have bj:=(hL.alloc (Ε #[Β (Δ ⟨gr,0,Γ⟩) bs.length bs.length] 68)).kept b6 (Aj hL J (by decide));have af:=(hQ.alloc (Ε #[Β (Δ ⟨gr,0,Γ⟩) bs.length bs.length] 68)).kept b6 (Aj hQ J (by decide));have bk:=(ba.alloc (Ε #[Β (Δ ⟨gr,0,Γ⟩) bs.length bs.length] 68)).kept b6 (Aj ba J (by decide));have cl:=(hV.alloc (Ε #[Β (Δ ⟨gr,0,Γ⟩) bs.length bs.length] 68)).kept b6 (λv l I _=>Aj I (J.alloc (Ε #[Β (Δ ⟨gr,0,Γ⟩) bs.length bs.length] 68)) (by decide));have al:=(hE.alloc (Ε #[Β (Δ ⟨gr,0,Γ⟩) bs.length bs.length] 68)).grown b6 (λk e=>by have:=(J.lt k e).1;omega);have cm:w1.heap.size+1+1<=w7.heap.size:=by
      have:=b6.size;rw[Ρ] at this;omega
     clear b6 b9 hL hQ ba hV hE J HD;have ao:w7.ownsRow (w1.heap.size+1+1) 68 1 (Β (Δ ⟨g7,0,Γ⟩) (vs.length+1) c7) (vs++[Ϥ (Δ ⟨gr,0,Γ⟩) bs.length bs.length]).length (vs++[Ϥ (Δ ⟨gr,0,Γ⟩) bs.length bs.length]):=by
      rw[Υ];exact ao
     obtain⟨row,gb⟩:∃ v,Ϥ (Δ ⟨gr,0,Γ⟩) bs.length bs.length=v:=⟨_,rfl⟩;have nc:row.ownBlock=Δ gr:=by rw[<-gb];rfl
     rw[gb] at ao af;clear gb;obtain⟨U,jl⟩:∃ v,Ϥ (Δ ⟨g7,0,Γ⟩) (vs.length+1) c7=v:=⟨_,rfl⟩;rw[jl] at ao;have D:=Cd w7 w1.heap.size (Ai c bs.length U ab);have dp:w7.setCell ⟨w1.heap.size,257,Γ⟩ U=w7.setRow w1.heap.size (Ai c bs.length U ab):=by
      rw[Ϧ w7 _ _ _ _ _ _ a7.out,Su]
     have bl:=al.setRow (ν _) (Ai c bs.length U ab);have bz:=aq.kept D (by simp);have ag:=bj.kept D (Ay bj (by omega));have bq:=af.kept D (Ay af (by omega));have bt:=ao.kept D (Ay ao (by omega));have bu:=bk.kept D (Ay bk (by omega));have cd:=cl.kept D (λv l I _=>Ay I (by omega));have bw:=Α (μ w7 w1.heap.size _ (Ai c bs.length U ab) _ _ a7.out);have cn:w1.heap.size+1+1<=(w7.setRow w1.heap.size (Ai c bs.length U ab)).heap.size:=by rw[ò];exact cm
     rw[jl,dp];clear D aq bj af ao bk cl al cm a7 dp;obtain⟨w8,gd⟩:∃ W,w7.setRow w1.heap.size (Ai c bs.length U ab)=W:=⟨_,rfl⟩;rw[gd] at bz ag bq bt bu cd bw bl cn;rw[gd];clear gd;have c3:=bz.ext (Θ w8).drew;have cf:=Ah ag (Θ w8).drew;have bc:=Ah bq (Θ w8).drew;have cp:=Ah bt (Θ w8).drew;have cr:=Ah bu (Θ w8).drew;have cz:=cd.kept ((Θ w8).drew.grownBy Γ) (λv l _ _=>by cases v.ownBlock<;>simp);have b4:À (w8.drew.heap[w1.heap.size]? = Δ (Ε (Ai c bs.length U ab) 108 (0,0))):=Α bw.out;have br:=bl.drew;have c4:w1.heap.size+1+1<=w8.drew.heap.size:=cn;obtain⟨s0,s1,s2⟩:=J7 cf i s bp.out;have c2:∀ W:Λ,W.heap[w1.heap.size]? = Δ (Ε (Ai c bs.length U ab) 108 (0,0))->W.cell? ⟨w1.heap.size,258,Γ⟩=Δ ab:=λW hW=>(γ W w1.heap.size 258 _ _ _ hW).trans (Ha _ _ _ _)
     have nd:Ac.length<=1073741824:=by rw[E.out.2.1];omega
     have lz:=Α (λ(W:Λ) (hW:Ext w W)=>HA.out W hW s fh.out);refine B2 11 [(0,Ξ),(1,Ξ),(2,Ξ),(3,Ξ),(4,Ξ),(5,Ξ),(6,Ξ),(7,Τ),(8,Τ),(9,Τ),(10,Ξ),(11,Τ)] (by kernel_rfl) (by kernel_rfl) (λ_ _ _ _ h=>h)
      (λW=>W.heap[w1.heap.size]? = Δ (Ε (Ai c bs.length U ab) 108 (0,0))/\W.cell? ⟨ck,i*3,Γ⟩=Δ (iv s.p)/\W.cell? ⟨ck,i*3+1,Γ⟩=Δ (iv s.q)/\W.cell? ⟨ck,i*3+2,Γ⟩=Δ (.int π (s.s:Int))) ⟨b4.out,s0,s1,s2⟩ ?_
     obtain⟨w9,gg⟩:∃ W,w8.drew=W:=⟨_,rfl⟩;rw[gg] at c3 cf bc cp cr cz b4 br c4 s0 s1 s2;rw[gg];clear gg bz ag bq bt bu cd bw bl cn;clear s0 s1 s2;iterate 7
      refine Ff (v:=?_) rfl rfl (λW hW=>?_) ?_
      rotate_left
      ·obtain⟨jm,t0,t1,t2⟩:=hW;have k2:=c2 W jm;clear jm;go_simp;first|done|with_reducible rfl
      simp only[Ϛ,Ι,Χ,Ψ]
     refine Dc rfl (λK hK=>?_);go_simp
     (with_reducible refine (lz.out w9 (ch.trans br)).mono ?_)
     rintro e gh ⟨rfl,T⟩;obtain⟨s0,s1,s2⟩:=J7 cf i s bp.out;refine hK _ _ (λ_=>⟨T.heap b4.out,T.cell s0,T.cell s1,T.cell s2⟩) ?_;clear hK K s0 s1 s2;have dn:=c3.ext T;have eu:=Ah cf T;have dk:=Ah bc T;have dm:=Ah cp T;have bd:=Ah cr T;have et:=cz.kept (T.grownBy Γ) (λv l _ _=>by cases v.ownBlock<;>simp);have c5:=Α (T.heap b4.out);have er:=br.trans T;have fz:=ψ c4 T.size;clear c3 cf bc cp cr cz b4 br c4 T;obtain⟨s0,s1,s2⟩:=J7 eu i s bp.out;have l4:À (∀ j x,j<i+1->G[j]? = Δ x->(Ac++[ac s]).getD j Τ=ac x):=Α λj x hj hx=>by
      rw[I7,E.out.2.1];by_cases jo:j<i
      ·rw[if_pos jo];rw[M.out.2.2 j (by omega)] at hx;exact E.out.2.2 j x jo hx
      ·obtain rfl:j=i:=by omega
       rw[if_neg (by omega),if_pos rfl];rw[bp.out] at hx;injection hx with hx
       rw[hx]
     generalize ac s=bx at *;refine Dc rfl (λK hK=>?_);go_simp;refine hK _ _ (λ_=>⟨Ag c5.out _,((Θ gh).alloc _).cell s0,((Θ gh).alloc _).cell s1,((Θ gh).alloc _).cell s2⟩) ?_;clear hK K s0 s1 s2;refine Dc rfl (λK hK=>?_);refine step_append_lies _ rfl _ _ 28 rfl (w1.heap.size+1+1) 4 i4 (.bool Τ) 1 1 Tryz.underlying28 kk kl km kn rfl (by decide) ab Ac.length (Ac.map Ν.bool) rfl (bd.alloc _) _ 1 1 [.bool bx] rfl rfl (ϭ _ _ _) (by simp[ό]) (by decide) (by unfold ϛ;omega) (by omega) (by simp;omega) _ rfl ?_;intro jq jr bg c6 b7 _ _;have js:=(er.alloc (Ε #[.bool bx] 4)).grown b7 (λk e=>by have:=(bd.lt k e).1;omega);have c8:=Α ((b7.block w1.heap.size (δ (An c5.out) (by rw[Ρ];omega)) (λe=>by have:=(bd.lt _ e.symm).1;omega)).trans (Ag c5.out _));have jt:=(dn.alloc (Ε #[.bool bx] 4)).kept b7 (dn.ne_row bd);have ev:=(eu.alloc (Ε #[.bool bx] 4)).kept b7 (Aj eu bd (by decide));have gi:=(dk.alloc (Ε #[.bool bx] 4)).kept b7 (Aj dk bd (by decide));have gj:=(dm.alloc (Ε #[.bool bx] 4)).kept b7 (Aj dm bd (by decide));have ju:=(et.alloc (Ε #[.bool bx] 4)).kept b7 (λv l I _=>Aj I (bd.alloc (Ε #[.bool bx] 4)) (by decide));have jv:w1.heap.size+1+1<=bg.heap.size:=by
      have:=b7.size;rw[Ρ] at this;omega
     have c6:OwnB bg (w1.heap.size+1+1) (Β (Δ ⟨jq,0,Γ⟩) (Ac.length+1) jr) (Ac++[bx]):=by
      show Ϡ _ _ _ _ _ _ _;rw[Υ,List.map_append];exact c6
     clear b7 dn eu dk dm bd et c5 er fz;obtain⟨s0,s1,s2⟩:=J7 ev i s bp.out;refine hK _ _ (λ_=>⟨c8.out,s0,s1,s2⟩) ?_;clear hK K s0 s1 s2;refine Ff (v:=?_) rfl rfl (λW hW=>?_) ?_
     rotate_left
     ·clear hW;go_simp;first|done|with_reducible rfl
     simp only[Ϛ,Ι,Χ,Ψ];have k2:=c2 bg c8.out;have l5:=Ϸ bg w1.heap.size 258 _ _ c8.out;refine Dc rfl (λK hK=>?_);go_simp;refine hK _ _ (λh=>absurd h (by omega)) ?_;clear hK K k2 l5 c2;refine B3 ?_;obtain⟨cg,jw⟩:∃ v,Ϥ (Δ ⟨jq,0,Γ⟩) (Ac.length+1) jr=v:=⟨_,rfl⟩;rw[jw] at c6;have ct:=Cd bg w1.heap.size (Ai c bs.length U cg);have dp:bg.setCell ⟨w1.heap.size,258,Γ⟩ cg=bg.setRow w1.heap.size (Ai c bs.length U cg):=by
      rw[Ϧ bg _ _ _ _ _ _ c8.out,Oa]
     have jx:=js.setRow (ν _) (Ai c bs.length U cg);have jy:=jt.kept ct (by simp);have jz:=ev.kept ct (Ay ev (by omega));have gk:=gi.kept ct (Ay gi (by omega));have j0:=gj.kept ct (Ay gj (by omega));have j1:=c6.kept ct (Ay c6 (by omega));have gl:=ju.kept ct (λv l I _=>Ay I (by omega));have j2:=Α (μ bg w1.heap.size _ (Ai c bs.length U cg) _ _ c8.out);have j3:w1.heap.size+1+1<=(bg.setRow w1.heap.size (Ai c bs.length U cg)).heap.size:=by rw[ò];exact jv
     rw[jw,dp];clear ct jt ev gi gj c6 ju js jv c8 dp;obtain⟨l6,gm⟩:∃ W,bg.setRow w1.heap.size (Ai c bs.length U cg)=W:=⟨_,rfl⟩;rw[gm] at jy jz gk j0 j1 gl j2 jx j3;rw[gm];clear gm;have j4:OwnI l6 (w1.heap.size+1+1) row r:=by
      show Ϡ _ _ _ _ _ _ _;rw[df.out];exact gk
     have l7:=(gl.av (av':=λ_=>False) (λv l _ _ e=>e)).snoc j4 (λe=>e);have l8:=Α (Qw M.out.1 M.out.2.1 (ζ bs.length 0) (by simp));have l9:À ((Ac++[bx]).length=i+1):=Α (by rw[Υ,E.out.2.1];rfl);clear gk gl j4;go_wp2;go_roundw
     case rel=>exact⟨i+1,G,f2,N'++[r],Ac++[bx],vs++[row],ck,eh,U,cg,by omega,ja,by go_num,rfl,jx,j3,jy,jz,j2,j0,j1,l7,Α ⟨l8.out,l9.out,l4.out⟩⟩
     case measure=>simp[intOf];omega
  ·obtain rfl:i=l.length:=by omega
   have ma:=Α (Qz (c:=c) (ac:=ac) E.out.1 rfl E.out.2.1 (λj s hs=>E.out.2.2 j s (ϊ.1 hs).1 hs));have dh:=Α (hE.heap h4.out);have mb:=hV.rows J (by rw[E.out.1.lenN];omega) (λj hj=>by rw[E.out.1.rows j (by rw[<-E.out.1.lenN];exact hj)];omega);obtain⟨an,ax,rfl⟩:=Eo J;obtain⟨aa,az,rfl⟩:=Eo ba;have ew:(Ζ.info? 108).map (·.size)=Δ (Ai c bs.length (Β an vs.length ax) (Β aa Ac.length az)).size:=by rw[Em];exact Cc
   have j5:ξ.size=(Ai c bs.length (Β an vs.length ax) (Β aa Ac.length az)).size:=by rw[Em,Da]
   have j6:=G5 c bs.length (Β an vs.length ax) (Β aa Ac.length az) rfl rfl;have ey:=Cd wr (w.heap.size+1+1) (Ai c bs.length (Β an vs.length ax) (Β aa Ac.length az));have dq:=J.kept ey (Ay J (by omega));have dr:=ba.kept ey (Ay ba (by omega));have ez:=hV.kept ey (λv l I _=>Ay I (by omega));have j7:=(ch.trans hE).setRow (show w.heap.size<=w.heap.size+1+1 by omega) (Ai c bs.length (Β an vs.length ax) (Β aa Ac.length az));have j8:IsT (wr.setRow (w.heap.size+1+1) (Ai c bs.length (Β an vs.length ax) (Β aa Ac.length az))) (Ai c bs.length (Β an vs.length ax) (Β aa Ac.length az)) ⟨c,bs.length,N',Ac⟩:=
    ⟨_,_,rfl,ez.rows dq (by rw[E.out.1.lenN];omega) (λj hj=>by rw[E.out.1.rows j (by rw[<-E.out.1.lenN];exact hj)];omega),OwnB.bools (l:=Ac) dr (by rw[E.out.2.1];omega)⟩
   have j9:∀ g cs,g<w.heap.size->IsT ((wr.setRow (w.heap.size+1+1) (Ai c bs.length (Β an vs.length ax) (Β aa Ac.length az))).setRow g cs) (Ai c bs.length (Β an vs.length ax) (Β aa Ac.length az)) ⟨c,bs.length,N',Ac⟩:=λg cs hg=>by
    have gp:=Cd (wr.setRow (w.heap.size+1+1) (Ai c bs.length (Β an vs.length ax) (Β aa Ac.length az))) g cs;have mc:=dq.kept gp (Ay dq (by omega));have me:=dr.kept gp (Ay dr (by omega));have mf:=ez.kept gp (λv l I _=>Ay I (by omega));exact⟨_,_,rfl,mf.rows mc (by rw[E.out.1.lenN];omega) (λj hj=>by rw[E.out.1.rows j (by rw[<-E.out.1.lenN];exact hj)];omega),OwnB.bools (l:=Ac) me (by rw[E.out.2.1];omega)⟩
   have ka:=Α j9;have kb:∀ W,Near (wr.setRow (w.heap.size+1+1) (Ai c bs.length (Β an vs.length ax) (Β aa Ac.length az))) W->IsT W (Ai c bs.length (Β an vs.length ax) (Β aa Ac.length az)) ⟨c,bs.length,N',Ac⟩:=λW hW=>
    ⟨_,_,rfl,(hW.rows ez).rows (hW.owns dq (by decide)) (by rw[E.out.1.lenN];omega) (λj hj=>by rw[E.out.1.rows j (by rw[<-E.out.1.lenN];exact hj)];omega),OwnB.bools (l:=Ac) (hW.owns dr (by decide)) (by rw[E.out.2.1];omega)⟩
   have kc:=Α kb;clear ey dq dr ez mb j9 kb;obtain⟨TT,kd⟩:∃ X,Ai c bs.length (Β an vs.length ax) (Β aa Ac.length az)=X:=⟨_,rfl⟩;rw[kd] at HD ew j5 j6 j7 j8 ka kc;clear kd;go_wp2_with (first
    | (refine Ο rfl 108 (η 14) rfl _ rfl _ _ _ _ HD.out Ϫ rfl ew ?_)
    | (refine Φ rfl 108 (η 12) (η 99) rfl _ _ rfl rfl _ _ dh.out ew j5 j6 ?_))
   refine ω (v:=ϙ #[.agg TT,.bool Ξ]) (A3 rfl _ _ _ _ _ _ _ rfl _ rfl (μ wr _ _ TT 108 (0,0) dh.out) Ϫ rfl ew) rfl ?_;exact⟨j7,.inl ⟨TT,l,_,rfl,j8,ma.out,ih,ka.out,kc.out⟩⟩
theorem Ao {P:ã} {ops:Array ϳ} {Q:Exit->ú->Λ->Prop} {C:Λ->Prop} {n i:Nat} {is:List (Nat × Bool)} {o:ϳ} {v:Ν} {a:ú} {w:Λ} (D:ops.toList[i]? = Δ o) (E:Ë o (yielded ops a.tmps)=Ξ) (G:∀ W,C W->(Ù a.eval o).run P W=.ok (.value v) W)
  (h:En P ops Q C n is (a.put o.dst v) w):En P ops Q C n ((i,Ξ)::is) a w:=Ff (by rw[<-æ];exact D) E G h
theorem A5 {P:ã} {ops:Array ϳ} {Q:Exit->ú->Λ->Prop} {C:Λ->Prop} {n i:Nat} {is:List (Nat × Bool)} {o:ϳ} {a:ú} {w:Λ} (E:ops.toList[i]? = Δ o)
  (h:∀ K:ú->Λ->Prop,(∀ D w',(i<n->C w')->En P ops Q C n is D w'->K D w')->if Ë o (yielded ops a.tmps)=Ξ then ϳ.wp P o a w K Q else K (a.put o.dst ς) w):En P ops Q C n ((i,Τ)::is) a w:=Dc (by rw[<-æ];exact E) h
theorem Hm {P:ã} {o:ϳ} {a:ú} (t:Á) (parts:Array (Nat × ϵ)) (D:o.op=.build t parts) {A:Array Ν} (E:P.built t (parts.map λ(i,x)=>(i,a.eval x)).toList=Δ A) (w:Λ):(Ù a.eval o).run P w=.ok (.value (.agg A)) w:=by
 unfold Ù;simp only[D,Sem.run_bind,run_build w t _ A E,Result.andThen_ok];rfl
theorem Gf {P:ã} {ops:Array ϳ} {o:ϳ} {a:ú} {w:Λ} {K:ú->Λ->Prop} {Q:Exit->ú->Λ->Prop} {E:Prop} (ty:Á) (x y:ϵ) (D:o.op=.store ty x y) (G:o.guard=Γ)
  (g:Nat) (cells:Array Ν) (I:a.eval x=Ω (Δ ⟨g,0,Γ⟩)) (J:a.eval y=.agg cells) (t:Á) (old:Array Ν) (hg:w.heap[g]? = Δ (Ε old t (0,0))) (hi:(P.info? ty).map (·.size)=Δ cells.size)
  (M:old.size=cells.size) (T:cells.all (·.oneCell')=Ξ) (h:K (a.put o.dst ς) (w.setRow g cells)):if Ë o (yielded ops a.tmps)=Ξ then ϳ.wp P o a w K Q else E:=by
 have U:Ë o (yielded ops a.tmps)=Ξ:=by simp[Ë,G]
 rw[if_pos U];exact wp_store_row ty x y D g cells I J t old hg hi M T h
theorem Am4 (p q:Int):Ζ.built 116 [(0,.int ε p),(1,.int ε q)]=Δ #[.int ε p,.int ε q,.int π 0]:=by kernel_rfl
def pNx (x y:Tbl) (s:Sta) (b:Nat):Sta:=⟨x.stp s.p b,y.stp s.q b,0⟩
def pAc (x y:Tbl) (g:Bool->Bool->Bool) (s:Sta):Bool:=g (x.ok s.p) (y.ok s.q)
def O9 (x y:Tbl) (s:Sta):Prop:=s.p<x.n.length/\s.q<y.n.length/\s.s=0
theorem Afb (x y:Tbl) (hx:TVal x) (hy:TVal y) (A B:Array Ν) (G I:Nat) (w:Λ) (hA:IsT w A x) (hB:IsT w B y) (T:w.heap[G]? = Δ (Ε A 108 (0,0))) (U:w.heap[I]? = Δ (Ε B 108 (0,0))) :
  Nt w 120 #[Ω (Δ ⟨G,0,Γ⟩),Ω (Δ ⟨I,0,Γ⟩)] (pNx x y) (O9 x y):=by
 intro W hW s hs b J;obtain⟨hp,hq,-⟩:=hs;obtain⟨bn,on,cn,_,_,_,_,_,a1,_,a6,_,a8,_⟩:=(hA.ext hW).opened hx;obtain⟨ba,bb,b0,_,_,_,_,_,bd,_,be,_,bf,_⟩:=(hB.ext hW).opened hy;have T:=hW.heap T;have U:=hW.heap U;have a7:=(γ W G 257 _ _ _ T).trans a6;have ac:=(γ W G b _ _ _ T).trans (a1 b J);have b7:=(γ W I 257 _ _ _ U).trans be;have bc:=(γ W I b _ _ _ U).trans (bd b J);obtain⟨br,or',cr,aj,bh⟩:=a8 s.p hp;obtain⟨bj,bk,b5,ak,bl⟩:=bf s.q hq;have aa:=bh _ (hx.cell_lt b J);have ab:=bl _ (hy.cell_lt b J);have cg:=hx.cell_lt b J;have ch:=hy.cell_lt b J;have bm:x.ent2 s.p (x.cell b)=x.stp s.p b:=rfl;have bo:y.ent2 s.q (y.cell b)=y.stp s.q b:=rfl;rw[bm] at aa;rw[bo] at ab;show ϓ _ _ _ _ λe w'=>e=θ (.agg #[iv (x.stp s.p b),iv (y.stp s.q b),.int π ((0:Nat):Int)])/\Ext W w'
 have E:=((Θ W).alloc (Ε #[iv s.p,iv s.q,.int π (s.s:Int)] 116)).alloc (Ε #[.int ε 0,.int ε 0,.int π 0] 116);have H4:=Ag (Aa W (Ε #[iv s.p,iv s.q,.int π (s.s:Int)] 116)) (Ε #[.int ε 0,.int ε 0,.int π 0] 116);have H6:=Ϗ W (Ε #[iv s.p,iv s.q,.int π (s.s:Int)] 116) (Ε #[.int ε 0,.int ε 0,.int π 0] 116);clear hA hB hx hy a1 bd a6 be a8 bf bm bo bh bl T U;generalize x.stp s.p b=M at *;generalize y.stp s.q b=q2 at *;generalize x.cell b=cx at *;generalize y.cell b=cy at *;have cj:(b:Int)<256:=by omega
 generalize x.cells=mx at *;generalize y.cells=my at *;generalize x.n.length=nx at *;generalize y.n.length=ny at *;go_enter Tryz.func120,Tryz.ntmps120;go_upto_region 1 with (fail)
 obtain⟨w1,ao⟩:∃ V,(W.alloc (Ε #[iv s.p,iv s.q,.int π (s.s:Int)] 116)).alloc (Ε #[.int ε 0,.int ε 0,.int π 0] 116)=V:=⟨_,rfl⟩;rw[ao] at E H4 H6;simp only[ao];clear ao;have a7:=E.cell a7;have ac:=E.cell ac;have b7:=E.cell b7;have bc:=E.cell bc;have aj:=E.cell aj;have aa:=E.cell aa;have ak:=E.cell ak;have ab:=E.cell ab;have c0:=(γ w1 W.heap.size 0 _ _ _ H4).trans (show (#[iv s.p,iv s.q,.int π (s.s:Int)]:Array Ν)[0]? = Δ (iv s.p) from rfl);have c1:=(γ w1 W.heap.size 1 _ _ _ H4).trans (show (#[iv s.p,iv s.q,.int π (s.s:Int)]:Array Ν)[1]? = Δ (iv s.q) from rfl);have b9:∀ V,Ext w1 V->V.cell? ⟨G,257,Γ⟩=Δ (Β (Δ ⟨bn,on,Γ⟩) nx cn)/\V.cell? ⟨G,b,Γ⟩=Δ (iv cx)/\V.cell? ⟨I,257,Γ⟩=Δ (Β (Δ ⟨ba,bb,Γ⟩) ny b0)/\V.cell? ⟨I,b,Γ⟩=Δ (iv cy)/\
   V.cell? ⟨bn,on+s.p,Γ⟩=Δ (Β (Δ ⟨br,or',Γ⟩) mx cr)/\V.cell? ⟨br,or'+cx,Γ⟩=Δ (iv M)/\V.cell? ⟨ba,bb+s.q,Γ⟩=Δ (Β (Δ ⟨bj,bk,Γ⟩) my b5)/\V.cell? ⟨bj,bk+cy,Γ⟩=Δ (iv q2)/\V.cell? ⟨W.heap.size,0,Γ⟩=Δ (iv s.p)/\V.cell? ⟨W.heap.size,1,Γ⟩=Δ (iv s.q):=
  λV D=>⟨D.cell a7,D.cell ac,D.cell b7,D.cell bc,D.cell aj,D.cell aa,D.cell ak,D.cell ab,D.cell c0,D.cell c1⟩
 clear a7 ac b7 bc aj aa ak ab c0 c1;have ca:=Α (Am4 (M:Int) (q2:Int));refine B2 25 [(0,Ξ),(1,Ξ),(2,Ξ),(3,Ξ),(4,Ξ),(5,Ξ),(6,Ξ),(7,Ξ),(8,Ξ),(9,Ξ),(10,Ξ),(11,Ξ),(12,Ξ),(13,Ξ),(14,Ξ),(15,Ξ),(16,Ξ),(17,Ξ),(18,Ξ),(19,Ξ),(20,Ξ),(21,Ξ),(22,Ξ),(23,Ξ),(24,Ξ),(25,Τ)] (by kernel_rfl) (by kernel_rfl) (λ_ _ _ _ h=>h)
  (λV=>Ext w1 V) (Θ w1).drew ?_
 have aq:=(Θ w1).drew;have ar:=aq.heap H6;obtain⟨w2,au⟩:∃ V,w1.drew=V:=⟨_,rfl⟩;rw[au] at aq ar;rw[au];clear au H4 H6;iterate 24
  refine Ao (v:=?_) rfl rfl (λV D=>?_) ?_
  rotate_left
  ·obtain⟨k0,k1,k2,k3,k4,k5,k6,k7,k8,k9⟩:=b9 V D;clear D;go_simp;first|done|with_reducible rfl
  simp only[Ϛ,Ι,Χ,Ψ]
 refine Ao (v:=.agg #[iv M,iv q2,.int π 0]) rfl rfl (λV _=>?_) ?_
 ·exact Hm 116 _ rfl (by simpa [ú.eval] using ca.out) V
 simp only[Ϛ,Ι,Χ,Ψ];refine A5 rfl (λK hK=>?_);refine Gf 116 (η 6) (η 31) rfl rfl _ _ rfl rfl _ _ ar D0 rfl (by simp[ό]) ?_;refine hK _ _ (λh=>absurd h (by omega)) ?_;clear hK K;refine B3 ?_;have cd:=(E.trans aq).setRow (show W.heap.size<=W.heap.size+1 by omega) #[iv M,iv q2,.int π 0];have H7:=μ w2 _ _ #[iv M,iv q2,.int π 0] 116 (0,0) ar;go_wp2;refine ω (v:=.agg #[iv M,iv q2,.int π 0]) (Ϲ rfl _ _ _ _ _ _ _ rfl H7 Ê rfl D0) rfl ?_;exact⟨rfl,cd⟩
def Ln (D:Nat) (g:Bool->Bool->Bool):Prop:=∀ (W:Λ) (x y:Bool),ϓ Ζ D #[.bool x,.bool y] W λe w'=>e=θ (.bool (g x y))/\Ext W w'
theorem Aer (x y:Tbl) (hx:TVal x) (hy:TVal y) (A B:Array Ν) (M T U:Nat) (E:Nat) (g:Bool->Bool->Bool) (hg:Ln E g) (eh:∀ args w,(callFunc E args).run Ζ w=.ok (.enter E args) w) (w:Λ) (hA:IsT w A x) (hB:IsT w B y)
  (ab:w.heap[M]? = Δ (Ε A 108 (0,0))) (ad:w.heap[T]? = Δ (Ε B 108 (0,0))) (au:w.heap[U]? = Δ (Ε #[.func (.func E) #[] #[]] 126 (0,0))) :
  Nn w 121 #[Ω (Δ ⟨U,0,Γ⟩),Ω (Δ ⟨M,0,Γ⟩),Ω (Δ ⟨T,0,Γ⟩)] (pAc x y g) (O9 x y):=by
 intro W I s hs;obtain⟨hp,hq,-⟩:=hs;obtain⟨_,_,_,ba,oa,ca,_,_,_,_,_,ay,_,az⟩:=(hA.ext I).opened hx;obtain⟨_,_,_,a1,a6,bk,_,_,_,_,_,a7,_,bc⟩:=(hB.ext I).opened hy;have ab:=I.heap ab;have ad:=I.heap ad;have a8:=(γ W M 258 _ _ _ ab).trans ay;have b8:=(γ W T 258 _ _ _ ad).trans a7;have f5:=(γ W U 0 _ _ _ (I.heap au)).trans (show (#[.func (.func E) #[] #[]]:Array Ν)[0]? = Δ (.func (.func E) #[] #[]) from rfl);have aa:=az s.p hp;have bb:=bc s.q hq;show ϓ _ _ _ _ λe w'=>e=θ (.bool (g (x.ok s.p) (y.ok s.q)))/\Ext W w'
 have G:=(Θ W).alloc (Ε #[iv s.p,iv s.q,.int π (s.s:Int)] 116);have H4:=Aa W (Ε #[iv s.p,iv s.q,.int π (s.s:Int)] 116);clear hA hB hx hy ay a7 az bc ab ad au;generalize x.ok s.p=p2 at *;generalize y.ok s.q=q2 at *;generalize x.n.length=nx at *;generalize y.n.length=ny at *;have HG:=Α (λV x y=>hg V x y);clear hg;go_enter Tryz.func121,Tryz.ntmps121;go_upto_region 1 with (fail)
 obtain⟨w1,aj⟩:∃ V,W.alloc (Ε #[iv s.p,iv s.q,.int π (s.s:Int)] 116)=V:=⟨_,rfl⟩;rw[aj] at G H4;simp only[aj];clear aj;have a8:=G.cell a8;have b8:=G.cell b8;have f5:=G.cell f5;have aa:=G.cell aa;have bb:=G.cell bb;have c0:=(γ w1 W.heap.size 0 _ _ _ H4).trans (show (#[iv s.p,iv s.q,.int π (s.s:Int)]:Array Ν)[0]? = Δ (iv s.p) from rfl);have c1:=(γ w1 W.heap.size 1 _ _ _ H4).trans (show (#[iv s.p,iv s.q,.int π (s.s:Int)]:Array Ν)[1]? = Δ (iv s.q) from rfl);have bn:∀ V,Ext w1 V->V.cell? ⟨M,258,Γ⟩=Δ (Β (Δ ⟨ba,oa,Γ⟩) nx ca)/\V.cell? ⟨T,258,Γ⟩=Δ (Β (Δ ⟨a1,a6,Γ⟩) ny bk)/\V.cell? ⟨U,0,Γ⟩=Δ (.func (.func E) #[] #[])/\
   V.cell? ⟨ba,oa+s.p,Γ⟩=Δ (.bool p2)/\V.cell? ⟨a1,a6+s.q,Γ⟩=Δ (.bool q2)/\V.cell? ⟨W.heap.size,0,Γ⟩=Δ (iv s.p)/\V.cell? ⟨W.heap.size,1,Γ⟩=Δ (iv s.q):=
  λV D=>⟨D.cell a8,D.cell b8,D.cell f5,D.cell aa,D.cell bb,D.cell c0,D.cell c1⟩
 clear a8 b8 f5 aa bb c0 c1;refine B2 14 [(0,Ξ),(1,Ξ),(2,Ξ),(3,Ξ),(4,Ξ),(5,Ξ),(6,Ξ),(7,Ξ),(8,Ξ),(9,Ξ),(10,Ξ),(11,Ξ),(12,Ξ),(13,Τ),(14,Τ)] (by kernel_rfl) (by kernel_rfl) (λ_ _ _ _ h=>h)
  (λV=>Ext w1 V) (Θ w1).drew ?_
 have ak:=(Θ w1).drew;obtain⟨w2,al⟩:∃ V,w1.drew=V:=⟨_,rfl⟩;rw[al] at ak;rw[al];clear al H4;iterate 13
  refine Ao (v:=?_) rfl rfl (λV D=>?_) ?_
  rotate_left
  ·obtain⟨k0,k1,k2,k3,k4,k5,k6⟩:=bn V D;clear D;go_simp;first|done|with_reducible rfl
  simp only[Ϛ,Ι,Χ,Ψ]
 refine A5 rfl (λK J=>?_);go_simp
 (with_reducible refine (HG.out w2 p2 q2).mono ?_)
 rintro e w3 ⟨rfl,bf⟩;refine J _ _ (λ_=>ak.trans bf) ?_;clear J K;refine A5 rfl (λK J=>?_);go_simp;refine J _ _ (λh=>absurd h (by omega)) ?_;clear J K;refine B3 ?_;have bp:=(G.trans ak).trans bf;go_wp2;go_ret;exact⟨rfl,bp⟩
theorem Af2:Ln 79 (λx y=>x||y):=by
 intro W x y;go_enter Tryz.func79,Tryz.ntmps79;cases x<;>cases y
 all_goals
  go_wp2;go_ret;exact⟨rfl,Θ W⟩
theorem Any:Ln 80 (λx y=>x&&y):=by
 intro W x y;go_enter Tryz.func80,Tryz.ntmps80;cases x<;>cases y
 all_goals
  go_wp2;go_ret;exact⟨rfl,Θ W⟩
def O5 (w0:Λ) (D:Nat) (va E:Array Ν) (a b:Dfa):Nat->Ν->Λ->Prop
 | 0,v,_=>v=.agg va
 | 1,v,_=>∃ A,v=.agg A/\IsT w0 A (Ae a)
 | 2,v,_=>v=.agg E
 | 3,v,_=>∃ B,v=.agg B/\IsT w0 B (Ae b)
 | _,v,W=>∃ g,v=Ω (Δ ⟨g,0,Γ⟩)/\W.heap[g]? = Δ (Ε ξ 108 (0,0))/\D<=g
def O4 (i j:Nat) (v u:Ν):Prop:=(i=4/\j=5\/i=5/\j=4)->v≠u
theorem Aeu (i j:Nat) (v u:Ν) (h:O4 i j v u):O4 j i u v:=λD=>(h (by omega)).symm
theorem Aev (w0:Λ) (D:Nat) (va E:Array Ν) (a b:Dfa):∀ (i:Nat) (v:Ν) (w w':Λ),O5 w0 D va E a b i v w->Ext w w'->O5 w0 D va E a b i v w'
 | 0,_,_,_,h,_=>h
 | 1,_,_,_,h,_=>h
 | 2,_,_,_,h,_=>h
 | 3,_,_,_,h,_=>h
 | _+4,_,_,_,⟨g,G,I,J⟩,M=>⟨g,G,M.heap I,J⟩
theorem Pa (x y:Tbl):∀ (w:List UInt8) (p q:Nat),Ax (pNx x y) ⟨p,q,0⟩ w=⟨x.run p w,y.run q w,0⟩
 | [],_,_=>rfl
 | b::w,p,q=>Pa x y w (x.stp p b.toNat) (y.stp q b.toNat)
theorem Ext.setRow_both {a b:Λ} (h:Ext a b) {g:Nat} {old:Array Ν} {e:Á} {fr:Nat × Nat} (hg:a.heap[g]? = Δ (Ε old e fr)) (cs:Array Ν):Ext (a.setRow g cs) (b.setRow g cs):=by
 have G:=h.heap hg;refine⟨⟨h.below.os,h.below.tape,h.below.output,by rw[ò,ò];exact h.size,λk E=>?_⟩⟩;rw[ò] at E;by_cases D:k=g
 ·subst D;rw[μ b k old cs e fr G,μ a k old cs e fr hg]
 ·rw[setRow_other b g k cs D,setRow_other a g k cs D];exact h.block E
def Nk (n m:Nat):List Sta:=(box n m).map λp=>⟨p.1,p.2,0⟩
theorem Y0 (n m:Nat):(Nk n m).length=n*m:=by rw[Nk,ϋ,Ld]
theorem Uv {x y:Tbl} (D:TVal x) (E:TVal y) (w:List UInt8):Ax (pNx x y) ⟨0,0,0⟩ w∈Nk x.n.length y.n.length:=by
 rw[Pa];exact List.mem_map.2 ⟨(x.run 0 w,y.run 0 w),Lb (D.run_lt w D.pos) (E.run_lt w E.pos),rfl⟩
theorem Aet {x y:Tbl} (E:TVal x) (G:TVal y) {c:Nat->Nat} {bs:List Nat} (D:Joint x.cell y.cell c bs) {g:Bool->Bool->Bool} {l:List Sta} {t:Tbl} (h:Expl c bs ⟨0,0,0⟩ (pNx x y) (pAc x y g) l t) :
  TVal t/\t.n.length<=x.n.length*y.n.length/\∀ u,t.has u=g (x.has u) (y.has u):=by
 refine⟨h.tval D,?_,λu=>?_⟩
 ·rw[h.len,<-Y0];refine Dy l _ h.nodup λs hs=>?_
  obtain⟨i,hi⟩:=List.getElem?_of_mem hs;obtain⟨w,rfl⟩:=h.reach i s hi;exact Uv E G w
 ·rw[h.has D (λs k I=>?_) u,Pa]
  ·rfl
  ·obtain⟨_,J,M⟩:=D.rep k I;unfold pNx Tbl.stp;rw[J,M]
theorem Aes (a b:Dfa) (ha:Val a) (hb:Val b) (ec:a.n.length<=64) (ed:b.n.length<=64) (E:Nat) (g:Bool->Bool->Bool) (hg:Ln E g) (eh:∀ args w,(callFunc E args).run Ζ w=.ok (.enter E args) w) (va vb:Ν) (w:Λ) (hT:Tab w) (az:0<w.heap.size) (bj:IsD w va a) (bk:IsD w vb b) :
  ϓ Ζ 85 #[va,vb,.func (.func E) #[] #[]] w λe w'=>∃ A t,e=θ (.agg A)/\IsT w' A t/\TVal t/\t.n.length<=4096/\(∀ u,t.has u=g (a.has u) (b.has u))/\Ext w w':=by
 have cr:=Α bj;have ct:=Α bk;have T:=Α ha;have U:=Α hb;have HG:=Α hg;obtain⟨ac,lc,cc,an,cn,aa,la,ca,rfl⟩:=bj.agg;obtain⟨ep,er,et,eu,ev,ew,ey,ez,rfl⟩:=bk.agg;have cu:=λW (D:Ext w W)=>Α (J5 a ha _ w W D (hT.below D.below az) (δ az D.size) cr.out)
 have cv:=λW (D:Ext w W)=>Α (J5 b hb _ w W D (hT.below D.below az) (δ az D.size) ct.out)
 obtain⟨G,a1⟩:∃ X,dA (Β ac lc cc) (Β an a.n.length cn) (Β aa la ca)=X:=⟨_,rfl⟩;obtain⟨I,a6⟩:∃ X,dA (Β ep er et) (Β eu b.n.length ev) (Β ew ey ez)=X:=⟨_,rfl⟩;have e0:(Ζ.info? 30).map (·.size)=Δ G.size:=by rw[<-a1];exact Ad
 have e1:(Ζ.info? 30).map (·.size)=Δ I.size:=by rw[<-a6];exact Ad
 rw[a1] at cu cr;rw[a6] at cv ct;rw[a1,a6];have a7:=((((Θ w).alloc (Ε G 30)).alloc (Ε I 30)).alloc (Ε #[.func (.func E) #[] #[]] 126)).alloc (Ε ξ 108);have H3:=Ag (Ag (Ag (Aa w (Ε G 30)) (Ε I 30)) (Ε #[.func (.func E) #[] #[]] 126)) (Ε ξ 108);have H4:=Ag (Ag (Ϗ w (Ε G 30) (Ε I 30)) (Ε #[.func (.func E) #[] #[]] 126)) (Ε ξ 108);have H5:=Ag (Aa ((w.alloc (Ε G 30)).alloc (Ε I 30)) (Ε #[.func (.func E) #[] #[]] 126)) (Ε ξ 108);have H6:=Aa (((w.alloc (Ε G 30)).alloc (Ε I 30)).alloc (Ε #[.func (.func E) #[] #[]] 126)) (Ε ξ 108);rw[Ρ,Ρ] at H5;rw[Ρ,Ρ,Ρ] at H6;clear bj bk ha hb hg hT a1 a6;go_enter Tryz.func85,Tryz.ntmps85;go_upto_region 1 with (fail)
 obtain⟨w1,bb⟩:∃ W,(((w.alloc (Ε G 30)).alloc (Ε I 30)).alloc (Ε #[.func (.func E) #[] #[]] 126)).alloc (Ε ξ 108)=W:=⟨_,rfl⟩;have ga:w.heap.size+1+1+1<w1.heap.size:=by rw[<-bb,Ρ,Ρ,Ρ,Ρ];omega
 rw[bb] at a7 H3 H4 H5 H6;simp only[bb];clear bb;have e2:=Α H3;have e3:=Α H4;have e4:=Α H5;have e5:=Α H6;clear H3 H4 H5 H6;refine Ic 6 35 (by kernel_rfl) (by kernel_rfl) rfl (O5 w w1.heap.size G I a b) O4 Aeu (Aev w w1.heap.size G I a b) (λi hi=>?_) (λvs w2 cw hF hN=>?_)
 ·have aj:=(Θ w1).drew
  match i,hi with
  | 0,_=>
   refine Ap _ _ rfl rfl rfl λc W D af ag=>?_
   have h3:=ag 3 (by kernel_rfl);refine C4 (D2 30 (η 3) rfl w.heap.size h3 _ _ _ _ ((aj.trans D).heap e2.out) Κ rfl e0) ?_;exact⟨_,rfl,Θ W,rfl,λj u _ _ _ h=>by omega⟩
  | 2,_=>
   refine Ap _ _ rfl rfl rfl λc W D af ag=>?_
   have h3:=ag 4 (by kernel_rfl);refine C4 (D2 30 (η 4) rfl (w.heap.size+1) h3 _ _ _ _ ((aj.trans D).heap e3.out) Κ rfl e1) ?_;exact⟨_,rfl,Θ W,rfl,λj u _ _ _ h=>by omega⟩
  | 1,_=>
   refine Ap _ _ rfl rfl rfl λc W D af ag=>?_
   have gb:c.tmps.getD 14 ς=.agg G:=af 0 14 (by kernel_rfl);go_simp
   (with_reducible refine (cu W (a7.trans (aj.trans D))).out.mono ?_)
   rintro e W' ⟨A,rfl,hA,hE⟩;exact⟨_,rfl,hE,⟨A,rfl,hA⟩,λj u _ _ _ h=>by omega⟩
  | 3,_=>
   refine Ap _ _ rfl rfl rfl λc W D af ag=>?_
   have gd:c.tmps.getD 16 ς=.agg I:=af 2 16 (by kernel_rfl);go_simp
   (with_reducible refine (cv W (a7.trans (aj.trans D))).out.mono ?_)
   rintro e W' ⟨A,rfl,hA,hE⟩;exact⟨_,rfl,hE,⟨A,rfl,hA⟩,λj u _ _ _ h=>by omega⟩
  | 4,_=>
   refine Ap _ _ rfl rfl rfl λc W D af ag=>?_
   go_simp;refine⟨_,rfl,(Θ W).alloc _,⟨_,rfl,Aa W _,(aj.trans D).size⟩,λj u _ _ hu h=>?_⟩;obtain rfl:j=5:=by omega
   obtain⟨g',rfl,bp,-⟩:=hu;intro e;have:W.heap.size=g':=by simpa using e
   have:=An bp;omega
  | 5,_=>
   refine Ap _ _ rfl rfl rfl λc W D af ag=>?_
   go_simp;refine⟨_,rfl,(Θ W).alloc _,⟨_,rfl,Aa W _,(aj.trans D).size⟩,λj u _ _ hu h=>?_⟩;obtain rfl:j=4:=by omega
   obtain⟨g',rfl,bp,-⟩:=hu;intro e;have:W.heap.size=g':=by simpa using e
   have:=An bp;omega
 ·obtain⟨A,hA,bq⟩:=hF 1 (by omega);obtain⟨B,hB,br⟩:=hF 3 (by omega);obtain⟨g7,h7,H7,e6⟩:=hF 4 (by omega);obtain⟨g8,h8,H8,e7⟩:=hF 5 (by omega);have c1:g7≠g8:=λe=>hN 4 5 (by omega) (by omega) (by omega) (by omega) (by rw[h7,h8,e])
  have c2:=(Θ w1).drew.trans cw;have c3:vs 0=.agg G:=hF 0 (by omega);have c4:vs 2=.agg I:=hF 2 (by omega);simp only[Bq,ó,List.drop_zero,hA,hB,h7,h8,c3,c4,List.getElem?_toArray,List.getElem?_cons_zero,List.getElem?_cons_succ,Option.bind_some,Ϛ,Ι,Χ,Ψ];clear hF hN hA hB h7 h8 c3 c4;obtain⟨_,_,_,_,_,_,bx,e8,_⟩:=bq.opened (Bj T.out);obtain⟨_,_,_,_,_,_,bz,e9,_⟩:=br.opened (Bj U.out);have c5:(Ζ.info? 108).map (·.size)=Δ A.size:=by rw[bx];exact Cc
  have hiB:(Ζ.info? 108).map (·.size)=Δ B.size:=by rw[bz];exact Cc
  have c6:ξ.size=A.size:=by rw[Da,bx]
  have c7:ξ.size=B.size:=by rw[Da,bz]
  have b0:=B7 H8 (Ne.symm c1) A;have bc:=((c2.setRow e6 A).setRow e7 B);have G7:=B7 (μ w2 g7 _ A _ _ H7) c1 B;have G8:=μ (w2.setRow g7 A) g8 _ B _ _ b0;clear bx bz;go_upto_region 2 with (first
   | (refine Φ rfl 108 (η 7) (η 15) rfl _ _ rfl rfl _ _ H7 c5 c6 e8 ?_)
   | (refine Φ rfl 108 (η 8) (η 17) rfl _ _ rfl rfl _ _ b0 hiB c7 e9 ?_))
  obtain⟨w3,b6⟩:∃ W,(w2.setRow g7 A).setRow g8 B=W:=⟨_,rfl⟩;rw[b6] at bc G7 G8;simp only[b6];clear b6 c2 H7 H8 b0 c6 c7 cw;have b7:=a7.trans bc;have c8:=Α (bq.ext b7);have c9:=Α (br.ext b7);have da:=Α G7;have db:=Α G8;have hJ:=Α (P8 (Ae a) (Ae b) (Bj T.out) (Bj U.out) A B w3 c8.out c9.out);have dd:∀ c,ώ.size=(Ar c).size:=λc=>by rw[F9,C3,C3]
  have de:∀ c,(Ζ.info? 77).map (·.size)=Δ (Ar c).size:=λc=>by rw[C3];exact Fj
  clear bq br G7 G8;go_upto_region 3 with (first
   | (refine Ο rfl 108 (η 7) rfl _ rfl _ _ _ _ da.out Ϫ rfl c5 ?_)
   | (refine Ο rfl 108 (η 8) rfl _ rfl _ _ _ _ db.out Ϫ rfl hiB ?_)
   | (go_at_call 70;(with_reducible refine hJ.out.mono ?_);rintro e M ⟨c,bs,vj,rfl,dg,dh,dk⟩;have b8:=dd c;have b9:=de c;have cb:=Ht c;obtain⟨A9,bd⟩:∃ X,Ar c=X:=⟨_,rfl⟩;rw[bd] at b8 b9 cb;rw[bd])
   | (refine Φ rfl 77 (η 9) (η 22) rfl _ _ rfl rfl _ _ (Aa M (Ε ώ 77)) b9 b8 cb ?_))
  have ad:=dk.trans (((Θ M).alloc (Ε ώ 77)).setRow (ν _) A9);have H9:=μ (M.alloc (Ε ώ 77)) M.heap.size _ A9 _ _ (Aa M _);have cf:=dh.ext (((Θ M).alloc (Ε ώ 77)).setRow (ν _) A9);obtain⟨w5,cg⟩:∃ W,(M.alloc (Ε ώ 77)).setRow M.heap.size A9=W:=⟨_,rfl⟩;rw[cg] at ad H9 cf;simp only[cg];clear cg dk dh dd de hJ;have fb:=Α H9;have ax:=Α dg;have fc:=Α bd;clear H9 dg bd b8 cb;generalize M.heap.size=g9 at *;have fe:0<bs.length:=by have:=ax.out.lt 0 (by omega);omega
  have ff:bs.length<=256:=by
   have:=Is c 256 bs.length (λj hj=>⟨bs.getD j 0,(ax.out.byte j hj).1,(ax.out.byte j hj).2⟩);exact this
  have fg:=b7.trans ad;have dn:=Α (c8.out.ext ad);have dp:=Α (c9.out.ext ad);have ch:=ad.heap da.out;have cj:=ad.heap db.out;have dq:=(bc.trans ad).heap e4.out;have fh:=Α (Afb (Ae a) (Ae b) (Bj T.out) (Bj U.out) A B g7 g8 w5 dn.out dp.out ch cj);have fj:=Α (Aer (Ae a) (Ae b) (Bj T.out) (Bj U.out) A B g7 g8 (w.heap.size+1+1) E g HG.out eh w5 dn.out dp.out ch cj dq);have hX:=Α (Qq c bs fe ff (λk hk=>(ax.out.byte k hk).1) ⟨0,0,0⟩ (pNx (Ae a) (Ae b)) (pAc (Ae a) (Ae b) g) (O9 (Ae a) (Ae b))
   (λx hx=>⟨by have:=hx.1;have:x.p<a.n.length:=this;omega,by have:=hx.2.1;have:x.q<b.n.length:=this;omega,by rw[hx.2.2];omega⟩) ⟨T.out.pos,U.out.pos,rfl⟩
   (λx hx k hk=>⟨(Bj T.out).stp_lt hx.1 hk,(Bj U.out).stp_lt hx.2.1 hk,rfl⟩) 1073741824 (by omega) (by omega) 120 121 _ _ (enters_of Tryz.func120 (by kernel_rfl) rfl) (enters_of Tryz.func121 (by kernel_rfl) rfl) vj w5 cf fh.out fj.out)
  rw[fc.out] at hX;clear ch cj dq cf;have fk:À (ϓ Ζ 74 #[.agg A9,vj,.agg #[.int ε 0,.int ε 0,.int π 0],.func (.func 120) #[] #[Ω (Δ ⟨g7,0,Γ⟩),Ω (Δ ⟨g8,0,Γ⟩)],.func (.func 121) #[] #[Ω (Δ ⟨w.heap.size+1+1,0,Γ⟩),Ω (Δ ⟨g7,0,Γ⟩),Ω (Δ ⟨g8,0,Γ⟩)],.int ε 1073741824] w5 λe w'=>
    ∃ A t,e=θ (ϙ #[.agg A,.bool Ξ])/\(IsT w' A t/\∀ g cs,g<w5.heap.size->IsT (w'.setRow g cs) A t)/\TVal t/\t.n.length<=4096/\(∀ u,t.has u=g (a.has u) (b.has u))/\Ext w5 w'):=Α (ϓ.mono hX.out λe w' ⟨hE,h⟩=>by
   have fl:a.n.length*b.n.length<=4096:=Nat.mul_le_mul ec ed;rcases h with⟨A,l,t,he,hT,hX,_,fm,_⟩|⟨hM,_⟩
   ·obtain⟨h1,h2,h3⟩:=Aet (Bj T.out) (Bj U.out) ax.out hX;exact⟨A,t,he,⟨hT,fm⟩,h1,ψ h2 fl,λu=>by rw[h3,Dp,Dp],hE⟩
   ·exact absurd hM (Iw (Nk a.n.length b.n.length) (λu=>Uv (Bj T.out) (Bj U.out) u) (by rw[Y0];omega)))
  clear hX;have dr:Ζ.built 116 []=Δ #[.int ε 0,.int ε 0,.int π 0]:=by kernel_rfl
  have fs:=Α dr;clear dr;have dt:=Α ((bc.trans ad).heap e5.out);have ft:(Ζ.info? 77).map (·.size)=Δ A9.size:=b9;go_upto_region 5 with (first
   | (refine Ο rfl 77 (η 9) rfl _ rfl _ _ _ _ fb.out Tryz.underlying77 rfl ft ?_)
   | (refine Bw rfl 116 _ rfl #[.int ε 0,.int ε 0,.int π 0] ?_ ?_;(simp;with_reducible exact fs.out))
   | (go_at_call 74;(with_reducible refine fk.out.mono ?_);rintro e w6 ⟨J,t,rfl,⟨du,dv⟩,dw,fu,fv,dx⟩;obtain⟨_,_,_,_,_,_,ck,dy,_⟩:=du.opened dw;have bf:(Ζ.info? 108).map (·.size)=Δ J.size:=(by rw[ck];exact Cc);have ea:ξ.size=J.size:=(by rw[Da,ck]);clear ck)
   | (refine Φ rfl 108 (η 12) (η 32) rfl _ _ rfl rfl _ _ (Aa w6 (Ε ξ 108)) bf ea dy ?_))
  have bg:=((Θ w6).alloc (Ε ξ 108)).setRow (ν _) J;have cl:=μ (w6.alloc (Ε ξ 108)) w6.heap.size _ J _ _ (Aa w6 _);obtain⟨w7,cm⟩:∃ W,(w6.alloc (Ε ξ 108)).setRow w6.heap.size J=W:=⟨_,rfl⟩;rw[cm] at bg cl;simp only[cm];clear cm;have cp:=dx.heap dt.out;have fx:=(dv (w.heap.size+1+1+1) J (An dt.out)).ext (bg.setRow_both cp J);have eb:=Α (bg.heap cp);have fy:=Α cl;have fz:=(((fg.trans dx).trans bg)).setRow (show w.heap.size<=w.heap.size+1+1+1 by omega) J;clear du dv cp cl;go_wp2_with (first
   | (refine Ο rfl 108 (η 12) rfl _ rfl _ _ _ _ fy.out Ϫ rfl bf ?_)
   | (refine Φ rfl 108 (η 6) (η 34) rfl _ _ rfl rfl _ _ eb.out bf ea dy ?_))
  refine ω (v:=.agg J) (Ϲ rfl _ _ _ _ _ _ _ rfl (μ w7 _ _ J 108 (0,0) eb.out) Ϫ rfl bf) rfl ?_;exact⟨J,t,rfl,fx,dw,fu,fv,fz⟩
theorem El {P:ã} {ops:Array ϳ} {rest:List ϳ} {o:ϳ} {a:ú} {w:Λ} {Q:Exit->ú->Λ->Prop} (D:Ë o (yielded ops a.tmps)=Ξ) (h:o.wp P a w (wpList P ops Q rest) Q):wpList P ops Q (o::rest) a w:=by
 show if _ then _ else _
 rw[if_pos D];exact .inl h
theorem ResOf.form {W:Λ} {e:Ending} {r:Option Dfa} (h:ResOf W e r):∃ ac D cc E T G I J M k,e=θ (ϙ #[.agg (dA (Β ac D cc) (Β E T G) (Β I J M)),.int ε k]):=by
 cases r with
 | none=>exact⟨Γ,0,0,Γ,0,0,Γ,0,0,2,h⟩
 | some d=>
  obtain⟨v,he,U⟩:=h;obtain⟨ac,D,cc,E,G,I,J,M,rfl⟩:=U.agg;exact⟨_,_,_,_,_,_,_,_,_,_,he⟩
theorem ResOf.ext {W W':Λ} {e:Ending} {r:Option Dfa} (h:ResOf W e r) (D:Ext W W'):ResOf W' e r:=by
 cases r with
 | none=>exact h
 | some d=>
  obtain⟨v,he,E⟩:=h;exact⟨v,he,E.ext D⟩
theorem ResOf.setRow {W:Λ} {e:Ending} {r:Option Dfa} (h:ResOf W e r) (hv:∀ d,r=Δ d->Val d) {g:Nat} {t:Á} {fr:Nat × Nat} (hg:W.heap[g]? = Δ (Ε #[Β Γ 0 0,Β Γ 0 0,Β Γ 0 0] t fr)) (cs:Array Ν):ResOf (W.setRow g cs) e r:=by
 cases r with
 | none=>exact h
 | some d=>
  obtain⟨v,he,D⟩:=h;exact⟨v,he,D.setRow (hv d rfl) hg cs⟩
theorem Hg {L:List UInt8->Prop} {r:Option Dfa} (h:Lim L r) (d:Dfa) (hd:r=Δ d):Val d:=by
 subst hd;exact h.1.val
theorem X0 (a b:Dfa) (ha:Val a) (hb:Val b) (az:a.n.length<=64) (a1:b.n.length<=64) (M:Nat) (g:Bool->Bool->Bool) (hg:Ln M g) (eh:∀ args w,(callFunc M args).run Ζ w=.ok (.enter M args) w) (va vb:Ν) (w:Λ) (hT:Tab w) (a8:0<w.heap.size) (aj:IsD w va a) (ak:IsD w vb b) :
  ϓ Ζ 78 #[va,vb,.func (.func M) #[] #[]] w λe w'=>∃ r,ResOf w' e r/\Lim (λu=>g (a.has u) (b.has u)=Ξ) r/\Ext w w':=by
 have al:=Α aj;have ao:=Α ak;obtain⟨ac,lc,cc,an,cn,aa,la,ca,rfl⟩:=aj.agg;obtain⟨b6,b7,b8,b9,cb,cd,cf,cg,rfl⟩:=ak.agg;have aq:=λW (D:Ext w W)=>Α (Ef a ha az _ W (al.out.ext D))
 have ar:=λW (D:Ext w W)=>Α (Ef b hb a1 _ W (ao.out.ext D))
 have f85:=λW (D:Ext w W)=>Α (Aes a b ha hb az a1 M g hg eh _ _ W (hT.below D.below a8) (δ a8 D.size) (al.out.ext D) (ao.out.ext D))
 obtain⟨G,ab⟩:∃ X,dA (Β ac lc cc) (Β an a.n.length cn) (Β aa la ca)=X:=⟨_,rfl⟩;obtain⟨I,ad⟩:∃ X,dA (Β b6 b7 b8) (Β b9 b.n.length cb) (Β cd cf cg)=X:=⟨_,rfl⟩;have ba:(Ζ.info? 30).map (·.size)=Δ G.size:=by rw[<-ab];exact Ad
 have bb:(Ζ.info? 30).map (·.size)=Δ I.size:=by rw[<-ad];exact Ad
 rw[ab] at aq f85 al;rw[ad] at ar f85 ao;rw[ab,ad];have ae:=(((Θ w).alloc (Ε G 30)).alloc (Ε I 30)).alloc (Ε #[Β Γ 0 0,Β Γ 0 0,Β Γ 0 0] 30);have H3:=Ag (Ag (Aa w (Ε G 30)) (Ε I 30)) (Ε #[Β Γ 0 0,Β Γ 0 0,Β Γ 0 0] 30);have H4:=Ag (Ϗ w (Ε G 30) (Ε I 30)) (Ε #[Β Γ 0 0,Β Γ 0 0,Β Γ 0 0] 30);have H6:=Aa ((w.alloc (Ε G 30)).alloc (Ε I 30)) (Ε #[Β Γ 0 0,Β Γ 0 0,Β Γ 0 0] 30);rw[Ρ,Ρ] at H6;clear aj ak ha hb hg hT ab ad;go_enter Tryz.func78,Tryz.ntmps78;go_upto_region 1 with (fail)
 obtain⟨w1,ag⟩:∃ W,((w.alloc (Ε G 30)).alloc (Ε I 30)).alloc (Ε #[Β Γ 0 0,Β Γ 0 0,Β Γ 0 0] 30)=W:=⟨_,rfl⟩;have cr:w.heap.size+1+1<w1.heap.size:=by rw[<-ag,Ρ,Ρ,Ρ];omega
 rw[ag] at ae H3 H4 H6;simp only[ag];clear ag;have ah:=Α H3;have J:=Α H4;have E:=Α H6;clear H3 H4 H6;go_upto_region 3 with (first
  | (refine Ο rfl 30 (η 3) rfl _ rfl _ _ _ _ ah.out Κ rfl ba ?_)
  | (refine El rfl (wp_load_row 30 (η 4) rfl _ rfl _ _ _ _ J.out Κ rfl bb ?_))
  | (go_at_call 47;(with_reducible refine (aq _ ae).out.mono ?_);rintro e w2 ⟨rfl,T⟩;have ax:=ae.trans T;have J:=Α (T.heap J.out))
  | (go_at_call 47;(with_reducible refine (ar _ ax).out.mono ?_);rintro e w3 ⟨rfl,U⟩;have bc:=ax.trans U))
 have ah:=Α ((T.trans U).heap ah.out);have J:=Α (U.heap J.out);have E:=Α ((T.trans U).heap E.out);have bd:=Α bc;have cv:=bc.size;clear aq ar ae T ax U;go_wp2_with (first
  | (refine Ο rfl 30 (η 3) rfl _ rfl _ _ _ _ ah.out Κ rfl ba ?_)
  | (refine Ο rfl 30 (η 4) rfl _ rfl _ _ _ _ J.out Κ rfl bb ?_)
  | (go_at_call 85;(with_reducible refine (f85 _ bd.out).out.mono ?_);rintro e w4 ⟨A,t,rfl,cj,ck,cw,be,bf⟩;have hL:=Α (Pt t ck (show t.n.length<=65536 by omega) A w4 cj);have HH:=Α be;clear be)
  | (go_at_call 77;(with_reducible refine hL.out.mono ?_);rintro e w5 ⟨r,ay,bg,bh⟩;obtain⟨bj,bk,bl,bm,bn,bo,bp,bq,br,k1,rfl⟩:=ay.form;have cq:=Α ay;have bt:=Α bg;clear ay bg;have E:=Α ((bf.trans bh).heap E.out))
  | (refine Φ rfl 30 (η 6) (η 22) rfl _ _ rfl rfl _ _ E.out Ad rfl (Aq _ _ _ rfl rfl rfl) ?_))
 refine ω (v:=ϙ #[.agg (dA (Β bj bk bl) (Β bm bn bo) (Β bp bq br)),.int ε k1]) (A3 rfl _ _ _ _ _ _ _ rfl _ rfl (μ w5 _ _ (dA (Β bj bk bl) (Β bm bn bo) (Β bp bq br)) 30 (0,0) E.out) Κ rfl Ad) rfl ?_;exact⟨r,cq.out.setRow (Hg bt.out) E.out _,Iz bt.out (λu=>by rw[HH.out]),((bd.out.trans bf).trans bh).setRow (by omega) _⟩
theorem Pe (a b:Dfa) (ha:Val a) (hb:Val b) (bd:a.n.length<=64) (be:b.n.length<=64) (va vb:Ν) (w:Λ) (hT:Tab w) (al:0<w.heap.size) (U:IsD w va a) (ab:IsD w vb b) :
  ϓ Ζ 33 #[va,vb] w λe w'=>∃ r,ResOf w' e r/\Lim (λu=>a.has u=Ξ\/b.has u=Ξ) r/\Ext w w':=by
 have ao:=Α U;have aq:=Α ab;obtain⟨ac,lc,cc,an,cn,aa,la,ca,rfl⟩:=U.agg;obtain⟨bm,bn,bo,bp,bq,br,bt,bu,rfl⟩:=ab.agg;have f78:=λW (I:Ext w W)=>Α (X0 a b ha hb bd be 79 (λx y=>x||y) Af2 (enters_of Tryz.func79 (by kernel_rfl) rfl) _ _ W (hT.below I.below al) (δ al I.size) (ao.out.ext I) (aq.out.ext I))
 obtain⟨D,J⟩:∃ X,dA (Β ac lc cc) (Β an a.n.length cn) (Β aa la ca)=X:=⟨_,rfl⟩;obtain⟨E,M⟩:∃ X,dA (Β bm bn bo) (Β bp b.n.length bq) (Β br bt bu)=X:=⟨_,rfl⟩;have bw:(Ζ.info? 30).map (·.size)=Δ D.size:=by rw[<-J];exact Ad
 have bx:(Ζ.info? 30).map (·.size)=Δ E.size:=by rw[<-M];exact Ad
 rw[J] at f78 ao;rw[M] at f78 aq;rw[J,M];have ad:=(((Θ w).alloc (Ε D 30)).alloc (Ε E 30)).alloc (Ε #[Β Γ 0 0,Β Γ 0 0,Β Γ 0 0] 30);have H3:=Ag (Ag (Aa w (Ε D 30)) (Ε E 30)) (Ε #[Β Γ 0 0,Β Γ 0 0,Β Γ 0 0] 30);have H4:=Ag (Ϗ w (Ε D 30) (Ε E 30)) (Ε #[Β Γ 0 0,Β Γ 0 0,Β Γ 0 0] 30);have T:=Aa ((w.alloc (Ε D 30)).alloc (Ε E 30)) (Ε #[Β Γ 0 0,Β Γ 0 0,Β Γ 0 0] 30);rw[Ρ,Ρ] at T;clear U ab ha hb hT J M;go_enter Tryz.func33,Tryz.ntmps33;go_upto_region 1 with (fail)
 obtain⟨w1,ag⟩:∃ W,((w.alloc (Ε D 30)).alloc (Ε E 30)).alloc (Ε #[Β Γ 0 0,Β Γ 0 0,Β Γ 0 0] 30)=W:=⟨_,rfl⟩;rw[ag] at ad H3 H4 T;simp only[ag];clear ag;have bz:=Α H3;have b0:=Α H4;have G:=Α T;have ar:=Α ad;clear H3 H4 T ad;go_wp2_with (first
  | (refine Ο rfl 30 (η 2) rfl _ rfl _ _ _ _ bz.out Κ rfl bw ?_)
  | (refine Ο rfl 30 (η 3) rfl _ rfl _ _ _ _ b0.out Κ rfl bx ?_)
  | (go_at_call 78;(with_reducible refine (f78 _ ar.out).out.mono ?_);rintro e w5 ⟨r,ah,au,aw⟩;obtain⟨ax,ay,az,a1,a6,a7,a8,ba,bb,k1,rfl⟩:=ah.form;have b5:=Α ah;have bc:=Α au;clear ah au;have G:=Α (aw.heap G.out))
  | (refine Φ rfl 30 (η 4) (η 9) rfl _ _ rfl rfl _ _ G.out Ad rfl (Aq _ _ _ rfl rfl rfl) ?_))
 refine ω (v:=ϙ #[.agg (dA (Β ax ay az) (Β a1 a6 a7) (Β a8 ba bb)),.int ε k1]) (A3 rfl _ _ _ _ _ _ _ rfl _ rfl (μ w5 _ _ (dA (Β ax ay az) (Β a1 a6 a7) (Β a8 ba bb)) 30 (0,0) G.out) Κ rfl Ad) rfl ?_;exact⟨r,b5.out.setRow (Hg bc.out) G.out _,Iz bc.out (λu=>by simp),(ar.out.trans aw).setRow (by omega) _⟩
theorem An0 (a b:Dfa) (ha:Val a) (hb:Val b) (bd:a.n.length<=64) (be:b.n.length<=64) (va vb:Ν) (w:Λ) (hT:Tab w) (al:0<w.heap.size) (U:IsD w va a) (ab:IsD w vb b) :
  ϓ Ζ 34 #[va,vb] w λe w'=>∃ r,ResOf w' e r/\Lim (λu=>a.has u=Ξ/\b.has u=Ξ) r/\Ext w w':=by
 have ao:=Α U;have aq:=Α ab;obtain⟨ac,lc,cc,an,cn,aa,la,ca,rfl⟩:=U.agg;obtain⟨bm,bn,bo,bp,bq,br,bt,bu,rfl⟩:=ab.agg;have f78:=λW (I:Ext w W)=>Α (X0 a b ha hb bd be 80 (λx y=>x&&y) Any (enters_of Tryz.func80 (by kernel_rfl) rfl) _ _ W (hT.below I.below al) (δ al I.size) (ao.out.ext I) (aq.out.ext I))
 obtain⟨D,J⟩:∃ X,dA (Β ac lc cc) (Β an a.n.length cn) (Β aa la ca)=X:=⟨_,rfl⟩;obtain⟨E,M⟩:∃ X,dA (Β bm bn bo) (Β bp b.n.length bq) (Β br bt bu)=X:=⟨_,rfl⟩;have bw:(Ζ.info? 30).map (·.size)=Δ D.size:=by rw[<-J];exact Ad
 have bx:(Ζ.info? 30).map (·.size)=Δ E.size:=by rw[<-M];exact Ad
 rw[J] at f78 ao;rw[M] at f78 aq;rw[J,M];have ad:=(((Θ w).alloc (Ε D 30)).alloc (Ε E 30)).alloc (Ε #[Β Γ 0 0,Β Γ 0 0,Β Γ 0 0] 30);have H3:=Ag (Ag (Aa w (Ε D 30)) (Ε E 30)) (Ε #[Β Γ 0 0,Β Γ 0 0,Β Γ 0 0] 30);have H4:=Ag (Ϗ w (Ε D 30) (Ε E 30)) (Ε #[Β Γ 0 0,Β Γ 0 0,Β Γ 0 0] 30);have T:=Aa ((w.alloc (Ε D 30)).alloc (Ε E 30)) (Ε #[Β Γ 0 0,Β Γ 0 0,Β Γ 0 0] 30);rw[Ρ,Ρ] at T;clear U ab ha hb hT J M;go_enter Tryz.func34,Tryz.ntmps34;go_upto_region 1 with (fail)
 obtain⟨w1,ag⟩:∃ W,((w.alloc (Ε D 30)).alloc (Ε E 30)).alloc (Ε #[Β Γ 0 0,Β Γ 0 0,Β Γ 0 0] 30)=W:=⟨_,rfl⟩;rw[ag] at ad H3 H4 T;simp only[ag];clear ag;have bz:=Α H3;have b0:=Α H4;have G:=Α T;have ar:=Α ad;clear H3 H4 T ad;go_wp2_with (first
  | (refine Ο rfl 30 (η 2) rfl _ rfl _ _ _ _ bz.out Κ rfl bw ?_)
  | (refine Ο rfl 30 (η 3) rfl _ rfl _ _ _ _ b0.out Κ rfl bx ?_)
  | (go_at_call 78;(with_reducible refine (f78 _ ar.out).out.mono ?_);rintro e w5 ⟨r,ah,au,aw⟩;obtain⟨ax,ay,az,a1,a6,a7,a8,ba,bb,k1,rfl⟩:=ah.form;have b5:=Α ah;have bc:=Α au;clear ah au;have G:=Α (aw.heap G.out))
  | (refine Φ rfl 30 (η 4) (η 9) rfl _ _ rfl rfl _ _ G.out Ad rfl (Aq _ _ _ rfl rfl rfl) ?_))
 refine ω (v:=ϙ #[.agg (dA (Β ax ay az) (Β a1 a6 a7) (Β a8 ba bb)),.int ε k1]) (A3 rfl _ _ _ _ _ _ _ rfl _ rfl (μ w5 _ _ (dA (Β ax ay az) (Β a1 a6 a7) (Β a8 ba bb)) 30 (0,0) G.out) Κ rfl Ad) rfl ?_;exact⟨r,b5.out.setRow (Hg bc.out) G.out _,Iz bc.out (λu=>by simp),(ar.out.trans aw).setRow (by omega) _⟩
theorem Y3 (S q:Nat) (D:S<18446744073709551616):(bits BinOp.and ϱ ((S:Int) / 2 ^ q) 1==1)=S.testBit q:=by
 have E:((S:Nat):Int) / 2 ^ q=((S / 2 ^ q:Nat):Int):=by rw[Int.natCast_ediv];simp
 have G:S / 2 ^ q<18446744073709551616:=Nat.lt_of_le_of_lt (Nat.div_le_self _ _) D;rw[E,show (1:Int)=((1:Nat):Int) from rfl,u64_and_nat _ _ G (by omega),Nat.testBit_eq_decide_div_mod_eq,Nat.and_one_is_mod];generalize S / 2 ^ q=m;rw[Bool.eq_iff_iff];simp;omega
theorem Ab9 (t:Tbl) (S:Nat) (h:∀ q,q<t.n.length->(t.ok q&&S.testBit q)=Τ):Cu t S=Τ:=by
 rw[<-Bool.not_eq_true,J8];rintro⟨q,D,E,G⟩;have:=h q D;rw[E,G] at this;cases this
theorem Aca (t:Tbl) (S q:Nat) (D:q<t.n.length) (h:(t.ok q&&S.testBit q)=Ξ):Cu t S=Ξ:=by
 rw[Bool.and_eq_true] at h;exact (J8 t S).2 ⟨q,D,h.1,h.2⟩
theorem Oi (t:Tbl) (hv:TVal t) (hn:t.n.length<=64) (A:Array Ν) (S:Nat) (hS:S<18446744073709551616) (w:Λ) (h:IsT w A t) :
  ϓ Ζ 76 #[.agg A,.agg #[.int π (S:Int)]] w λe w'=>e=θ (.bool (Cu t S))/\Ext w w':=by
 obtain⟨bn,on,cn,ba,oa,ca,af,ag,_,_,_,I,_,J⟩:=h.opened hv;have ax:=hv.pos;have ah:=Α J;have E:=((Θ w).alloc (Ε A 108)).alloc (Ε #[.int π (S:Int)] 114);have M:=Ag (Aa w (Ε A 108)) (Ε #[.int π (S:Int)] 114);have T:=Ϗ w (Ε A 108) (Ε #[.int π (S:Int)] 114);clear J hv h;go_enter Tryz.func76,Tryz.ntmps76;go_upto_region 1 with (fail)
 generalize (w.alloc (Ε A 108)).alloc (Ε #[.int π (S:Int)] 114)=w1 at *;have k8:=(γ w1 w.heap.size 258 _ _ _ M).trans I;have HK:=Α (λ(W:Λ) (hW:Ext w1 W)=>(γ W (w.heap.size+1) 0 _ _ _ (hW.heap T)).trans rfl);clear M T I ag af;go_wp2_with (fail);clear k8;go_loopw [10] (λi W=>∃ k:Nat,k<=t.n.length/\i=.int ε k/\Ext w1 W/\À (∀ q,q<k->(t.ok q&&S.testBit q)=Τ)) (λi _=>t.n.length-(intOf i).toNat)
 case atStart=>exact⟨0,by omega,rfl,Θ w1,Α (λq hq=>by omega)⟩
 case round=>
  obtain⟨k,hk,rfl,D,U⟩:=hrel;by_cases aa:k<t.n.length
  ·have ca:=(E.trans D).cell (ah.out k aa);have cs:=HK.out wr D;have hb:=Y3 S k hS;have HH:=Α (Aca t S k aa);have ab:À ((t.ok k&&S.testBit k)=Τ->∀ q,q<k+1->(t.ok q&&S.testBit q)=Τ):=Α λh0 q hq=>by
    by_cases e:q=k
    ·subst e;exact h0
    ·exact U.out q (by omega)
   generalize t.ok k=b1 at *;generalize S.testBit k=b2 at *;cases b1
   ·go_wp2;go_roundw
    case rel=>exact⟨k+1,by omega,by go_num,D,Α (ab.out rfl)⟩
    case measure=>simp[intOf];omega
   ·cases b2
    ·go_wp2;go_roundw
     case rel=>exact⟨k+1,by omega,by go_num,D,Α (ab.out rfl)⟩
     case measure=>simp[intOf];omega
    ·have G:=Α (HH.out rfl);go_wp2;go_ret;exact⟨Hc G.out.symm,E.trans D⟩
  ·obtain rfl:k=t.n.length:=by omega
   have G:=Α (Ab9 t S U.out);go_wp2;go_ret;exact⟨Hc G.out.symm,E.trans D⟩
theorem Ii {t:Tbl} (hv:TVal t) (hn:t.n.length<=64) (S c:Nat) (D:c<256):∀ n,n<=t.n.length->Az t S c n<18446744073709551616
 | 0,_=>by simp[Az]
 | n+1,h=>by
  have E:=Ii hv hn S c D n (by omega);simp only[Az];split
  ·have I:=hv.stp_lt (s:=n) (by omega) D;have G:2 ^ t.stp n c<2 ^ 64:=Nat.pow_lt_pow_right (by omega) (by omega);have:=Nat.or_lt_two_pow (x:=Az t S c n) (y:=2 ^ t.stp n c) (n:=64) E G;exact this
  ·exact E
theorem U2 (x:Int):(#[ö π x]).all (·.oneCell')=Ξ:=by simp[ό]
theorem Pd (x r:Nat) (E:x<18446744073709551616) (D:r<64):bits BinOp.or ϱ (x:Int) (ϱ.wrap (2 ^ r))=((x ||| 2 ^ r:Nat):Int):=by
 rw[Nz r D,u64_or_nat _ _ E (Mg r D)]
theorem Sx (t:Tbl) (hv:TVal t) (hn:t.n.length<=64) (A:Array Ν) (S:Nat) (hS:S<18446744073709551616) (c:Nat) (U:c<256) (w:Λ) (h:IsT w A t) :
  ϓ Ζ 73 #[.agg A,.agg #[.int π (S:Int)],.int ε (c:Int)] w λe w'=>e=θ (.agg #[.int π (Az t S c t.n.length:Nat)])/\Ext w w':=by
 obtain⟨bn,on,cn,ba,oa,ca,bb,bc,ah,_,aa,_,hR,_⟩:=h.opened hv;have b7:=hv.pos;have HR:=Α hR;have HV:=Α hv;have be:=((((Θ w).alloc (Ε A 108)).alloc (Ε #[.int π (S:Int)] 114)).alloc (Ε #[.int π 0] 114)).alloc (Ε #[.int π 0] 114);have H0:=Ag (Ag (Ag (Aa w (Ε A 108)) (Ε #[.int π (S:Int)] 114)) (Ε #[.int π 0] 114)) (Ε #[.int π 0] 114);have H1:=Ag (Ag (Ϗ w (Ε A 108) (Ε #[.int π (S:Int)] 114)) (Ε #[.int π 0] 114)) (Ε #[.int π 0] 114);have H2:=Ag (Aa ((w.alloc (Ε A 108)).alloc (Ε #[.int π (S:Int)] 114)) (Ε #[.int π 0] 114)) (Ε #[.int π 0] 114);have H3:=Aa (((w.alloc (Ε A 108)).alloc (Ε #[.int π (S:Int)] 114)).alloc (Ε #[.int π 0] 114)) (Ε #[.int π 0] 114);rw[Ρ,Ρ] at H2;rw[Ρ,Ρ,Ρ] at H3;clear hR hv h;go_enter Tryz.func73,Tryz.ntmps73;go_upto_region 2 with (fail)
 obtain⟨w2,ak⟩:∃ W,(((w.alloc (Ε A 108)).alloc (Ε #[.int π (S:Int)] 114)).alloc (Ε #[.int π 0] 114)).alloc (Ε #[.int π 0] 114)=W:=⟨_,rfl⟩;simp only[ak] at *;clear ak;have bg:=Α aa;have bh:=Α ah;have k7:=(γ w2 w.heap.size 257 _ _ _ H0).trans aa;have bj:=Α H0;have bk:=Α H1;have bl:=Α H2;have bm:=Α H3;clear H0 H1 H2 H3 aa ah bc bb;go_wp2_with (fail);clear k7;go_loopw [12] (λi W=>∃ k:Nat,k<=t.n.length/\i=.int ε k/\Ext w W/\W.heap[w.heap.size]? = Δ (Ε A 108 (0,0))/\W.heap[w.heap.size+1]? = Δ (Ε #[.int π (S:Int)] 114 (0,0))/\
   W.heap[w.heap.size+1+1]? = Δ (Ε #[.int π 0] 114 (0,0))/\W.heap[w.heap.size+1+1+1]? = Δ (Ε #[.int π (Az t S c k:Nat)] 114 (0,0))) (λi _=>t.n.length-(intOf i).toNat)
 case atStart=>exact⟨0,by omega,rfl,be,bj.out,bk.out,bl.out,bm.out⟩
 case round=>
  obtain⟨k,hk,rfl,M,al,an,ao,aq⟩:=hrel;have G:=Α al;have T:=Α an;have I:=Α ao;have D:=Α aq;clear al an ao aq;by_cases ar:k<t.n.length
  ·have cS:=(γ wr (w.heap.size+1) 0 _ _ _ T.out).trans (show (#[ö π (S:Int)])[0]? = Δ (.int π (S:Int)) from rfl);have hb:=Y3 S k hS;have J:À (Az t S c (k+1)=if S.testBit k then Az t S c k ||| 2 ^ t.stp k c else Az t S c k):=Α rfl;have au:=Ii HV.out hn S c U k (by omega);have bp:t.stp k c<64:=by have:=HV.out.stp_lt ar U;omega
   generalize S.testBit k=b at *;cases b
   ·have E:=J.out;simp only[Bool.false_eq_true,if_false] at E;have J:=Α E;clear E;go_wp2;go_roundw
    case rel=>exact⟨k+1,by omega,by go_num,M,G.out,T.out,I.out,by rw[J.out];exact D.out⟩
    case measure=>simp[intOf];omega
   ·have E:=J.out;simp only[if_true] at E;have J:=Α E;have bq:=HV.out.cell_lt c U;obtain⟨br,or',cr,aw,ax⟩:=HR.out k ar;have r1:=Be (M.cell aw);have r2:=Be (M.cell (ax _ bq));have k7:=Be ((γ wr w.heap.size 257 _ _ _ G.out).trans bg.out);have kc:=Be ((γ wr w.heap.size c _ _ _ G.out).trans (bh.out c U));have ko:=Be ((γ wr (w.heap.size+1+1+1) 0 _ _ _ D.out).trans (show (#[ö π (Az t S c k:Nat)])[0]? = Δ (.int π (Az t S c k:Nat)) from rfl));have a1:t.ent2 k (t.cell c)=t.stp k c:=rfl;rw[a1] at r2;have HO:=Α (Pd (Az t S c k) (t.stp k c) au bp);clear a1 aw ax au E;have cf:(c:Int)<256:=by omega
    generalize Az t S c k=x at *;generalize t.stp k c=r at *;generalize t.cell c=q at *;go_upto_region 6 with (fail)
    refine Ad2 16 (by kernel_rfl) (by kernel_rfl) ?_;simp only[List.take_succ_cons,List.take_zero,ó,List.drop_zero];iterate 16 (with_reducible refine wpQuiet_step (λK hK=>?_);go_simp;(refine hK _ ?_;clear hK K))
    refine wpQuiet_nil ?_;rintro _ ⟨e,rfl⟩;have G:=Α (e.ext.heap G.out);have T:=Α (e.ext.heap T.out);have I:=Α (e.ext.heap I.out);have D:=Α (e.ext.heap D.out);have bw:=M.trans e.ext;have cg:=ko e;have fo:=Ϸ e.W (w.heap.size+1+1+1) 0 _ _ D.out;clear r1 r2 k7 kc ko cS;generalize e.W=w5 at *;go_wp2;go_roundw
    case rel=>
     rw[Ϧ w5 _ _ _ _ _ _ D.out,HO.out];refine⟨k+1,by omega,by go_num,bw.setRow (by omega) _,B7 G.out (by omega) _,B7 T.out (by omega) _,B7 I.out (by omega) _,?_⟩;rw[J.out];exact μ w5 _ _ _ _ _ D.out
    case measure=>simp[intOf];omega
  ·obtain rfl:k=t.n.length:=by omega
   have i114:(Ζ.info? 114).map (·.size)=Δ 1:=by kernel_rfl
   go_wp2_with (first
    | (refine Ο rfl 114 (η 7) rfl _ rfl _ _ _ _ D.out Tryz.underlying114 rfl i114 ?_)
    | (refine Φ rfl 114 (η 6) (η 38) rfl _ _ rfl rfl _ _ I.out i114 rfl (U2 _) ?_))
   refine ω (v:=.agg #[.int π (Az t S c t.n.length:Nat)]) (Ϲ rfl _ _ _ _ _ _ _ rfl (μ wr _ _ #[.int π (Az t S c t.n.length:Nat)] 114 (0,0) I.out) Tryz.underlying114 rfl i114) rfl ?_;exact⟨rfl,M.setRow (by omega) _⟩
end Go.Proofs.YtaiogolidlamiaaGreatDoor
