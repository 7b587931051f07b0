import Derived.Test.YtaiogolidlamiaaGreatDoorM07
import Derived.Test.YtaiogolidlamiaaGreatDoorM03
set_option linter.unusedVariables false
set_option linter.unusedSimpArgs false
open Array renaming getElem?_toList → ë
open Bool renaming true → Ξ, false → Τ
open Go renaming Value → Ρ, World → Κ, TypeId → Á, Oper → ϸ, Act → õ, Operand → ϻ, maxLen → ϙ, undef → ς, execOp → Ú, Calls → Ϝ, info_parts → ϕ, heap_alloc2_new → Ϙ, wpList_load_row → Υ, wpList_store_row → Φ, setRow_heap → μ, size_setRow → Õ, bodyPost_ret → ϋ, wpList_append_lies → ϐ, cell_of_row → Ω, cell_one_new → Ϫ, frozen_of_row → Ϯ, setCell_eq_setRow → Ϥ, Program → é, results_cell_row → ϵ
open Go.Act renaming put → Ϛ
open Go.Ending renaming returned → ν
open Go.IntKind renaming u64 → π, i64 → ζ, u64 → ϴ
open Go.Lib renaming hid → Α
open Go.Obj renaming cells → Ε
open Go.Operand renaming tmp → η
open Go.Proofs.Tryz renaming prog → Η, zeroCells108 → ξ, underlying116 → Ë, underlying108 → Ϭ, underlying30 → Ν, zeroCells77 → ώ
open Go.Region renaming wanted → Ì
open Go.RowKit renaming Hid → Ϻ
open Go.Value renaming slice → Β, tuple → ϥ, oneCell' → ϊ, slice → ϟ, pointer → γ
open Go.World renaming size_alloc → Λ, ownsRow_nil → Í, ownsRow → ϛ
open List renaming getElem?_append_right → ϑ, getElem?_eq_some_iff → ό, getElem?_append_left → Ϣ, length_map → Ϗ, replicate → δ, mem_of_getElem? → Ä, length_append → Ο, setIfInBounds_toArray → Θ, set_cons_zero → Χ, set_cons_succ → Ψ, drop_succ_cons → ò
open Nat renaming le_refl → θ, le_trans → ψ, lt_of_lt_of_le → ε
open Option renaming some → Δ, none → Γ
open Option.some renaming inj → ω
namespace Go.Proofs.YtaiogolidlamiaaGreatDoor
set_option maxRecDepth 100000
set_option maxHeartbeats 4000000
open Go.RowKit Go.Shelf
open Go.Maps (Keyed)
def flS (l:List Sta):List Ρ:=l.flatMap stL
theorem Ajt (l m:List Sta):flS (l++m)=flS l++flS m:=by simp[flS]
theorem Ajr (x:Sta):flS [x]=stL x:=by simp[flS]
theorem Ajs (l:List Sta) (k:Nat) (x:Sta) (h:l[k]? = Δ x):(flS l)[k*3]? = Δ (iv x.p)/\(flS l)[k*3+1]? = Δ (iv x.q)/\(flS l)[k*3+2]? = Δ (.int π (x.s:Int)):=by
 induction l generalizing k with
 | nil=>simp at h
 | cons y l E=>
  have e:flS (y::l)=stL y++flS l:=rfl;cases k with
  | zero=>
   have:y=x:=by simpa using h
   subst this;rw[e];exact⟨rfl,rfl,rfl⟩
  | succ k=>
   have G:l[k]? = Δ x:=by simpa using h
   obtain⟨H,I,J⟩:=E k G;have D:(stL y).length=3:=rfl;rw[e];refine⟨?_,?_,?_⟩
   ·rw[ϑ (by rw[D];omega),D,show (k+1)*3-3=k*3 by omega];exact H
   ·rw[ϑ (by rw[D];omega),D,show (k+1)*3+1-3=k*3+1 by omega];exact I
   ·rw[ϑ (by rw[D];omega),D,show (k+1)*3+2-3=k*3+2 by omega];exact J
abbrev Ld (W:Κ) (base:Nat) (v:Ρ) (l:List Sta):Prop:=W.ownsRow base 116 3 v l.length (flS l)
theorem Jv {W:Κ} {base g E:Nat} {l:List Sta} (h:Ld W base (Β (Δ ⟨g,0,Γ⟩) l.length E) l) (k:Nat) (x:Sta) (D:l[k]? = Δ x) :
  W.cell? ⟨g,k*3,Γ⟩=Δ (iv x.p)/\W.cell? ⟨g,k*3+1,Γ⟩=Δ (iv x.q)/\W.cell? ⟨g,k*3+2,Γ⟩=Δ (.int π (x.s:Int)):=by
 have J:k<l.length:=(ό.1 D).1;obtain⟨G,H,I⟩:=Ajs l k x D;rw[h.cellAt _ (by omega),h.cellAt _ (by omega),h.cellAt _ (by omega)];exact⟨G,H,I⟩
theorem Rg {κ:Type} {W:Κ} {k:Á} {key:κ->Ρ} {b n:Nat} {f:κ->Option Nat} {ops:Array ϸ} {rest:List ϸ} {o:ϸ} {a:õ} {Q:Exit->õ->Κ->Prop} [DecidableEq κ] (hg:o.guard=Γ) (m x v:ϻ) (t:Á) (M:o.op=Op.insert t m x v) (K:Keyed Η k) (T:Η.underlying t=Δ (.map k 3)) (hm:a.eval m=.map (Δ b)) (h:IsMp W k key b n f) (hn:n<ϙ)
  (U:∀ y z,key y=key z->y=z) (y:κ) (hx:a.eval x=key y) (E:∃ l,keyOf Η k (key y)=Δ l) (i:Nat) (hv:a.eval v=iv i) (hi:i<9223372036854775808)
  (hK:∀ W',IsMp W' k key b (n+1) (λz=>if z=y then Δ i else f z)->W.grownBy W' (Δ b)->wpList Η ops Q rest (a.put o.dst ς) W'):wpList Η ops Q (o::rest) a W:=by
 obtain⟨D,H,h2⟩:=h;obtain⟨l,E⟩:=E;refine wpList_plain hg λK' ae=>?_
 obtain⟨W',af,r1,r2⟩:=H.update K T hn E (plainElem_int Tryz.underlying3 (Jo i hi));unfold ϸ.wp;simp[Ú,M,hm,hx,hv,af,Result.andThen];refine ae _ _ (hK W' ⟨_,r1,λz I G=>?_⟩ r2);by_cases e:z=y
 ·subst e;rw[E] at G;cases G
  simp only[if_true];exact⟨Maps.has_put_same H.isMap (K.key E) _,Maps.atKey_put_same H.isMap (K.key E) _ _⟩
 ·have J:I≠l:=λe'=>e (U _ _ (K.inj G (e'▸E)))
  simp only[e,if_false];rw[Maps.has_put_other J,Maps.atKey_put_other J];exact h2 z I G
theorem Aml (c:Nat->Nat) (n:Nat):Η.built 108 [(0,.agg (Au c)),(1,iv n)]=Δ (Aj c n (Β Γ 0 0) (Β Γ 0 0)):=by kernel_rfl
theorem Amj:Η.built 108 []=Δ ξ:=by kernel_rfl
theorem Sa (c:Nat->Nat) (n:Nat) (vn va v:Ρ):(Aj c n vn va).setIfInBounds 257 v=Aj c n v va:=by
 apply Array.ext';rw[Array.toList_setIfInBounds];unfold Aj;simp only;apply List.ext_getElem?;intro i;unfold Ei;rw[List.getElem?_set];by_cases hi:i<256
 ·have:257≠i:=by omega
  rw[if_neg this,Ϣ (by simpa using hi),Ϣ (by simpa using hi)]
 ·by_cases e:257=i
  ·subst e;simp[ϑ]
  ·rw[if_neg e,ϑ (by simp;omega),ϑ (by simp;omega)];obtain⟨j,rfl⟩:∃ j,i=256+j:=⟨i-256,by omega⟩;have D:j≠1:=by omega
   simp only[Ϗ,List.length_range,Nat.add_sub_cancel_left]
   match j,D with
   | 0,_=>rfl
   | 2,_=>rfl
   | j+3,_=>rfl
def Nc (w:Κ) (g:Nat) (D:Array Ρ) (nx:Sta->Nat->Sta) (Good:Sta->Prop):Prop:=
 ∀ W,Ext w W->∀ x,Good x->∀ b,b<256->Ϝ Η g (#[.agg #[iv x.p,iv x.q,.int π (x.s:Int)],iv b]++D) W λe w'=>e=ν (stV (nx x b))/\Ext W w'
def M9 (w:Κ) (g:Nat) (D:Array Ρ) (ac:Sta->Bool) (Good:Sta->Prop):Prop:=
 ∀ W,Ext w W->∀ x,Good x->Ϝ Η g (#[.agg #[iv x.p,iv x.q,.int π (x.s:Int)]]++D) W λe w'=>e=ν (.bool (ac x))/\Ext W w'
theorem Ajg {nx:Sta->Nat->Sta} {st:Sta} {Good:Sta->Prop} (h0:Good st) (hs:∀ x,Good x->∀ b,b<256->Good (nx x b)) (w:List UInt8):Good (Aw nx st w):=by
 induction w using Et with
 | h0=>exact h0
 | h1 w x D=>rw[Ee];exact hs _ D _ x.toNat_lt
theorem Qa (c:Nat->Nat) (bs:List Nat) (kd:0<bs.length) (mf:bs.length<=256) (hb:∀ k,k<bs.length->bs.getD k 0<256) (st:Sta) (nx:Sta->Nat->Sta) (ac:Sta->Bool) (Good:Sta->Prop) (gu:∀ x,Good x->x.ok) (h0:Good st) (gw:∀ x,Good x->∀ b,b<256->Good (nx x b))
  (az:Nat) (mg:0<az) (mh:az<=1073741824) (gn ga:Nat) (gx gz:Array Ρ) (en:∀ args w,(callFunc gn args).run Η w=.ok (.enter gn args) w) (ea:∀ args w,(callFunc ga args).run Η w=.ok (.enter ga args) w)
  (vb:Ρ) (w:Κ) (hiB:Ints w vb bs) (hN:Nc w gn gx nx Good) (hA:M9 w ga gz ac Good) :
  Ϝ Η 74 #[.agg (Au c),vb,.agg #[iv st.p,iv st.q,.int π (st.s:Int)],.func (.func gn) #[] gx,.func (.func ga) #[] gz,.int ζ (az:Int)] w λe w'=>Ext w w'/\
   ((∃ A l t,e=ν (ϥ #[.agg A,.bool Ξ])/\IsT w' A t/\Expl c bs st nx ac l t/\l.length<=az/\(∀ g cs,g<w.heap.size->IsT (w'.setRow g cs) A t)/\∀ W,Near w' W->IsT W A t)\/(B9 nx st az/\e=ν (ϥ #[.agg ξ,.bool Τ]))):=by
 obtain⟨bB,oB,cB,rfl,hp⟩:=ä hiB kd;obtain⟨i0,hi,kf,kg,kh⟩:=ϕ Cg;obtain⟨i4,kj,kk,kl,km⟩:=ϕ Dt;obtain⟨i6,ko,kq,kr,ks⟩:=ϕ (show (Η.info? 68).map (λi=>(i.zero,i.size,i.bytes))=Δ (Δ (Β Γ 0 0),1,24) by kernel_rfl);obtain⟨i7,ku,kv,kx,ky⟩:=ϕ Ai1;have cg:=(((Ι w).alloc (Ε (Au c) 77)).alloc (Ε #[iv st.p,iv st.q,.int π (st.s:Int)] 116)).alloc (Ε ξ 108);have H6:=Ag (Ag (Ab w (Ε (Au c) 77)) (Ε #[iv st.p,iv st.q,.int π (st.s:Int)] 116)) (Ε ξ 108);have H8:=Ag (Ϙ w (Ε (Au c) 77) (Ε #[iv st.p,iv st.q,.int π (st.s:Int)] 116)) (Ε ξ 108);have c8:=Ab ((w.alloc (Ε (Au c) 77)).alloc (Ε #[iv st.p,iv st.q,.int π (st.s:Int)] 116)) (Ε ξ 108);rw[Λ,Λ] at c8;have kz:=Α (λ(W:Κ) (hW:Ext w W) k (hk:k<bs.length)=>hW.cell (hp k (by omega)));have HN:=Α hN;have HA:=Α hA;have hq:(Η.info? 77).map (·.size)=Δ (Au c).size:=by rw[C3];exact Fj
 have ez:=Α (Aml c bs.length);clear hiB hp hN hA;obtain⟨T0,ct⟩:∃ X,Aj c bs.length (Β Γ 0 0) (Β Γ 0 0)=X:=⟨_,rfl⟩;rw[ct] at ez;have hr:ξ.size=T0.size:=by rw[<-ct,Db,Em]
 have ht:(Η.info? 108).map (·.size)=Δ T0.size:=by rw[<-ct,Em];exact Cd
 have hy:T0.all (·.oneCell')=Ξ:=by rw[<-ct];exact Gz c bs.length (Β Γ 0 0) (Β Γ 0 0) rfl rfl
 have k7:=Α ct;clear ct;obtain⟨A0,e0⟩:∃ X,Au c=X:=⟨_,rfl⟩;rw[e0] at cg H6 H8 c8 hq ez;rw[e0];clear e0;go_enter Tryz.func74,Tryz.ntmps74;go_upto_region 1 with (fail)
 obtain⟨w1,dw⟩:∃ W,((w.alloc (Ε A0 77)).alloc (Ε #[iv st.p,iv st.q,.int π (st.s:Int)] 116)).alloc (Ε ξ 108)=W:=⟨_,rfl⟩;have mq:w.heap.size+1+1<w1.heap.size:=by rw[<-dw,Λ,Λ,Λ];omega
 rw[dw] at cg H6 H8 c8;simp only[dw];clear dw;have la:=Α H6;have h2:=Α H8;have h3:=Α c8;clear H6 H8 c8;have lb:=@run_makeMap Η;go_upto_region 2 with (first
  | (refine Υ rfl 77 (η 6) rfl _ rfl _ _ _ _ la.out Tryz.underlying77 rfl hq ?_)
  | (refine B3 rfl 108 _ rfl T0 ?_ ?_;(simp[õ.eval];with_reducible exact ez.out))
  | (refine Φ rfl 108 (η 14) (η 27) rfl _ _ rfl rfl _ _ (Ab w1 (Ε ξ 108)) ht hr hy ?_))
 have e1:=((Ι w1).alloc (Ε ξ 108)).setRow (θ _) T0;have dx:=μ (w1.alloc (Ε ξ 108)) w1.heap.size _ T0 _ _ (Ab w1 _);have dy:((w1.alloc (Ε ξ 108)).setRow w1.heap.size T0).heap.size=w1.heap.size+1:=by rw[Õ,Λ]
 obtain⟨wa,e3⟩:∃ W,(w1.alloc (Ε ξ 108)).setRow w1.heap.size T0=W:=⟨_,rfl⟩;rw[e3] at e1 dx dy;simp only[e3];clear e3 hr ht hy;rw[<-k7.out] at dx;have eb:=Ke wa 116 stV;have ec:=e1.alloc (.map #[] 0);have ed:=Ag dx (.map #[] 0);have e4:(wa.alloc (.map #[] 0)).heap.size=w1.heap.size+1+1:=by rw[Λ,dy]
 rw[dy] at eb;have e5:=Α (ec.heap h2.out);have lf:=St st (gu st h0);obtain⟨wb,h4⟩:∃ W,wa.alloc (.map #[] 0)=W:=⟨_,rfl⟩;rw[h4] at eb ec ed e4 e5;go_upto_region 3 with (first
  | (refine Υ rfl 116 (η 8) rfl _ rfl _ _ _ _ e5.out Ë rfl D0 ?_)
  | (refine Rg rfl _ _ _ 167 rfl Mk Tryz.underlying167 rfl eb (by unfold ϙ;omega) Su st rfl lf 0 rfl (by omega) ?_;intro wc h5 ee))
 clear lb h4 eb e1 dx e5 dy;have e6:=ec.grown ee (λk e=>by cases e;omega);have h6:=(ee.block w1.heap.size (An ed) (by simp)).trans ed;have h7:w1.heap.size+1+1<=wc.heap.size:=ψ (Nat.le_of_eq e4.symm) ee.size;have h8:=Α (e6.heap h2.out);clear e4 ee ec ed;go_upto_region 4 with (refine Υ rfl 116 (η 8) rfl _ rfl _ _ _ _ h8.out Ë rfl D0 ?_)
 have e7:=e6.alloc (Ε #[iv st.p,iv st.q,.int π (st.s:Int)] 116);have e8:=Ag h6 (Ε #[iv st.p,iv st.q,.int π (st.s:Int)] 116);have e9:=h5.alloc (Ε #[iv st.p,iv st.q,.int π (st.s:Int)] 116);have fa:Ld (wc.alloc (Ε #[iv st.p,iv st.q,.int π (st.s:Int)] 116)) (w1.heap.size+1+1) (Β (Δ ⟨wc.heap.size,0,Γ⟩) 1 1) [st]:=Κ.ownsRow_lit (base:=w1.heap.size+1+1) (e:=116) (size:=3) wc #[iv st.p,iv st.q,.int π (st.s:Int)] 1 h7 (by unfold ϙ;omega) rfl;have fb:w1.heap.size+1+1<=(wc.alloc (Ε #[iv st.p,iv st.q,.int π (st.s:Int)] 116)).heap.size:=by rw[Λ];omega
 obtain⟨fc,fe⟩:∃ W,wc.alloc (Ε #[iv st.p,iv st.q,.int π (st.s:Int)] 116)=W:=⟨_,rfl⟩;rw[fe] at e7 e8 e9 fa fb;simp only[fe];clear fe;clear h5 e6 h6 h7 h8;have ia:=Í fc (w1.heap.size+1+1) 68 1;have ib:=Í fc (w1.heap.size+1+1) 4 1;have ic:RowsO fc (w1.heap.size+1+1) [] [] (λ_=>False):=⟨rfl,λj hj=>by simp at hj⟩;have ie:=Α e8;generalize wc.heap.size=lg at *;clear e8;go_wp2_with (fail);go_loopw [16,17] (λvo vi W=>∃ (i:Nat) (l:List Sta) (f:Sta->Option Nat) (N':List (List Nat)) (Ac:List Bool) (vs:List Ρ) (go co:Nat) (cu U:Ρ),i<=l.length/\l.length<=az/\vi=.int ζ i/\vo=Β (Δ ⟨go,0,Γ⟩) l.length co/\Ext w1 W/\w1.heap.size+1+1<=W.heap.size/\
   IsMp W 116 stV (w1.heap.size+1) l.length f/\Ld W (w1.heap.size+1+1) vo l/\
   Ϻ (W.heap[w1.heap.size]? = Δ (Ε (Aj c bs.length cu U) 108 (0,0)))/\W.ownsRow (w1.heap.size+1+1) 68 1 cu vs.length vs/\OwnB W (w1.heap.size+1+1) U Ac/\
   RowsO W (w1.heap.size+1+1) vs N' (λ_=>False)/\Ϻ (EInv bs st nx i 0 l f N' (δ bs.length 0)/\Ac.length=i/\∀ j s,j<i->l[j]? = Δ s->Ac.getD j Τ=ac s))
  (λ_ vi _=>az-(intOf vi).toNat)
 case atStart=>exact⟨0,[st],_,[],[],[],lg,1,_,_,by omega,by simp;omega,rfl,rfl,e7,fb,e9,fa,ie,ia,ib,ic,Α ⟨Qg bs st nx _ (by simp),rfl,λj s hj=>by omega⟩⟩
 case round=>
  clear e7 fb e9 fa ie ia ib ic;obtain⟨i,l,f,N',Ac,vs,go,co,cu,U,mu,ig,rfl,rfl,hE,db,b8,hL,HD,I,a8,hV,E⟩:=hrel;by_cases ih:i<l.length
  ·obtain⟨wo,lh⟩:∃ W,W=wr:=⟨_,rfl⟩;subst lh;obtain⟨s,ff⟩:∃ s,l[i]? = Δ s:=⟨l[i],by simp[ih]⟩;have lj:=Α ff;have ij:Good s:=by
    obtain⟨u,hu⟩:=E.out.1.reach s (Ä ff);rw[<-hu];exact Ajg h0 gw u
   have fg:=Α ij;clear ff ij;go_upto_region 8 with (at_make;refine wpList_make_full _ rfl _ _ 68 rfl (w1.heap.size+1+1) 3 i0 (.int ζ 0) 1 Tryz.underlying68 hi kf kg ζ ζ _ _ bs.length rfl rfl rfl rfl (by rw[kh];omega) (by unfold ϙ;omega) (by omega) ?_;intro w5 ik bn)
   have il:=hE.grown bn (λk e=>by cases e);have fh:w5.ownsRow (w1.heap.size+1+1) 3 1 (Β (Δ ⟨wo.heap.size,0,Γ⟩) bs.length bs.length) bs.length ((δ bs.length 0).map iv):=by rw[<-B7];exact ik
   have im:=b8.kept bn (by simp);have iq:=Cb hL bn;have ir:=Α ((bn.block w1.heap.size (An HD.out) (by simp)).trans HD.out);have iu:=Cb I bn;have iw:=Cb a8 bn;have ix:=(hV.av (av':=λo=>o=Δ wo.heap.size) (λv l H cv e=>by
    have:=(H.lt _ e).2;omega)).kept bn (λv l H cv=>by cases v.ownBlock<;>simp)
   have iy:=ψ db bn.size;have mv:=(fh.lt wo.heap.size rfl).1;generalize wo.heap.size=gr at *;clear ik bn b8 hL HD I a8 hV hE db;go_wp2_with (fail);go_loopw [16,44] (λvo vi W=>∃ (k:Nat) (G:List Sta) (f2:Sta->Option Nat) (r:List Nat) (cj eg:Nat),k<=bs.length/\G.length<=az/\vi=.int ζ k/\vo=Β (Δ ⟨cj,0,Γ⟩) G.length eg/\Ext w1 W/\w1.heap.size+1+1<=W.heap.size/\
     IsMp W 116 stV (w1.heap.size+1) G.length f2/\Ld W (w1.heap.size+1+1) vo G/\W.ownsRow (w1.heap.size+1+1) 3 1 (Β (Δ ⟨gr,0,Γ⟩) bs.length bs.length) bs.length (r.map iv)/\
     Ϻ (W.heap[w1.heap.size]? = Δ (Ε (Aj c bs.length cu U) 108 (0,0)))/\W.ownsRow (w1.heap.size+1+1) 68 1 cu vs.length vs/\OwnB W (w1.heap.size+1+1) U Ac/\
     RowsO W (w1.heap.size+1+1) vs N' (λo=>o=Δ gr)/\Ϻ (EInv bs st nx i k G f2 N' r/\i<G.length/\∀ j,j<=i->G[j]? = l[j]?))
    (λ_ vi _=>bs.length-(intOf vi).toNat)
   case atStart=>exact⟨0,l,f,_,go,co,by omega,ig,rfl,rfl,il,iy,im,iq,fh,ir,iu,iw,ix,Α ⟨E.out.1,ih,λ_ _=>rfl⟩⟩
   case round=>
    clear il iy im iq fh ir iu iw ix;obtain⟨k,G,f2,r,cj,eg,hk,iz,rfl,rfl,hE,db,b8,hL,hQ,HD,I,a8,hV,J⟩:=hrel;have de:=Α J.out.1.lenr;have mw:=J.out.2.1;have bo:Ϻ (G[i]? = Δ s):=Α (by rw[J.out.2.2 i (θ _)];exact lj.out);obtain⟨w5,ll⟩:∃ W,W=wr:=⟨_,rfl⟩;subst ll;by_cases cw:k<bs.length
    ·have cb:=kz.out w5 (cg.trans hE) k cw;have eh:=hb k cw;obtain⟨b,fj⟩:∃ b,bs.getD k 0=b:=⟨_,rfl⟩;rw[fj] at cb eh;have jb:=Α fj;clear fj;obtain⟨s0,s1,s2⟩:=Jv hL i s bo.out;obtain⟨y,ei⟩:∃ y,nx s b=y:=⟨_,rfl⟩;have fk:=Α (HN.out w5 (cg.trans hE) s fg.out b eh);rw[ei] at fk;have ej:Good y:=by rw[<-ei];exact gw s fg.out b eh
     have fl:=St y (gu y ej);have ek:Ϻ (nx s (bs.getD k 0)=y):=Α (by rw[jb.out];exact ei);clear ei;go_upto_region 12 with (first
      | ((with_reducible refine fk.out.mono ?_);rintro e w6 ⟨rfl,jc⟩)
      | (refine Φ rfl 116 (η 21) (η 55) rfl _ #[iv y.p,iv y.q,.int π (y.s:Int)] rfl rfl _ _ (Ab w6 (Ε #[.int ζ 0,.int ζ 0,.int π 0] 116)) D0 rfl (Sv y) ?_))
     have ak:=jc.trans (((Ι w6).alloc (Ε #[.int ζ 0,.int ζ 0,.int π 0] 116)).setRow (θ _) #[iv y.p,iv y.q,.int π (y.s:Int)]);have fm:=μ (w6.alloc (Ε #[.int ζ 0,.int ζ 0,.int π 0] 116)) w6.heap.size _ #[iv y.p,iv y.q,.int π (y.s:Int)] _ _ (Ab w6 _);obtain⟨w7,fo⟩:∃ W,(w6.alloc (Ε #[.int ζ 0,.int ζ 0,.int π 0] 116)).setRow w6.heap.size #[iv y.p,iv y.q,.int π (y.s:Int)]=W:=⟨_,rfl⟩;rw[fo] at ak fm;simp only[fo];clear fo jc fk cb s0 s1 s2;have cx:=Α fm;clear fm;generalize w6.heap.size=gy at *;have bh:=Ah hL ak;have ae:=Ah hQ ak;have al:=Ah I ak;have bj:=Ah a8 ak;have ck:=hV.kept (ak.grownBy Γ) (λv l _ _=>by cases v.ownBlock<;>simp);have a6:=Α (ak.heap HD.out);have ao:=b8.ext ak;have bk:=hE.trans ak;have cl:=ψ db ak.size;clear hL hQ I a8 hV HD b8 hE ak db;cases hf:f2 y with
     | some v=>
      have fs:=Α (Qi J.out.1 cw bo.out v (by rw[ek.out];exact hf));have cq:=Am 0 ae de.out.symm k (by rw[de.out];exact cw);have fq:=ae.frozenAt k;obtain⟨bp,D⟩:=Bj ae k v;have bq:=bk.grown D (λk e=>by cases e;omega);have af:=bh.kept D (Ai bh ae (by decide));have br:=al.kept D (Ai al ae (by decide));have bt:=bj.kept D (Ai bj ae (by decide));have ca:=ck.kept D (λv l H cv=>.inr (λe=>cv e));have bu:=Α ((D.block w1.heap.size (An a6.out) (λe=>by have:=ω e;omega)).trans a6.out);have bw:=ao.kept D (λe=>by have:=ω e;omega);have cm:=ψ cl D.size;clear D bh ae al bj ck a6 bk cl;go_wp2_with (first
       | (refine Υ rfl 116 (η 21) rfl _ rfl _ _ _ _ cx.out Ë rfl D0 ?_)
       | (at_lookup;refine Er rfl _ _ 167 rfl Mk Tryz.underlying167 rfl ao y rfl fl ?_;rw[hf];dsimp only [Option.isSome,Option.getD]))
      go_roundw
      case rel=>exact⟨k+1,G,f2,r.set k v,cj,eg,by omega,iz,by go_num,rfl,bq,cm,bw,af,bp,bu,br,bt,ca,Α ⟨fs.out,J.out.2⟩⟩
      case measure=>simp[intOf];omega
     | none=>
      go_upto_region 15 with (first
       | (refine Υ rfl 116 (η 21) rfl _ rfl _ _ _ _ cx.out Ë rfl D0 ?_)
       | (at_lookup;refine Er rfl _ _ 167 rfl Mk Tryz.underlying167 rfl ao y rfl fl ?_;rw[hf];dsimp only [Option.isSome,Option.getD]))
      by_cases ft:G.length=az
      ·have lp:((G.length:Int)==(az:Int))=Ξ:=by simp[ft]
       have lq:=Α Amj;have dg:=Α (bk.heap h3.out);have fu:B9 nx st az:=by
        refine⟨G++[y],?_,λx hx=>?_,by rw[Ο,ft];simp⟩
        ·rw[List.nodup_append];refine⟨J.out.1.nodup,by simp,λx hx z hz=>?_⟩;have hz:z=y:=by simpa using hz
         subst hz;rintro rfl;obtain⟨v,hv⟩:=List.getElem?_of_mem hx;have:=(J.out.1.num x v).2 hv;rw[hf] at this;cases this
        ·rcases List.mem_append.1 hx with hx|hx
         ·exact J.out.1.reach x hx
         ·have hx:x=y:=by simpa using hx
          subst hx;obtain⟨u,hu⟩:=J.out.1.reach s (Ä bo.out);refine⟨u++[UInt8.ofNat b],?_⟩;rw[Ee,hu,u8n b eh,<-jb.out];exact ek.out
       have fu:=Α fu;have zo:ξ.all (·.oneCell')=Ξ:=by kernel_rfl
       clear ft;go_wp2_with (first
        | (refine B3 rfl 108 _ rfl ξ ?_ ?_;(simp;with_reducible exact lq.out))
        | (refine Φ rfl 108 (η 12) (η 69) rfl _ _ rfl rfl _ _ dg.out (by rw[Db];exact Cd) rfl zo ?_))
       refine ϋ (v:=ϥ #[.agg ξ,.bool Τ]) (Ba rfl _ _ _ _ _ _ _ rfl _ rfl (μ w7 _ _ ξ 108 (0,0) dg.out) Ϭ rfl (by rw[Db];exact Cd)) rfl ?_;exact⟨(cg.trans bk).setRow (by omega) _,.inr ⟨fu.out,rfl⟩⟩
      ·have lp:((G.length:Int)==(az:Int))=Τ:=by simp;omega
       have fw:=Qj J.out.1 cw hb bo.out (by rw[ek.out];exact hf);rw[ek.out] at fw;have fs:=Α fw;clear fw;go_upto_region 18 with (first
        | (refine Υ rfl 116 (η 21) rfl _ rfl _ _ _ _ cx.out Ë rfl D0 ?_)
        | (at_mapUpdate;refine Jm rfl _ _ _ 167 rfl Mk Tryz.underlying167 rfl ao (by unfold ϙ;omega) Su y rfl fl G.length rfl (by omega) ?_;intro w8 bw D))
       have af:=bh.kept D (ao.far bh);have bp:=ae.kept D (ao.far ae);have br:=al.kept D (ao.far al);have bt:=bj.kept D (ao.far bj);have ca:=ck.kept D (λv l H cv=>ao.far H);have bu:=Α ((D.block w1.heap.size (An a6.out) (by simp)).trans a6.out);have bq:=bk.grown D (λk e=>by cases e;omega);have cm:=ψ cl D.size;have ej:gy<w7.heap.size:=An cx.out;have jd:gy≠w1.heap.size+1:=λe=>by
        obtain⟨_,⟨es,mz,ls,_⟩,_⟩:=ao;have:=cx.out;rw[e,ls] at this;cases this
       have je:=Α ((D.block gy ej (λe=>jd (ω e))).trans cx.out);clear D bh ae al bj ck a6 bk cl ao jd ej;go_upto_region 19 with (first
        | (refine Υ rfl 116 (η 21) rfl _ rfl _ _ _ _ je.out Ë rfl D0 ?_)
        | (at_builtin;refine ϐ _ rfl _ _ 168 rfl (w1.heap.size+1+1) 116 i7 (.agg #[.int ζ 0,.int ζ 0,.int π 0]) 3 24 Tryz.underlying168 ku kv kx ky rfl (by decide) _ _ _ rfl (af.alloc _) _ 1 1 (stL y) rfl rfl (Κ.news_of_block (Ab w8 _)) (by simp[stL,ϊ]) (by decide) (by unfold ϙ;omega) (by omega) (by simp;omega) _ rfl ?_;intro g9 c9 w9 cd bz _ _))
       have M:=(bq.alloc (Ε #[iv y.p,iv y.q,.int π (y.s:Int)] 116)).grown bz (λk e=>by have:=(af.lt k e).1;omega);have bb:=(bp.alloc (Ε #[iv y.p,iv y.q,.int π (y.s:Int)] 116)).kept bz (Ai bp af (by decide));have cn:=(br.alloc (Ε #[iv y.p,iv y.q,.int π (y.s:Int)] 116)).kept bz (Ai br af (by decide));have cp:=(bt.alloc (Ε #[iv y.p,iv y.q,.int π (y.s:Int)] 116)).kept bz (Ai bt af (by decide));have cy:=(ca.alloc (Ε #[iv y.p,iv y.q,.int π (y.s:Int)] 116)).kept bz (λv l H _=>Ai H (af.alloc (Ε #[iv y.p,iv y.q,.int π (y.s:Int)] 116)) (by decide));have b0:=Α ((bz.block w1.heap.size (ε (An bu.out) (by rw[Λ];omega)) (λe=>by have:=(af.lt _ e.symm).1;omega)).trans (Ag bu.out _));have cz:=(bw.alloc (Ε #[iv y.p,iv y.q,.int π (y.s:Int)] 116)).kept bz (bw.ne_row af);have c3:w1.heap.size+1+1<=w9.heap.size:=by
        have:=bz.size;rw[Λ] at this;omega
       have fx:Ϻ (Ld w9 (w1.heap.size+1+1) (Β (Δ ⟨g9,0,Γ⟩) (G++[y]).length c9) (G++[y])):=Α (by
        show ϛ _ _ _ _ _ _ _;rw[Ο,Ajt,Ajr];exact cd)
       clear bz af bp br bt ca bu bq cm bw cd je;have cq:=Am 0 bb de.out.symm k (by rw[de.out];exact cw);have fq:=bb.frozenAt k;obtain⟨dh,b4⟩:=Bj bb k G.length;have ep:=M.grown b4 (λk e=>by cases e;omega);have lu:=Α (fx.out.kept b4 (Ai fx.out bb (by decide)));have dk:=cn.kept b4 (Ai cn bb (by decide));have bc:=cp.kept b4 (Ai cp bb (by decide));have er:=cy.kept b4 (λv l H cv=>.inr (λe=>cv e));have c4:=Α ((b4.block w1.heap.size (An b0.out) (λe=>by have:=ω e;omega)).trans b0.out);have dm:=cz.kept b4 (λe=>by have:=ω e;omega);have fy:=ψ c3 b4.size;clear b4 fx bb cn cp cy b0 M c3 cz;go_wp2_with (fail);go_roundw
       case rel=>
        refine⟨k+1,G++[y],_,r.set k G.length,g9,c9,by omega,by rw[Ο];simp;omega,by go_num,?_,ep,fy,?_,?_,dh,c4,dk,bc,er,Α ⟨fs.out,?_,λj hj=>?_⟩⟩
        ·rw[Ο];rfl
        ·rw[Ο];exact dm
        ·have h9:ϛ _ _ _ _ _ _ _:=lu.out;show ϛ _ _ _ _ _ _ _;rw[show (G++[y]).length=G.length+1 by simp] at h9 ⊢;exact h9
        ·rw[Ο];have:=J.out.2.1;omega
        ·rw[Ϣ (by have:=J.out.2.1;omega)];exact J.out.2.2 j hj
       case measure=>simp[intOf];omega
    ·obtain rfl:k=bs.length:=by omega
     have c1:=(Ω w5 w1.heap.size 257 _ _ _ HD.out).trans (Js _ _ _ _);have na:vs.length<=1073741824:=by rw[hV.1,J.out.1.lenN];omega
     go_upto_region 22 with (at_builtin;refine ϐ _ rfl _ _ 27 rfl (w1.heap.size+1+1) 68 i6 (Β Γ 0 0) 1 24 Tryz.underlying27 ko kq kr ks rfl (by decide) cu vs.length vs rfl (I.alloc _) _ 1 1 [Β (Δ ⟨gr,0,Γ⟩) bs.length bs.length] rfl rfl (Ϫ _ _ _) (by simp[ϊ]) (by decide) (by unfold ϙ;omega) (by omega) (by simp;omega) _ rfl ?_;intro g7 c7 w7 al b5 _ _;have a6:Ϻ (w7.heap[w1.heap.size]? = _):=Α ((b5.block w1.heap.size (ε (An HD.out) (by rw[Λ];omega)) (λe=>by have:=(I.lt _ e.symm).1;omega)).trans (Ag HD.out _));have lx:=(Ω w7 w1.heap.size 257 _ _ _ a6.out).trans (Js _ _ _ _);have f17:=Ϯ w7 w1.heap.size 257 _ _ a6.out)
     clear c1 lx f17;have ao:=(b8.alloc (Ε #[Β (Δ ⟨gr,0,Γ⟩) bs.length bs.length] 68)).kept b5 (b8.ne_row I);have bh:=(hL.alloc (Ε #[Β (Δ ⟨gr,0,Γ⟩) bs.length bs.length] 68)).kept b5 (Ai hL I (by decide));have ae:=(hQ.alloc (Ε #[Β (Δ ⟨gr,0,Γ⟩) bs.length bs.length] 68)).kept b5 (Ai hQ I (by decide));have bj:=(a8.alloc (Ε #[Β (Δ ⟨gr,0,Γ⟩) bs.length bs.length] 68)).kept b5 (Ai a8 I (by decide));have ck:=(hV.alloc (Ε #[Β (Δ ⟨gr,0,Γ⟩) bs.length bs.length] 68)).kept b5 (λv l H _=>Ai H (I.alloc (Ε #[Β (Δ ⟨gr,0,Γ⟩) bs.length bs.length] 68)) (by decide));have ak:=(hE.alloc (Ε #[Β (Δ ⟨gr,0,Γ⟩) bs.length bs.length] 68)).grown b5 (λk e=>by have:=(I.lt k e).1;omega);have cl:w1.heap.size+1+1<=w7.heap.size:=by
      have:=b5.size;rw[Λ] at this;omega
     clear b5 b8 hL hQ a8 hV hE I HD;have al:w7.ownsRow (w1.heap.size+1+1) 68 1 (Β (Δ ⟨g7,0,Γ⟩) (vs.length+1) c7) (vs++[ϟ (Δ ⟨gr,0,Γ⟩) bs.length bs.length]).length (vs++[ϟ (Δ ⟨gr,0,Γ⟩) bs.length bs.length]):=by
      rw[Ο];exact al
     obtain⟨row,fz⟩:∃ v,ϟ (Δ ⟨gr,0,Γ⟩) bs.length bs.length=v:=⟨_,rfl⟩;have nb:row.ownBlock=Δ gr:=by rw[<-fz];rfl
     rw[fz] at al ae;clear fz;obtain⟨T,jk⟩:∃ v,ϟ (Δ ⟨g7,0,Γ⟩) (vs.length+1) c7=v:=⟨_,rfl⟩;rw[jk] at al;have D:=Bx w7 w1.heap.size (Aj c bs.length T U);have dn:w7.setCell ⟨w1.heap.size,257,Γ⟩ T=w7.setRow w1.heap.size (Aj c bs.length T U):=by
      rw[Ϥ w7 _ _ _ _ _ _ a6.out,Sa]
     have bk:=ak.setRow (θ _) (Aj c bs.length T U);have bw:=ao.kept D (by simp);have af:=bh.kept D (Aq bh (by omega));have bp:=ae.kept D (Aq ae (by omega));have br:=al.kept D (Aq al (by omega));have bt:=bj.kept D (Aq bj (by omega));have ca:=ck.kept D (λv l H _=>Aq H (by omega));have bu:=Α (μ w7 w1.heap.size _ (Aj c bs.length T U) _ _ a6.out);have cm:w1.heap.size+1+1<=(w7.setRow w1.heap.size (Aj c bs.length T U)).heap.size:=by rw[Õ];exact cl
     rw[jk,dn];clear D ao bh ae al bj ck ak cl a6 dn;obtain⟨w8,gb⟩:∃ W,w7.setRow w1.heap.size (Aj c bs.length T U)=W:=⟨_,rfl⟩;rw[gb] at bw af bp br bt ca bu bk cm;rw[gb];clear gb;have cz:=bw.ext (Ι w8).drew;have cd:=Ah af (Ι w8).drew;have bb:=Ah bp (Ι w8).drew;have cn:=Ah br (Ι w8).drew;have cp:=Ah bt (Ι w8).drew;have cy:=ca.kept ((Ι w8).drew.grownBy Γ) (λv l _ _=>by cases v.ownBlock<;>simp);have b0:Ϻ (w8.drew.heap[w1.heap.size]? = Δ (Ε (Aj c bs.length T U) 108 (0,0))):=Α bu.out;have bq:=bk.drew;have c3:w1.heap.size+1+1<=w8.drew.heap.size:=cm;obtain⟨s0,s1,s2⟩:=Jv cd i s bo.out;have c2:∀ W:Κ,W.heap[w1.heap.size]? = Δ (Ε (Aj c bs.length T U) 108 (0,0))->W.cell? ⟨w1.heap.size,258,Γ⟩=Δ U:=λW hW=>(Ω W w1.heap.size 258 _ _ _ hW).trans (G1 _ _ _ _)
     have nc:Ac.length<=1073741824:=by rw[E.out.2.1];omega
     have ly:=Α (λ(W:Κ) (hW:Ext w W)=>HA.out W hW s fg.out);refine B0 11 [(0,Ξ),(1,Ξ),(2,Ξ),(3,Ξ),(4,Ξ),(5,Ξ),(6,Ξ),(7,Τ),(8,Τ),(9,Τ),(10,Ξ),(11,Τ)] (by kernel_rfl) (by kernel_rfl) (λ_ _ _ _ h=>h)
      (λW=>W.heap[w1.heap.size]? = Δ (Ε (Aj c bs.length T U) 108 (0,0))/\W.cell? ⟨cj,i*3,Γ⟩=Δ (iv s.p)/\W.cell? ⟨cj,i*3+1,Γ⟩=Δ (iv s.q)/\W.cell? ⟨cj,i*3+2,Γ⟩=Δ (.int π (s.s:Int))) ⟨b0.out,s0,s1,s2⟩ ?_
     obtain⟨w9,gf⟩:∃ W,w8.drew=W:=⟨_,rfl⟩;rw[gf] at cz cd bb cn cp cy b0 bq c3 s0 s1 s2;rw[gf];clear gf bw af bp br bt ca bu bk cm;clear s0 s1 s2;iterate 7
      refine En (v:=?_) rfl rfl (λW hW=>?_) ?_
      rotate_left
      ·obtain⟨jl,t0,t1,t2⟩:=hW;have k2:=c2 W jl;clear jl;go_simp;first|done|with_reducible rfl
      simp only[Ϛ,Θ,Χ,Ψ]
     refine Co rfl (λK hK=>?_);go_simp
     (with_reducible refine (ly.out w9 (cg.trans bq)).mono ?_)
     rintro e gg ⟨rfl,M⟩;obtain⟨s0,s1,s2⟩:=Jv cd i s bo.out;refine hK _ _ (λ_=>⟨M.heap b0.out,M.cell s0,M.cell s1,M.cell s2⟩) ?_;clear hK K s0 s1 s2;have dm:=cz.ext M;have et:=Ah cd M;have dh:=Ah bb M;have dk:=Ah cn M;have bc:=Ah cp M;have er:=cy.kept (M.grownBy Γ) (λv l _ _=>by cases v.ownBlock<;>simp);have c4:=Α (M.heap b0.out);have ep:=bq.trans M;have fy:=ψ c3 M.size;clear cz cd bb cn cp cy b0 bq c3 M;obtain⟨s0,s1,s2⟩:=Jv et i s bo.out;have lz:Ϻ (∀ j x,j<i+1->G[j]? = Δ x->(Ac++[ac s]).getD j Τ=ac x):=Α λj x hj hx=>by
      rw[He,E.out.2.1];by_cases jn:j<i
      ·rw[if_pos jn];rw[J.out.2.2 j (by omega)] at hx;exact E.out.2.2 j x jn hx
      ·obtain rfl:j=i:=by omega
       rw[if_neg (by omega),if_pos rfl];rw[bo.out] at hx;injection hx with hx
       rw[hx]
     generalize ac s=bx at *;refine Co rfl (λK hK=>?_);go_simp;refine hK _ _ (λ_=>⟨Ag c4.out _,((Ι gg).alloc _).cell s0,((Ι gg).alloc _).cell s1,((Ι gg).alloc _).cell s2⟩) ?_;clear hK K s0 s1 s2;refine Co rfl (λK hK=>?_);refine step_append_lies _ rfl _ _ 28 rfl (w1.heap.size+1+1) 4 i4 (.bool Τ) 1 1 Tryz.underlying28 kj kk kl km rfl (by decide) U Ac.length (Ac.map Ρ.bool) rfl (bc.alloc _) _ 1 1 [.bool bx] rfl rfl (Ϫ _ _ _) (by simp[ϊ]) (by decide) (by unfold ϙ;omega) (by omega) (by simp;omega) _ rfl ?_;intro jo jq bf c5 b6 _ _;have jr:=(ep.alloc (Ε #[.bool bx] 4)).grown b6 (λk e=>by have:=(bc.lt k e).1;omega);have c6:=Α ((b6.block w1.heap.size (ε (An c4.out) (by rw[Λ];omega)) (λe=>by have:=(bc.lt _ e.symm).1;omega)).trans (Ag c4.out _));have js:=(dm.alloc (Ε #[.bool bx] 4)).kept b6 (dm.ne_row bc);have eu:=(et.alloc (Ε #[.bool bx] 4)).kept b6 (Ai et bc (by decide));have gh:=(dh.alloc (Ε #[.bool bx] 4)).kept b6 (Ai dh bc (by decide));have gi:=(dk.alloc (Ε #[.bool bx] 4)).kept b6 (Ai dk bc (by decide));have jt:=(er.alloc (Ε #[.bool bx] 4)).kept b6 (λv l H _=>Ai H (bc.alloc (Ε #[.bool bx] 4)) (by decide));have ju:w1.heap.size+1+1<=bf.heap.size:=by
      have:=b6.size;rw[Λ] at this;omega
     have c5:OwnB bf (w1.heap.size+1+1) (Β (Δ ⟨jo,0,Γ⟩) (Ac.length+1) jq) (Ac++[bx]):=by
      show ϛ _ _ _ _ _ _ _;rw[Ο,List.map_append];exact c5
     clear b6 dm et dh dk bc er c4 ep fy;obtain⟨s0,s1,s2⟩:=Jv eu i s bo.out;refine hK _ _ (λ_=>⟨c6.out,s0,s1,s2⟩) ?_;clear hK K s0 s1 s2;refine En (v:=?_) rfl rfl (λW hW=>?_) ?_
     rotate_left
     ·clear hW;go_simp;first|done|with_reducible rfl
     simp only[Ϛ,Θ,Χ,Ψ];have k2:=c2 bf c6.out;have l4:=Ϯ bf w1.heap.size 258 _ _ c6.out;refine Co rfl (λK hK=>?_);go_simp;refine hK _ _ (λh=>absurd h (by omega)) ?_;clear hK K k2 l4 c2;refine B2 ?_;obtain⟨cf,jv⟩:∃ v,ϟ (Δ ⟨jo,0,Γ⟩) (Ac.length+1) jq=v:=⟨_,rfl⟩;rw[jv] at c5;have cr:=Bx bf w1.heap.size (Aj c bs.length T cf);have dn:bf.setCell ⟨w1.heap.size,258,Γ⟩ cf=bf.setRow w1.heap.size (Aj c bs.length T cf):=by
      rw[Ϥ bf _ _ _ _ _ _ c6.out,Np]
     have jw:=jr.setRow (θ _) (Aj c bs.length T cf);have jx:=js.kept cr (by simp);have jy:=eu.kept cr (Aq eu (by omega));have gj:=gh.kept cr (Aq gh (by omega));have jz:=gi.kept cr (Aq gi (by omega));have j0:=c5.kept cr (Aq c5 (by omega));have gk:=jt.kept cr (λv l H _=>Aq H (by omega));have j1:=Α (μ bf w1.heap.size _ (Aj c bs.length T cf) _ _ c6.out);have j2:w1.heap.size+1+1<=(bf.setRow w1.heap.size (Aj c bs.length T cf)).heap.size:=by rw[Õ];exact ju
     rw[jv,dn];clear cr js eu gh gi c5 jt jr ju c6 dn;obtain⟨l5,gl⟩:∃ W,bf.setRow w1.heap.size (Aj c bs.length T cf)=W:=⟨_,rfl⟩;rw[gl] at jx jy gj jz j0 gk j1 jw j2;rw[gl];clear gl;have j3:OwnI l5 (w1.heap.size+1+1) row r:=by
      show ϛ _ _ _ _ _ _ _;rw[de.out];exact gj
     have l6:=(gk.av (av':=λ_=>False) (λv l _ _ e=>e)).snoc j3 (λe=>e);have l7:=Α (Qh J.out.1 J.out.2.1 (δ bs.length 0) (by simp));have l8:Ϻ ((Ac++[bx]).length=i+1):=Α (by rw[Ο,E.out.2.1];rfl);clear gj gk j3;go_wp2;go_roundw
     case rel=>exact⟨i+1,G,f2,N'++[r],Ac++[bx],vs++[row],cj,eg,T,cf,by omega,iz,by go_num,rfl,jw,j2,jx,jy,j1,jz,j0,l6,Α ⟨l7.out,l8.out,lz.out⟩⟩
     case measure=>simp[intOf];omega
  ·obtain rfl:i=l.length:=by omega
   have l9:=Α (Qk (c:=c) (ac:=ac) E.out.1 rfl E.out.2.1 (λj s hs=>E.out.2.2 j s (ό.1 hs).1 hs));have dg:=Α (hE.heap h3.out);have ma:=hV.rows I (by rw[E.out.1.lenN];omega) (λj hj=>by rw[E.out.1.rows j (by rw[<-E.out.1.lenN];exact hj)];omega);obtain⟨an,aw,rfl⟩:=Dr I;obtain⟨aa,ay,rfl⟩:=Dr a8;have ev:(Η.info? 108).map (·.size)=Δ (Aj c bs.length (Β an vs.length aw) (Β aa Ac.length ay)).size:=by rw[Em];exact Cd
   have j4:ξ.size=(Aj c bs.length (Β an vs.length aw) (Β aa Ac.length ay)).size:=by rw[Em,Db]
   have j5:=Gz c bs.length (Β an vs.length aw) (Β aa Ac.length ay) rfl rfl;have ew:=Bx wr (w.heap.size+1+1) (Aj c bs.length (Β an vs.length aw) (Β aa Ac.length ay));have dp:=I.kept ew (Aq I (by omega));have dq:=a8.kept ew (Aq a8 (by omega));have ey:=hV.kept ew (λv l H _=>Aq H (by omega));have j6:=(cg.trans hE).setRow (show w.heap.size<=w.heap.size+1+1 by omega) (Aj c bs.length (Β an vs.length aw) (Β aa Ac.length ay));have j7:IsT (wr.setRow (w.heap.size+1+1) (Aj c bs.length (Β an vs.length aw) (Β aa Ac.length ay))) (Aj c bs.length (Β an vs.length aw) (Β aa Ac.length ay)) ⟨c,bs.length,N',Ac⟩:=
    ⟨_,_,rfl,ey.rows dp (by rw[E.out.1.lenN];omega) (λj hj=>by rw[E.out.1.rows j (by rw[<-E.out.1.lenN];exact hj)];omega),OwnB.bools (l:=Ac) dq (by rw[E.out.2.1];omega)⟩
   have j8:∀ g cs,g<w.heap.size->IsT ((wr.setRow (w.heap.size+1+1) (Aj c bs.length (Β an vs.length aw) (Β aa Ac.length ay))).setRow g cs) (Aj c bs.length (Β an vs.length aw) (Β aa Ac.length ay)) ⟨c,bs.length,N',Ac⟩:=λg cs hg=>by
    have gm:=Bx (wr.setRow (w.heap.size+1+1) (Aj c bs.length (Β an vs.length aw) (Β aa Ac.length ay))) g cs;have mb:=dp.kept gm (Aq dp (by omega));have mc:=dq.kept gm (Aq dq (by omega));have me:=ey.kept gm (λv l H _=>Aq H (by omega));exact⟨_,_,rfl,me.rows mb (by rw[E.out.1.lenN];omega) (λj hj=>by rw[E.out.1.rows j (by rw[<-E.out.1.lenN];exact hj)];omega),OwnB.bools (l:=Ac) mc (by rw[E.out.2.1];omega)⟩
   have j9:=Α j8;have ka:∀ W,Near (wr.setRow (w.heap.size+1+1) (Aj c bs.length (Β an vs.length aw) (Β aa Ac.length ay))) W->IsT W (Aj c bs.length (Β an vs.length aw) (Β aa Ac.length ay)) ⟨c,bs.length,N',Ac⟩:=λW hW=>
    ⟨_,_,rfl,(hW.rows ey).rows (hW.owns dp (by decide)) (by rw[E.out.1.lenN];omega) (λj hj=>by rw[E.out.1.rows j (by rw[<-E.out.1.lenN];exact hj)];omega),OwnB.bools (l:=Ac) (hW.owns dq (by decide)) (by rw[E.out.2.1];omega)⟩
   have kb:=Α ka;clear ew dp dq ey ma j8 ka;obtain⟨TT,kc⟩:∃ X,Aj c bs.length (Β an vs.length aw) (Β aa Ac.length ay)=X:=⟨_,rfl⟩;rw[kc] at HD ev j4 j5 j6 j7 j9 kb;clear kc;go_wp2_with (first
    | (refine Υ rfl 108 (η 14) rfl _ rfl _ _ _ _ HD.out Ϭ rfl ev ?_)
    | (refine Φ rfl 108 (η 12) (η 99) rfl _ _ rfl rfl _ _ dg.out ev j4 j5 ?_))
   refine ϋ (v:=ϥ #[.agg TT,.bool Ξ]) (Ba rfl _ _ _ _ _ _ _ rfl _ rfl (μ wr _ _ TT 108 (0,0) dg.out) Ϭ rfl ev) rfl ?_;exact⟨j6,.inl ⟨TT,l,_,rfl,j7,l9.out,ig,j9.out,kb.out⟩⟩
theorem Ao {P:é} {ops:Array ϸ} {Q:Exit->õ->Κ->Prop} {C:Κ->Prop} {n i:Nat} {is:List (Nat × Bool)} {o:ϸ} {v:Ρ} {a:õ} {w:Κ} (D:ops.toList[i]? = Δ o) (E:Ì o (yielded ops a.tmps)=Ξ) (G:∀ W,C W->(Ú a.eval o).run P W=.ok (.value v) W)
  (h:Eo P ops Q C n is (a.put o.dst v) w):Eo P ops Q C n ((i,Ξ)::is) a w:=En (by rw[<-ë];exact D) E G h
theorem A4 {P:é} {ops:Array ϸ} {Q:Exit->õ->Κ->Prop} {C:Κ->Prop} {n i:Nat} {is:List (Nat × Bool)} {o:ϸ} {a:õ} {w:Κ} (E:ops.toList[i]? = Δ o)
  (h:∀ K:õ->Κ->Prop,(∀ D w',(i<n->C w')->Eo P ops Q C n is D w'->K D w')->if Ì o (yielded ops a.tmps)=Ξ then ϸ.wp P o a w K Q else K (a.put o.dst ς) w):Eo P ops Q C n ((i,Τ)::is) a w:=Co (by rw[<-ë];exact E) h
theorem Hh {P:é} {o:ϸ} {a:õ} (t:Á) (parts:Array (Nat × ϻ)) (D:o.op=.build t parts) {A:Array Ρ} (E:P.built t (parts.map λ(i,x)=>(i,a.eval x)).toList=Δ A) (w:Κ):(Ú a.eval o).run P w=.ok (.value (.agg A)) w:=by
 unfold Ú;simp only[D,Sem.run_bind,run_build w t _ A E,Result.andThen_ok];rfl
theorem Gc {P:é} {ops:Array ϸ} {o:ϸ} {a:õ} {w:Κ} {K:õ->Κ->Prop} {Q:Exit->õ->Κ->Prop} {E:Prop} (ty:Á) (x y:ϻ) (D:o.op=.store ty x y) (G:o.guard=Γ)
  (g:Nat) (cells:Array Ρ) (H:a.eval x=γ (Δ ⟨g,0,Γ⟩)) (I:a.eval y=.agg cells) (t:Á) (old:Array Ρ) (hg:w.heap[g]? = Δ (Ε old t (0,0))) (hi:(P.info? ty).map (·.size)=Δ cells.size)
  (J:old.size=cells.size) (M:cells.all (·.oneCell')=Ξ) (h:K (a.put o.dst ς) (w.setRow g cells)):if Ì o (yielded ops a.tmps)=Ξ then ϸ.wp P o a w K Q else E:=by
 have T:Ì o (yielded ops a.tmps)=Ξ:=by simp[Ì,G]
 rw[if_pos T];exact wp_store_row ty x y D g cells H I t old hg hi J M h
theorem Amh (p q:Int):Η.built 116 [(0,.int ζ p),(1,.int ζ q)]=Δ #[.int ζ p,.int ζ q,.int π 0]:=by kernel_rfl
def pNx (x y:Tbl) (s:Sta) (b:Nat):Sta:=⟨x.stp s.p b,y.stp s.q b,0⟩
def pAc (x y:Tbl) (g:Bool->Bool->Bool) (s:Sta):Bool:=g (x.ok s.p) (y.ok s.q)
def On (x y:Tbl) (s:Sta):Prop:=s.p<x.n.length/\s.q<y.n.length/\s.s=0
theorem Aeu (x y:Tbl) (hx:TVal x) (hy:TVal y) (A B:Array Ρ) (G H:Nat) (w:Κ) (hA:IsT w A x) (hB:IsT w B y) (M:w.heap[G]? = Δ (Ε A 108 (0,0))) (T:w.heap[H]? = Δ (Ε B 108 (0,0))) :
  Nc w 120 #[γ (Δ ⟨G,0,Γ⟩),γ (Δ ⟨H,0,Γ⟩)] (pNx x y) (On x y):=by
 intro W hW s hs b I;obtain⟨hp,hq,-⟩:=hs;obtain⟨bn,on,cn,_,_,_,_,_,az,_,a1,_,a6,_⟩:=(hA.ext hW).opened hx;obtain⟨a8,ba,bz,_,_,_,_,_,bb,_,bd,_,be,_⟩:=(hB.ext hW).opened hy;have M:=hW.heap M;have T:=hW.heap T;have a7:=(Ω W G 257 _ _ _ M).trans a1;have ac:=(Ω W G b _ _ _ M).trans (az b I);have b7:=(Ω W H 257 _ _ _ T).trans bd;have bc:=(Ω W H b _ _ _ T).trans (bb b I);obtain⟨br,or',cr,ai,bg⟩:=a6 s.p hp;obtain⟨bh,bj,b4,aj,bk⟩:=be s.q hq;have U:=bg _ (hx.cell_lt b I);have aa:=bk _ (hy.cell_lt b I);have cf:=hx.cell_lt b I;have cg:=hy.cell_lt b I;have bl:x.ent2 s.p (x.cell b)=x.stp s.p b:=rfl;have bm:y.ent2 s.q (y.cell b)=y.stp s.q b:=rfl;rw[bl] at U;rw[bm] at aa;show Ϝ _ _ _ _ λe w'=>e=ν (.agg #[iv (x.stp s.p b),iv (y.stp s.q b),.int π ((0:Nat):Int)])/\Ext W w'
 have E:=((Ι W).alloc (Ε #[iv s.p,iv s.q,.int π (s.s:Int)] 116)).alloc (Ε #[.int ζ 0,.int ζ 0,.int π 0] 116);have H4:=Ag (Ab W (Ε #[iv s.p,iv s.q,.int π (s.s:Int)] 116)) (Ε #[.int ζ 0,.int ζ 0,.int π 0] 116);have H6:=Ϙ W (Ε #[iv s.p,iv s.q,.int π (s.s:Int)] 116) (Ε #[.int ζ 0,.int ζ 0,.int π 0] 116);clear hA hB hx hy az bb a1 bd a6 be bl bm bg bk M T;generalize x.stp s.p b=J at *;generalize y.stp s.q b=q2 at *;generalize x.cell b=cx at *;generalize y.cell b=cy at *;have ch:(b:Int)<256:=by omega
 generalize x.cells=mx at *;generalize y.cells=my at *;generalize x.n.length=nx at *;generalize y.n.length=ny at *;go_enter Tryz.func120,Tryz.ntmps120;go_upto_region 1 with (fail)
 obtain⟨w1,an⟩:∃ V,(W.alloc (Ε #[iv s.p,iv s.q,.int π (s.s:Int)] 116)).alloc (Ε #[.int ζ 0,.int ζ 0,.int π 0] 116)=V:=⟨_,rfl⟩;rw[an] at E H4 H6;simp only[an];clear an;have a7:=E.cell a7;have ac:=E.cell ac;have b7:=E.cell b7;have bc:=E.cell bc;have ai:=E.cell ai;have U:=E.cell U;have aj:=E.cell aj;have aa:=E.cell aa;have c0:=(Ω w1 W.heap.size 0 _ _ _ H4).trans (show (#[iv s.p,iv s.q,.int π (s.s:Int)]:Array Ρ)[0]? = Δ (iv s.p) from rfl);have c1:=(Ω w1 W.heap.size 1 _ _ _ H4).trans (show (#[iv s.p,iv s.q,.int π (s.s:Int)]:Array Ρ)[1]? = Δ (iv s.q) from rfl);have b8:∀ V,Ext w1 V->V.cell? ⟨G,257,Γ⟩=Δ (Β (Δ ⟨bn,on,Γ⟩) nx cn)/\V.cell? ⟨G,b,Γ⟩=Δ (iv cx)/\V.cell? ⟨H,257,Γ⟩=Δ (Β (Δ ⟨a8,ba,Γ⟩) ny bz)/\V.cell? ⟨H,b,Γ⟩=Δ (iv cy)/\
   V.cell? ⟨bn,on+s.p,Γ⟩=Δ (Β (Δ ⟨br,or',Γ⟩) mx cr)/\V.cell? ⟨br,or'+cx,Γ⟩=Δ (iv J)/\V.cell? ⟨a8,ba+s.q,Γ⟩=Δ (Β (Δ ⟨bh,bj,Γ⟩) my b4)/\V.cell? ⟨bh,bj+cy,Γ⟩=Δ (iv q2)/\V.cell? ⟨W.heap.size,0,Γ⟩=Δ (iv s.p)/\V.cell? ⟨W.heap.size,1,Γ⟩=Δ (iv s.q):=
  λV D=>⟨D.cell a7,D.cell ac,D.cell b7,D.cell bc,D.cell ai,D.cell U,D.cell aj,D.cell aa,D.cell c0,D.cell c1⟩
 clear a7 ac b7 bc ai U aj aa c0 c1;have b9:=Α (Amh (J:Int) (q2:Int));refine B0 25 [(0,Ξ),(1,Ξ),(2,Ξ),(3,Ξ),(4,Ξ),(5,Ξ),(6,Ξ),(7,Ξ),(8,Ξ),(9,Ξ),(10,Ξ),(11,Ξ),(12,Ξ),(13,Ξ),(14,Ξ),(15,Ξ),(16,Ξ),(17,Ξ),(18,Ξ),(19,Ξ),(20,Ξ),(21,Ξ),(22,Ξ),(23,Ξ),(24,Ξ),(25,Τ)] (by kernel_rfl) (by kernel_rfl) (λ_ _ _ _ h=>h)
  (λV=>Ext w1 V) (Ι w1).drew ?_
 have ao:=(Ι w1).drew;have aq:=ao.heap H6;obtain⟨w2,ar⟩:∃ V,w1.drew=V:=⟨_,rfl⟩;rw[ar] at ao aq;rw[ar];clear ar H4 H6;iterate 24
  refine Ao (v:=?_) rfl rfl (λV D=>?_) ?_
  rotate_left
  ·obtain⟨k0,k1,k2,k3,k4,k5,k6,k7,k8,k9⟩:=b8 V D;clear D;go_simp;first|done|with_reducible rfl
  simp only[Ϛ,Θ,Χ,Ψ]
 refine Ao (v:=.agg #[iv J,iv q2,.int π 0]) rfl rfl (λV _=>?_) ?_
 ·exact Hh 116 _ rfl (by simpa [õ.eval] using b9.out) V
 simp only[Ϛ,Θ,Χ,Ψ];refine A4 rfl (λK hK=>?_);refine Gc 116 (η 6) (η 31) rfl rfl _ _ rfl rfl _ _ aq D0 rfl (by simp[ϊ]) ?_;refine hK _ _ (λh=>absurd h (by omega)) ?_;clear hK K;refine B2 ?_;have cb:=(E.trans ao).setRow (show W.heap.size<=W.heap.size+1 by omega) #[iv J,iv q2,.int π 0];have H7:=μ w2 _ _ #[iv J,iv q2,.int π 0] 116 (0,0) aq;go_wp2;refine ϋ (v:=.agg #[iv J,iv q2,.int π 0]) (ϵ rfl _ _ _ _ _ _ _ rfl H7 Ë rfl D0) rfl ?_;exact⟨rfl,cb⟩
def Le (D:Nat) (g:Bool->Bool->Bool):Prop:=∀ (W:Κ) (x y:Bool),Ϝ Η D #[.bool x,.bool y] W λe w'=>e=ν (.bool (g x y))/\Ext W w'
theorem Aef (x y:Tbl) (hx:TVal x) (hy:TVal y) (A B:Array Ρ) (J M T:Nat) (E:Nat) (g:Bool->Bool->Bool) (hg:Le E g) (eh:∀ args w,(callFunc E args).run Η w=.ok (.enter E args) w) (w:Κ) (hA:IsT w A x) (hB:IsT w B y)
  (U:w.heap[J]? = Δ (Ε A 108 (0,0))) (ab:w.heap[M]? = Δ (Ε B 108 (0,0))) (ar:w.heap[T]? = Δ (Ε #[.func (.func E) #[] #[]] 126 (0,0))) :
  M9 w 121 #[γ (Δ ⟨T,0,Γ⟩),γ (Δ ⟨J,0,Γ⟩),γ (Δ ⟨M,0,Γ⟩)] (pAc x y g) (On x y):=by
 intro W H s hs;obtain⟨hp,hq,-⟩:=hs;obtain⟨_,_,_,ba,oa,ca,_,_,_,_,_,ax,_,ay⟩:=(hA.ext H).opened hx;obtain⟨_,_,_,az,a1,bj,_,_,_,_,_,a6,_,a7⟩:=(hB.ext H).opened hy;have U:=H.heap U;have ab:=H.heap ab;have a8:=(Ω W J 258 _ _ _ U).trans ax;have b8:=(Ω W M 258 _ _ _ ab).trans a6;have f5:=(Ω W T 0 _ _ _ (H.heap ar)).trans (show (#[.func (.func E) #[] #[]]:Array Ρ)[0]? = Δ (.func (.func E) #[] #[]) from rfl);have aa:=ay s.p hp;have bb:=a7 s.q hq;show Ϝ _ _ _ _ λe w'=>e=ν (.bool (g (x.ok s.p) (y.ok s.q)))/\Ext W w'
 have G:=(Ι W).alloc (Ε #[iv s.p,iv s.q,.int π (s.s:Int)] 116);have H4:=Ab W (Ε #[iv s.p,iv s.q,.int π (s.s:Int)] 116);clear hA hB hx hy ax a6 ay a7 U ab ar;generalize x.ok s.p=p2 at *;generalize y.ok s.q=q2 at *;generalize x.n.length=nx at *;generalize y.n.length=ny at *;have HG:=Α (λV x y=>hg V x y);clear hg;go_enter Tryz.func121,Tryz.ntmps121;go_upto_region 1 with (fail)
 obtain⟨w1,ai⟩:∃ V,W.alloc (Ε #[iv s.p,iv s.q,.int π (s.s:Int)] 116)=V:=⟨_,rfl⟩;rw[ai] at G H4;simp only[ai];clear ai;have a8:=G.cell a8;have b8:=G.cell b8;have f5:=G.cell f5;have aa:=G.cell aa;have bb:=G.cell bb;have c0:=(Ω w1 W.heap.size 0 _ _ _ H4).trans (show (#[iv s.p,iv s.q,.int π (s.s:Int)]:Array Ρ)[0]? = Δ (iv s.p) from rfl);have c1:=(Ω w1 W.heap.size 1 _ _ _ H4).trans (show (#[iv s.p,iv s.q,.int π (s.s:Int)]:Array Ρ)[1]? = Δ (iv s.q) from rfl);have bm:∀ V,Ext w1 V->V.cell? ⟨J,258,Γ⟩=Δ (Β (Δ ⟨ba,oa,Γ⟩) nx ca)/\V.cell? ⟨M,258,Γ⟩=Δ (Β (Δ ⟨az,a1,Γ⟩) ny bj)/\V.cell? ⟨T,0,Γ⟩=Δ (.func (.func E) #[] #[])/\
   V.cell? ⟨ba,oa+s.p,Γ⟩=Δ (.bool p2)/\V.cell? ⟨az,a1+s.q,Γ⟩=Δ (.bool q2)/\V.cell? ⟨W.heap.size,0,Γ⟩=Δ (iv s.p)/\V.cell? ⟨W.heap.size,1,Γ⟩=Δ (iv s.q):=
  λV D=>⟨D.cell a8,D.cell b8,D.cell f5,D.cell aa,D.cell bb,D.cell c0,D.cell c1⟩
 clear a8 b8 f5 aa bb c0 c1;refine B0 14 [(0,Ξ),(1,Ξ),(2,Ξ),(3,Ξ),(4,Ξ),(5,Ξ),(6,Ξ),(7,Ξ),(8,Ξ),(9,Ξ),(10,Ξ),(11,Ξ),(12,Ξ),(13,Τ),(14,Τ)] (by kernel_rfl) (by kernel_rfl) (λ_ _ _ _ h=>h)
  (λV=>Ext w1 V) (Ι w1).drew ?_
 have aj:=(Ι w1).drew;obtain⟨w2,ak⟩:∃ V,w1.drew=V:=⟨_,rfl⟩;rw[ak] at aj;rw[ak];clear ak H4;iterate 13
  refine Ao (v:=?_) rfl rfl (λV D=>?_) ?_
  rotate_left
  ·obtain⟨k0,k1,k2,k3,k4,k5,k6⟩:=bm V D;clear D;go_simp;first|done|with_reducible rfl
  simp only[Ϛ,Θ,Χ,Ψ]
 refine A4 rfl (λK I=>?_);go_simp
 (with_reducible refine (HG.out w2 p2 q2).mono ?_)
 rintro e w3 ⟨rfl,be⟩;refine I _ _ (λ_=>aj.trans be) ?_;clear I K;refine A4 rfl (λK I=>?_);go_simp;refine I _ _ (λh=>absurd h (by omega)) ?_;clear I K;refine B2 ?_;have bo:=(G.trans aj).trans be;go_wp2;go_ret;exact⟨rfl,bo⟩
theorem Afp:Le 79 (λx y=>x||y):=by
 intro W x y;go_enter Tryz.func79,Tryz.ntmps79;cases x<;>cases y
 all_goals
  go_wp2;go_ret;exact⟨rfl,Ι W⟩
theorem Am6:Le 80 (λx y=>x&&y):=by
 intro W x y;go_enter Tryz.func80,Tryz.ntmps80;cases x<;>cases y
 all_goals
  go_wp2;go_ret;exact⟨rfl,Ι W⟩
def Oj (w0:Κ) (D:Nat) (va E:Array Ρ) (a b:Dfa):Nat->Ρ->Κ->Prop
 | 0,v,_=>v=.agg va
 | 1,v,_=>∃ A,v=.agg A/\IsT w0 A (Ae a)
 | 2,v,_=>v=.agg E
 | 3,v,_=>∃ B,v=.agg B/\IsT w0 B (Ae b)
 | _,v,W=>∃ g,v=γ (Δ ⟨g,0,Γ⟩)/\W.heap[g]? = Δ (Ε ξ 108 (0,0))/\D<=g
def Oi (i j:Nat) (v u:Ρ):Prop:=(i=4/\j=5\/i=5/\j=4)->v≠u
theorem Aei (i j:Nat) (v u:Ρ) (h:Oi i j v u):Oi j i u v:=λD=>(h (by omega)).symm
theorem Aej (w0:Κ) (D:Nat) (va E:Array Ρ) (a b:Dfa):∀ (i:Nat) (v:Ρ) (w w':Κ),Oj w0 D va E a b i v w->Ext w w'->Oj w0 D va E a b i v w'
 | 0,_,_,_,h,_=>h
 | 1,_,_,_,h,_=>h
 | 2,_,_,_,h,_=>h
 | 3,_,_,_,h,_=>h
 | _+4,_,_,_,⟨g,G,H,I⟩,J=>⟨g,G,J.heap H,I⟩
theorem Oo (x y:Tbl):∀ (w:List UInt8) (p q:Nat),Aw (pNx x y) ⟨p,q,0⟩ w=⟨x.run p w,y.run q w,0⟩
 | [],_,_=>rfl
 | b::w,p,q=>Oo x y w (x.stp p b.toNat) (y.stp q b.toNat)
theorem Ext.setRow_both {a b:Κ} (h:Ext a b) {g:Nat} {old:Array Ρ} {e:Á} {fr:Nat × Nat} (hg:a.heap[g]? = Δ (Ε old e fr)) (cs:Array Ρ):Ext (a.setRow g cs) (b.setRow g cs):=by
 have G:=h.heap hg;refine⟨⟨h.below.os,h.below.tape,h.below.output,by rw[Õ,Õ];exact h.size,λk E=>?_⟩⟩;rw[Õ] at E;by_cases D:k=g
 ·subst D;rw[μ b k old cs e fr G,μ a k old cs e fr hg]
 ·rw[setRow_other b g k cs D,setRow_other a g k cs D];exact h.block E
def M6 (n m:Nat):List Sta:=(box n m).map λp=>⟨p.1,p.2,0⟩
theorem Yu (n m:Nat):(M6 n m).length=n*m:=by rw[M6,Ϗ,K1]
theorem Ug {x y:Tbl} (D:TVal x) (E:TVal y) (w:List UInt8):Aw (pNx x y) ⟨0,0,0⟩ w∈M6 x.n.length y.n.length:=by
 rw[Oo];exact List.mem_map.2 ⟨(x.run 0 w,y.run 0 w),K0 (D.run_lt w D.pos) (E.run_lt w E.pos),rfl⟩
theorem Aeh {x y:Tbl} (E:TVal x) (G:TVal y) {c:Nat->Nat} {bs:List Nat} (D:Joint x.cell y.cell c bs) {g:Bool->Bool->Bool} {l:List Sta} {t:Tbl} (h:Expl c bs ⟨0,0,0⟩ (pNx x y) (pAc x y g) l t) :
  TVal t/\t.n.length<=x.n.length*y.n.length/\∀ u,t.has u=g (x.has u) (y.has u):=by
 refine⟨h.tval D,?_,λu=>?_⟩
 ·rw[h.len,<-Yu];refine Dy l _ h.nodup λs hs=>?_
  obtain⟨i,hi⟩:=List.getElem?_of_mem hs;obtain⟨w,rfl⟩:=h.reach i s hi;exact Ug E G w
 ·rw[h.has D (λs k H=>?_) u,Oo]
  ·rfl
  ·obtain⟨_,I,J⟩:=D.rep k H;unfold pNx Tbl.stp;rw[I,J]
theorem Aeg (a b:Dfa) (ha:Val a) (hb:Val b) (eb:a.n.length<=64) (ec:b.n.length<=64) (E:Nat) (g:Bool->Bool->Bool) (hg:Le E g) (eh:∀ args w,(callFunc E args).run Η w=.ok (.enter E args) w) (va vb:Ρ) (w:Κ) (hT:Tab w) (ay:0<w.heap.size) (bh:IsD w va a) (bj:IsD w vb b) :
  Ϝ Η 85 #[va,vb,.func (.func E) #[] #[]] w λe w'=>∃ A t,e=ν (.agg A)/\IsT w' A t/\TVal t/\t.n.length<=4096/\(∀ u,t.has u=g (a.has u) (b.has u))/\Ext w w':=by
 have cq:=Α bh;have cr:=Α bj;have M:=Α ha;have T:=Α hb;have HG:=Α hg;obtain⟨ac,lc,cc,an,cn,aa,la,ca,rfl⟩:=bh.agg;obtain⟨eo,ep,er,et,eu,ev,ew,ey,rfl⟩:=bj.agg;have ct:=λW (D:Ext w W)=>Α (Jt a ha _ w W D (hT.below D.below ay) (ε ay D.size) cq.out)
 have cu:=λW (D:Ext w W)=>Α (Jt b hb _ w W D (hT.below D.below ay) (ε ay D.size) cr.out)
 obtain⟨G,az⟩:∃ X,dA (Β ac lc cc) (Β an a.n.length cn) (Β aa la ca)=X:=⟨_,rfl⟩;obtain⟨H,a1⟩:∃ X,dA (Β eo ep er) (Β et b.n.length eu) (Β ev ew ey)=X:=⟨_,rfl⟩;have ez:(Η.info? 30).map (·.size)=Δ G.size:=by rw[<-az];exact Ad
 have e0:(Η.info? 30).map (·.size)=Δ H.size:=by rw[<-a1];exact Ad
 rw[az] at ct cq;rw[a1] at cu cr;rw[az,a1];have a6:=((((Ι w).alloc (Ε G 30)).alloc (Ε H 30)).alloc (Ε #[.func (.func E) #[] #[]] 126)).alloc (Ε ξ 108);have H3:=Ag (Ag (Ag (Ab w (Ε G 30)) (Ε H 30)) (Ε #[.func (.func E) #[] #[]] 126)) (Ε ξ 108);have H4:=Ag (Ag (Ϙ w (Ε G 30) (Ε H 30)) (Ε #[.func (.func E) #[] #[]] 126)) (Ε ξ 108);have H5:=Ag (Ab ((w.alloc (Ε G 30)).alloc (Ε H 30)) (Ε #[.func (.func E) #[] #[]] 126)) (Ε ξ 108);have H6:=Ab (((w.alloc (Ε G 30)).alloc (Ε H 30)).alloc (Ε #[.func (.func E) #[] #[]] 126)) (Ε ξ 108);rw[Λ,Λ] at H5;rw[Λ,Λ,Λ] at H6;clear bh bj ha hb hg hT az a1;go_enter Tryz.func85,Tryz.ntmps85;go_upto_region 1 with (fail)
 obtain⟨w1,ba⟩:∃ W,(((w.alloc (Ε G 30)).alloc (Ε H 30)).alloc (Ε #[.func (.func E) #[] #[]] 126)).alloc (Ε ξ 108)=W:=⟨_,rfl⟩;have fz:w.heap.size+1+1+1<w1.heap.size:=by rw[<-ba,Λ,Λ,Λ,Λ];omega
 rw[ba] at a6 H3 H4 H5 H6;simp only[ba];clear ba;have e1:=Α H3;have e2:=Α H4;have e3:=Α H5;have e4:=Α H6;clear H3 H4 H5 H6;refine Ht 6 35 (by kernel_rfl) (by kernel_rfl) rfl (Oj w w1.heap.size G H a b) Oi Aei (Aej w w1.heap.size G H a b) (λi hi=>?_) (λvs w2 cv hF hN=>?_)
 ·have ai:=(Ι w1).drew
  match i,hi with
  | 0,_=>
   refine Ar _ _ rfl rfl rfl λc W D ae af=>?_
   have h3:=af 3 (by kernel_rfl);refine C4 (D2 30 (η 3) rfl w.heap.size h3 _ _ _ _ ((ai.trans D).heap e1.out) Ν rfl ez) ?_;exact⟨_,rfl,Ι W,rfl,λj u _ _ _ h=>by omega⟩
  | 2,_=>
   refine Ar _ _ rfl rfl rfl λc W D ae af=>?_
   have h3:=af 4 (by kernel_rfl);refine C4 (D2 30 (η 4) rfl (w.heap.size+1) h3 _ _ _ _ ((ai.trans D).heap e2.out) Ν rfl e0) ?_;exact⟨_,rfl,Ι W,rfl,λj u _ _ _ h=>by omega⟩
  | 1,_=>
   refine Ar _ _ rfl rfl rfl λc W D ae af=>?_
   have ga:c.tmps.getD 14 ς=.agg G:=ae 0 14 (by kernel_rfl);go_simp
   (with_reducible refine (ct W (a6.trans (ai.trans D))).out.mono ?_)
   rintro e W' ⟨A,rfl,hA,hE⟩;exact⟨_,rfl,hE,⟨A,rfl,hA⟩,λj u _ _ _ h=>by omega⟩
  | 3,_=>
   refine Ar _ _ rfl rfl rfl λc W D ae af=>?_
   have gb:c.tmps.getD 16 ς=.agg H:=ae 2 16 (by kernel_rfl);go_simp
   (with_reducible refine (cu W (a6.trans (ai.trans D))).out.mono ?_)
   rintro e W' ⟨A,rfl,hA,hE⟩;exact⟨_,rfl,hE,⟨A,rfl,hA⟩,λj u _ _ _ h=>by omega⟩
  | 4,_=>
   refine Ar _ _ rfl rfl rfl λc W D ae af=>?_
   go_simp;refine⟨_,rfl,(Ι W).alloc _,⟨_,rfl,Ab W _,(ai.trans D).size⟩,λj u _ _ hu h=>?_⟩;obtain rfl:j=5:=by omega
   obtain⟨g',rfl,bo,-⟩:=hu;intro e;have:W.heap.size=g':=by simpa using e
   have:=An bo;omega
  | 5,_=>
   refine Ar _ _ rfl rfl rfl λc W D ae af=>?_
   go_simp;refine⟨_,rfl,(Ι W).alloc _,⟨_,rfl,Ab W _,(ai.trans D).size⟩,λj u _ _ hu h=>?_⟩;obtain rfl:j=4:=by omega
   obtain⟨g',rfl,bo,-⟩:=hu;intro e;have:W.heap.size=g':=by simpa using e
   have:=An bo;omega
 ·obtain⟨A,hA,bp⟩:=hF 1 (by omega);obtain⟨B,hB,bq⟩:=hF 3 (by omega);obtain⟨U,h7,H7,e5⟩:=hF 4 (by omega);obtain⟨g8,h8,H8,e6⟩:=hF 5 (by omega);have cz:U≠g8:=λe=>hN 4 5 (by omega) (by omega) (by omega) (by omega) (by rw[h7,h8,e])
  have c1:=(Ι w1).drew.trans cv;have c2:vs 0=.agg G:=hF 0 (by omega);have c3:vs 2=.agg H:=hF 2 (by omega);simp only[Bq,ò,List.drop_zero,hA,hB,h7,h8,c2,c3,List.getElem?_toArray,List.getElem?_cons_zero,List.getElem?_cons_succ,Option.bind_some,Ϛ,Θ,Χ,Ψ];clear hF hN hA hB h7 h8 c2 c3;obtain⟨_,_,_,_,_,_,bw,e7,_⟩:=bp.opened (Bm M.out);obtain⟨_,_,_,_,_,_,bx,e8,_⟩:=bq.opened (Bm T.out);have c4:(Η.info? 108).map (·.size)=Δ A.size:=by rw[bw];exact Cd
  have hiB:(Η.info? 108).map (·.size)=Δ B.size:=by rw[bx];exact Cd
  have c5:ξ.size=A.size:=by rw[Db,bw]
  have c6:ξ.size=B.size:=by rw[Db,bx]
  have bz:=B8 H8 (Ne.symm cz) A;have bb:=((c1.setRow e5 A).setRow e6 B);have G7:=B8 (μ w2 U _ A _ _ H7) cz B;have G8:=μ (w2.setRow U A) g8 _ B _ _ bz;clear bw bx;go_upto_region 2 with (first
   | (refine Φ rfl 108 (η 7) (η 15) rfl _ _ rfl rfl _ _ H7 c4 c5 e7 ?_)
   | (refine Φ rfl 108 (η 8) (η 17) rfl _ _ rfl rfl _ _ bz hiB c6 e8 ?_))
  obtain⟨w3,b5⟩:∃ W,(w2.setRow U A).setRow g8 B=W:=⟨_,rfl⟩;rw[b5] at bb G7 G8;simp only[b5];clear b5 c1 H7 H8 bz c5 c6 cv;have b6:=a6.trans bb;have c7:=Α (bp.ext b6);have c8:=Α (bq.ext b6);have c9:=Α G7;have da:=Α G8;have hJ:=Α (Pp (Ae a) (Ae b) (Bm M.out) (Bm T.out) A B w3 c7.out c8.out);have dc:∀ c,ώ.size=(Au c).size:=λc=>by rw[F6,C3,C3]
  have dd:∀ c,(Η.info? 77).map (·.size)=Δ (Au c).size:=λc=>by rw[C3];exact Fj
  clear bp bq G7 G8;go_upto_region 3 with (first
   | (refine Υ rfl 108 (η 7) rfl _ rfl _ _ _ _ c9.out Ϭ rfl c4 ?_)
   | (refine Υ rfl 108 (η 8) rfl _ rfl _ _ _ _ da.out Ϭ rfl hiB ?_)
   | (go_at_call 70;(with_reducible refine hJ.out.mono ?_);rintro e J ⟨c,bs,vj,rfl,df,dg,dh⟩;have b7:=dc c;have b8:=dd c;have b9:=Hl c;obtain⟨A9,bc⟩:∃ X,Au c=X:=⟨_,rfl⟩;rw[bc] at b7 b8 b9;rw[bc])
   | (refine Φ rfl 77 (η 9) (η 22) rfl _ _ rfl rfl _ _ (Ab J (Ε ώ 77)) b8 b7 b9 ?_))
  have ab:=dh.trans (((Ι J).alloc (Ε ώ 77)).setRow (θ _) A9);have H9:=μ (J.alloc (Ε ώ 77)) J.heap.size _ A9 _ _ (Ab J _);have cd:=dg.ext (((Ι J).alloc (Ε ώ 77)).setRow (θ _) A9);obtain⟨w5,cf⟩:∃ W,(J.alloc (Ε ώ 77)).setRow J.heap.size A9=W:=⟨_,rfl⟩;rw[cf] at ab H9 cd;simp only[cf];clear cf dh dg dc dd hJ;have fa:=Α H9;have aw:=Α df;have fb:=Α bc;clear H9 df bc b7 b9;generalize J.heap.size=g9 at *;have fc:0<bs.length:=by have:=aw.out.lt 0 (by omega);omega
  have fe:bs.length<=256:=by
   have:=Ij c 256 bs.length (λj hj=>⟨bs.getD j 0,(aw.out.byte j hj).1,(aw.out.byte j hj).2⟩);exact this
  have ff:=b6.trans ab;have dm:=Α (c7.out.ext ab);have dn:=Α (c8.out.ext ab);have cg:=ab.heap c9.out;have ch:=ab.heap da.out;have dp:=(bb.trans ab).heap e3.out;have fg:=Α (Aeu (Ae a) (Ae b) (Bm M.out) (Bm T.out) A B U g8 w5 dm.out dn.out cg ch);have fh:=Α (Aef (Ae a) (Ae b) (Bm M.out) (Bm T.out) A B U g8 (w.heap.size+1+1) E g HG.out eh w5 dm.out dn.out cg ch dp);have hX:=Α (Qa c bs fc fe (λk hk=>(aw.out.byte k hk).1) ⟨0,0,0⟩ (pNx (Ae a) (Ae b)) (pAc (Ae a) (Ae b) g) (On (Ae a) (Ae b))
   (λx hx=>⟨by have:=hx.1;have:x.p<a.n.length:=this;omega,by have:=hx.2.1;have:x.q<b.n.length:=this;omega,by rw[hx.2.2];omega⟩) ⟨M.out.pos,T.out.pos,rfl⟩
   (λx hx k hk=>⟨(Bm M.out).stp_lt hx.1 hk,(Bm T.out).stp_lt hx.2.1 hk,rfl⟩) 1073741824 (by omega) (by omega) 120 121 _ _ (enters_of Tryz.func120 (by kernel_rfl) rfl) (enters_of Tryz.func121 (by kernel_rfl) rfl) vj w5 cd fg.out fh.out)
  rw[fb.out] at hX;clear cg ch dp cd;have fj:Ϻ (Ϝ Η 74 #[.agg A9,vj,.agg #[.int ζ 0,.int ζ 0,.int π 0],.func (.func 120) #[] #[γ (Δ ⟨U,0,Γ⟩),γ (Δ ⟨g8,0,Γ⟩)],.func (.func 121) #[] #[γ (Δ ⟨w.heap.size+1+1,0,Γ⟩),γ (Δ ⟨U,0,Γ⟩),γ (Δ ⟨g8,0,Γ⟩)],.int ζ 1073741824] w5 λe w'=>
    ∃ A t,e=ν (ϥ #[.agg A,.bool Ξ])/\(IsT w' A t/\∀ g cs,g<w5.heap.size->IsT (w'.setRow g cs) A t)/\TVal t/\t.n.length<=4096/\(∀ u,t.has u=g (a.has u) (b.has u))/\Ext w5 w'):=Α (Ϝ.mono hX.out λe w' ⟨hE,h⟩=>by
   have fk:a.n.length*b.n.length<=4096:=Nat.mul_le_mul eb ec;rcases h with⟨A,l,t,he,hT,hX,_,fl,_⟩|⟨hM,_⟩
   ·obtain⟨h1,h2,h3⟩:=Aeh (Bm M.out) (Bm T.out) aw.out hX;exact⟨A,t,he,⟨hT,fl⟩,h1,ψ h2 fk,λu=>by rw[h3,Dn,Dn],hE⟩
   ·exact absurd hM (Ip (M6 a.n.length b.n.length) (λu=>Ug (Bm M.out) (Bm T.out) u) (by rw[Yu];omega)))
  clear hX;have dq:Η.built 116 []=Δ #[.int ζ 0,.int ζ 0,.int π 0]:=by kernel_rfl
  have fq:=Α dq;clear dq;have dr:=Α ((bb.trans ab).heap e4.out);have fs:(Η.info? 77).map (·.size)=Δ A9.size:=b8;go_upto_region 5 with (first
   | (refine Υ rfl 77 (η 9) rfl _ rfl _ _ _ _ fa.out Tryz.underlying77 rfl fs ?_)
   | (refine B3 rfl 116 _ rfl #[.int ζ 0,.int ζ 0,.int π 0] ?_ ?_;(simp;with_reducible exact fq.out))
   | (go_at_call 74;(with_reducible refine fj.out.mono ?_);rintro e w6 ⟨I,t,rfl,⟨dt,du⟩,dv,ft,fu,dw⟩;obtain⟨_,_,_,_,_,_,cj,dx,_⟩:=dt.opened dv;have be:(Η.info? 108).map (·.size)=Δ I.size:=(by rw[cj];exact Cd);have dy:ξ.size=I.size:=(by rw[Db,cj]);clear cj)
   | (refine Φ rfl 108 (η 12) (η 32) rfl _ _ rfl rfl _ _ (Ab w6 (Ε ξ 108)) be dy dx ?_))
  have bf:=((Ι w6).alloc (Ε ξ 108)).setRow (θ _) I;have ck:=μ (w6.alloc (Ε ξ 108)) w6.heap.size _ I _ _ (Ab w6 _);obtain⟨w7,cl⟩:∃ W,(w6.alloc (Ε ξ 108)).setRow w6.heap.size I=W:=⟨_,rfl⟩;rw[cl] at bf ck;simp only[cl];clear cl;have cm:=dw.heap dr.out;have fw:=(du (w.heap.size+1+1+1) I (An dr.out)).ext (bf.setRow_both cm I);have ea:=Α (bf.heap cm);have fx:=Α ck;have fy:=(((ff.trans dw).trans bf)).setRow (show w.heap.size<=w.heap.size+1+1+1 by omega) I;clear dt du cm ck;go_wp2_with (first
   | (refine Υ rfl 108 (η 12) rfl _ rfl _ _ _ _ fx.out Ϭ rfl be ?_)
   | (refine Φ rfl 108 (η 6) (η 34) rfl _ _ rfl rfl _ _ ea.out be dy dx ?_))
  refine ϋ (v:=.agg I) (ϵ rfl _ _ _ _ _ _ _ rfl (μ w7 _ _ I 108 (0,0) ea.out) Ϭ rfl be) rfl ?_;exact⟨I,t,rfl,fw,dv,ft,fu,fy⟩
theorem El {P:é} {ops:Array ϸ} {rest:List ϸ} {o:ϸ} {a:õ} {w:Κ} {Q:Exit->õ->Κ->Prop} (D:Ì o (yielded ops a.tmps)=Ξ) (h:o.wp P a w (wpList P ops Q rest) Q):wpList P ops Q (o::rest) a w:=by
 show if _ then _ else _
 rw[if_pos D];exact .inl h
theorem ResOf.form {W:Κ} {e:Ending} {r:Option Dfa} (h:ResOf W e r):∃ ac D cc E M G H I J k,e=ν (ϥ #[.agg (dA (Β ac D cc) (Β E M G) (Β H I J)),.int ζ k]):=by
 cases r with
 | none=>exact⟨Γ,0,0,Γ,0,0,Γ,0,0,2,h⟩
 | some d=>
  obtain⟨v,he,T⟩:=h;obtain⟨ac,D,cc,E,G,H,I,J,rfl⟩:=T.agg;exact⟨_,_,_,_,_,_,_,_,_,_,he⟩
theorem ResOf.ext {W W':Κ} {e:Ending} {r:Option Dfa} (h:ResOf W e r) (D:Ext W W'):ResOf W' e r:=by
 cases r with
 | none=>exact h
 | some d=>
  obtain⟨v,he,E⟩:=h;exact⟨v,he,E.ext D⟩
theorem ResOf.setRow {W:Κ} {e:Ending} {r:Option Dfa} (h:ResOf W e r) (hv:∀ d,r=Δ d->Val d) {g:Nat} {t:Á} {fr:Nat × Nat} (hg:W.heap[g]? = Δ (Ε #[Β Γ 0 0,Β Γ 0 0,Β Γ 0 0] t fr)) (cs:Array Ρ):ResOf (W.setRow g cs) e r:=by
 cases r with
 | none=>exact h
 | some d=>
  obtain⟨v,he,D⟩:=h;exact⟨v,he,D.setRow (hv d rfl) hg cs⟩
theorem Hc {L:List UInt8->Prop} {r:Option Dfa} (h:Lim L r) (d:Dfa) (hd:r=Δ d):Val d:=by
 subst hd;exact h.1.val
theorem Xt (a b:Dfa) (ha:Val a) (hb:Val b) (ay:a.n.length<=64) (az:b.n.length<=64) (J:Nat) (g:Bool->Bool->Bool) (hg:Le J g) (eh:∀ args w,(callFunc J args).run Η w=.ok (.enter J args) w) (va vb:Ρ) (w:Κ) (hT:Tab w) (a7:0<w.heap.size) (ai:IsD w va a) (aj:IsD w vb b) :
  Ϝ Η 78 #[va,vb,.func (.func J) #[] #[]] w λe w'=>∃ r,ResOf w' e r/\Lim (λu=>g (a.has u) (b.has u)=Ξ) r/\Ext w w':=by
 have ak:=Α ai;have al:=Α aj;obtain⟨ac,lc,cc,an,cn,aa,la,ca,rfl⟩:=ai.agg;obtain⟨b5,b6,b7,b8,b9,cb,cd,cf,rfl⟩:=aj.agg;have ao:=λW (D:Ext w W)=>Α (Eg a ha ay _ W (ak.out.ext D))
 have aq:=λW (D:Ext w W)=>Α (Eg b hb az _ W (al.out.ext D))
 have f85:=λW (D:Ext w W)=>Α (Aeg a b ha hb ay az J g hg eh _ _ W (hT.below D.below a7) (ε a7 D.size) (ak.out.ext D) (al.out.ext D))
 obtain⟨G,U⟩:∃ X,dA (Β ac lc cc) (Β an a.n.length cn) (Β aa la ca)=X:=⟨_,rfl⟩;obtain⟨H,ab⟩:∃ X,dA (Β b5 b6 b7) (Β b8 b.n.length b9) (Β cb cd cf)=X:=⟨_,rfl⟩;have a8:(Η.info? 30).map (·.size)=Δ G.size:=by rw[<-U];exact Ad
 have ba:(Η.info? 30).map (·.size)=Δ H.size:=by rw[<-ab];exact Ad
 rw[U] at ao f85 ak;rw[ab] at aq f85 al;rw[U,ab];have ad:=(((Ι w).alloc (Ε G 30)).alloc (Ε H 30)).alloc (Ε #[Β Γ 0 0,Β Γ 0 0,Β Γ 0 0] 30);have H3:=Ag (Ag (Ab w (Ε G 30)) (Ε H 30)) (Ε #[Β Γ 0 0,Β Γ 0 0,Β Γ 0 0] 30);have H4:=Ag (Ϙ w (Ε G 30) (Ε H 30)) (Ε #[Β Γ 0 0,Β Γ 0 0,Β Γ 0 0] 30);have H6:=Ab ((w.alloc (Ε G 30)).alloc (Ε H 30)) (Ε #[Β Γ 0 0,Β Γ 0 0,Β Γ 0 0] 30);rw[Λ,Λ] at H6;clear ai aj ha hb hg hT U ab;go_enter Tryz.func78,Tryz.ntmps78;go_upto_region 1 with (fail)
 obtain⟨w1,af⟩:∃ W,((w.alloc (Ε G 30)).alloc (Ε H 30)).alloc (Ε #[Β Γ 0 0,Β Γ 0 0,Β Γ 0 0] 30)=W:=⟨_,rfl⟩;have cq:w.heap.size+1+1<w1.heap.size:=by rw[<-af,Λ,Λ,Λ];omega
 rw[af] at ad H3 H4 H6;simp only[af];clear af;have ag:=Α H3;have I:=Α H4;have E:=Α H6;clear H3 H4 H6;go_upto_region 3 with (first
  | (refine Υ rfl 30 (η 3) rfl _ rfl _ _ _ _ ag.out Ν rfl a8 ?_)
  | (refine El rfl (wp_load_row 30 (η 4) rfl _ rfl _ _ _ _ I.out Ν rfl ba ?_))
  | (go_at_call 47;(with_reducible refine (ao _ ad).out.mono ?_);rintro e w2 ⟨rfl,M⟩;have aw:=ad.trans M;have I:=Α (M.heap I.out))
  | (go_at_call 47;(with_reducible refine (aq _ aw).out.mono ?_);rintro e w3 ⟨rfl,T⟩;have bb:=aw.trans T))
 have ag:=Α ((M.trans T).heap ag.out);have I:=Α (T.heap I.out);have E:=Α ((M.trans T).heap E.out);have bc:=Α bb;have cu:=bb.size;clear ao aq ad M aw T;go_wp2_with (first
  | (refine Υ rfl 30 (η 3) rfl _ rfl _ _ _ _ ag.out Ν rfl a8 ?_)
  | (refine Υ rfl 30 (η 4) rfl _ rfl _ _ _ _ I.out Ν rfl ba ?_)
  | (go_at_call 85;(with_reducible refine (f85 _ bc.out).out.mono ?_);rintro e w4 ⟨A,t,rfl,ch,cj,cv,bd,be⟩;have hL:=Α (Pb t cj (show t.n.length<=65536 by omega) A w4 ch);have HH:=Α bd;clear bd)
  | (go_at_call 77;(with_reducible refine hL.out.mono ?_);rintro e w5 ⟨r,ax,bf,bg⟩;obtain⟨bh,bj,bk,bl,bm,bn,bo,bp,bq,k1,rfl⟩:=ax.form;have cp:=Α ax;have br:=Α bf;clear ax bf;have E:=Α ((be.trans bg).heap E.out))
  | (refine Φ rfl 30 (η 6) (η 22) rfl _ _ rfl rfl _ _ E.out Ad rfl (Ap _ _ _ rfl rfl rfl) ?_))
 refine ϋ (v:=ϥ #[.agg (dA (Β bh bj bk) (Β bl bm bn) (Β bo bp bq)),.int ζ k1]) (Ba rfl _ _ _ _ _ _ _ rfl _ rfl (μ w5 _ _ (dA (Β bh bj bk) (Β bl bm bn) (Β bo bp bq)) 30 (0,0) E.out) Ν rfl Ad) rfl ?_;exact⟨r,cp.out.setRow (Hc br.out) E.out _,Is br.out (λu=>by rw[HH.out]),((bc.out.trans be).trans bg).setRow (by omega) _⟩
theorem Ox (a b:Dfa) (ha:Val a) (hb:Val b) (bc:a.n.length<=64) (bd:b.n.length<=64) (va vb:Ρ) (w:Κ) (hT:Tab w) (ak:0<w.heap.size) (T:IsD w va a) (U:IsD w vb b) :
  Ϝ Η 33 #[va,vb] w λe w'=>∃ r,ResOf w' e r/\Lim (λu=>a.has u=Ξ\/b.has u=Ξ) r/\Ext w w':=by
 have al:=Α T;have ao:=Α U;obtain⟨ac,lc,cc,an,cn,aa,la,ca,rfl⟩:=T.agg;obtain⟨bl,bm,bn,bo,bp,bq,br,bt,rfl⟩:=U.agg;have f78:=λW (H:Ext w W)=>Α (Xt a b ha hb bc bd 79 (λx y=>x||y) Afp (enters_of Tryz.func79 (by kernel_rfl) rfl) _ _ W (hT.below H.below ak) (ε ak H.size) (al.out.ext H) (ao.out.ext H))
 obtain⟨D,I⟩:∃ X,dA (Β ac lc cc) (Β an a.n.length cn) (Β aa la ca)=X:=⟨_,rfl⟩;obtain⟨E,J⟩:∃ X,dA (Β bl bm bn) (Β bo b.n.length bp) (Β bq br bt)=X:=⟨_,rfl⟩;have bu:(Η.info? 30).map (·.size)=Δ D.size:=by rw[<-I];exact Ad
 have bw:(Η.info? 30).map (·.size)=Δ E.size:=by rw[<-J];exact Ad
 rw[I] at f78 al;rw[J] at f78 ao;rw[I,J];have ab:=(((Ι w).alloc (Ε D 30)).alloc (Ε E 30)).alloc (Ε #[Β Γ 0 0,Β Γ 0 0,Β Γ 0 0] 30);have H3:=Ag (Ag (Ab w (Ε D 30)) (Ε E 30)) (Ε #[Β Γ 0 0,Β Γ 0 0,Β Γ 0 0] 30);have H4:=Ag (Ϙ w (Ε D 30) (Ε E 30)) (Ε #[Β Γ 0 0,Β Γ 0 0,Β Γ 0 0] 30);have M:=Ab ((w.alloc (Ε D 30)).alloc (Ε E 30)) (Ε #[Β Γ 0 0,Β Γ 0 0,Β Γ 0 0] 30);rw[Λ,Λ] at M;clear T U ha hb hT I J;go_enter Tryz.func33,Tryz.ntmps33;go_upto_region 1 with (fail)
 obtain⟨w1,af⟩:∃ W,((w.alloc (Ε D 30)).alloc (Ε E 30)).alloc (Ε #[Β Γ 0 0,Β Γ 0 0,Β Γ 0 0] 30)=W:=⟨_,rfl⟩;rw[af] at ab H3 H4 M;simp only[af];clear af;have bx:=Α H3;have bz:=Α H4;have G:=Α M;have aq:=Α ab;clear H3 H4 M ab;go_wp2_with (first
  | (refine Υ rfl 30 (η 2) rfl _ rfl _ _ _ _ bx.out Ν rfl bu ?_)
  | (refine Υ rfl 30 (η 3) rfl _ rfl _ _ _ _ bz.out Ν rfl bw ?_)
  | (go_at_call 78;(with_reducible refine (f78 _ aq.out).out.mono ?_);rintro e w5 ⟨r,ag,ar,au⟩;obtain⟨aw,ax,ay,az,a1,a6,a7,a8,ba,k1,rfl⟩:=ag.form;have b4:=Α ag;have bb:=Α ar;clear ag ar;have G:=Α (au.heap G.out))
  | (refine Φ rfl 30 (η 4) (η 9) rfl _ _ rfl rfl _ _ G.out Ad rfl (Ap _ _ _ rfl rfl rfl) ?_))
 refine ϋ (v:=ϥ #[.agg (dA (Β aw ax ay) (Β az a1 a6) (Β a7 a8 ba)),.int ζ k1]) (Ba rfl _ _ _ _ _ _ _ rfl _ rfl (μ w5 _ _ (dA (Β aw ax ay) (Β az a1 a6) (Β a7 a8 ba)) 30 (0,0) G.out) Ν rfl Ad) rfl ?_;exact⟨r,b4.out.setRow (Hc bb.out) G.out _,Is bb.out (λu=>by simp),(aq.out.trans au).setRow (by omega) _⟩
theorem Am8 (a b:Dfa) (ha:Val a) (hb:Val b) (bc:a.n.length<=64) (bd:b.n.length<=64) (va vb:Ρ) (w:Κ) (hT:Tab w) (ak:0<w.heap.size) (T:IsD w va a) (U:IsD w vb b) :
  Ϝ Η 34 #[va,vb] w λe w'=>∃ r,ResOf w' e r/\Lim (λu=>a.has u=Ξ/\b.has u=Ξ) r/\Ext w w':=by
 have al:=Α T;have ao:=Α U;obtain⟨ac,lc,cc,an,cn,aa,la,ca,rfl⟩:=T.agg;obtain⟨bl,bm,bn,bo,bp,bq,br,bt,rfl⟩:=U.agg;have f78:=λW (H:Ext w W)=>Α (Xt a b ha hb bc bd 80 (λx y=>x&&y) Am6 (enters_of Tryz.func80 (by kernel_rfl) rfl) _ _ W (hT.below H.below ak) (ε ak H.size) (al.out.ext H) (ao.out.ext H))
 obtain⟨D,I⟩:∃ X,dA (Β ac lc cc) (Β an a.n.length cn) (Β aa la ca)=X:=⟨_,rfl⟩;obtain⟨E,J⟩:∃ X,dA (Β bl bm bn) (Β bo b.n.length bp) (Β bq br bt)=X:=⟨_,rfl⟩;have bu:(Η.info? 30).map (·.size)=Δ D.size:=by rw[<-I];exact Ad
 have bw:(Η.info? 30).map (·.size)=Δ E.size:=by rw[<-J];exact Ad
 rw[I] at f78 al;rw[J] at f78 ao;rw[I,J];have ab:=(((Ι w).alloc (Ε D 30)).alloc (Ε E 30)).alloc (Ε #[Β Γ 0 0,Β Γ 0 0,Β Γ 0 0] 30);have H3:=Ag (Ag (Ab w (Ε D 30)) (Ε E 30)) (Ε #[Β Γ 0 0,Β Γ 0 0,Β Γ 0 0] 30);have H4:=Ag (Ϙ w (Ε D 30) (Ε E 30)) (Ε #[Β Γ 0 0,Β Γ 0 0,Β Γ 0 0] 30);have M:=Ab ((w.alloc (Ε D 30)).alloc (Ε E 30)) (Ε #[Β Γ 0 0,Β Γ 0 0,Β Γ 0 0] 30);rw[Λ,Λ] at M;clear T U ha hb hT I J;go_enter Tryz.func34,Tryz.ntmps34;go_upto_region 1 with (fail)
 obtain⟨w1,af⟩:∃ W,((w.alloc (Ε D 30)).alloc (Ε E 30)).alloc (Ε #[Β Γ 0 0,Β Γ 0 0,Β Γ 0 0] 30)=W:=⟨_,rfl⟩;rw[af] at ab H3 H4 M;simp only[af];clear af;have bx:=Α H3;have bz:=Α H4;have G:=Α M;have aq:=Α ab;clear H3 H4 M ab;go_wp2_with (first
  | (refine Υ rfl 30 (η 2) rfl _ rfl _ _ _ _ bx.out Ν rfl bu ?_)
  | (refine Υ rfl 30 (η 3) rfl _ rfl _ _ _ _ bz.out Ν rfl bw ?_)
  | (go_at_call 78;(with_reducible refine (f78 _ aq.out).out.mono ?_);rintro e w5 ⟨r,ag,ar,au⟩;obtain⟨aw,ax,ay,az,a1,a6,a7,a8,ba,k1,rfl⟩:=ag.form;have b4:=Α ag;have bb:=Α ar;clear ag ar;have G:=Α (au.heap G.out))
  | (refine Φ rfl 30 (η 4) (η 9) rfl _ _ rfl rfl _ _ G.out Ad rfl (Ap _ _ _ rfl rfl rfl) ?_))
 refine ϋ (v:=ϥ #[.agg (dA (Β aw ax ay) (Β az a1 a6) (Β a7 a8 ba)),.int ζ k1]) (Ba rfl _ _ _ _ _ _ _ rfl _ rfl (μ w5 _ _ (dA (Β aw ax ay) (Β az a1 a6) (Β a7 a8 ba)) 30 (0,0) G.out) Ν rfl Ad) rfl ?_;exact⟨r,b4.out.setRow (Hc bb.out) G.out _,Is bb.out (λu=>by simp),(aq.out.trans au).setRow (by omega) _⟩
theorem Yx (S q:Nat) (D:S<18446744073709551616):(bits BinOp.and ϴ ((S:Int) / 2 ^ q) 1==1)=S.testBit q:=by
 have E:((S:Nat):Int) / 2 ^ q=((S / 2 ^ q:Nat):Int):=by rw[Int.natCast_ediv];simp
 have G:S / 2 ^ q<18446744073709551616:=Nat.lt_of_le_of_lt (Nat.div_le_self _ _) D;rw[E,show (1:Int)=((1:Nat):Int) from rfl,u64_and_nat _ _ G (by omega),Nat.testBit_eq_decide_div_mod_eq,Nat.and_one_is_mod];generalize S / 2 ^ q=m;rw[Bool.eq_iff_iff];simp;omega
theorem Ab8 (t:Tbl) (S:Nat) (h:∀ q,q<t.n.length->(t.ok q&&S.testBit q)=Τ):Cu t S=Τ:=by
 rw[<-Bool.not_eq_true,Jw];rintro⟨q,D,E,G⟩;have:=h q D;rw[E,G] at this;cases this
theorem Ab9 (t:Tbl) (S q:Nat) (D:q<t.n.length) (h:(t.ok q&&S.testBit q)=Ξ):Cu t S=Ξ:=by
 rw[Bool.and_eq_true] at h;exact (Jw t S).2 ⟨q,D,h.1,h.2⟩
theorem Ny (t:Tbl) (hv:TVal t) (hn:t.n.length<=64) (A:Array Ρ) (S:Nat) (hS:S<18446744073709551616) (w:Κ) (h:IsT w A t) :
  Ϝ Η 76 #[.agg A,.agg #[.int π (S:Int)]] w λe w'=>e=ν (.bool (Cu t S))/\Ext w w':=by
 obtain⟨bn,on,cn,ba,oa,ca,ae,af,_,_,_,H,_,I⟩:=h.opened hv;have aw:=hv.pos;have ag:=Α I;have E:=((Ι w).alloc (Ε A 108)).alloc (Ε #[.int π (S:Int)] 114);have J:=Ag (Ab w (Ε A 108)) (Ε #[.int π (S:Int)] 114);have M:=Ϙ w (Ε A 108) (Ε #[.int π (S:Int)] 114);clear I hv h;go_enter Tryz.func76,Tryz.ntmps76;go_upto_region 1 with (fail)
 generalize (w.alloc (Ε A 108)).alloc (Ε #[.int π (S:Int)] 114)=w1 at *;have k8:=(Ω w1 w.heap.size 258 _ _ _ J).trans H;have HK:=Α (λ(W:Κ) (hW:Ext w1 W)=>(Ω W (w.heap.size+1) 0 _ _ _ (hW.heap M)).trans rfl);clear J M H af ae;go_wp2_with (fail);clear k8;go_loopw [10] (λi W=>∃ k:Nat,k<=t.n.length/\i=.int ζ k/\Ext w1 W/\Ϻ (∀ q,q<k->(t.ok q&&S.testBit q)=Τ)) (λi _=>t.n.length-(intOf i).toNat)
 case atStart=>exact⟨0,by omega,rfl,Ι w1,Α (λq hq=>by omega)⟩
 case round=>
  obtain⟨k,hk,rfl,D,T⟩:=hrel;by_cases U:k<t.n.length
  ·have ca:=(E.trans D).cell (ag.out k U);have cs:=HK.out wr D;have hb:=Yx S k hS;have HH:=Α (Ab9 t S k U);have aa:Ϻ ((t.ok k&&S.testBit k)=Τ->∀ q,q<k+1->(t.ok q&&S.testBit q)=Τ):=Α λh0 q hq=>by
    by_cases e:q=k
    ·subst e;exact h0
    ·exact T.out q (by omega)
   generalize t.ok k=b1 at *;generalize S.testBit k=b2 at *;cases b1
   ·go_wp2;go_roundw
    case rel=>exact⟨k+1,by omega,by go_num,D,Α (aa.out rfl)⟩
    case measure=>simp[intOf];omega
   ·cases b2
    ·go_wp2;go_roundw
     case rel=>exact⟨k+1,by omega,by go_num,D,Α (aa.out rfl)⟩
     case measure=>simp[intOf];omega
    ·have G:=Α (HH.out rfl);go_wp2;go_ret;exact⟨G5 G.out.symm,E.trans D⟩
  ·obtain rfl:k=t.n.length:=by omega
   have G:=Α (Ab8 t S T.out);go_wp2;go_ret;exact⟨G5 G.out.symm,E.trans D⟩
theorem Hz {t:Tbl} (hv:TVal t) (hn:t.n.length<=64) (S c:Nat) (D:c<256):∀ n,n<=t.n.length->Ax t S c n<18446744073709551616
 | 0,_=>by simp[Ax]
 | n+1,h=>by
  have E:=Hz hv hn S c D n (by omega);simp only[Ax];split
  ·have H:=hv.stp_lt (s:=n) (by omega) D;have G:2 ^ t.stp n c<2 ^ 64:=Nat.pow_lt_pow_right (by omega) (by omega);have:=Nat.or_lt_two_pow (x:=Ax t S c n) (y:=2 ^ t.stp n c) (n:=64) E G;exact this
  ·exact E
theorem Ur (x:Int):(#[Ρ.int π x]).all (·.oneCell')=Ξ:=by simp[ϊ]
theorem Ow (x r:Nat) (E:x<18446744073709551616) (D:r<64):bits BinOp.or ϴ (x:Int) (ϴ.wrap (2 ^ r))=((x ||| 2 ^ r:Nat):Int):=by
 rw[Nh r D,u64_or_nat _ _ E (L5 r D)]
theorem Se (t:Tbl) (hv:TVal t) (hn:t.n.length<=64) (A:Array Ρ) (S:Nat) (hS:S<18446744073709551616) (c:Nat) (T:c<256) (w:Κ) (h:IsT w A t) :
  Ϝ Η 73 #[.agg A,.agg #[.int π (S:Int)],.int ζ (c:Int)] w λe w'=>e=ν (.agg #[.int π (Ax t S c t.n.length:Nat)])/\Ext w w':=by
 obtain⟨bn,on,cn,ba,oa,ca,a8,bb,ag,_,U,_,hR,_⟩:=h.opened hv;have b6:=hv.pos;have HR:=Α hR;have HV:=Α hv;have bd:=((((Ι w).alloc (Ε A 108)).alloc (Ε #[.int π (S:Int)] 114)).alloc (Ε #[.int π 0] 114)).alloc (Ε #[.int π 0] 114);have H0:=Ag (Ag (Ag (Ab w (Ε A 108)) (Ε #[.int π (S:Int)] 114)) (Ε #[.int π 0] 114)) (Ε #[.int π 0] 114);have H1:=Ag (Ag (Ϙ w (Ε A 108) (Ε #[.int π (S:Int)] 114)) (Ε #[.int π 0] 114)) (Ε #[.int π 0] 114);have H2:=Ag (Ab ((w.alloc (Ε A 108)).alloc (Ε #[.int π (S:Int)] 114)) (Ε #[.int π 0] 114)) (Ε #[.int π 0] 114);have H3:=Ab (((w.alloc (Ε A 108)).alloc (Ε #[.int π (S:Int)] 114)).alloc (Ε #[.int π 0] 114)) (Ε #[.int π 0] 114);rw[Λ,Λ] at H2;rw[Λ,Λ,Λ] at H3;clear hR hv h;go_enter Tryz.func73,Tryz.ntmps73;go_upto_region 2 with (fail)
 obtain⟨w2,aj⟩:∃ W,(((w.alloc (Ε A 108)).alloc (Ε #[.int π (S:Int)] 114)).alloc (Ε #[.int π 0] 114)).alloc (Ε #[.int π 0] 114)=W:=⟨_,rfl⟩;simp only[aj] at *;clear aj;have bf:=Α U;have bg:=Α ag;have k7:=(Ω w2 w.heap.size 257 _ _ _ H0).trans U;have bh:=Α H0;have bj:=Α H1;have bk:=Α H2;have bl:=Α H3;clear H0 H1 H2 H3 U ag bb a8;go_wp2_with (fail);clear k7;go_loopw [12] (λi W=>∃ k:Nat,k<=t.n.length/\i=.int ζ k/\Ext w W/\W.heap[w.heap.size]? = Δ (Ε A 108 (0,0))/\W.heap[w.heap.size+1]? = Δ (Ε #[.int π (S:Int)] 114 (0,0))/\
   W.heap[w.heap.size+1+1]? = Δ (Ε #[.int π 0] 114 (0,0))/\W.heap[w.heap.size+1+1+1]? = Δ (Ε #[.int π (Ax t S c k:Nat)] 114 (0,0))) (λi _=>t.n.length-(intOf i).toNat)
 case atStart=>exact⟨0,by omega,rfl,bd,bh.out,bj.out,bk.out,bl.out⟩
 case round=>
  obtain⟨k,hk,rfl,J,ak,al,an,ao⟩:=hrel;have G:=Α ak;have M:=Α al;have H:=Α an;have D:=Α ao;clear ak al an ao;by_cases aq:k<t.n.length
  ·have cS:=(Ω wr (w.heap.size+1) 0 _ _ _ M.out).trans (show (#[Ρ.int π (S:Int)])[0]? = Δ (.int π (S:Int)) from rfl);have hb:=Yx S k hS;have I:Ϻ (Ax t S c (k+1)=if S.testBit k then Ax t S c k ||| 2 ^ t.stp k c else Ax t S c k):=Α rfl;have ar:=Hz HV.out hn S c T k (by omega);have bo:t.stp k c<64:=by have:=HV.out.stp_lt aq T;omega
   generalize S.testBit k=b at *;cases b
   ·have E:=I.out;simp only[Bool.false_eq_true,if_false] at E;have I:=Α E;clear E;go_wp2;go_roundw
    case rel=>exact⟨k+1,by omega,by go_num,J,G.out,M.out,H.out,by rw[I.out];exact D.out⟩
    case measure=>simp[intOf];omega
   ·have E:=I.out;simp only[if_true] at E;have I:=Α E;have bp:=HV.out.cell_lt c T;obtain⟨br,or',cr,au,aw⟩:=HR.out k aq;have r1:=Be (J.cell au);have r2:=Be (J.cell (aw _ bp));have k7:=Be ((Ω wr w.heap.size 257 _ _ _ G.out).trans bf.out);have kc:=Be ((Ω wr w.heap.size c _ _ _ G.out).trans (bg.out c T));have ko:=Be ((Ω wr (w.heap.size+1+1+1) 0 _ _ _ D.out).trans (show (#[Ρ.int π (Ax t S c k:Nat)])[0]? = Δ (.int π (Ax t S c k:Nat)) from rfl));have az:t.ent2 k (t.cell c)=t.stp k c:=rfl;rw[az] at r2;have HO:=Α (Ow (Ax t S c k) (t.stp k c) ar bo);clear az au aw ar E;have cd:(c:Int)<256:=by omega
    generalize Ax t S c k=x at *;generalize t.stp k c=r at *;generalize t.cell c=q at *;go_upto_region 6 with (fail)
    refine Adx 16 (by kernel_rfl) (by kernel_rfl) ?_;simp only[List.take_succ_cons,List.take_zero,ò,List.drop_zero];iterate 16 (with_reducible refine wpQuiet_step (λK hK=>?_);go_simp;(refine hK _ ?_;clear hK K))
    refine wpQuiet_nil ?_;rintro _ ⟨e,rfl⟩;have G:=Α (e.ext.heap G.out);have M:=Α (e.ext.heap M.out);have H:=Α (e.ext.heap H.out);have D:=Α (e.ext.heap D.out);have bu:=J.trans e.ext;have cf:=ko e;have fo:=Ϯ e.W (w.heap.size+1+1+1) 0 _ _ D.out;clear r1 r2 k7 kc ko cS;generalize e.W=w5 at *;go_wp2;go_roundw
    case rel=>
     rw[Ϥ w5 _ _ _ _ _ _ D.out,HO.out];refine⟨k+1,by omega,by go_num,bu.setRow (by omega) _,B8 G.out (by omega) _,B8 M.out (by omega) _,B8 H.out (by omega) _,?_⟩;rw[I.out];exact μ w5 _ _ _ _ _ D.out
    case measure=>simp[intOf];omega
  ·obtain rfl:k=t.n.length:=by omega
   have i114:(Η.info? 114).map (·.size)=Δ 1:=by kernel_rfl
   go_wp2_with (first
    | (refine Υ rfl 114 (η 7) rfl _ rfl _ _ _ _ D.out Tryz.underlying114 rfl i114 ?_)
    | (refine Φ rfl 114 (η 6) (η 38) rfl _ _ rfl rfl _ _ H.out i114 rfl (Ur _) ?_))
   refine ϋ (v:=.agg #[.int π (Ax t S c t.n.length:Nat)]) (ϵ rfl _ _ _ _ _ _ _ rfl (μ wr _ _ #[.int π (Ax t S c t.n.length:Nat)] 114 (0,0) H.out) Tryz.underlying114 rfl i114) rfl ?_;exact⟨rfl,J.setRow (by omega) _⟩
end Go.Proofs.YtaiogolidlamiaaGreatDoor
