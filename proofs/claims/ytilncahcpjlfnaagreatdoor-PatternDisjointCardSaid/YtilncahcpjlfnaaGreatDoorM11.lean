import Derived.Deep.Upon
import Derived.Test.YtilncahcpjlfnaaGreatDoorM03
import Derived.Test.YtilncahcpjlfnaaGreatDoorM05
import Derived.Test.YtilncahcpjlfnaaGreatDoorM04
import Derived.Test.YtilncahcpjlfnaaGreatDoorM10
import Derived.Test.YtilncahcpjlfnaaGreatDoorM09
set_option linter.unusedVariables false
set_option linter.unusedSimpArgs false
set_option maxRecDepth 100000
set_option maxHeartbeats 2000000
open Array renaming replicate → í, getElem?_toList → Ç
open Bool renaming true → Α, false → Ε, and_eq_true → ψ
open Classical renaming byContradiction → Ë
open Go renaming Program → Þ, World → Γ, Oper → ϳ, Act → ø, Operand → Ñ, TypeId → ϡ, execOp → ê, Value → Δ, Calls → ϛ, cell_of_row → Τ, wpList_make_full → Ϟ, maxLen → ϐ, wpList_append_lies → Ϙ, heap_alloc2_new → ϒ, undef → Ω, getD_replicate_false → Ϡ, yielded → ü
open Go.Ending renaming returned → Ψ
open Go.IntKind renaming i64 → Φ
open Go.Lib renaming hid → Z
open Go.Obj renaming cells → Β
open Go.Operand renaming tmp → δ
open Go.Proofs.Tryz renaming prog → Η, underlying54 → Ϥ, underlying22 → ύ, underlying40 → Ο
open Go.Region renaming ready → ϻ, wanted → ϧ
open Go.Value renaming slice → U, tuple → ϗ, oneCell' → ξ, slice → Ϗ
open Go.World renaming ownsRow_lit → Á, size_alloc → Ρ
open List renaming length_append → Ν, length_singleton → Ϩ, getD_eq_getElem?_getD → Ζ, getElem?_eq_getElem → Ι, replicate → θ, ext_getElem? → Ϯ, length_take → Ö, append_assoc → ö
open Nat renaming le_refl → Υ, le_of_eq → Ô, lt_of_lt_of_le → Ξ, le_trans → μ
open Option renaming none → I, some → J
open Option.some renaming inj → ό
open UInt8 renaming ofNat → ώ
namespace Go.Proofs.YtilncahcpjlfnaaGreatDoor
open Go.RowKit Go.Shelf
theorem EK {P:Þ} {w:Γ} {ops:Array ϳ} {rest:List ϳ} {o:ϳ} {a:ø} {Q:Exit->ø->Γ->Prop} (X:o.guard=I) (s x:Ñ) (t:ϡ)
  (ho:o.op=.call { callee:=.builtin .append,args:=#[s,x],argTypes:=#[t,t] })
  (e:ϡ) (i:TypeInfo) (G:P.underlying t=J (.slice e)) (hi:P.info? e=J i)
  (E:Option Addr) (n c:Nat) (ab:n<=c) (hs:a.eval s=U E n c) (H:Addr) (T:Nat) (hx:a.eval x=U (J H) 0 T)
  (h:wpList P ops Q rest (a.put o.dst (U E n c)) w):wpList P ops Q (o::rest) a w:=by
 refine wpList_plain X λK hK=>?_
 have af:=run_append_nothing (P:=P) w t t o.type e i G hi E n c ab _ (Src.ofSlice w G H 0 T [] (by simp) (by simp) (by simp));unfold ϳ.wp;simp[ê,ho,resolve,invoke,builtin,hs,hx,af,Result.andThen];exact hK _ _ h
def LeastF (L:List UInt8->Bool) (W:Γ) (e:Ending):Prop:=
 (∃ u v,e=Ψ (ϗ #[v,.bool Α])/\By W v u/\L u=Α/\∀ E,L E=Α->rk u<=rk E)\/(e=Ψ (ϗ #[U I 0 0,.bool Ε])/\∀ u,L u=Ε)
theorem Z4 {t:Tbl} {i b:Nat} {l:List Nat} {W:Nat->List UInt8} {F:List (Option Nat)} {Y:List UInt8} (h:FB t i b l W F Y):∀ k j,j<=k->j<l.length->(W (l.getD j 0)).length<=j
 | 0,j,T,E=>by
  obtain rfl:j=0:=by omega
  rw[h.head,h.w0];simp
 | k+1,j,T,E=>by
  by_cases h0:l.getD j 0=0
  ·rw[h0,h.w0];simp
  have hm:=Dm l j 0 E;have X:=(h.seen _ (h.lt _ hm)).2 hm;obtain⟨p,hp⟩:=Option.isSome_iff_exists.1 X;obtain⟨ab,G⟩:=h.from_ _ p hp h0;obtain⟨q,H,rfl⟩:=Iq ab;have hr:rk (W (l.getD q 0))<rk (W (l.getD j 0)):=by rw[G,Qd];omega
  have ae:q<j:=by
   rcases Nat.lt_trichotomy q j with h1|h1|h1
   ·exact h1
   ·subst h1;omega
   have:=h.inc j q h1 H;omega
  have:=Z4 h k q (by omega) H;rw[G,Ν,Ϩ];omega
theorem WV {W:Γ} {g:Nat} {l:List UInt8} (h:∀ k,k<l.length->W.cell? ⟨g,k,I⟩=J (bv (l.getD k 0))) (j:Nat) (u:Δ) (G:(l.map bv)[j]? = J u):W.cell? ((⟨g,0,I⟩:Addr).add j)=J u:=by
 obtain⟨H,T⟩:=List.getElem?_eq_some_iff.1 G;have E:j<l.length:=by rwa [List.length_map] at H
 have e:(⟨g,0,I⟩:Addr).add j=⟨g,j,I⟩:=by
  unfold Addr.add;by_cases h0:j=0
  ·subst h0;rfl
  simp[h0]
 rw[e,h j E,<-T,List.getElem_map,Ζ,Ι E];rfl
theorem Uq (t:Tbl) (hv:TVal t) (hn:t.n.length<=65536) (A:Array Δ) (w:Γ) (h:IsT w A t) :
  ϛ Η 35 #[.agg A] w λe w'=>LeastF t.has w' e/\Ext w w':=by
 obtain⟨bn,on,cn,ba,oa,ca,ft,fu,dr,_,dt,du,hR,dw⟩:=h.opened hv;have fv:=hv.pos;have HR:=Z hR;have HV:=Z hv;have fx:=Z dw;obtain⟨i0,hi,dy,dz,ea⟩:=info_parts Dw;obtain⟨j0,hj,eb,ec,ed⟩:=info_parts L7;have bg:=(Κ w).alloc (Β A 84);have H0:=Ad w (Β A 84);have cm:=Z (λ(W:Γ) (hW:Ext (w.alloc (Β A 84)) W)=>(Τ W w.heap.size 257 _ _ _ (hW.heap H0)).trans dt);have fy:=Z (λ(W:Γ) (hW:Ext (w.alloc (Β A 84)) W)=>(Τ W w.heap.size 258 _ _ _ (hW.heap H0)).trans du);have fz:=Z (λ(W:Γ) (hW:Ext (w.alloc (Β A 84)) W) b (hb:b<256)=>(Τ W w.heap.size b _ _ _ (hW.heap H0)).trans (dr b hb));clear hR hv h H0 dt du dr fu ft dw;go_enter Tryz.func35,Tryz.ntmps35;go_upto_region 1 with (fail)
 generalize w.alloc (Β A 84)=w1 at *;have k1:=cm.o w1 (Κ w1);go_upto_region 2 with (at_make;refine Ϟ _ rfl _ _ 54 rfl w1.heap.size 3 i0 (.int Φ 0) 1 Ϥ hi dy dz Φ Φ _ _ t.n.length rfl rfl rfl rfl (by rw[ea];omega) (by unfold ϐ;omega) (Υ _) ?_;intro w2 ee ef)
 have cp:Ext w1 w2:=(Κ w1).grown ef (λk e=>by cases e);have cq:w2.ownsRow w1.heap.size 3 1 (U (J ⟨w1.heap.size,0,I⟩) t.n.length t.n.length) t.n.length ((El t.n.length 0).map ov):=by rw[R8,<-B8];exact ee
 have ga:w1.heap.size<w2.heap.size:=(cq.lt _ rfl).2;clear ee ef k1;have k2:=cm.o w2 cp;go_upto_region 3 with (at_make;refine Ϟ _ rfl _ _ 22 rfl w2.heap.size 5 j0 (.int .u8 0) 1 ύ hj eb ec Φ Φ _ _ t.n.length rfl rfl rfl rfl (by rw[ed];omega) (by unfold ϐ;omega) (Υ _) ?_;intro w3 eh ct)
 have ei:=cp.grown ct (λk e=>by cases e);have ej:=Bz cq ct;have cu:w3.ownsRow w2.heap.size 5 1 (U (J ⟨w2.heap.size,0,I⟩) t.n.length t.n.length) t.n.length ((θ t.n.length (0:UInt8)).map bv):=by rw[<-B8];exact eh
 have ek:w2.heap.size<w3.heap.size:=(cu.lt _ rfl).2;clear eh ct k2 cq cp;generalize en:w1.heap.size=gs at *;generalize gd:w2.heap.size=T at *;have eo:=Z en;clear en gd;go_wp2_with (fail);go_loopw [23] (λi W=>∃ k:Nat,k<=t.n.length/\i=.int Φ k/\Ext w1 W/\T<W.heap.size/\W.ownsRow gs 3 1 (U (J ⟨gs,0,I⟩) t.n.length t.n.length) t.n.length ((El t.n.length k).map ov)/\W.ownsRow T 5 1 (U (J ⟨T,0,I⟩) t.n.length t.n.length) t.n.length ((θ t.n.length (0:UInt8)).map bv))
  (λi _=>t.n.length-(intOf i).toNat)
 case atStart=>exact⟨0,by omega,rfl,ei,ek,ej,cu⟩
 clear ei ej cu ek;obtain⟨k,hk,rfl,G,af,E,X⟩:=hrel;have b0:w1.heap.size<=gs:=Ô eo.o;by_cases ar:k<t.n.length
 ·have co:=Au I E (Iv _ _).symm k (by rw[Iv];exact ar);have fo:=E.frozenAt k;obtain⟨a6,au⟩:=Ba E k I;rw[R9 _ _ ar] at a6;have bh:=G.grown au (λk e=>by cases e;exact b0);have bj:=X.kept au (Aj X E (by decide));have b5:=Ξ af au.size;clear au E G X;go_wp2_with (fail);go_roundw
  case rel=>exact⟨k+1,by omega,by go_num,bh,b5,a6,bj⟩
  simp[intOf];omega
 obtain rfl:k=t.n.length:=by omega
 rw[Sa] at E;have co:=Au I E (by simp) 0 (by simpa using fv);have fo:=E.frozenAt 0;obtain⟨a6,au⟩:=Ba E 0 (J 0);have bh:=G.grown au (λk e=>by cases e;exact b0);have bj:=X.kept au (Aj X E (by decide));have b5:=Ξ af au.size;clear au E G X af;go_upto_region 9 with (fail)
 clear co fo;have ep:wr.setCell ⟨gs,0,I⟩ (ov (J 0))=wr.setCell ⟨gs,0,I⟩ (.int Φ 0):=rfl;rw[ep] at a6 bh bj b5;clear ep;obtain⟨w4,er⟩:=Xq (wr.setCell ⟨gs,0,I⟩ (.int Φ 0));simp only[er] at *;clear er;have et:=bh.alloc (Β #[.int Φ 0] 3);have eu:=a6.alloc (Β #[.int Φ 0] 3);have ev:=bj.alloc (Β #[.int Φ 0] 3);have ew:OwnI (w4.alloc (Β #[iv 0] 3)) (T+1) (U (J ⟨w4.heap.size,0,I⟩) 1 1) [0]:=Á (base:=T+1) (e:=3) (size:=1) w4 #[.int Φ 0] 1 (by omega) (by unfold ϐ;omega) rfl;have HS:=Z (TS HV.o t.n.length rfl);clear bh a6 bj;go_wp2_with (fail);go_loopw [7,8] (λv vi W=>∃ (i:Nat) (l:List Nat) (Wd:Nat->List UInt8) (F:List (Option Nat)) (Y:List UInt8) (g c:Nat),i<=l.length/\vi=.int Φ i/\v=U (J ⟨g,0,I⟩) l.length c/\Ext w1 W/\T<W.heap.size/\W.ownsRow gs 3 1 (U (J ⟨gs,0,I⟩) t.n.length t.n.length) t.n.length (F.map ov)/\W.ownsRow T 5 1 (U (J ⟨T,0,I⟩) t.n.length t.n.length) t.n.length (Y.map bv)/\OwnI W (T+1) v l/\Hid (FB t i 0 l Wd F Y))
  (λ_ vi _=>t.n.length-(intOf vi).toNat)
 case atStart=>exact⟨0,[0],λ_=>[],_,_,w4.heap.size,1,by omega,rfl,rfl,et,by rw[Ρ];omega,eu,ev,ew,HS⟩
 clear et eu ev ew HS b5;obtain⟨i,l,Wd,F,Y,g,c,ig,rfl,rfl,G,af,E,X,hI,HF⟩:=hrel;have ih:=HF.o.len_le;have a7:=Z HF.o.lenF;have a8:=Z HF.o.lenY;by_cases ar:i<l.length
 ·have cl:=Au 0 hI rfl i ar;have b7:=HF.o.lt _ (Dm l i 0 ar);obtain⟨s,cy⟩:=Xq (l.getD i 0);rw[cy] at cl b7;have bb:=Z cy;clear cy;have k8:=fy.o wr G;have ka:=(bg.t G).cell (fx.o s b7);obtain⟨bo,c3⟩:=Xq (t.ok s);rw[c3] at ka;have c5:=Z c3;clear c3;cases bo
  ·obtain⟨br,or',cr,ez,e0⟩:=HR.o s b7;have gg:=Z e0;have gi:=Z ez;clear ez e0;have b8:t.ok (l.getD i 0)=Ε:=by rw[bb.o];exact c5.o
   have b0:w1.heap.size<=gs:=Ô eo.o;have ik:gs<T:=ga;go_upto_region 21 with (fail)
   clear cl k8 ka;go_loopw [7,63] (λv vb W=>∃ (b:Nat) (l':List Nat) (b9:Nat->List UInt8) (F':List (Option Nat)) (Y':List UInt8) (g' c':Nat),b<=256/\vb=.int Φ b/\v=U (J ⟨g',0,I⟩) l'.length c'/\Ext w1 W/\T<W.heap.size/\W.ownsRow gs 3 1 (U (J ⟨gs,0,I⟩) t.n.length t.n.length) t.n.length (F'.map ov)/\W.ownsRow T 5 1 (U (J ⟨T,0,I⟩) t.n.length t.n.length) t.n.length (Y'.map bv)/\OwnI W (T+1) v l'/\Hid (FB t i b l' b9 F' Y')/\Hid (i<l'.length/\l'.getD i 0=s))
    (λ_ vb _=>256-(intOf vb).toNat)
   case atStart=>exact⟨0,l,Wd,F,Y,g,c,by omega,rfl,rfl,G,af,E,X,hI,HF,Z ⟨ar,bb.o⟩⟩
   clear G af E X hI a7 a8;obtain⟨b,l',b9,F',Y',g',c',hb,rfl,rfl,G,af,E,X,hI,bd,ag⟩:=hrel;have il:=bd.o.len_le;have a7:=Z bd.o.lenF;have a8:=Z bd.o.lenY;by_cases bl:b<256
   ·have gj:=HV.o.cell_lt b bl;have cb:=Aw (fz.o wr G b bl);have k7:=Aw (cm.o wr G);have gm:=Aw ((bg.t G).cell gi.o);have c6:=Aw ((bg.t G).cell (gg.o _ gj));have e1:t.ent2 s (t.cell b)=t.stp s b:=rfl;have aw:=HV.o.stp_lt b7 bl;rw[e1] at c6;obtain⟨x,c9⟩:=Xq (t.stp s b);rw[c9] at c6 aw;have cc:=Z c9;clear c9 e1;generalize t.cell b=cx at *;have im:(b:Int)<256:=by omega
    generalize ir:t.cells=mx at *;go_upto_region 23 with (fail)
    refine B2 (by kernel_rfl) (by kernel_rfl) ?_;iterate 12 (with_reducible refine wpQuiet_step (λK hK=>?_);go_simp;(refine hK _ ?_;clear hK K))
    refine wpQuiet_nil ?_;rintro _ ⟨e,rfl⟩;clear cb k7 gm c6;have G:=G.t e.ext;have E:=Aa E e.ext;have X:=Aa X e.ext;have hI:=Aa hI e.ext;have af:=Ξ af e.ext.size;generalize e.W=w5 at *;obtain⟨fo,bm⟩:=Xq (F'.getD x I);have co:=Au I E a7.o.symm x (by rw[a7.o];exact aw);rw[bm] at co;cases fo with
    | some p=>
     have HN:=Z (TV bd.o ag.o.1 (by rw[ag.o.2,cc.o];exact aw) (by rw[ag.o.2,cc.o,bm];simp));replace co:w5.cell? ⟨gs,x,I⟩=J (.int Φ p):=co;have iu:¬ ((p:Int)<0):=by omega
     clear bm;go_wp2;go_roundw
     case rel=>exact⟨b+1,l',b9,F',Y',g',c',by omega,by go_num,rfl,G,af,E,X,hI,HN,ag⟩
     simp[intOf];omega
    | none=>
     have HN:=Z (TY HV.o bd.o ag.o.1 bl (by rw[ag.o.2,cc.o];exact bm));rw[ag.o.2,cc.o] at HN;replace co:w5.cell? ⟨gs,x,I⟩=J (.int Φ (-1)):=co;have gn:=E.frozenAt x;obtain⟨cd,be⟩:=Ba E x (J s);rw[show ov (J s)=.int Φ (s:Int) from rfl] at cd be;have bp:=G.grown be (λk e=>by cases e;exact b0);have bq:=X.kept be (Aj X E (by decide));have db:=hI.kept be (A3 hI (by omega));have e2:=Ξ af be.size;have gp:=Au 0 bq a8.o.symm x (by rw[a8.o];exact aw);have gq:=bq.frozenAt x;obtain⟨dc,ao⟩:=Ba bq x (ώ b);have ay:=bp.grown ao (λk e=>by cases e;omega);have dd:=cd.kept ao (Aj cd bq (by decide));have a1:=db.kept ao (A3 db (by omega));have gu:=Ξ e2 ao.size;have gv:IntKind.u8.wrap (b:Int)=(b:Int):=IntWalk.u8_in _ ⟨by omega,by omega⟩;have e3:bv (ώ b)=.int .u8 (b:Int):=by rw[bv,u8n b bl]
     rw[e3] at dc ao ay dd a1 gu;clear bm be ao E X hI G af bp cd db e2;go_upto_region 26 with (fail)
     obtain⟨w7,e4⟩:=Xq ((w5.setCell ⟨gs,x,I⟩ (.int Φ (s:Int))).setCell ⟨T,x,I⟩ (.int .u8 (b:Int)));simp only[e4] at *;clear e4 co gn gp gq bq gv e3;have iw:=ay.size;go_wp2_with (at_builtin;refine Ϙ _ rfl _ _ 54 rfl (T+1) 3 i0 (.int Φ 0) 1 8 Ϥ hi dy dz ea rfl (by decide) _ _ _ rfl (a1.alloc _) _ 1 1 [iv x] rfl rfl (cell_one_new _ _ _) (by simp[ξ]) (by decide) (by unfold ϐ;omega) (by omega) (by simp;omega) _ rfl ?_);intro g8 c8 w8 gz bt _ _;have de:=λk (hk:(Ϗ (J ⟨g',0,I⟩) l'.length c').ownBlock=J k)=>(a1.lt k hk).1
     have ha:=(dd.alloc (Β #[iv x] 3)).kept bt (.inr λe=>by have:=de gs e.symm;omega);have hf:=(dc.alloc (Β #[iv x] 3)).kept bt (.inr λe=>by have:=de T e.symm;omega);have df:=(ay.alloc (Β #[iv x] 3)).grown bt (λk e=>by have:=de k e;omega);have hh:T<w8.heap.size:=by have:=bt.size;rw[Ρ] at this;omega
     clear bt a1 dd dc;go_wp2;go_roundw
     case rel=>refine⟨b+1,l'++[x],_,_,_,g8,c8,by omega,by go_num,by rw[Ν];rfl,df,hh,ha,hf,?_,HN,Z ⟨by rw[Ν];have:=ag.o.1;omega,by rw[Ca _ _ _ _ ag.o.1];exact ag.o.2⟩⟩;show Γ.ownsRow _ _ _ _ _ _ _;rw[Ν,List.map_append];exact gz
     case measure=>simp[intOf];omega
   obtain rfl:b=256:=by omega
   have e5:((256:Nat):Int)=256:=rfl;simp only[e5];clear e5;have HN:=Z (TX bd.o ag.o.1 (by rw[ag.o.2];exact c5.o));go_wp2;go_roundw
   case rel=>exact⟨i+1,l',b9,F',Y',g',c',by have:=ag.o.1;omega,by go_num,rfl,G,af,E,X,hI,HN⟩
   simp[intOf];omega
  go_upto_region 15 with (fail)
  clear cl k8 ka;go_wp2_with (fail);have bp:=(Κ wr).alloc (Β #[] 5);have e6:Wd s++[]=Wd s:=List.append_nil _;have dg:=Dm l i 0 ar;rw[bb.o] at dg;have ix:(Wd s).length<=65536:=by have:=Z4 HF.o i i (Υ _) ar;rw[bb.o] at this;omega
  go_loopw [9,10] (λv9 hl W=>∃ (x:Nat) (H:List UInt8) (g' c':Nat),v9=.int Φ x/\hl=U (J ⟨g',0,I⟩) H.length c'/\(∀ k,k<H.length->W.cell? ⟨g',k,I⟩=J (bv (H.getD k 0)))/\g'<W.heap.size/\Ext wr W/\x∈l/\Hid (Wd x++H=Wd s))
   (λv9 _ _=>(Wd (intOf v9).toNat).length)
  case atStart=>exact⟨s,[],wr.heap.size,0,rfl,rfl,λk hk=>by simp at hk,by rw[Ρ];omega,bp,dg,Z e6⟩
  clear bp e6 dg;obtain⟨wl,ho⟩:∃ W,W=wr:=⟨_,rfl⟩;subst ho;obtain⟨x,H,g',c',rfl,rfl,dk,hq,bf,e7,HX⟩:=hrel;have aw:=HF.o.lt x e7;by_cases e9:x=0
  ·subst e9;have dm:H=Wd s:=by have:=HX.o;rw[HF.o.w0] at this;simpa using this
   have fa:By wl (U (J ⟨g',0,I⟩) H.length c') H:=by
    refine⟨by rw[dm];omega,?_⟩;rcases Nat.eq_zero_or_pos H.length with h0|h0
    ·exact .inl ⟨h0,_,_,by rw[h0]⟩
    exact .inr ⟨h0,g',0,c',rfl,hq,λk hk=>by rw[Nat.zero_add];exact dk k (by omega)⟩
   have HB:=Z fa;have b8:=TU HF.o ar (by rw[bb.o];exact c5.o);rw[bb.o,<-dm] at b8;have fb:=Z b8;clear fa b8 dm dk;go_wp2;go_ret2;exact⟨.inl ⟨H,_,rfl,HB.o,fb.o.1,fb.o.2⟩,(bg.t G).trans bf⟩
  have fc:=(HF.o.seen x aw).2 e7;obtain⟨p,hp⟩:=Option.isSome_iff_exists.1 fc;obtain⟨hs,hw⟩:=HF.o.from_ x p hp e9;have cY:=Au 0 (Aa X bf) a8.o.symm x (by rw[a8.o];exact aw);have cF:=Au I (Aa E bf) a7.o.symm x (by rw[a7.o];exact aw);rw[hp] at cF;obtain⟨y,hy⟩:=Xq (Y.getD x 0);rw[hy] at cY hw;have dq:Wd p++(y::H)=Wd s:=by rw[<-HX.o,hw];simp
  have ff:H.length+1<=65536:=by have:=congrArg List.length dq;simp at this;omega
  have fg:=Z dq;have iy:(Wd x).length=(Wd p).length+1:=by rw[hw];simp
  have fh:wl.cell? ⟨gs,x,I⟩=J (.int Φ p):=cF;have fj:=Z (λ(W:Γ) (hW:Ext wl W)=>hW.cell fh);have fk:=hs;clear hy hp hw cF dq fc fh;rcases H with _|⟨z,H⟩
  ·have hz:=Ad wl (Β #[bv y] 5);have h2:=(Τ (wl.alloc (Β #[bv y] 5)) wl.heap.size 0 _ _ _ hz).trans (show (#[bv y]:Array Δ)[0]? = J (bv y) from rfl);have ay:=bf.alloc (Β #[bv y] 5);have c4:=fj.o _ ((Κ wl).alloc (Β #[bv y] 5));go_wp2_with (at_builtin;refine EK rfl _ _ 22 rfl 5 j0 ύ hj _ _ _ (by omega) rfl _ _ rfl ?_);go_roundw
   case rel=>exact⟨p,[y],wl.heap.size,1,rfl,rfl,λk hk=>by simp at hk;subst hk;exact h2,by rw[Ρ];omega,ay,fk,fg⟩
   simp[intOf];omega
  have iz:=bf.size;have fl:=Á (base:=wl.heap.size) (e:=5) (size:=1) wl #[bv y] 1 (Υ _) (by unfold ϐ;omega) rfl;have ay:=(Κ wl).alloc (Β #[bv y] 5);have fm:=WV (λk hk=>ay.cell (dk k hk));have h4:=Z fm;have ja:g'<(wl.alloc (Β #[bv y] 5)).heap.size:=by rw[Ρ];omega
  clear fm;go_wp2_with (at_builtin;refine Ϙ _ rfl _ _ 22 rfl wl.heap.size 5 j0 (.int .u8 0) 1 1 ύ hj eb ec ed rfl (by decide) _ 1 [bv y] rfl fl ⟨g',0,I⟩ (H.length+1) _ ((z::H).map bv) rfl (by simp) h4.o (by simp[ξ]) (by omega) (by unfold ϐ;simp at ff;omega) (by simp at ff;omega) (by rw[Ρ];omega) _ rfl ?_);intro g7 c7 w7 a1 ao _ h5;have fs:w7.ownsRow wl.heap.size 5 1 (U (J ⟨g7,0,I⟩) (1+(H.length+1)) c7) (1+(H.length+1)) ((y::z::H).map bv):=a1;have h6:=λk (hk:k<(y::z::H).length)=>Au 0 fs (by simp;omega) k hk
  have df:Ext wr w7:=(bf.alloc (Β #[bv y] 5)).grown ao (λk e=>by have:wl.heap.size=k:=ό e;omega);have c4:=fj.o w7 (ay.grown ao (λk e=>by have:wl.heap.size=k:=ό e;omega));clear a1 ao fl fs;go_wp2;go_roundw
  case rel=>exact⟨p,y::z::H,g7,c7,rfl,by simp;omega,h6,h5,df,fk,fg⟩
  simp[intOf];omega
 obtain rfl:i=l.length:=by omega
 have HN:=Z (TW HF.o (Υ _));go_wp2;go_ret2;exact⟨.inr ⟨rfl,HN.o⟩,bg.t G⟩
theorem LeastF.congr {L M:List UInt8->Bool} {W:Γ} {e:Ending} (h:LeastF L W e) (E:∀ u,L u=M u):LeastF M W e:=by rw[show M=L from funext λu=>(E u).symm];exact h
theorem LeastF.form {L:List UInt8->Bool} {W:Γ} {e:Ending} (h:LeastF L W e):∃ a n c b,e=Ψ (ϗ #[U a n c,.bool b]):=by
 rcases h with⟨u,v,h1,E,_⟩|⟨h,_⟩
 ·obtain⟨a,c,rfl⟩:=E.len;exact⟨_,_,_,_,h1⟩
 exact⟨_,_,_,_,h⟩
theorem Rf (a:Dfa) (G:Val a) (ay:a.n.length<=64) (va:Δ) (w:Γ) (hT:Tab w) (ak:0<w.heap.size) (ab:IsD w va a) :
  ϛ Η 12 #[va] w λe w'=>LeastF a.has w' e/\Ext w w':=by
 have ad:=Z ab;obtain⟨ac,lc,cc,an,cn,aa,la,ca,rfl⟩:=ab.agg;have ao:=λW (E:Ext w W)=>Z (Fp a G ay _ W (ad.o.ext E))
 have aq:=λW (E:Ext w W)=>Z (Jc a G _ W (hT.below E.below ak) (Ξ ak E.size) (ad.o.ext E))
 obtain⟨H,T⟩:=Xq (dA (U ac lc cc) (U an a.n.length cn) (U aa la ca));have ar:(Η.info? 40).map (·.size)=J H.size:=by rw[<-T];exact Ae
 have bc:=Z (Bu G);rw[T] at ao aq ad;rw[T];have ae:=(Κ w).alloc (Β H 40);have H1:=Ad w (Β H 40);clear ab G hT T;go_enter Tryz.func12,Tryz.ntmps12;go_upto_region 1 with (fail)
 obtain⟨w1,ag⟩:=Xq (w.alloc (Β H 40));rw[ag] at ae H1;simp only[ag];clear ag;have X:=Z H1;clear H1;go_upto_region 3 with (first
  | (refine Lr 40 (δ 1) X.o Ο ar ?_)
  | (go_at_call 33;(with_reducible refine (ao _ ae).o.mono ?_);rintro e w2 ⟨rfl,au⟩;have aw:=ae.t au;have X:=Z (au.heap X.o)))
 go_wp2_with (first
  | (refine Lr 40 (δ 1) X.o Ο ar ?_)
  | (go_at_call 34;(with_reducible refine (aq _ aw).o.mono ?_);rintro e w3 ⟨A,rfl,hA,bf⟩;have hL:=Z (Uq (Ai a) bc.o (show a.n.length<=65536 by omega) A w3 hA);have bh:=aw.t bf)
  | (go_at_call 35;(with_reducible refine hL.o.mono ?_);rintro e w4 ⟨hr,ax⟩;obtain⟨ra,rn,rc,rb,rfl⟩:=hr.form;have HR:=Z hr;have bk:=Z (bh.t ax);clear hr ax))
 go_ret2;exact⟨HR.o.congr (λu=>Eg a u),bk.o⟩
theorem DZ:I8 117 (λx y=>x != y):=by intro W x y;go_enter Tryz.func117,Tryz.ntmps117;cases x<;>cases y<;>(go_wp2;go_ret;exact⟨rfl,Κ W⟩)
theorem YP (a b:Dfa) (ha:Val a) (hb:Val b) (a1:a.n.length<=64) (a6:b.n.length<=64) (va vb:Δ) (w:Γ) (hT:Tab w) (ba:0<w.heap.size) (ai:IsD w va a) (aj:IsD w vb b) :
  ϛ Η 105 #[va,vb] w λe w'=>LeastF (λu=>a.has u != b.has u) w' e/\Ext w w':=by
 have ak:=Z ai;have ao:=Z aj;obtain⟨ac,lc,cc,an,cn,aa,la,ca,rfl⟩:=ai.agg;obtain⟨bo,bp,bq,br,bt,bu,bw,bz,rfl⟩:=aj.agg;have aq:=λW (E:Ext w W)=>Z (Fp a ha a1 _ W (ak.o.ext E))
 have ar:=λW (E:Ext w W)=>Z (Fp b hb a6 _ W (ao.o.ext E))
 have f85:=λW (E:Ext w W)=>Z (Wo a b ha hb a1 a6 117 _ DZ (enters_of Tryz.func117 (by kernel_rfl) rfl) _ _ W (hT.below E.below ba) (Ξ ba E.size) (ak.o.ext E) (ao.o.ext E))
 obtain⟨H,X⟩:=Xq (dA (U ac lc cc) (U an a.n.length cn) (U aa la ca));obtain⟨T,ab⟩:=Xq (dA (U bo bp bq) (U br b.n.length bt) (U bu bw bz));have bb:(Η.info? 40).map (·.size)=J H.size:=by rw[<-X];exact Ae
 have bc:(Η.info? 40).map (·.size)=J T.size:=by rw[<-ab];exact Ae
 rw[X] at aq f85 ak;rw[ab] at ar f85 ao;rw[X,ab];have ad:=((Κ w).alloc (Β H 40)).alloc (Β T 40);have H3:=Ah (Ad w (Β H 40)) (Β T 40);have H4:=ϒ w (Β H 40) (Β T 40);clear ai aj ha hb hT X ab;go_enter Tryz.func105,Tryz.ntmps105;go_upto_region 1 with (fail)
 obtain⟨w1,ax⟩:=Xq ((w.alloc (Β H 40)).alloc (Β T 40));rw[ax] at ad H3 H4;simp only[ax];clear ax;have ae:=Z H3;have G:=Z H4;clear H3 H4;go_upto_region 3 with (first
  | (refine Lr 40 (δ 2) ae.o Ο bb ?_)
  | (refine Ep rfl (wp_load_row 40 (δ 3) rfl _ rfl _ _ _ _ G.o Ο rfl bc ?_))
  | (go_at_call 33;(with_reducible refine (aq _ ad).o.mono ?_);rintro e w2 ⟨rfl,af⟩;have ay:=ad.t af;have G:=Z (af.heap G.o))
  | (go_at_call 33;(with_reducible refine (ar _ ay).o.mono ?_);rintro e w3 ⟨rfl,ag⟩;have b0:=ay.t ag))
 have ae:=Z ((af.t ag).heap ae.o);have G:=Z (ag.heap G.o);have bd:=Z b0;clear aq ar ad af ay ag;go_wp2_with (first
  | (refine Lr 40 (δ 2) ae.o Ο bb ?_)
  | (refine Lr 40 (δ 3) G.o Ο bc ?_)
  | (go_at_call 66;(with_reducible refine (f85 _ bd.o).o.mono ?_);rintro e w4 ⟨A,t,rfl,b5,b6,ck,be,b7⟩;have hL:=Z (Uq t b6 (show t.n.length<=65536 by omega) A w4 b5);have HH:=Z be;clear be;have cb:=bd.o.t b7)
  | (go_at_call 35;(with_reducible refine hL.o.mono ?_);rintro e w5 ⟨hr,bf⟩;obtain⟨ra,rn,rc,rb,rfl⟩:=hr.form;have HR:=Z hr;have cf:=Z (cb.t bf);clear hr bf))
 go_ret2;exact⟨HR.o.congr (λu=>HH.o u),cf.o⟩
theorem YO {a b:Dfa} (G:Cano a) (hb:Cano b) {W:Γ} {v:Δ} {r:Bool} (h:LeastF (λu=>a.has u != b.has u) W (Ψ (ϗ #[v,.bool r]))):(!r)=Α↔a=b:=by
 rcases h with⟨u,T,e,_,E,_⟩|⟨e,h⟩
 ·injection e with e
  injection e with e
  injection e with e
  injection e with _ e
  injection e with e _
  injection e with e
  subst e;have H:a≠b:=λe=>by rw[e] at E;simp at E
  simp[H]
 injection e with e
 injection e with e
 injection e with e
 injection e with _ e
 injection e with e _
 injection e with e
 subst e;have he:a=b:=E8 G hb λu=>by
  have:=h u
  simpa using this
 simp[he]
theorem UF (a b:Dfa) (ha:Cano a) (hb:Cano b) (ax:a.n.length<=64) (ay:b.n.length<=64) (va vb:Δ) (w:Γ) (hT:Tab w) (aq:0<w.heap.size) (ad:IsD w va a) (ae:IsD w vb b) :
  ϛ Η 82 #[va,vb] w λe w'=>∃ r,e=Ψ (.bool r)/\(r=Α↔a=b)/\Ext w w':=by
 have ar:=Z ad;have au:=Z ae;have az:=Z ha;have a1:=Z hb;obtain⟨ac,lc,cc,an,cn,aa,la,ca,rfl⟩:=ad.agg;obtain⟨be,bf,bg,bh,bj,bk,bl,bm,rfl⟩:=ae.agg;have f44:=λW (H:Ext w W)=>Z (YP a b ha.val hb.val ax ay _ _ W (hT.below H.below aq) (Ξ aq H.size) (ar.o.ext H) (au.o.ext H))
 obtain⟨E,T⟩:=Xq (dA (U ac lc cc) (U an a.n.length cn) (U aa la ca));obtain⟨G,X⟩:=Xq (dA (U be bf bg) (U bh b.n.length bj) (U bk bl bm));have bn:(Η.info? 40).map (·.size)=J E.size:=by rw[<-T];exact Ae
 have bo:(Η.info? 40).map (·.size)=J G.size:=by rw[<-X];exact Ae
 rw[T,X] at f44;rw[T,X];have af:=((Κ w).alloc (Β E 40)).alloc (Β G 40);have H2:=Ah (Ad w (Β E 40)) (Β G 40);have H3:=ϒ w (Β E 40) (Β G 40);clear ad ae ha hb hT T X ar au;go_enter Tryz.func82,Tryz.ntmps82;go_upto_region 1 with (fail)
 obtain⟨w1,ai⟩:=Xq ((w.alloc (Β E 40)).alloc (Β G 40));rw[ai] at af H2 H3;simp only[ai];clear ai;have bp:=Z H2;have bq:=Z H3;have aw:=Z af;clear H2 H3 af;go_wp2_with (first
  | (refine Lr 40 (δ 2) bp.o Ο bn ?_)
  | (refine Lr 40 (δ 3) bq.o Ο bo ?_)
  | (go_at_call 105;(with_reducible refine (f44 _ aw.o).o.mono ?_);rintro e w5 ⟨hr,br⟩;obtain⟨ra,rn,rc,rb,rfl⟩:=hr.form;have HR:=Z (YO az.o a1.o hr);clear hr))
 go_ret;exact⟨_,rfl,HR.o,aw.o.t br⟩
def Bd (N:Nat) (f:Nat->Bool):List Bool:=(List.range N).map f
theorem Ck (N:Nat) (f:Nat->Bool):(Bd N f).length=N:=by simp[Bd]
theorem Fr (N:Nat) (f:Nat->Bool) (x:Nat) (hx:x<N):(Bd N f).getD x Ε=f x:=by simp[Bd,Ζ,hx]
theorem Gk (N:Nat) (f:Nat->Bool) (x:Nat) (v:Bool):(Bd N f).set x v=Bd N λq=>if q=x then v else f q:=by
 apply Ϯ;intro i;rw[List.getElem?_set,Ck];simp only[Bd,List.getElem?_map];by_cases e:x=i
 ·subst e;by_cases hi:x<N
  ·simp[hi]
  simp[hi]
 by_cases hi:i<N
 ·simp[List.getElem?_range hi,e,Ne.symm e]
 simp[e,hi]
theorem Cz {N:Nat} {f g:Nat->Bool} (h:∀ j,j<N->f j=g j):Bd N f=Bd N g:=by unfold Bd;exact List.map_congr_left λj E=>h j (List.mem_range.1 E)
def hit (L:Ag) (b:List UInt8) (i j:Nat):Prop:=i<=j/\j<=b.length/\L ((b.take j).drop i)
theorem Ru {L M:Ag} (h:∀ w,L w↔M w) (b:List UInt8) (i j:Nat):hit L b i j↔hit M b i j:=by unfold hit;rw[h]
theorem RS (L:Ag) (b:List UInt8):hit L b 0 b.length↔L b:=by simp[hit]
theorem RQ (b:List UInt8) (i j:Nat) (hi:i<=b.length):hit (λw=>w=[]) b i j↔j=i:=by
 unfold hit;constructor
 ·rintro⟨h1,G,E⟩;have:((b.take j).drop i).length=0:=by rw[E];rfl
  rw[List.length_drop,Ö] at this;omega
 rintro rfl;refine⟨Υ _,hi,?_⟩;apply List.eq_nil_of_length_eq_zero;rw[List.length_drop,Ö];omega
theorem RO (p:UInt8->Prop) (b:List UInt8) (i j:Nat):hit (λw=>∃ x:UInt8,w=[x]/\p x) b i j↔j=i+1/\i<b.length/\p (b.getD i 0):=by
 unfold hit;constructor
 ·rintro⟨h1,G,x,E,H⟩;have T:((b.take j).drop i).length=1:=by rw[E];rfl
  rw[List.length_drop,Ö] at T;have X:j=i+1:=by omega
  subst X;refine⟨rfl,by omega,?_⟩;have:((b.take (i+1)).drop i)[0]? = J x:=by rw[E];rfl
  rw[List.getElem?_drop,List.getElem?_take,if_pos (by omega)] at this;rw[Ζ,show i=i+0 by omega,this];exact H
 rintro⟨rfl,G,E⟩;refine⟨by omega,by omega,b.getD i 0,?_,E⟩;apply Ϯ;intro k;rw[List.getElem?_drop,List.getElem?_take];cases k with
 | zero=>rw[if_pos (by omega),Ζ,Ι (by omega)];simp[G]
 | succ k=>rw[if_neg (by omega)];simp
theorem Oe (L M:Ag) (b:List UInt8) (i j:Nat):hit (Cat L M) b i j↔∃ m,hit L b i m/\hit M b m j:=by
 unfold hit;constructor
 ·rintro⟨h1,H,u,v,E,hu,T⟩;have X:((b.take j).drop i).length=u.length+v.length:=by rw[E,Ν]
  rw[List.length_drop,Ö] at X;refine⟨i+u.length,⟨by omega,by omega,?_⟩,by omega,H,?_⟩
  ·have:(b.take (i+u.length)).drop i=u:=by
    have G:((b.take j).drop i).take u.length=u:=by rw[E];simp
    rw[List.take_drop,List.take_take,Nat.min_eq_left (by omega)] at G;exact G
   rw[this];exact hu
  have:(b.take j).drop (i+u.length)=v:=by rw[<-List.drop_drop,E];simp
  rw[this];exact T
 rintro⟨m,⟨h1,H,E⟩,G,h5,h6⟩;refine⟨by omega,h5,_,_,?_,E,h6⟩;have e1:(b.take m).drop i=((b.take j).drop i).take (m-i):=by rw[List.take_drop,List.take_take,show i+(m-i)=m by omega,Nat.min_eq_left G]
 have e2:(b.take j).drop m=((b.take j).drop i).drop (m-i):=by rw[List.drop_drop,show i+(m-i)=m by omega]
 rw[e1,e2,List.take_append_drop]
theorem Zi (L M:Ag) (b:List UInt8) (i j:Nat):hit (λw=>L w\/M w) b i j↔hit L b i j\/hit M b i j:=by
 unfold hit;constructor
 ·rintro⟨h1,E,h|h⟩
  ·exact .inl ⟨h1,E,h⟩
  exact .inr ⟨h1,E,h⟩
 rintro (⟨h1,E,h⟩|⟨h1,E,h⟩)
 ·exact⟨h1,E,.inl h⟩
 exact⟨h1,E,.inr h⟩
theorem RR (L M:Ag) (b:List UInt8) (i j:Nat):hit (λw=>L w/\M w) b i j↔hit L b i j/\hit M b i j:=by
 unfold hit;constructor
 ·rintro⟨h1,E,h,k⟩;exact⟨⟨h1,E,h⟩,h1,E,k⟩
 rintro⟨⟨h1,E,h⟩,_,_,k⟩;exact⟨h1,E,h,k⟩
theorem RP (L:Ag) (b:List UInt8) (i j:Nat):hit (λw=>¬ L w) b i j↔i<=j/\j<=b.length/\¬ hit L b i j:=by
 unfold hit;constructor
 ·rintro⟨h1,E,h⟩;exact⟨h1,E,λG=>h G.2.2⟩
 rintro⟨h1,E,h⟩;exact⟨h1,E,λG=>h ⟨h1,E,G⟩⟩
open Classical in
noncomputable def An (L:Ag) (b:List UInt8) (i j:Nat):Bool:=decide (hit L b i j)
theorem hitB_true {L:Ag} {b:List UInt8} {i j:Nat}:An L b i j=Α↔hit L b i j:=@decide_eq_true_iff _ (Classical.propDecidable _)
theorem hitB_false {L:Ag} {b:List UInt8} {i j:Nat}:An L b i j=Ε↔¬ hit L b i j:=@decide_eq_false_iff_not _ (Classical.propDecidable _)
theorem F1 {a b:Bool} (h:a=Α↔b=Α):a=b:=by cases a<;>cases b<;>simp_all
theorem RX {L M:Ag} (h:∀ w,L w↔M w) (b:List UInt8) (i j:Nat):An L b i j=An M b i j:=F1 (by rw[hitB_true,hitB_true,Ru h])
noncomputable def Bh (L:Ag) (b:List UInt8) (i:Nat):List Bool:=Bd (b.length+1) (An L b i)
theorem Vy {L M:Ag} (h:∀ w,L w↔M w) (b:List UInt8) (i:Nat):Bh L b i=Bh M b i:=Cz λj _=>RX h b i j
theorem JN (L:Ag) (E:Nat) (w:List UInt8):rep L E (E:Int) w↔pw L E w:=by
 constructor
 ·rintro⟨k,h1,G,h⟩;obtain rfl:k=E:=by omega
  exact h
 intro h;exact⟨E,Υ _,.inr (Int.le_refl _),h⟩
theorem Nk (L:Ag) (k:Nat) (w:List UInt8):pw L (k+1) w↔Cat (pw L k) L w:=by rw[Hf L k 1];exact Ht (λ_=>Iff.rfl) (λv=>by rw[F6];exact I0 L v) w
theorem JM (L:Ag) (E t:Nat) (w:List UInt8):rep L E ((E+(t+1):Nat):Int) w↔rep L E ((E+t:Nat):Int) w\/Cat (rep L E ((E+t:Nat):Int)) L w:=by
 constructor
 ·rintro⟨k,h1,H,h⟩;by_cases e:k<=E+t
  ·exact .inl ⟨k,h1,.inr (by omega),h⟩
  obtain rfl:k=E+t+1:=by omega
  obtain⟨u,v,rfl,hu,G⟩:=(Nk L (E+t) w).1 h;exact .inr ⟨u,v,rfl,⟨E+t,by omega,.inr (by omega),hu⟩,G⟩
 rintro (⟨k,h1,H,h⟩|⟨u,v,rfl,⟨k,h1,H,h⟩,G⟩)
 ·exact⟨k,h1,.inr (by omega),h⟩
 exact⟨k+1,by omega,.inr (by omega),(Nk L k _).2 ⟨u,v,rfl,h,G⟩⟩
theorem Od (L:Ag) (E t:Nat) (b:List UInt8) (i j:Nat):hit (rep L E ((E+(t+1):Nat):Int)) b i j↔hit (rep L E ((E+t:Nat):Int)) b i j\/∃ m,hit (rep L E ((E+t:Nat):Int)) b i m/\hit L b m j:=by rw[Ru (JM L E t),Zi,Oe]
def stab (L:Ag) (E t:Nat) (b:List UInt8) (i:Nat):Prop:=∀ j m,hit (rep L E ((E+t:Nat):Int)) b i m->hit L b m j->hit (rep L E ((E+t:Nat):Int)) b i j
theorem GQ {L:Ag} {E t:Nat} {b:List UInt8} {i:Nat} (h:stab L E t b i):∀ k,E<=k->∀ j,hit (pw L k) b i j->hit (rep L E ((E+t:Nat):Int)) b i j:=by
 intro k hk;obtain⟨d,rfl⟩:∃ d,k=E+d:=⟨k-E,by omega⟩;induction d with
 | zero=>exact λj ⟨h1,G,T⟩=>⟨h1,G,E,Υ _,.inr (by omega),T⟩
 | succ d X=>intro j H;rw[show E+(d+1)=E+d+1 by omega,Ru (Nk L (E+d)),Oe] at H;obtain⟨m,h1,G⟩:=H;exact h j m (X (by omega) m h1) G
theorem U5 {L:Ag} {E t:Nat} {b:List UInt8} {i:Nat} (h:stab L E t b i) {hi:Int} (X:hi<0\/((E+t:Nat):Int)<=hi) (j:Nat):hit (rep L E hi) b i j↔hit (rep L E ((E+t:Nat):Int)) b i j:=by
 constructor
 ·rintro⟨h1,G,k,H,_,T⟩;exact GQ h k H j ⟨h1,G,T⟩
 rintro⟨h1,G,k,H,h4,T⟩;exact⟨h1,G,k,H,by omega,T⟩
def Dy:Nat->(Nat->Bool)->Nat
 | 0,_=>0
 | N+1,f=>Dy N f+(if f N=Α then 1 else 0)
theorem S9 (f:Nat->Bool):∀ N,Dy N f<=N
 | 0=>Υ _
 | N+1=>by have:=S9 f N;unfold Dy;split<;>omega
theorem BE {f g:Nat->Bool}:∀ N,(∀ x,x<N->f x=Α->g x=Α)->Dy N f<=Dy N g
 | 0,_=>Υ _
 | N+1,h=>by
  have:=BE N λx hx=>h x (by omega)
  have h1:=h N (by omega);unfold Dy;by_cases e:f N=Α
  ·rw[if_pos e,if_pos (h1 e)];omega
  rw[if_neg e];omega
theorem S8 {f g:Nat->Bool}:∀ N,(∀ x,x<N->f x=Α->g x=Α)->(∃ x,x<N/\g x=Α/\f x=Ε)->Dy N f<Dy N g
 | 0,_,⟨x,hx,_⟩=>by omega
 | N+1,h,⟨x,hx,h1,G⟩=>by
  unfold Dy;by_cases e:x=N
  ·subst e;have:=BE x λy H=>h y (by omega)
   rw[if_pos h1,if_neg (by rw[G];decide)];omega
  have:=S8 N (λy H=>h y (by omega)) ⟨x,by omega,h1,G⟩;have T:=h N (by omega);by_cases E:f N=Α
  ·rw[if_pos E,if_pos (T E)];omega
  rw[if_neg E];omega
theorem BF {f:Nat->Bool}:∀ N,N<=Dy N f->∀ x,x<N->f x=Α
 | 0,_,x,hx=>by omega
 | N+1,h,x,hx=>by
  unfold Dy at h;have G:=S9 f N;by_cases e:f N=Α
  ·rw[if_pos e] at h;by_cases E:x=N
   ·rw[E];exact e
   exact BF N (by omega) x (by omega)
  rw[if_neg e] at h;omega
theorem GP {L:Ag} {E t:Nat} {b:List UInt8} {i:Nat} (h:b.length+1<=Dy (b.length+1) (An (rep L E ((E+t:Nat):Int)) b i)):stab L E t b i:=λj m _ G=>hitB_true.1 (BF _ h j (by have:=G.2.1;omega))
theorem VV {L:Ag} {E t:Nat} {b:List UInt8} {i:Nat} (h:¬ stab L E t b i):Dy (b.length+1) (An (rep L E ((E+t:Nat):Int)) b i)<Dy (b.length+1) (An (rep L E ((E+(t+1):Nat):Int)) b i):=by refine S8 _ (λx _ hx=>hitB_true.2 ((Od L E t b i x).2 (.inl (hitB_true.1 hx)))) ?_;apply Ë;intro H;apply h;intro j m h1 G;apply Ë;intro T;exact H ⟨j,by have:=G.2.1;omega,hitB_true.2 ((Od L E t b i j).2 (.inr ⟨m,h1,G⟩)),hitB_false.2 T⟩
theorem Yt:∀ (xs:List RNode) (n:RNode) (l:List Ag),Cl (xs++[n]) l=Cl xs l++[B6 n (Cl xs l)]
 | [],n,l=>rfl
 | x::xs,n,l=>Yt xs n (l++[B6 x l])
theorem Ri:∀ (xs:List RNode) (l:List Ag),(Cl xs l).length=l.length+xs.length
 | [],l=>rfl
 | x::xs,l=>by show (Cl xs (l++[B6 x l])).length=_;rw[Ri,Ν,Ϩ,List.length_cons];omega
theorem Yu:∀ (ys xs:List RNode) (l:List Ag),∃ t,Cl (xs++ys) l=Cl xs l++t
 | ys,[],l=>by
  induction ys generalizing l with
  | nil=>exact⟨[],by simp[Cl]⟩
  | cons y ys E=>obtain⟨t,G⟩:=E (l++[B6 y l]);exact⟨[B6 y l]++t,by show Cl ys (l++[B6 y l])=l++([B6 y l]++t);rw[<-ö];exact G⟩
 | ys,x::xs,l=>Yu ys xs (l++[B6 x l])
abbrev noL:Ag:=λ_=>False
theorem MZ {n:RNode} {l E:List Ag} {i:Nat} (hg:n.good i) (h:∀ k,k<i->l.getD k noL=E.getD k noL):B6 n l=B6 n E:=by
 obtain⟨g1,g2,g3,g4,g5⟩:=hg;have T:(n.kind=4\/n.kind=5\/n.kind=6\/n.kind=7\/n.kind=8)->l.getD n.l noL=E.getD n.l noL:=λH=>h _ (by
  rcases H with H|H|H|H|H
  ·exact (g1 (by omega)).1
  ·exact (g1 (by omega)).1
  ·exact (g1 (by omega)).1
  ·exact g2 (by omega)
  exact g2 (by omega))
 have e2:(n.kind=4\/n.kind=5\/n.kind=6)->l.getD n.r noL=E.getD n.r noL:=λH=>h _ (g1 H).2
 have ae:n.kind=1\/n.kind=2\/n.kind=3\/n.kind=4\/n.kind=5\/n.kind=6\/n.kind=7\/n.kind=8:=by omega
 obtain⟨k,G,X,c,mn,mx⟩:=n;simp only at T e2 ae;unfold B6;rcases ae with rfl|rfl|rfl|rfl|rfl|rfl|rfl|rfl
 ·rfl
 ·rfl
 ·rfl
 ·have a:=T (by omega);have b:=e2 (by omega)
  show Cat (l.getD G noL) (l.getD X noL)=Cat (E.getD G noL) (E.getD X noL);rw[a,b]
 ·have a:=T (by omega);have b:=e2 (by omega)
  show (λw=>l.getD G noL w\/l.getD X noL w)=λw=>E.getD G noL w\/E.getD X noL w
  rw[a,b]
 ·have a:=T (by omega);have b:=e2 (by omega)
  show (λw=>l.getD G noL w/\l.getD X noL w)=λw=>E.getD G noL w/\E.getD X noL w
  rw[a,b]
 ·have a:=T (by omega);show (λw=>¬ l.getD G noL w)=λw=>¬ E.getD G noL w
  rw[a]
 have a:=T (by omega);show rep (l.getD G noL) mn mx=rep (E.getD G noL) mn mx;rw[a]
def A4 (xs:List RNode) (i:Nat):Ag:=(Cl xs []).getD i noL
theorem MV {xs:List RNode} {i:Nat} (hi:i<xs.length) {d:RNode} (hg:(xs.getD i d).good i):A4 xs i=B6 (xs.getD i d) (Cl xs []):=by
 have hx:xs=xs.take i++[xs.getD i d]++xs.drop (i+1):=by rw[Ζ,Ι hi,Option.getD_some];simp
 obtain⟨t,E⟩:=Yu (xs.drop (i+1)) (xs.take i++[xs.getD i d]) [];rw[<-hx,Yt] at E;have G:(Cl (xs.take i) []).length=i:=by rw[Ri,Ö,List.length_nil];omega
 have h1:A4 xs i=B6 (xs.getD i d) (Cl (xs.take i) []):=by unfold A4;rw[E,ö,Ζ,List.getElem?_append_right (by omega),G,Nat.sub_self];rfl
 rw[h1];refine MZ hg λk H=>?_
 rw[E,ö,Ζ,Ζ,List.getElem?_append_left (by omega)]
open Go.RowKit Go.Shelf Go.WideMaps
open Go.Maps (Keyed)
def Of (v:Δ):Option (DataW Δ × List MemPlace):=J (.held v,[])
def IsMv {κ:Type} (W:Γ) (k:ϡ) (key:κ->Δ) (b n:Nat) (f:κ->Option Δ):Prop:=
 ∃ D:DataW Δ,W.ownsMap Η k Of b n D/\∀ x l,keyOf Η k (key x)=J l->Maps.has D l=(f x).isSome/\∀ z,D.atKey l (.held z)=.held ((f x).getD z)
section
variable {κ:Type} {W:World} {k:TypeId} {key:κ->Value} {b n:Nat} {f:κ->Option Value}
theorem Rl (W:Γ) (k:ϡ) (key:κ->Δ):IsMv (W.alloc (.map #[] 0)) k key W.heap.size 0 (λ_=>I):=
 ⟨.map [],Γ.ownsMap_made W _ _ _,λ_ _ _=>⟨rfl,λ_=>rfl⟩⟩
theorem IsMv.kept {W':Γ} {row:Option Nat} (h:IsMv W k key b n f) (hg:W.grownBy W' row) (E:J b≠row):IsMv W' k key b n f:=by obtain⟨D,h1,G⟩:=h;exact⟨D,h1.kept hg E,G⟩
theorem IsMv.ext {W':Γ} (h:IsMv W k key b n f) (E:Ext W W'):IsMv W' k key b n f:=h.kept (E.grownBy I) (by simp)
theorem IsMv.block (h:IsMv W k key b n f):∃ es c,W.heap[b]? = J (.map es c):=by obtain⟨D,⟨es,c,hb,_⟩,_⟩:=h;exact⟨es,c,hb⟩
variable {ops:Array Oper} {rest:List Oper} {o:Oper} {a:Act} {Q:Exit->Act->World->Prop}
theorem NE {m:Ñ} {x:Ñ} {t:ϡ} {K:ø->Γ->Prop} {a:ø} (T:o.op=Op.lookup t m x Α) {e:ϡ} {H:Δ} (X:∀ W,(zeroValue e).run Η W=.ok H W) (K':Keyed Η k) (ht:Η.underlying t=J (.map k e)) (hm:a.eval m=.map (J b)) (h:IsMv W k key b n f)
  (y:κ) (hx:a.eval x=key y) (G:∃ l,keyOf Η k (key y)=J l) (hK:K (a.put o.dst (ϗ #[(f y).getD H,.bool (f y).isSome])) W):o.wp Η a W K Q:=by
 obtain⟨D,h1,h2⟩:=h;obtain⟨l,G⟩:=G;obtain⟨e1,e2⟩:=h2 y l G;obtain⟨v,ps,ag,E⟩:=h1.look_ok K' ht (X W) (zd:=.held H) (zp:=[]) rfl G;unfold ϳ.wp;simp[ê,T,hm,hx,ag,Result.andThen];rw[e2] at E;unfold Of at E;injection E with E
 injection E with E _
 injection E with E
 rw[e1,E];exact hK
theorem Xv [DecidableEq κ] {m x v:Ñ} {t:ϡ} {K:ø->Γ->Prop} {a:ø} (aa:o.op=Op.mapUpdate t m x v) (H:Keyed Η k) {e:ϡ} (ht:Η.underlying t=J (.map k e)) (hm:a.eval m=.map (J b)) (h:IsMv W k key b n f) (hn:n<ϐ)
  (ae:∀ y z,key y=key z->y=z) (y:κ) (hx:a.eval x=key y) (E:∃ l,keyOf Η k (key y)=J l) (i:Δ) (hv:a.eval v=i)
  (hK:∀ W',IsMv W' k key b (n+1) (λz=>if z=y then J i else f z)->W.grownBy W' (J b)->K (a.put o.dst Ω) W'):o.wp Η a W K Q:=by
 obtain⟨D,h1,T⟩:=h;obtain⟨l,E⟩:=E;obtain⟨W',ag,r1,r2⟩:=h1.update H ht hn E (show Of i=J (.held i,[]) from rfl);unfold ϳ.wp;simp[ê,aa,hm,hx,hv,ag,Result.andThen];refine hK W' ⟨_,r1,λz lz G=>?_⟩ r2;by_cases e:z=y
 ·subst e;rw[E] at G;cases G
  simp only[if_true];exact⟨Maps.has_put_same h1.isMap (H.key E) _,λz=>Maps.atKey_put_same h1.isMap (H.key E) _ _⟩
 have X:lz≠l:=λe'=>e (ae _ _ (H.inj G (e'▸E)))
 simp only[e,if_false];rw[Maps.has_put_other X];refine⟨(T z lz G).1,λz'=>?_⟩;rw[Maps.atKey_put_other X];exact (T z lz G).2 z'
end
theorem Ys:Keyed Η 164:=Keyed.of_law (deep_law_laid N9 (m:=3) (by omega) (of_decide_eq_true (by kernel_rfl)) (by kernel_rfl) (by rw[Tryz.underlying164]))
theorem QG:Η.keyType 164=Α:=by kernel_rfl
theorem AZ:Η.cellsOf 164=2:=by kernel_rfl
theorem LA (x:Nat × Nat) (h1:x.1<9223372036854775808) (E:x.2<9223372036854775808):∃ l,keyOf Η 164 (C6 x)=J l:=by
 obtain⟨m,hm⟩:=P4;refine⟨.string (keyBytes [.int Φ x.1,.int Φ x.2]),?_⟩;unfold keyOf;simp only[Tryz.underlying164];rw[if_pos (by simp[QG,Δ.formed,C6,Tryz.underlying164,AZ]),hm];have e:(C6 x).cells.toList=[iv x.1,iv x.2]:=rfl;rw[e];have:Η.keyLits (m+3+1) 164 [iv x.1,iv x.2]=J [.int Φ x.1,.int Φ x.2]:=by show Þ.keyLits Η ((m+3)+1) 164 _=_;unfold Þ.keyLits;simp only[Tryz.underlying164];rw[if_pos (by rw[AZ];exact⟨rfl,by kernel_rfl⟩)];rw[List.mapM_cons,List.mapM_cons,List.mapM_nil];simp only[co3,List.drop_zero,List.drop_succ_cons,List.take_succ_cons,List.take_zero];rw[show m+3=(m+2)+1 by omega,kl3 _ _ h1,kl3 _ _ E];rfl
 rw[this];rfl
theorem Sl.keptm {W W':Γ} {v:Δ} {k n:Nat} {f:Nat->Δ} {g:Nat} (h:Sl W v k n f) (H:0<k) (hg:W.grownBy W' (J g)) (hm:∃ es c,W.heap[g]? = J (.map es c)):Sl W' v k n f:=by
 obtain⟨h0,h|⟨E,b,G,T,X,hb,hc⟩⟩:=h
 ·exact⟨h0,.inl h⟩
 have aa:b≠g:=λe=>by have:=hc 0 (Nat.mul_pos E H);obtain⟨es,c,hm⟩:=hm;rw[e] at this;simp[Γ.cell?,hm] at this
 refine⟨h0,.inr ⟨E,b,G,T,X,Ξ hb hg.size,λi hi=>?_⟩⟩;rw[hg.cell_far ⟨b,G+i,I⟩ hb (by simp;exact aa)];exact hc i hi
theorem Du {W W':Γ} {g k:Nat} {cs:Array Δ} {t:ϡ} {fr:Nat × Nat} (hg:W.grownBy W' (J g)) (hm:∃ es c,W.heap[g]? = J (.map es c)) (h:W.heap[k]? = J (Β cs t fr)):W'.heap[k]? = J (Β cs t fr):=
 (hg.block k (Al h) (λe=>by
  obtain⟨es,c,hm⟩:=hm;injection e with e
  subst e;rw[h] at hm;cases hm)).trans h
open Go
section
variable {P:Program} {md:Region.Mode} {ops:Array Oper} {Q:Exit->Act->World->Prop} {C:World->Prop} {n:Nat}
def Fc (P:Þ) (ops:Array ϳ) (Q:Exit->ø->Γ->Prop) (C:Γ->Prop) (n:Nat):List (Nat × Nat)->ø->Γ->Prop
 | [],a,w=>Q .normal a w
 | (i,0)::is,a,w=>∃ o v,ops[i]? = J o/\YieldsIf P ops C o v a/\Fc P ops Q C n is (a.put o.dst v) w
 | (i,1)::is,a,w=>wpOp P ops Q i (λH w'=>(i<n->C w')/\Fc P ops Q C n is H w') a w
 | (i,j+2)::is,a,w=>∃ oi oj E G,ops[i]? = J oi/\ops[j]? = J oj/\YieldsIf P ops (λV=>V=w) oi E a/\YieldsIf P ops (λV=>V=w) oj G a/\YieldsIf P ops (λV=>V=w) oj G (a.put oi.dst E)/\YieldsIf P ops (λV=>V=w) oi E (a.put oj.dst G)/\(a.put oi.dst E).put oj.dst G=(a.put oj.dst G).put oi.dst E/\C w/\Fc P ops Q C n is ((a.put oi.dst E).put oj.dst G) w
def Je:List (Nat × Nat)->Nat
 | []=>0
 | (_,0)::is=>Je is+1
 | (_,1)::is=>Je is+1
 | (_,_+2)::is=>Je is+2
def Gg (md:Region.Mode) (ops:Array ϳ) (n:Nat):List (Nat × Nat)->Array Bool->Bool
 | [],listed=>(ϻ md ops listed).isEmpty
 | (i,0)::is,listed=>(ϻ md ops listed).contains i&&decide (i<n)&&Region.free md ops listed i&&Gg md ops n is (listed.setIfInBounds i Α)
 | (i,1)::is,listed=>decide (ϻ md ops listed=[i])&&(is.isEmpty||decide (i<n))&&Gg md ops n is (listed.setIfInBounds i Α)
 | (i,j+2)::is,listed=>decide (ϻ md ops listed=[i,j])&&decide (i≠j)&&decide (i<n)&&decide (j<n)&&decide (ϻ md ops (listed.setIfInBounds i Α)=[j])&&decide (ϻ md ops (listed.setIfInBounds j Α)=[i])&&Gg md ops n is ((listed.setIfInBounds i Α).setIfInBounds j Α)
theorem O7 (ag:Region.noSelect ops=Α) (hs:Region.sinkB md ops n=Α) (hc:Region.chainB md ops n=Α) (hn:n<ops.size)
  (hQ:∀ c a tm w,Q (.panic c) { tmps:=tm,defers:=a.defers } w->Q (.panic c) a w):∀ (is:List (Nat × Nat)) (listed:Array Bool) (a:ø) (w:Γ),(is≠[]->HeadInv md ops n listed)->Gg md ops n is listed=Α->(is≠[]->C w)->Fc P ops Q C n is a w->Ki P md ops Q C n (Je is) listed a w
 | [],listed,a,w,_,E,_,h=>⟨by simpa [Gg] using E,h⟩
 | (i,0)::is,listed,a,w,G,E,hC,⟨o,v,ho,hy,h⟩=>by
  simp only[Gg,ψ,decide_eq_true_eq] at E;obtain⟨⟨⟨T,X⟩,hf⟩,ab⟩:=E;have ak:i∈ϻ md ops listed:=by simpa using T
  have G:=G (by simp);have hC:=hC (by simp);exact CZ ho (Region.noSelect_spec ag) hs hc hn X (λc a w hp=>by
    cases hd:o.dst with
    | none=>rw[hd] at hp;exact hp
    | some t=>rw[hd] at hp;exact hQ c a _ w hp) _ listed a w G (Region.free_spec ho hf) ak hy hC
   (O7 ag hs hc hn hQ is _ _ w (λ_=>G.set ak X) ab (λ_=>hC) h)
 | (i,1)::is,listed,a,w,G,E,hC,h=>by
  simp only[Gg,ψ,decide_eq_true_eq,Bool.or_eq_true,List.isEmpty_iff] at E;obtain⟨⟨T,X⟩,ab⟩:=E;have ak:i∈ϻ md ops listed:=by rw[T];simp
  refine⟨λh1=>(by rw[T] at h1;cases h1),λj hj=>?_⟩;rw[T] at hj;have:j=i:=by simpa using hj
  subst this;refine wpOp_mono (λa' w' h'=>⟨h'.1,O7 ag hs hc hn hQ is _ a' w' (λaq=>?_) ab (λaq=>?_) h'.2⟩) h
  ·rcases X with h0|h0
   ·exact absurd h0 aq
   exact (G (by simp)).set ak h0
  rcases X with h0|h0
  ·exact absurd h0 aq
  exact h'.1 h0
 | (i,j+2)::is,listed,a,w,G,E,hC,⟨oi,oj,vi,vj,hi,hj,y1,y2,y3,y4,bd,ae,h⟩=>by
  simp only[Gg,ψ,decide_eq_true_eq] at E;obtain⟨⟨⟨⟨⟨⟨T,be⟩,X⟩,bf⟩,ar⟩,aw⟩,ab⟩:=E;have G:=G (by simp);have bg:i∈ϻ md ops listed:=by rw[T];simp
  have bh:j∈ϻ md ops (listed.setIfInBounds i Α):=by rw[ar];simp
  have H:=O7 ag hs hc hn hQ is ((listed.setIfInBounds i Α).setIfInBounds j Α) ((a.put oi.dst vi).put oj.dst vj) w (λ_=>(G.set bg X).set bh bf) ab (λ_=>ae) h;refine⟨λh1=>(by rw[T] at h1;cases h1),λx hx=>?_⟩;rw[T] at hx;have hx:x=i\/x=j:=by simpa using hx
  rcases hx with rfl|rfl
  ·refine y1.wpOp hi rfl ⟨λ_=>ae,λh1=>(by rw[ar] at h1;cases h1),λz hz=>?_⟩;rw[ar] at hz;have:z=j:=by simpa using hz
   subst this;exact y3.wpOp hj rfl ⟨λ_=>ae,H⟩
  refine y2.wpOp hj rfl ⟨λ_=>ae,λh1=>(by rw[aw] at h1;cases h1),λz hz=>?_⟩;rw[aw] at hz;have:z=i:=by simpa using hz
  subst this;refine y4.wpOp hi rfl ⟨λ_=>ae,?_⟩;rw[bd] at H;rw[Array.setIfInBounds_comm _ _ (Ne.symm be)];exact H
def Wa (md:Region.Mode) (ops:Array ϳ) (n:Nat) (is:List (Nat × Nat)):Bool:=
 Region.noSelect ops&&Region.sinkB md ops n&&Region.chainB md ops n&&decide (n<ops.size)&&decide (Je is=ops.size)&&Gg md ops n is (í ops.size Ε)
theorem EE {id:Nat} {a:ø} {w:Γ} (n:Nat) (is:List (Nat × Nat)) (hm:P.follows .mixedOrders=Α) (E:Wa .any ops n is=Α) (T:∀ c a X w,Q (.panic c) { tmps:=X,defers:=a.defers } w->Q (.panic c) a w)
  (C:Γ->Prop) (hC:C w.drew) (h:Fc P ops Q C n is a w.drew):(Code.region id ops Α).wp P Q a w:=by
 simp only[Wa,ψ,decide_eq_true_eq] at E;obtain⟨⟨⟨⟨⟨ab,hs⟩,hc⟩,hn⟩,G⟩,E⟩:=E;refine wp_region_any hm (Tz (C:=C) (n:=n) _ _ _ _ ?_);rw[<-G];have af:HeadInv .any ops n (í (Je is) Ε):=by rw[G];exact⟨by simp,λj oj _ H=>(by rw[Ϡ] at H;cases H),λt _ ht=>getD_in (by simpa using ht) (Ϡ _ _)⟩
 exact O7 ab hs hc hn T is _ a _ (λ_=>af) (by rw[G];exact E) (λ_=>hC) h
theorem GD {a:ø} {w:Γ} (h:Q .normal a w):Fc P ops Q C n [] a w:=h
theorem Pu {i:Nat} {is:List (Nat × Nat)} {o:ϳ} {v:Δ} {a:ø} {w:Γ} (h0:ops.toList[i]? = J o) (E:ϧ o (ü ops a.tmps)=Α) (G:∀ W,C W->(ê a.eval o).run P W=.ok (.value v) W)
  (h:Fc P ops Q C n is (a.put o.dst v) w):Fc P ops Q C n ((i,0)::is) a w:=⟨o,v,by rw[<-Ç];exact h0,.inl ⟨E,G⟩,h⟩
theorem U0 {i:Nat} {is:List (Nat × Nat)} {o:ϳ} {a:ø} {w:Γ} (h0:ops.toList[i]? = J o)
  (h:∀ K:ø->Γ->Prop,(∀ E w',(i<n->C w')->Fc P ops Q C n is E w'->K E w')->if ϧ o (ü ops a.tmps)=Α then ϳ.wp P o a w K Q else K (a.put o.dst Ω) w):Fc P ops Q C n ((i,1)::is) a w:=by
 have h0:ops[i]? = J o:=by rw[<-Ç];exact h0
 show wpOp P ops Q i _ a w;unfold wpOp;rw[h0];have:=h _ (λE w' hc H=>And.intro hc H);show if _ then _ else _
 by_cases G:ϧ o (ü ops a.tmps)=Α
 ·rw[if_pos G] at this ⊢;exact .inl this
 rw[if_neg G] at this ⊢;exact this
theorem GC {i j:Nat} {is:List (Nat × Nat)} {oi oj:ϳ} {vi vj:Δ} {a:ø} {w:Γ} (h0:ops.toList[i]? = J oi) (h1:ops.toList[j]? = J oj) (E:ϧ oi (ü ops a.tmps)=Α) (G:ϧ oj (ü ops a.tmps)=Α)
  (H:ϧ oj (ü ops (a.put oi.dst vi).tmps)=Α) (T:ϧ oi (ü ops (a.put oj.dst vj).tmps)=Α) (X:(ê a.eval oi).run P w=.ok (.value vi) w) (aa:(ê a.eval oj).run P w=.ok (.value vj) w) (ab:(ê (a.put oi.dst vi).eval oj).run P w=.ok (.value vj) w) (ad:(ê (a.put oj.dst vj).eval oi).run P w=.ok (.value vi) w)
  (ae:(a.put oi.dst vi).put oj.dst vj=(a.put oj.dst vj).put oi.dst vi) (hC:C w) (h:Fc P ops Q C n is ((a.put oi.dst vi).put oj.dst vj) w):Fc P ops Q C n ((i,j+2)::is) a w:=
 ⟨oi,oj,vi,vj,by rw[<-Ç];exact h0,by rw[<-Ç];exact h1,.inl ⟨E,λW e=>by subst e;exact X⟩,.inl ⟨G,λW e=>by subst e;exact aa⟩,.inl ⟨H,λW e=>by subst e;exact ab⟩,.inl ⟨T,λW e=>by subst e;exact ad⟩,ae,hC,h⟩
end
def Kt (W:Γ) (x:Δ):Prop:=∀ b o n c z,x=U (J ⟨b,o,I⟩) n c->0<n->W.cell? ⟨b,o,I⟩≠J (.int Φ z)
structure RwC (W W':Γ) (g m:Nat):Prop where
 size:W.heap.size<=W'.heap.size
 cell:∀ a v,W.cell? a=J v->(a.block=g->m<=a.off)->W'.cell? a=J v
theorem RwC.refl (W:Γ) (g m:Nat):RwC W W g m:=⟨Υ _,λ_ _ h _=>h⟩
theorem RwC.ext {W W' E:Γ} {g m:Nat} (h:RwC W W' g m) (G:Ext W' E):RwC W E g m:=⟨μ h.size G.size,λa v h1 H=>G.cell (h.cell a v h1 H)⟩
theorem RwC.set {W W':Γ} {g m o:Nat} {cs:List Δ} (h:RwC W W' g m) (G:W'.heap.size<=(W'.setCells g o cs).heap.size) (H:o+cs.length<=m):RwC W (W'.setCells g o cs) g m:=⟨μ h.size G,λa v h1 E=>by
 rw[Γ.cell?_setCells_out]
 ·exact h.cell a v h1 E
 intro hb _;have:=E hb;omega⟩
theorem Sl.rw {W W':Γ} {v:Δ} {k n:Nat} {f:Nat->Δ} {g m:Nat} (h:Sl W v k n f) (E:RwC W W' g m) (H:∀ i,i<n*k->∀ o,o<m->W.cell? ⟨g,o,I⟩≠J (f i)):Sl W' v k n f:=by
 obtain⟨h1,h|⟨T,b,G,X,hv,hb,hc⟩⟩:=h
 ·exact⟨h1,.inl h⟩
 refine⟨h1,.inr ⟨T,b,G,X,hv,Ξ hb E.size,λi hi=>E.cell _ _ (hc i hi) λe=>?_⟩⟩;have e:b=g:=e;subst e;exact Nat.le_of_not_lt λab=>H i hi (G+i) ab (hc i hi)
def Pc (W:Γ) (g m:Nat):Prop:=∀ o,o<m->∃ x,W.cell? ⟨g,o,I⟩=J x/\(∃ a n c,x=U a n c)/\Kt W x
theorem IsD.rw {W W':Γ} {v:Δ} {q:Dfa} {g m:Nat} (T:Val q) (h:IsD W v q) (E:RwC W W' g m) (X:Pc W g m):IsD W' v q:=by
 obtain⟨vc,vn,va,rfl,h1,⟨vs,af,hN,hr⟩,h3⟩:=h;have G:∀ y,(∀ a n c,y≠Ϗ a n c)->∀ o,o<m->W.cell? ⟨g,o,I⟩≠J y:=λy hy o H e=>by
  obtain⟨x,hx,⟨a,n,c,aj⟩,_⟩:=X o H;rw[hx] at e;injection e with e
  exact hy a n c (by rw[<-e,aj])
 refine⟨vc,vn,va,rfl,Sl.rw h1 E λi _=>G _ λa n c e=>(by cases e),⟨vs,af,Sl.rw hN E λi hi o H e=>?_,λi hi=>Sl.rw (hr i hi) E λj _=>G _ λa n c e=>(by cases e)⟩,Sl.rw h3 E λi _=>G _ λa n c e=>(by cases e)⟩;have hi:i<q.n.length:=by simpa using hi
 have ab:0<(q.n.getD i []).length:=by rw[T.row i hi];exact T.parts.pos
 obtain⟨x,hx,_,ak⟩:=X o H;rw[hx] at e;injection e with e
 obtain⟨b,an,ao,aq,ar⟩:=â (hr i hi) ab;exact ak b an _ ao _ (by rw[e,aq]) ab (ar 0 (by omega))
theorem By.rw {W W':Γ} {v:Δ} {l:List UInt8} {g m:Nat} (h:By W v l) (E:RwC W W' g m) (G:Pc W g m):By W' v l:=
 Sl.rw h E λi _ o H e=>by
  obtain⟨x,hx,⟨a,n,c,T⟩,_⟩:=G o H;rw[hx,T] at e;injection e with e
  cases e
theorem Sl.noInts {W:Γ} {v:Δ} {k n:Nat} {f:Nat->Δ} (h:Sl W v k n f) (G:0<k) (H:∀ z,f 0≠.int Φ z):Kt W v:=λb o n' c z e h0 hc=>by
 obtain⟨_,⟨E,a,T,rfl⟩|⟨E,b',ae,T,rfl,_,X⟩⟩:=h
 ·injection e with _ e _
  omega
 injection e with e _ _
 injection e with e
 injection e with e1 e2 _
 subst e1 e2;have:=X 0 (Nat.mul_pos E G);rw[Nat.add_zero,hc] at this;injection this with this
 exact H z this.symm
theorem Eu {W:Γ} {a b c:Δ} {q:Dfa} (E:Val q) (h:IsD W (.agg #[a,b,c]) q):((∃ x n y,a=U x n y)/\Kt W a)/\((∃ x n y,b=U x n y)/\Kt W b)/\(∃ x n y,c=U x n y)/\Kt W c:=by
 obtain⟨vc,vn,va,he,h1,⟨vs,ag,G,T⟩,H⟩:=h;injection he with he
 injection he with he
 injection he with X he
 injection he with e2 he
 injection he with e3 _
 subst X e2 e3;obtain⟨a1,c1,rfl⟩:=Sl.len h1;obtain⟨a2,c2,rfl⟩:=Sl.len G;obtain⟨a3,c3,rfl⟩:=Sl.len H;refine⟨⟨⟨_,_,_,rfl⟩,Sl.noInts h1 (by omega) λz e=>(by cases e)⟩,⟨⟨_,_,_,rfl⟩,Sl.noInts G (by omega) λz e=>?_⟩,⟨_,_,_,rfl⟩,Sl.noInts H (by omega) λz e=>(by cases e)⟩;obtain⟨b,an,ao,ad,_⟩:=â (T 0 E.pos) (by rw[E.row 0 E.pos];exact E.parts.pos);rw[ad] at e;cases e
def OpR (W:Γ) (xs:List Δ) (os:List Opt):Prop:=xs.length=os.length*7/\∀ i (hi:i<os.length),∃ h1 E G r1 H T l,(∀ o,o<7->xs.getD (i*7+o) Ω=[h1,E,G,r1,H,T,l].getD o Ω)/\Val os[i].head/\Val os[i].rest/\IsD W (.agg #[h1,E,G]) os[i].head/\IsD W (.agg #[r1,H,T]) os[i].rest/\∃ u,By W l u
theorem OpR.grp {W:Γ} {xs:List Δ} {os:List Opt} (h:OpR W xs os) {g:Nat} (hc:∀ o,o<os.length*7->W.cell? ⟨g,o,I⟩=J (xs.getD o Ω)):Pc W g (os.length*7):=λo E=>by
 obtain⟨h1,h2,h3,r1,r2,r3,l,G,H,T,X,aa,u,hu⟩:=h.2 (o / 7) (by omega);have hm:=G (o % 7) (by omega);rw[show o / 7*7+o % 7=o by omega] at hm;refine⟨_,hc o E,?_⟩;rw[hm];obtain⟨k1,k2,k3⟩:=Eu H X;obtain⟨k4,k5,k6⟩:=Eu T aa;have k7:(∃ x n y,l=U x n y)/\Kt W l:=by obtain⟨a,c,rfl⟩:=Sl.len hu;exact⟨⟨_,_,_,rfl⟩,Sl.noInts hu (by omega) λz e=>(by cases e)⟩
 have h7:o % 7=0\/o % 7=1\/o % 7=2\/o % 7=3\/o % 7=4\/o % 7=5\/o % 7=6:=by omega
 rcases h7 with e|e|e|e|e|e|e<;>rw[e]
 ·exact k1
 ·exact k2
 ·exact k3
 ·exact k4
 ·exact k5
 ·exact k6
 exact k7
theorem Ho:(Η.info? 141).map (·.size)=J 7:=by kernel_rfl
theorem LI (G H T X a5 a6 b1 b2 b3 b4 b5 b6 l l':Δ) (hA:(#[G,H,T,X,a5,a6,l]:Array Δ).all (·.oneCell')=Α) (hB:(#[b1,b2,b3,b4,b5,b6,l']:Array Δ).all (·.oneCell')=Α) (w:Γ) (hu:∃ u,By w l u) (ai:∃ u,By w l' u) :
  ϛ Η 83 #[.agg #[G,H,T,X,a5,a6,l],.agg #[b1,b2,b3,b4,b5,b6,l']] w λe w'=>∃ b,e=Ψ (.bool b)/\Ext w w':=by
 obtain⟨u,hu⟩:=hu;obtain⟨E,ai⟩:=ai;obtain⟨a,c,rfl⟩:=Sl.len hu;obtain⟨a',c',rfl⟩:=Sl.len ai;have a8:=hu.1;have ba:=ai.1;have hE:=((Κ w).alloc (Β #[G,H,T,X,a5,a6,U a u.length c] 141)).alloc (Β #[b1,b2,b3,b4,b5,b6,U a' E.length c'] 141);have h2:=Ah (Ad w (Β #[G,H,T,X,a5,a6,U a u.length c] 141)) (Β #[b1,b2,b3,b4,b5,b6,U a' E.length c'] 141);have h3:=ϒ w (Β #[G,H,T,X,a5,a6,U a u.length c] 141) (Β #[b1,b2,b3,b4,b5,b6,U a' E.length c'] 141);have HU:=Z hu;have aw:=Z ai;clear hu ai;go_enter Tryz.func83,Tryz.ntmps83;go_upto_region 1 with (fail)
 obtain⟨w1,aq⟩:=Xq ((w.alloc (Β #[G,H,T,X,a5,a6,U a u.length c] 141)).alloc (Β #[b1,b2,b3,b4,b5,b6,U a' E.length c'] 141));rw[aq] at hE h2 h3;simp only[aq];clear aq;have c1:=(Τ w1 w.heap.size 6 _ _ _ h2).trans (show (#[G,H,T,X,a5,a6,U a u.length c]:Array Δ)[6]? = J (U a u.length c) from rfl);have c2:=(Τ w1 (w.heap.size+1) 6 _ _ _ h3).trans (show (#[b1,b2,b3,b4,b5,b6,U a' E.length c']:Array Δ)[6]? = J (U a' E.length c') from rfl);have ax:(convert 22 9 (U a u.length c)).run Η w1=.ok (Cu u) w1:=K9 _ _ _ (HU.o.ext hE);have bc:(convert 22 9 (U a' E.length c')).run Η w1=.ok (Cu E) w1:=K9 _ _ _ (aw.o.ext hE);clear h2 h3;obtain⟨bb,bd⟩:∃ bb,∀ W:Γ,(binOp .lss 9 (Cu u) (Cu E)).run Η W=.ok (.bool bb) W:=⟨_,λW=>by unfold Cu;rw[binOp_string_lss];rfl⟩
 by_cases hl:u.length=E.length
 ·rw[hl] at ax c1 ⊢;go_wp2_with (fail);go_ret;exact⟨_,rfl,hE⟩
 have be:((u.length:Int)==(E.length:Int))=Ε:=by simp;omega
 have bf:¬ (u.length:Int)=(E.length:Int):=by omega
 go_wp2_with (fail);go_ret;exact⟨_,rfl,hE⟩
end Go.Proofs.YtilncahcpjlfnaaGreatDoor
