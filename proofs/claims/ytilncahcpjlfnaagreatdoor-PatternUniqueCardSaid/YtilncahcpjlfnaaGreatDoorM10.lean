import Derived.Test.YtilncahcpjlfnaaGreatDoorM09
import Derived.Test.YtilncahcpjlfnaaGreatDoorM03
import Derived.Test.YtilncahcpjlfnaaGreatDoorM07
import Derived.Test.YtilncahcpjlfnaaGreatDoorM05
import Derived.Test.YtilncahcpjlfnaaGreatDoorM08
set_option linter.unusedVariables false
set_option linter.unusedSimpArgs false
set_option maxRecDepth 100000
set_option maxHeartbeats 8000000
open And renaming intro → ï
open Bool renaming false → Ε, true → Α, eq_iff_iff → Ϸ
open Go renaming World → Γ, Value → Δ, Operand → Ñ, maxLen → ϐ, Calls → ϛ, info_parts → ϓ, heap_alloc2_new → ϒ, cell_of_row → Τ, wpList_make_full → Ϟ, bodyPost_ret → ω, setRow_heap → Χ, undef → Ω
open Go.Act renaming put → η
open Go.IntKind renaming u8 → é, i64 → Φ
open Go.Lib renaming hid → Z
open Go.Obj renaming cells → Β
open Go.Operand renaming tmp → δ
open Go.Proofs.Tryz renaming prog → Η, underlying54 → Ϥ, underlying40 → Ο, underlying38 → ä
open Go.Region renaming wanted → ϧ
open Go.RowKit renaming Hid → ϟ
open Go.Value renaming int → Â, slice → U, pointer → ε, bool → ϊ, oneCell' → ξ, slice → Ϗ, tuple → ϗ
open Go.World renaming ownsRow_lit → Á, size_alloc → Ρ
open List renaming range → π, getD_eq_getElem?_getD → Ζ, mem_range → ϔ, replicate → θ, setIfInBounds_toArray → Θ, set_cons_zero → Μ, set_cons_succ → Λ, map_append → ϩ, length_append → Ν, length_set → υ, drop_succ_cons → Ä, drop_zero → ϰ, getElem?_toArray → Ã, getElem?_cons_zero → Å, getElem?_cons_succ → Æ, length_map → ι, mem_map → ϴ, foldl_append → ÿ
open Nat renaming le_trans → μ, lt_of_lt_of_le → Ξ, le_refl → Υ
open Option renaming some → J, none → I, isSome → ñ, bind_some → ó
open UInt8 renaming ofNat → ώ
namespace Go.Proofs.YtilncahcpjlfnaaGreatDoor
open Go.RowKit Go.Shelf
theorem Mb {A B C:Γ} {g:Nat} {row:Option Nat} (h:A.grownBy B (J g)) (k:B.grownBy C row) (G:∀ x,row=J x->A.heap.size<=x\/x=g):A.grownBy C (J g):=
 ⟨k.os.trans h.os,k.tape.trans h.tape,k.output.trans h.output,μ h.size k.size,λx hx E=>(k.block x (Ξ hx h.size) (λe=>by
  rcases G x e.symm with h1|h1
  ·omega
  exact E (by rw[h1]))).trans (h.block x hx E)⟩
theorem TH {l:List Nat} {key:Nat->List UInt8} {N R:List Nat} {f:List UInt8->Option Nat} (h:NInv l key l.length N R f) (h0:0<R.length) (E:R.getD 0 0=0):N.getD 0 0=0:=by
 have:=(h.rep 0 h0).2
 rwa [E] at this
theorem Nj (n j:Nat) (h:j<n):(π n).getD j 0=j:=by simp[Ζ,h]
theorem YX {t:Tbl} {B:List Nat} (h:AInv t (π t.n.length) t.n.length B) (l:List Nat) (G:∀ s∈l,s<t.n.length):OInv t l B 0:=by
 refine⟨h.len,Wc t l _ λs E=>?_,λs E=>?_,by omega⟩
 ·show B.getD s 0=_;rw[h.at_ s];have:s∈(π t.n.length).take t.n.length:=by rw[List.take_of_length_le (by simp)];exact ϔ.2 (G s E)
  have H:=G s E;simp[H]
 rw[h.at_ s];split<;>omega
theorem Ye (x:Nat):([Â .u8 (é.wrap (x:Int)),Â .u8 (é.wrap ((x:Int) / 256))]:List Δ)=(Bt x).map bv:=by
 have E:é.wrap (x:Int)=((ώ x).toNat:Int):=by rw[IntKind.wrap_u8,UInt8.toNat_ofNat'];omega
 have G:é.wrap ((x:Int) / 256)=((ώ (x / 256)).toNat:Int):=by rw[IntKind.wrap_u8,UInt8.toNat_ofNat'];omega
 rw[E,G];rfl
theorem LD {W:Γ} {base e size g n G:Nat} {xs:List Δ} (h:W.ownsRow base e size (U (J ⟨g,0,I⟩) n G) n xs):W.ownsRow base e size (U (J ⟨g,0,I⟩) 0 G) 0 []:=by
 rcases h.2 with⟨E,_⟩|⟨g',ad,cur,E,h1,H,h3,T,X,h6⟩
 ·cases E
 injection E with E _ e2
 injection E with E
 injection E with E _ _
 subst E e2;exact⟨by simp,.inr ⟨g,G,cur,rfl,h1,H,by omega,T,X,by simp⟩⟩
theorem Fv:(Η.info? 128).map (·.size)=J 2:=by kernel_rfl
def Q0 (E n T:Nat) (vc:Δ):Nat->Δ->Γ->Prop
 | 0,v,_=>v=ε (J ⟨T,0,I⟩)
 | 1,v,_=>v=vc
 | 2,v,_=>v=iv n
 | 3,v,W=>∃ g,v=U (J ⟨g,0,I⟩) n n/\W.ownsRow E 54 1 v n (θ n (U I 0 0))
 | 4,v,_=>v=iv n
 | 5,v,W=>∃ g,v=U (J ⟨g,0,I⟩) n n/\W.ownsRow E 4 1 v n ((θ n Ε).map ϊ)
 | 6,v,W=>∃ G H,v=.agg (dA vc (U (J ⟨G,0,I⟩) n n) (U (J ⟨H,0,I⟩) n n))/\W.ownsRow E 54 1 (U (J ⟨G,0,I⟩) n n) n (θ n (U I 0 0))/\W.ownsRow E 4 1 (U (J ⟨H,0,I⟩) n n) n ((θ n Ε).map ϊ)
 | _,v,W=>∃ g,v=ε (J ⟨g,0,I⟩)/\W.heap[g]? = J (Β #[U I 0 0,U I 0 0,U I 0 0] 40 (0,0))/\E<=g
theorem NC (T n X:Nat) (vc:Δ):∀ (i:Nat) (v:Δ) (w w':Γ),Q0 T n X vc i v w->Ext w w'->Q0 T n X vc i v w'
 | 0,_,_,_,h,_=>h
 | 1,_,_,_,h,_=>h
 | 2,_,_,_,h,_=>h
 | 3,_,_,_,⟨g,h1,G⟩,E=>⟨g,h1,Aa G E⟩
 | 4,_,_,_,h,_=>h
 | 5,_,_,_,⟨g,h1,G⟩,E=>⟨g,h1,Aa G E⟩
 | 6,_,_,_,⟨g,g',h1,G,H⟩,E=>⟨g,g',h1,Aa G E,Aa H E⟩
 | _+7,_,_,_,⟨g,h1,G,H⟩,E=>⟨g,h1,E.heap G,H⟩
theorem GE {P:Program} {ops:Array Oper} (w:Γ) {o:Oper} {a:Act} {K:Act->Γ->Prop} {Q:Exit->Act->Γ->Prop} {E:Prop} (T:o.guard=I)
  (l c:Ñ) (t:TypeId) (X:o.op=Op.makeSlice t l c)
  (base:Nat) (e:TypeId) (i:TypeInfo) (z:Δ) (size:Nat) (h1:P.underlying t=J (.slice e)) (h2:P.info? e=J i) (h3:i.zero=J z) (h4:i.size=size)
  (G H:IntKind) (L C:Int) (n:Nat) (hl:a.eval l=.int G L) (hc:a.eval c=.int H C) (hL:L=(n:Int)) (hC:C=(n:Int)) (b2:i.bytes*n<=281474976710656) (b3:n<=ϐ) (b4:base<=w.heap.size)
  (hK:∀ w',w'.ownsRow base e size (U (J ⟨w.heap.size,0,I⟩) n n) n (madeCells z.cells (n*size)).toList->w.grownBy w' I->K (a.put o.dst (U (J ⟨w.heap.size,0,I⟩) n n)) w') :
  if ϧ o (yielded ops a.tmps)=Α then Oper.wp P o a w K Q else E:=by
 have hw:ϧ o (yielded ops a.tmps)=Α:=by simp[ϧ,T]
 rw[if_pos hw];exact Gz w l c t X base e i z size h1 h2 h3 h4 G H L C n hl hc hL hC b2 b3 b4 hK
theorem Qz (L:List Cls) (N0:List (List Nat)) (A0:List Bool) (hw:WVal L N0 A0) (hp:N0.length<=65536) (A:Array Δ) (va:Δ) (w:Γ) (hT:Tab w) (kc:0<w.heap.size) (h:IsW w A L N0) (ha:Bools w va A0) :
  ϛ Η 55 #[.agg A,va] w λe w'=>∃ r,ResOf w' e r/\Dc (λu=>(Az L N0 A0).has u=Α) r/\Ext w w':=by
 obtain⟨t,ht⟩:=Xq (Az L N0 A0);have hv:TVal t:=ht▸hw.tval;have h4:t.n=N0:=by rw[<-ht];rfl
 have kd:t.cells=L.length:=by rw[<-ht];rfl
 have h6:t.acc=A0:=by rw[<-ht];rfl
 have HT:=Z ht;have ke:=Z hw;rw[ht];rw[<-h4] at h hp;rw[<-h6] at ha;have ra:=Z h4;have h7:=Z kd;have rb:=Z h6;clear hw ht h4 kd h6;obtain⟨bn,on,cn,kg,rh,h8,hR⟩:=h.opened hv;obtain⟨ba,oa,ca,rfl,kk⟩:=â ha (by rw[hv.accL];exact hv.pos);have oe:=Z (λW (hW:Ext w W)=>hT.below hW.below kc);have og:=hv.pos;have rj:=hv.cpos;have rl:=hv.cle;have HR:=Z hR;have HV:=Z hv;have km:=Z h;have oh:=Z hv.accL;have ia:ϟ (∀ s,s<t.n.length->w.cell? ⟨ba,oa+s,I⟩=J (.bool (t.ok s))):=Z λs hs=>kk s (by rw[hv.accL];omega)
 rw[oh.o];obtain⟨n,fk⟩:=Xq (t.n.length);have HN:=Z fk;rw[fk] at hp og h8 ia;rw[fk];have om:(Η.info? 128).map (·.size)=J A.size:=by rw[kg];exact Fv
 obtain⟨i0,hi,fm,fp,fq⟩:=ϓ Dw;obtain⟨i5,oq,ot,ou,ow⟩:=ϓ (show (Η.info? 5).map (λi=>(i.zero,i.size,i.bytes))=J (J (.int .u8 0),1,1) by kernel_rfl);have ib:=((Κ w).alloc (Β A 128)).alloc (Β #[U I 0 0,U I 0 0,U I 0 0] 40);have H0:=Ah (Ad w (Β A 128)) (Β #[U I 0 0,U I 0 0,U I 0 0] 40);have H4:=ϒ w (Β A 128) (Β #[U I 0 0,U I 0 0,U I 0 0] 40);clear hR hv h kk ha kg fk hT;go_enter Tryz.func55,Tryz.ntmps55;go_upto_region 1 with (fail)
 obtain⟨w1,ic⟩:=Xq ((w.alloc (Β A 128)).alloc (Β #[U I 0 0,U I 0 0,U I 0 0] 40));rw[ic] at ib H0 H4;simp only[ic];clear ic;have H0:=Z H0;have H4:=Z H4;have HK:=Z (λ(W:Γ) (hW:Ext w1 W)=>(Τ W w.heap.size 1 _ _ _ (hW.heap H0.o)).trans h8);clear h8;have du:=Z ib;have k1:=HK.o w1 (Κ w1);go_upto_region 2 with (at_make;refine Ϟ _ rfl _ _ 54 rfl w1.heap.size 3 i0 (.int Φ 0) 1 Ϥ hi fm fp Φ Φ _ _ n rfl rfl rfl rfl (by rw[fq];omega) (by unfold ϐ;omega) (Υ _) ?_;intro w2 ko kq)
 have kr:Ext w1 w2:=(Κ w1).grown kq (λk e=>by cases e);have ig:w2.ownsRow w1.heap.size 3 1 (U (J ⟨w1.heap.size,0,I⟩) n n) n ((θ n 0).map iv):=by rw[<-B8];exact ko
 clear ko kq k1 ib;obtain⟨gb,ft⟩:=Xq (w1.heap.size);rw[ft] at ig;simp only[ft];have oy:=Z ft;clear ft;go_wp2_with (fail);go_loopw [32] (λi W=>∃ (j:Nat) (B:List Nat),j<=n/\i=.int Φ j/\Ext w1 W/\W.ownsRow gb 3 1 (U (J ⟨gb,0,I⟩) n n) n (B.map iv)/\ϟ (AInv t (π n) j B))
  (λi _=>n-(intOf i).toNat)
 case atStart=>exact⟨0,_,by omega,rfl,kr,ig,Z (by have:=DF t (π n);rwa [HN.o] at this)⟩
 clear kr ig;obtain⟨j,B,hj,rfl,hE,hB,HI⟩:=hrel;by_cases af:j<n
 ·have fu:=du.o.cell (ia.o j af);have fu:=hE.cell fu;have ij:B.length=n:=by rw[HI.o.len,HN.o]
  have HY:=Z (λho=>DE HI.o (by simpa using af) (by rw[Nj n j af,HN.o];exact af) (by rw[Nj n j af];exact ho));have oz:=Z (λho=>DG HI.o (by simpa using af) (by rw[Nj n j af];exact ho));rw[Nj n j af] at HY;have o2:w1.heap.size<=gb:=Nat.le_of_eq oy.o;cases dv:t.ok j
  ·rw[dv] at fu;have bj:=Z (oz.o dv);clear dv ij;go_wp2_with (fail);go_roundw
   case rel=>exact⟨j+1,B,by omega,by go_num,hE,hB,bj⟩
   simp[intOf]<;>omega
  rw[dv] at fu;have o3:=Z (HY.o dv);clear dv;obtain⟨o4,ay⟩:=Ba hB j 1;have cs:=Au 0 hB ij.symm j (by omega);have fs:=hB.frozenAt j;clear ij;go_wp2_with (fail);go_roundw
  case rel=>exact⟨j+1,B.set j 1,by omega,by go_num,hE.grown ay (λk e=>by cases e;exact o2),o4,o3⟩
  simp[intOf]<;>omega
 obtain rfl:n=j:=by omega
 have kt:=Z (λW (hW:Ext w W)=>EC L t HV.o (by rw[HN.o];exact hp) A W (km.o.ext hW));have ku:=Z (hE.heap H0.o);have kv:=du.o.t hE;go_upto_region 9 with (first
  | (refine Lr 128 (δ 2) ku.o Tryz.underlying128 om ?_)
  | (go_at_call 79;(with_reducible refine (kt.o _ kv).mono ?_);rintro e w3 ⟨vl,l,rfl,hl,kx,cq⟩))
 have rp:gb<w3.heap.size:=Ξ (hB.lt gb rfl).2 cq.size;have HO:=Z (YX (by rw[HN.o];exact HI.o) l hl.lt);have kz:=Aa hB cq;have il:=hE.t cq;have rq:l.length<=n:=by
  have:=D8 l (π t.n.length) hl.nodup λs hs=>ϔ.2 (hl.lt s hs)
  simpa [HN.o] using this
 obtain⟨bl,ol,cl,rfl,k6⟩:=â kx hl.ne;have k7:=hl.ne;have HL:=Z hl;have o5:=Z (λW (hW:Ext w3 W) k (hk:k<l.length)=>hW.cell (k6 k (by omega)));have k9:ϟ (∀ s,s<n->w3.cell? ⟨gb,s,I⟩=J (iv (B.getD s 0))):=Z λs hs=>Au 0 kz (by rw[HO.o.len,HN.o]) s (by rw[HO.o.len,HN.o];exact hs)
 clear kt ku HI cq hE hB kv kz k6 kx hl;go_upto_region 10 with (fail)
 have b5:=Á (base:=w3.heap.size) (e:=3) (size:=1) w3 #[] 0 (Υ _) (by unfold ϐ;omega) rfl;have ir:=(Κ w3).alloc (Β #[] 3);have la:gb<(w3.alloc (Β #[] 3)).heap.size:=by rw[Ρ];omega
 have lb:ϟ (∀ s,s<n->(w3.alloc (Β #[] 3)).cell? ⟨gb,s,I⟩=J (iv (B.getD s 0))):=Z λs hs=>ir.cell (k9.o s hs)
 have rv:w1.heap.size<=w3.heap.size:=il.size;have ez:gb≠w3.heap.size:=by omega
 have b6:=Z il;clear k9 il;go_wp2_with (fail);go_loopw [6,10,11] (λv6 lf o7 W=>∃ (B R0:List Nat) (m g cp gr cr:Nat),v6=U (J ⟨g,0,I⟩) n cp/\lf=U (J ⟨gr,0,I⟩) R0.length cr/\o7=.int Φ m/\Ext w3 W/\g<W.heap.size/\g≠gr/\ϟ (∀ s,s<n->W.cell? ⟨g,s,I⟩=J (iv (B.getD s 0)))/\W.ownsRow w3.heap.size 3 1 lf R0.length (R0.map iv)/\ϟ (OInv t l B m))
  (λ_ _ c _=>l.length-(intOf c).toNat)
 case atStart=>exact⟨B,[],0,gb,_,_,_,rfl,rfl,rfl,ir,la,ez,lb,b5,HO⟩
 clear lb HO la ir b5 ez B;obtain⟨B,R0,m,g,cp,gr,cr,rfl,rfl,rfl,hE,o8,ez,HC,iu,HO⟩:=hrel;have ry:=HO.o.le;obtain⟨T,pa⟩:∃ W,W=wr:=⟨_,rfl⟩;subst pa;have pb:=(iu.lt gr rfl);have pc:=hE.size;have pd:=@run_makeMap Η;go_upto_region 11 with (fail)
 clear pd;have cq:=(Κ T).alloc (.map #[] 0);have iw:=It T 9 Cu;have lh:(T.alloc (.map #[] 0)).heap.size=T.heap.size+1:=Ρ _ _;obtain⟨w5,e0⟩:=Xq (T.alloc (.map #[] 0));rw[e0] at cq iw lh;simp only[e0];clear e0;go_upto_region 12 with (at_make;refine Ϟ _ rfl _ _ 54 rfl w5.heap.size 3 i0 (.int Φ 0) 1 Ϥ hi fm fp Φ Φ _ _ n rfl rfl rfl rfl (by rw[fq];omega) (by unfold ϐ;omega) (Υ _) ?_;intro w6 fw X)
 have aa:=cq.grown X (λk e=>by cases e);have a1:w6.ownsRow w5.heap.size 3 1 (U (J ⟨w5.heap.size,0,I⟩) n n) n ((θ n 0).map iv):=by rw[<-B8];exact fw
 have a8:=iw.kept X (by simp);have bf:T.heap.size+1<w6.heap.size:=by have:w5.heap.size<w6.heap.size:=(a1.lt _ rfl).2;omega
 have a6:=LD (Aa iu aa);have bb:T.grownBy w6 (J gr):=⟨aa.below.os,aa.below.tape,aa.below.output,aa.size,λk hk _=>aa.block hk⟩;have lj:=hE.t aa;clear fw X iw cq iu aa hE;generalize w5.heap.size=gn at *;subst lh;go_wp2_with (fail);go_loopw [10,53] (λv i W=>∃ (j:Nat) (N R:List Nat) (f:List UInt8->Option Nat) (bg de:Nat),j<=l.length/\i=.int Φ j/\v=U (J ⟨bg,0,I⟩) R.length de/\Ext w3 W/\T.grownBy W (J gr)/\T.heap.size+1<W.heap.size/\W.ownsRow (T.heap.size+1) 3 1 (U (J ⟨T.heap.size+1,0,I⟩) n n) n (N.map iv)/\W.ownsRow w3.heap.size 3 1 v R.length (R.map iv)/\IsMp W 9 Cu T.heap.size R.length f/\(bg=gr\/T.heap.size+1<bg)/\ϟ (NInv l (Fu t λs=>B.getD s 0) j N R f/\N.length=n/\(0<j->R.getD 0 0=0/\0<R.length)))
  (λ_ i _=>l.length-(intOf i).toNat)
 case atStart=>exact⟨0,_,[],_,gr,cr,by omega,rfl,rfl,lj,bb,bf,a1,a6,a8,.inl rfl,Z ⟨Xo l _ _,by simp,λh=>absurd h (by omega)⟩⟩
 clear a1 a6 a8 lj bb bf;obtain⟨j,N,R,f,bg,de,hj,rfl,rfl,bm,fx,fy,e1,b5,ix,iy,ai⟩:=hrel;have rz:=ai.o.1.le;obtain⟨G,pe⟩:∃ W,W=wr:=⟨_,rfl⟩;subst pe;have iz:=Z (λW (hW:T.grownBy W (J gr)) s (hs:s<n)=>hW.cell (HC.o s hs) (λe=>ez (by injection e)));by_cases af:j<l.length
 ·have cl:=o5.o G bm j af;have fz:=Dm l j 0 af;have dw:=HL.o.lt _ fz;rw[HN.o] at dw;have hx:=HO.o.lt _ fz;have lk:=Z (λk (hk:k<t.cells)=>HO.o.lt _ (HL.o.closed _ fz k hk));have ll:ϟ (j=0->l.getD j 0=0):=Z λe=>by rw[e];exact HL.o.head
  obtain⟨s,ja⟩:=Xq (l.getD j 0);rw[ja] at cl dw hx lk ll;have dx:=Z ja;clear ja fz;obtain⟨br,or',pg,ga,e2⟩:=HR.o s (by rw[HN.o];exact dw);have ph:=Z (λ(W:Γ) (hW:Ext w3 W)=>((du.o.t b6.o).trans hW).cell ga);have jb:=Z (λ(W:Γ) (hW:Ext w3 W) k (hk:k<t.cells)=>((du.o.t b6.o).trans hW).cell (e2 k hk));have pj:=Z (λk (hk:k<t.cells)=>HV.o.tgt s (by rw[HN.o];exact dw) k hk);clear ga e2;obtain⟨x,gd⟩:=Xq (B.getD s 0);rw[gd] at hx;have cx:=iz.o G fx s dw;rw[gd] at cx;have pk:=Z gd;clear gd;go_upto_region 16 with (fail)
  clear cl;refine Bl 12 [(0,Α),(1,Α),(2,Α),(3,Α),(4,Α),(5,Α),(6,Α),(7,Α),(8,Α),(9,Α),(10,Α),(11,Ε),(12,Ε)] (by kernel_rfl) (by kernel_rfl) (λ_ _ _ _ h=>h) (λV=>V.cell? ⟨g,s,I⟩=J (iv x)) ((Κ G).drew.cell cx) ?_;have H:=(Κ G).drew;obtain⟨wy,ak⟩:=Xq (G.drew);rw[ak] at H;rw[ak];clear ak;iterate 11
   refine Af (v:=?_) rfl rfl (λV E=>?_) ?_
   rotate_left
   ·go_simp;first|done|with_reducible rfl
   simp only[η,Θ,Μ,Λ]
  refine Ao rfl (λKk hK=>?_);go_simp;refine hK _ _ (λ_=>(H.alloc _).cell cx) ?_;clear hK Kk;refine Ao rfl (λKk hK=>?_);go_simp;refine hK _ _ (λh=>absurd h (by omega)) ?_;clear hK Kk;refine Bj ?_;have e3:=Á (base:=T.heap.size+1+1) (e:=5) (size:=1) wy #[Â .u8 (é.wrap (x:Int)),Â .u8 (é.wrap ((x:Int) / 256))] 2 (by have:=H.size;omega) (by unfold ϐ;omega) rfl;rw[show (#[Â .u8 (é.wrap (x:Int)),Â .u8 (é.wrap ((x:Int) / 256))]:Array Δ).toList=(Bt x).map bv from Ye x] at e3;have an:=H.alloc (Β #[Â .u8 (é.wrap (x:Int)),Â .u8 (é.wrap ((x:Int) / 256))] 5);have aa:=bm.t an;have bb:=fx.trans ((an.grownBy (J gr)));have a1:=Aa e1 an;have a6:=Aa b5 an;have a8:=ix.ext an;have bf:=Ξ fy an.size;obtain⟨gf,ln⟩:=Xq ((λk=>B.getD (t.ent2 s k) 0):Nat->Nat);have lo:=Z ln;clear ln e1 b5 ix bm fx fy cx H an;obtain⟨w6,df⟩:=Xq (wy.alloc (Β #[Â .u8 (é.wrap (x:Int)),Â .u8 (é.wrap ((x:Int) / 256))] 5));rw[df] at e3 aa bb a1 a6 a8 bf;simp only[df];clear df;obtain⟨lp,jc⟩:=Xq (wy.heap.size);rw[jc] at e3;simp only[jc];clear jc;have dy:w6.ownsRow (T.heap.size+1+1) 5 1 (U (J ⟨lp,0,I⟩) (2+2*0) 2) (2+2*0) ((Bt x++Bn gf 0).map bv):=by rw[show Bt x++Bn gf 0=Bt x by simp[Bn]];exact e3
  have k1:=HK.o w6 (b6.o.t aa);have k2:=ph.o w6 aa;clear e3;go_wp2_with (fail);clear k1 k2;go_loopw [16,75] (λv i W=>∃ (k gk ck:Nat),k<=t.cells/\i=.int Φ k/\v=U (J ⟨gk,0,I⟩) (2+2*k) ck/\Ext w3 W/\T.grownBy W (J gr)/\T.heap.size+1<W.heap.size/\W.ownsRow (T.heap.size+1) 3 1 (U (J ⟨T.heap.size+1,0,I⟩) n n) n (N.map iv)/\W.ownsRow w3.heap.size 3 1 (U (J ⟨bg,0,I⟩) R.length de) R.length (R.map iv)/\IsMp W 9 Cu T.heap.size R.length f/\W.ownsRow (T.heap.size+1+1) 5 1 v (2+2*k) ((Bt x++Bn gf k).map bv))
   (λ_ i _=>t.cells-(intOf i).toNat)
  case atStart=>exact⟨0,lp,2,by omega,rfl,rfl,aa,bb,bf,a1,a6,a8,dy⟩
  clear aa bb bf a1 a6 a8 dy;obtain⟨k,gk,ck,hk,rfl,rfl,bw,dg,dz,bz,b7,b0,ea⟩:=hrel;obtain⟨w5,e0⟩:∃ W,W=wr:=⟨_,rfl⟩;subst e0;by_cases je:k<t.cells
  ·have cu:=pj.o k je;rw[HN.o] at cu;have hz:=lk.o k je;have cy:=jb.o w5 bw k je;obtain⟨y,dh⟩:=Xq (t.ent2 s k);have lu:ϟ (gf k=B.getD y 0):=Z (by rw[<-lo.o,<-dh]);rw[dh] at cy cu hz;clear dh;have cz:=iz.o w5 dg y cu;obtain⟨z,e6⟩:=Xq (B.getD y 0);rw[e6] at hz lu cz;clear e6;go_upto_region 20 with (fail)
   clear cy;refine Bl 14 [(0,Α),(1,Α),(2,Α),(3,Α),(4,Α),(5,Α),(6,Α),(7,Α),(8,Α),(9,Α),(10,Α),(11,Α),(12,Ε),(13,Ε),(14,Ε)] (by kernel_rfl) (by kernel_rfl) (λ_ _ _ _ h=>h) (λV=>V.cell? ⟨g,y,I⟩=J (iv z)) ((Κ w5).drew.cell cz) ?_;have H:=(Κ w5).drew;have gi:=H.cell cz;obtain⟨wy,ak⟩:=Xq (w5.drew);rw[ak] at H gi;rw[ak];clear ak cz;iterate 12
    refine Af (v:=?_) rfl rfl (λV E=>?_) ?_
    rotate_left
    ·go_simp;first|done|with_reducible rfl
    simp only[η,Θ,Μ,Λ]
   refine Ao rfl (λKk hK=>?_);go_simp;refine hK _ _ (λ_=>((Κ wy).alloc _).cell gi) ?_;clear hK Kk;refine Ao rfl (λKk hK=>?_);have eb:=(Aa ea H).alloc (Β #[Â .u8 (é.wrap (z:Int)),Â .u8 (é.wrap ((z:Int) / 256))] 5);have an:=H.alloc (Β #[Â .u8 (é.wrap (z:Int)),Â .u8 (é.wrap ((z:Int) / 256))] 5);refine step_append_lies _ rfl _ _ 22 rfl (T.heap.size+1+1) 5 i5 (.int .u8 0) 1 1 Tryz.underlying22 oq ot ou ow rfl (by decide) (U (J ⟨gk,0,I⟩) (2+2*k) ck) _ _ rfl eb _ 2 2 ([Â .u8 (é.wrap (z:Int)),Â .u8 (é.wrap ((z:Int) / 256))]) rfl rfl (Hs _ _ _ _) (by simp[ξ]) (by decide) (by unfold ϐ;omega) (by omega) (by have:=an.size;omega) _ rfl ?_;intro g6 c6 w6 dy X pn po;have gj:∀ x,(Ϗ (J ⟨gk,0,I⟩) (2+2*k) ck).ownBlock=J x->T.heap.size+1+1<=x:=λx e=>(eb.lt x e).1
   have aa:Ext w3 w6:=(bw.t an).grown X (λk' e=>by have h1:=gj k' e;omega);have bb:=Mb (dg.trans (an.grownBy (J gr))) X (λk' e=>by have h1:=gj k' e;omega);refine hK _ _ (λ_=>?_) ?_
   ·exact X.cell (((Κ wy).alloc _).cell gi) (λe=>by have h1:=gj g e.symm;omega)
   clear hK Kk;refine Ao rfl (λKk hK=>?_);go_simp;refine hK _ _ (λh=>absurd h (by omega)) ?_;clear hK Kk;refine Bj ?_;have a1:=(Aa bz an).kept X (Aj (Aa bz an) eb (by decide));have a6:=(Aa b7 an).kept X (Aj (Aa b7 an) eb (by decide));have a8:=(b0.ext an).kept X ((b0.ext an).ne_row eb);have bf:=Ξ (Ξ dz an.size) X.size;have dy:w6.ownsRow (T.heap.size+1+1) 5 1 (U (J ⟨g6,0,I⟩) (2+2*(k+1)) c6) (2+2*(k+1)) ((Bt x++Bn gf (k+1)).map bv):=by rw[show Bt x++Bn gf (k+1)=(Bt x++Bn gf k)++Bt z by rw[Bn,lu.o,List.append_assoc],ϩ,<-Ye z];exact dy
   clear bz b7 b0 ea X pn po gi bw dg dz an eb H gj;go_wp2_with (fail);go_roundw
   case rel=>exact⟨k+1,g6,c6,by omega,by go_num,rfl,aa,bb,bf,a1,a6,a8,dy⟩
   simp[intOf]<;>omega
  obtain rfl:k=t.cells:=by omega
  have ec:(Bt x++Bn gf t.cells).length=2+2*t.cells:=by rw[Ν,Ke,Q6]
  have jf:Fu t (λs=>B.getD s 0) s=Bt x++Bn gf t.cells:=by show Bt (B.getD s 0)++Bn (λk=>B.getD (t.ent2 s k) 0) t.cells=_;rw[pk.o,lo.o]
  obtain⟨ky,ly⟩:=Xq (Bt x++Bn gf t.cells);rw[ly] at ec jf ea;have jg:=Z jf;clear ly jf;have pq:(convert 22 9 (U (J ⟨gk,0,I⟩) (2+2*t.cells) ck)).run Η w5=.ok (Cu ky) w5:=K9 _ _ _ (By.of_owns (by rw[ec];exact ea) (by rw[ec];omega));have jh:=Pq ky (by rw[ec];unfold ϐ;omega);have r2:=Z ec;have ee:s<N.length:=by rw[ai.o.2.1];exact dw
  clear ec;cases hf:f ky with
  | some i=>
   have bj:=Xp ai.o.1 HL.o.nodup af (by rw[dx.o];exact ee) i (by rw[dx.o,jg.o];exact hf);rw[dx.o] at bj;have l2:0<j:=by obtain⟨q,hq,_⟩:=ai.o.1.from_ _ _ hf;omega
   have bj:=Z (ï bj (ï (show (N.set s i).length=n by rw[υ];exact ai.o.2.1) (λ(_:0<j+1)=>ai.o.2.2 l2)));have cn:=Au 0 bz ai.o.2.1.symm s ee;have fn:=bz.frozenAt s;obtain⟨a1,X⟩:=Ba bz s i;have aa:=bw.grown X (λk' e=>by cases e;omega);have bb:=Mb dg X (λk' e=>by cases e;omega);have a6:=b7.kept X (Cd b7 (by omega));have a8:=b0.kept X (by simp);have bf:=Ξ dz X.size;clear X b7 bz bw dz dg ee l2;go_wp2_with (at_lookup;refine D0 rfl _ _ 168 rfl Gn Tryz.underlying168 rfl b0 ky rfl jh ?_;rw[hf];dsimp only [ñ,Option.getD]);go_roundw
   case rel=>exact⟨j+1,N.set s i,R,f,bg,de,by omega,by go_num,rfl,aa,bb,bf,a1,a6,a8,iy,bj⟩
   simp[intOf]<;>omega
  | none=>
   have bj:=Xr ai.o.1 HL.o.nodup af (by rw[dx.o];exact ee) (by rw[dx.o,jg.o];exact hf);rw[dx.o,jg.o] at bj;have bj:=Z (ï bj (ï (show (N.set s R.length).length=n by rw[υ];exact ai.o.2.1) (λ(_:0<j+1)=>(show (R++[s]).getD 0 0=0/\0<(R++[s]).length from by
    refine⟨?_,by simp⟩;by_cases e:j=0
    ·have pr:R=[]:=List.length_eq_zero_iff.1 (by omega);have pt:=ll.o e;subst pr
     simpa using pt
    obtain⟨h1,h2⟩:=ai.o.2.2 (by omega);rw[Ζ,List.getElem?_append_left h2,<-Ζ];exact h1))))
   have fw:=ea;go_upto_region 25 with (at_lookup;refine D0 rfl _ _ 168 rfl Gn Tryz.underlying168 rfl b0 ky rfl jh ?_;rw[hf];dsimp only [ñ,Option.getD])
   go_upto_region 26 with (at_mapUpdate;refine G0 rfl _ _ _ 168 rfl Gn Tryz.underlying168 rfl b0 (by unfold ϐ;omega) Ps ky rfl jh R.length rfl (by omega) ?_;intro w6 a8 X)
   clear pq;have a1:=bz.kept X (b0.far bz);have a6:=b7.kept X (b0.far b7);have aa:=bw.grown X (λk' e=>by cases e;omega);have bb:=Mb dg X (λk' e=>by cases e;omega);have bf:=Ξ dz X.size;clear X b7 bz bw dz b0 ea fw dg;go_upto_region 27 with (at_builtin;refine wpList_append_lies _ rfl _ _ 54 rfl w3.heap.size 3 i0 (.int Φ 0) 1 8 Ϥ hi fm fp fq rfl (by decide) (U (J ⟨bg,0,I⟩) R.length de) _ _ rfl (a6.alloc _) _ 1 1 [iv s] rfl rfl (cell_one_new _ _ _) (by simp[ξ]) (by decide) (by unfold ϐ;omega) (by omega) (by simp;omega) _ rfl ?_;intro g7 c7 w7 e9 ef ji _)
   have ji:g7=gr\/T.heap.size+1<g7:=by
    rcases ji with h|h
    ·injection h with h
     have h:bg=g7:=h;rw[<-h];exact iy
    right
    rw[Ρ] at h;omega
   have jj:∀ k',(Ϗ (J ⟨bg,0,I⟩) R.length de).ownBlock=J k'->k'=bg:=λk' e=>by injection e with e;exact e.symm
   have gl:=(a1.alloc (Β #[iv s] 3)).kept ef (Cd a1 (show T.heap.size+1≠bg by omega));have l4:=(a8.alloc (Β #[iv s] 3)).kept ef (λe=>by have:=jj _ e.symm;omega);have fa:=(aa.alloc (Β #[iv s] 3)).grown ef (λk' e=>(a6.lt k' e).1);have cw:=Mb (bb.trans (((Κ w6).alloc (Β #[iv s] 3)).grownBy (J gr))) ef (λk' e=>by have:=jj _ e;omega);have l5:T.heap.size+1<w7.heap.size:=by have:=ef.size;rw[Ρ] at this;omega
   have e9:w7.ownsRow w3.heap.size 3 1 (U (J ⟨g7,0,I⟩) (R.length+1) c7) (R.length+1) ((R++[s]).map iv):=by rw[ϩ];exact e9
   clear ef a6 a1 aa bf a8 bb jj;have cn:=Au 0 gl ai.o.2.1.symm s ee;have fn:=gl.frozenAt s;obtain⟨px,bc⟩:=Ba gl s R.length;have eg:=fa.grown bc (λk' e=>by cases e;omega);have dk:=Mb cw bc (λk' e=>by cases e;omega);have py:=e9.kept bc (Cd e9 (by omega));have pz:=l4.kept bc (by simp);have p0:=Ξ l5 bc.size;clear bc e9 gl fa l5 l4 cw ee;go_wp2_with (fail);go_roundw
   case rel=>exact⟨j+1,N.set s R.length,R++[s],_,g7,c7,by omega,by go_num,by rw[Ν];rfl,eg,dk,p0,px,by rw[Ν];exact py,by rw[Ν];exact pz,ji,bj⟩
   simp[intOf]<;>omega
 obtain rfl:j=l.length:=by omega
 by_cases he:R.length=m
 ·have l6:((R.length:Int)==(m:Int))=Α:=by simp[he]
  have HB:=Z (Xe HV.o HL.o HO.o ai.o.1 he);have p1:R.length<=65536:=by omega
  have p2:=Z (TH ai.o.1 (ai.o.2.2 k7).2 (ai.o.2.2 k7).1);have l7:=Z ai.o.2.1;subst he;clear HO ai ix iz fx iy pb pc ez o8;by_cases l8:64<R.length
  ·have l9:(64:Int)<(R.length:Int):=by omega
   have p3:=Z (XV ke.o (by rw[HT.o];exact HL.o) (by rw[HT.o];exact HB.o) l8);have ma:=Z (bm.heap (b6.o.heap H4.o));have p4:=Z Ga;go_wp2_with (first
    | (refine Bk rfl 40 _ rfl #[U I 0 0,U I 0 0,U I 0 0] ?_ ?_;(simp;with_reducible exact p4.o))
    | (refine Sr 40 (δ 4) (δ 127) rfl ma.o Ae rfl Fg ?_))
   refine ω (v:=ϗ #[zD,.int Φ 2]) (Bi rfl _ _ _ _ _ _ _ rfl _ rfl (Χ G _ _ #[U I 0 0,U I 0 0,U I 0 0] 40 (0,0) ma.o) Ο rfl Ae) rfl ?_;refine⟨I,rfl,?_,((du.o.t b6.o).trans bm).setRow (by omega) _⟩;have:=p3.o;rw[HT.o] at this;exact this
  have l9:¬ (64:Int)<(R.length:Int):=by omega
  obtain⟨M,hM⟩:=Xq (R.length);have b9:=Z hM;rw[hM] at l8 p1 b5;simp only[hM] at l9 ⊢;clear hM l6;have p5:=Z (λV (E:Ext G V) y (hy:y<n)=>E.cell (Au 0 e1 l7.o.symm y (by rw[l7.o];exact hy)));have p7:=Z (λV (E:Ext G V) i (hi:i<M)=>E.cell (Au 0 b5 b9.o.symm i (by rw[b9.o];exact hi)));obtain⟨vc,vn,mc,jl,p8⟩:=km.o;obtain⟨ac,cc,jm⟩:=Sl.len jl;rw[<-h7.o] at jm;have fb:=Z jm;clear jm;have eh:=Z ((du.o.t b6.o).trans bm);have qa:=Z (jl.ext eh.o);have qb:=Z (bm.heap (b6.o.heap H0.o));have me:=Z (λV (E:Ext G V)=>(Τ V w.heap.size 0 _ _ _ (E.heap qb.o)).trans (show A[0]? = J vc by rw[mc];rfl));have qc:=Z (λV (E:Ext G V)=>HK.o V ((b6.o.t bm).trans E));have dm:=Z (bm.heap (b6.o.heap H4.o));have qd:=Z (λV (E:Ext G V)=>HR.o.ext (eh.o.t E));have qe:=Z (λV (E:Ext G V) s hs=>(eh.o.t E).cell (ia.o s hs));clear jl p8 mc bm e1 b5 fy;obtain⟨j0,hj,qg,qh,qi⟩:=ϓ Fi;obtain⟨k0,hk,qj,qk,ql⟩:=ϓ L6;go_upto_region 34 with (fail)
  refine Ia 8 186 (by kernel_rfl) (by kernel_rfl) rfl (Q0 G.heap.size M w.heap.size vc) Hk Jr (NC _ _ _ _) (λi gm=>?_) (λvs w5 bw hF hN=>?_)
  ·have gp:=(Κ G).drew
   match i,gm with
   | 0,_=>
    refine Ap _ _ rfl rfl rfl λc W hW bd b4=>?_
    have h3:c.tmps.getD 2 Ω=ε (J ⟨w.heap.size,0,I⟩):=b4 2 (by kernel_rfl);go_simp;exact⟨_,rfl,Κ W,rfl,λ_ _ _ _ _=>trivial⟩
   | 1,_=>
    refine Ap _ _ rfl rfl rfl λc W hW bd b4=>?_
    have h3:c.tmps.getD 128 Ω=ε (J ⟨w.heap.size,0,I⟩):=bd 0 128 (by kernel_rfl);have c0:=me.o W (gp.t hW);rw[fb.o] at c0;go_simp;exact⟨_,rfl,Κ W,fb.o.symm,λ_ _ _ _ _=>trivial⟩
   | 2,_=>
    refine Ap _ _ rfl rfl rfl λc W hW bd b4=>?_
    have h3:c.tmps.getD 11 Ω=.int Φ (M:Int):=b4 11 (by kernel_rfl);go_simp;exact⟨_,rfl,Κ W,rfl,λ_ _ _ _ _=>trivial⟩
   | 3,_=>
    refine Ap _ _ rfl rfl rfl λc W hW bd b4=>?_
    have h3:c.tmps.getD 130 Ω=iv M:=bd 2 130 (by kernel_rfl);refine Gz W _ _ 37 rfl G.heap.size 54 k0 (U I 0 0) 1 Tryz.underlying37 hk qj qk Φ Φ _ _ M h3 h3 rfl rfl (by rw[ql];omega) (by unfold ϐ;omega) (gp.t hW).size ?_;intro W' jn ay;refine⟨_,rfl,(Κ W).grown ay (λk e=>by cases e),⟨_,rfl,?_⟩,λ_ _ _ _ _=>trivial⟩;rw[<-Ju];exact jn
   | 4,_=>
    refine Ap _ _ rfl rfl rfl λc W hW bd b4=>?_
    have h3:c.tmps.getD 11 Ω=.int Φ (M:Int):=b4 11 (by kernel_rfl);go_simp;exact⟨_,rfl,Κ W,rfl,λ_ _ _ _ _=>trivial⟩
   | 5,_=>
    refine Ap _ _ rfl rfl rfl λc W hW bd b4=>?_
    have h3:c.tmps.getD 132 Ω=iv M:=bd 4 132 (by kernel_rfl);refine Gz W _ _ 38 rfl G.heap.size 4 j0 (.bool Ε) 1 ä hj qg qh Φ Φ _ _ M h3 h3 rfl rfl (by rw[qi];omega) (by unfold ϐ;omega) (gp.t hW).size ?_;intro W' jn ay;refine⟨_,rfl,(Κ W).grown ay (λk e=>by cases e),⟨_,rfl,?_⟩,λ_ _ _ _ _=>trivial⟩;rw[<-B8];exact jn
   | 6,_=>
    refine Ap _ _ rfl rfl rfl λc W hW bd b4=>?_
    have h3:c.tmps.getD 129 Ω=vc:=bd 1 129 (by kernel_rfl);obtain⟨g5,mg,h5⟩:∃ g,c.tmps.getD 131 Ω=U (J ⟨g,0,I⟩) M M/\W.ownsRow G.heap.size 54 1 (c.tmps.getD 131 Ω) M (θ M (U I 0 0)):=bd 3 131 (by kernel_rfl);obtain⟨g9,mi,h9⟩:∃ g,c.tmps.getD 133 Ω=U (J ⟨g,0,I⟩) M M/\W.ownsRow G.heap.size 4 1 (c.tmps.getD 133 Ω) M ((θ M Ε).map ϊ):=bd 5 133 (by kernel_rfl);rw[mg] at h5;rw[mi] at h9;refine Cr (Fy 40 _ rfl (A:=dA vc (U (J ⟨g5,0,I⟩) M M) (U (J ⟨g9,0,I⟩) M M)) ?_ W) ?_
    ·have e:(Array.map (λ(i,x)=>(i,c.eval x)) #[(0,Ñ.tmp 129),(1,Ñ.tmp 131),(2,Ñ.tmp 133)]).toList=[(0,c.eval (δ 129)),(1,c.eval (δ 131)),(2,c.eval (δ 133))]:=by simp
     rw[e,show c.eval (δ 129)=vc from h3,show c.eval (δ 131)=_ from mg,show c.eval (δ 133)=_ from mi,fb.o];exact XD _ _ _ _ _ _ _ _ _
    exact⟨_,rfl,Κ W,⟨g5,g9,rfl,h5,h9⟩,λ_ _ _ _ _=>trivial⟩
   | 7,_=>
    refine Ap _ _ rfl rfl rfl λc W hW bd b4=>?_
    go_simp;exact⟨_,rfl,(Κ W).alloc _,⟨_,rfl,Ad W _,(gp.t hW).size⟩,λ_ _ _ _ _=>trivial⟩
  have mj:vs 0=ε (J ⟨w.heap.size,0,I⟩):=hF 0 (by omega);have ml:vs 1=vc:=hF 1 (by omega);have mm:vs 2=iv M:=hF 2 (by omega);obtain⟨r5,mo,-⟩:∃ g,vs 3=U (J ⟨g,0,I⟩) M M/\_:=hF 3 (by omega);have mq:vs 4=iv M:=hF 4 (by omega);obtain⟨r6,mr,-⟩:∃ g,vs 5=U (J ⟨g,0,I⟩) M M/\_:=hF 5 (by omega);obtain⟨g5,g9,mu,c3,c4⟩:∃ g5 g9,vs 6=.agg (dA vc (U (J ⟨g5,0,I⟩) M M) (U (J ⟨g9,0,I⟩) M M))/\_/\_:=hF 6 (by omega);obtain⟨g8,mv,H8,qo⟩:∃ g,vs 7=ε (J ⟨g,0,I⟩)/\_/\_:=hF 7 (by omega);simp only[Bq,Ä,ϰ,mj,ml,mm,mo,mq,mr,mu,mv,Ã,Å,Æ,ó,η,Θ,Μ,Λ];clear hF hN mj ml mm mo mq mr mu mv;go_upto_region 35 with (refine Sr 40 (δ 21) (δ 134) rfl H8 Ae rfl (Av _ _ _ (by rw[fb.o];rfl) rfl rfl) ?_)
  have aa:=((Κ G).drew.t bw).setRow qo (dA vc (U (J ⟨g5,0,I⟩) M M) (U (J ⟨g9,0,I⟩) M M));have jo:=Χ w5 g8 _ (dA vc (U (J ⟨g5,0,I⟩) M M) (U (J ⟨g9,0,I⟩) M M)) _ _ H8;have jq:=c3.kept (Cc w5 g8 (dA vc (U (J ⟨g5,0,I⟩) M M) (U (J ⟨g9,0,I⟩) M M))) (B3 c3 H8 (by decide));have jr:=c4.kept (Cc w5 g8 (dA vc (U (J ⟨g5,0,I⟩) M M) (U (J ⟨g9,0,I⟩) M M))) (B3 c4 H8 (by decide));obtain⟨w6,df⟩:=Xq (w5.setRow g8 (dA vc (U (J ⟨g5,0,I⟩) M M) (U (J ⟨g9,0,I⟩) M M)));rw[df] at aa jo jq jr;simp only[df];clear df H8 c3 c4 bw;have ei:G.heap.size<=w6.heap.size:=aa.size;have H8:=Z jo;clear jo;obtain⟨cd,mw⟩:=Xq ((λj q=>N.getD (t.ent2 (R.getD j 0) q) 0):Nat->Nat->Nat);have my:=Z mw;clear mw;go_wp2_with (fail);go_loopw [137] (λi W=>∃ (s:Nat) (NX:List Δ) (AC:List Bool),s<=M/\i=.int Φ s/\Ext G W/\G.heap.size<=W.heap.size/\ϟ (NX.length=M/\AC.length=M)/\W.ownsRow G.heap.size 54 1 (U (J ⟨g5,0,I⟩) M M) M NX/\W.ownsRow G.heap.size 4 1 (U (J ⟨g9,0,I⟩) M M) M (AC.map ϊ)/\ϟ (W.heap[g8]? = J (Β (dA vc (U (J ⟨g5,0,I⟩) M M) (U (J ⟨g9,0,I⟩) M M)) 40 (0,0)))/\ϟ (∀ j,j<s->OwnI W G.heap.size (NX.getD j Ω) ((π t.cells).map (cd j)))/\ϟ (∀ j,j<s->AC.getD j Ε=t.ok (R.getD j 0)))
   (λi _=>M-(intOf i).toNat)
  case atStart=>exact⟨0,_,_,by omega,rfl,aa,ei,Z ⟨by simp,by simp⟩,jq,jr,H8,Z (λj h=>by omega),Z (λj h=>by omega)⟩
  clear aa ei jq jr H8;obtain⟨s,NX,AC,hs,rfl,hE,ei,bh,c3,c4,H8,HQ,gu⟩:=hrel;by_cases af:s<M
  ·have cr:=p7.o wr hE s af;have mz:=HB.o.blk.mem s (by rw[b9.o];exact af);have gv:=HL.o.lt _ mz;obtain⟨q,dn⟩:=Xq (R.getD s 0);rw[dn] at cr gv;have na:=Z dn;clear dn mz;go_upto_region 38 with (fail)
   clear cr;have ej:=Z (λV (E:Ext wr V)=>show V.cell? ⟨w.heap.size,0,I⟩=J (U ac t.cells cc)/\V.cell? ⟨g8,1,I⟩=J (U (J ⟨g5,0,I⟩) M M) from
    ⟨(me.o V (hE.t E)).trans (by rw[fb.o]),(Τ V g8 1 _ _ _ (E.heap H8.o)).trans rfl⟩)
   have qp:(s:Int)<(M:Int):=by omega
   refine Bl 8 [(0,Α),(1,Α),(2,Α),(3,Α),(4,Α),(5,Α),(6,Ε),(7,Α),(8,Ε)] (by kernel_rfl) (by kernel_rfl) (λ_ _ _ _ h=>h) (λV=>Ext wr V) (Κ wr).drew ?_;have H:=(Κ wr).drew;obtain⟨wy,ak⟩:=Xq (wr.drew);rw[ak] at H;rw[ak];clear ak;iterate 6
    refine Af (v:=?_) rfl rfl (λV E=>?_) ?_
    rotate_left
    ·obtain⟨k0,k8⟩:=ej.o V E;clear E;go_simp;first|done|with_reducible rfl
    simp only[η,Θ,Μ,Λ]
   refine Ao rfl (λKk hK=>?_);refine GE wy rfl _ _ 54 rfl wy.heap.size 3 i0 (.int Φ 0) 1 Ϥ hi fm fp Φ Φ _ _ t.cells rfl rfl rfl rfl (by rw[fq];omega) (by unfold ϐ;omega) (Υ _) ?_;intro w7 nb nc;have dp:=H.grown nc (λk e=>by cases e);refine hK _ _ (λ_=>dp) ?_;clear hK Kk;have fa:=hE.t dp;have cj:=Aa c3 dp;have js:=Aa c4 dp;have cw:w7.ownsRow wy.heap.size 3 1 (U (J ⟨wy.heap.size,0,I⟩) t.cells t.cells) t.cells ((Cv (cd s) t.cells 0).map iv):=by rw[Mc,<-B8];exact nb
   have gw:=Z (dp.heap H8.o);have fe:=Z (λj h1=>ï (Aa (HQ.o j h1) dp) (λe=>(show ∀ k,(NX.getD j Ω).ownBlock=J k->k<wy.heap.size from λk e=>Ξ ((HQ.o j h1).lt k e).2 H.size) wy.heap.size e));have jt:G.heap.size<=wy.heap.size:=μ ei H.size;have nd:wy.heap.size<w7.heap.size:=(cw.lt _ rfl).2;clear nb nc HQ c3 c4 H8 hE ei ej;obtain⟨gn,ff⟩:=Xq (wy.heap.size);rw[ff] at cw jt nd fe;simp only[ff];clear ff H;have c5:=C7 cj s (by rw[bh.o.1];exact af);have f5:=cj.frozenAt s;have qq:G.heap.size<=g5:=(cj.lt g5 rfl).1;obtain⟨ek,bc⟩:=cj.stored s (U (J ⟨gn,0,I⟩) t.cells t.cells);have eg:=fa.grown bc (λk e=>by cases e;exact qq);have gx:=js.kept bc (Aj js cj (by decide));have dk:=cw.kept bc (Aj cw cj (by decide));have fh:ϟ ((w7.setCell ⟨g5,s,I⟩ (U (J ⟨gn,0,I⟩) t.cells t.cells)).heap[g8]? = J (Β (dA vc (U (J ⟨g5,0,I⟩) M M) (U (J ⟨g9,0,I⟩) M M)) 40 (0,0))):=Z ((bc.block g8 (Al gw.o) (λe=>by
    have h1:=gw.o;obtain⟨C,hC,-⟩:=Ek cj;injection e with e
    rw[e,hC] at h1;injection h1 with h1
    injection h1 with _ h2 _
    exact absurd h2 (by decide))).trans gw.o)
   have ju:=Z (λj h1=>(fe.o j h1).1.kept bc (Aj (fe.o j h1).1 cj (by decide)));have qs:gn<(w7.setCell ⟨g5,s,I⟩ (U (J ⟨gn,0,I⟩) t.cells t.cells)).heap.size:=(dk.lt _ rfl).2;iterate 1
    refine Af (v:=?_) rfl rfl (λV E=>?_) ?_
    rotate_left
    ·clear E;go_simp;first|done|with_reducible rfl
    simp only[η,Θ,Μ,Λ]
   refine Ao rfl (λKk hK=>?_);go_simp;refine hK _ _ (λh=>absurd h (by omega)) ?_;clear hK Kk;refine Bj ?_;clear c5 f5 bc gw cj js cw fa dp nd;obtain⟨w8,jw⟩:=Xq (w7.setCell ⟨g5,s,I⟩ (U (J ⟨gn,0,I⟩) t.cells t.cells));rw[jw] at ek eg gx dk fh ju qs;simp only[jw];clear jw;have nf:=Z (λj h1=>(fe.o j h1).2);clear fe;obtain⟨br,or',pg,ng,e2⟩:=qd.o G (Κ G) q gv;have ga:=eg.cell ng;have k1:=qc.o w8 eg;have qt:q<n:=by rw[<-HN.o];exact gv
   have jb:=Z (λV (E:Ext G V) k (hk:k<t.cells)=>E.cell (e2 k hk));have jx:NX.length=M:=bh.o.1;clear e2 ng;go_wp2_with (fail);clear k1 ga;have gy:=Z dk;go_loopw [156] (λi W=>∃ k:Nat,k<=t.cells/\i=.int Φ k/\w8.grownBy W (J gn)/\W.ownsRow gn 3 1 (U (J ⟨gn,0,I⟩) t.cells t.cells) t.cells ((Cv (cd s) t.cells k).map iv))
    (λi _=>t.cells-(intOf i).toNat)
   case atStart=>exact⟨0,by omega,rfl,Γ.grownBy.refl _ _,dk⟩
   clear dk;obtain⟨k,r7,rfl,hg,hX⟩:=hrel;have eo:=eg.grown hg (λk e=>by cases e;exact jt);have nh:g5≠gn:=λe=>by
    obtain⟨C,hC,-⟩:=Ek hX;have ep:=ek.kept hg (Aj ek (show w8.ownsRow gn 3 1 (U (J ⟨gn,0,I⟩) t.cells t.cells) t.cells _ from gy.o) (by decide));obtain⟨C5,gz,-⟩:=Ek ep;rw[e,hC] at gz;injection gz with gz
    injection gz with _ h2 _
    exact absurd h2 (by decide)
   have ni:g8≠gn:=λe=>by
    have h1:=fh.o;obtain⟨C,hC,-⟩:=Ek gy.o;rw[e,hC] at h1;injection h1 with h1
    injection h1 with _ h2 _
    exact absurd h2 (by decide)
   have ep:=ek.kept hg (Cd ek nh);have jy:=gx.kept hg (Aj gx gy.o (by decide));have er:=Z ((hg.block g8 (Al fh.o) (λe=>ni (by injection e))).trans fh.o);by_cases hh:k<t.cells
   ·have ct:=jb.o wr eo k hh;have cu:=HV.o.tgt q gv k hh;rw[HN.o] at cu;have fj:cd s k=N.getD (t.ent2 q k) 0:=by rw[<-my.o,<-na.o]
    obtain⟨y,dh⟩:=Xq (t.ent2 q k);have cu:y<n:=by rw[<-dh];exact cu
    rw[dh] at ct fj;clear dh;have c5:=C7 ep s (by rw[υ,jx];exact af);rw[B7 (by rw[jx];exact af)] at c5;have ej:=Z (λV (E:Ext wr V)=>show V.cell? ⟨g8,1,I⟩=J (U (J ⟨g5,0,I⟩) M M)/\V.cell? ⟨g5,s,I⟩=J (U (J ⟨gn,0,I⟩) t.cells t.cells)/\V.cell? ⟨T.heap.size+1,y,I⟩=J (iv (N.getD y 0)) from
     ⟨(Τ V g8 1 _ _ _ (E.heap er.o)).trans rfl,E.cell c5,p5.o V (eo.t E) y cu⟩)
    obtain⟨z,e6⟩:=Xq (N.getD y 0);rw[e6] at ej fj;clear e6 c5;have r9:(k:Int)<(t.cells:Int):=by omega
    have sa:(y:Int)<(n:Int):=by omega
    go_upto_region 42 with (fail)
    clear ct;refine Bl 11 [(0,Α),(1,Α),(2,Α),(3,Α),(4,Α),(5,Α),(6,Α),(7,Α),(8,Α),(9,Α),(10,Α),(11,Ε)] (by kernel_rfl) (by kernel_rfl) (λ_ _ _ _ h=>h) (λV=>Ext wr V) (Κ wr).drew ?_;have H:=(Κ wr).drew;obtain⟨wy,ak⟩:=Xq (wr.drew);rw[ak] at H;rw[ak];clear ak;iterate 11
     refine Af (v:=?_) rfl rfl (λV E=>?_) ?_
     rotate_left
     ·obtain⟨k8,k5,kN⟩:=ej.o V E;clear E;go_simp;first|done|with_reducible rfl
     simp only[η,Θ,Μ,Λ]
    have c8:=Aa hX H;have co:=Au 0 c8 (E1 _ _ _).symm k (by rw[E1];exact hh);have fo:=c8.frozenAt k;obtain⟨et,ay⟩:=Ba c8 k z;rw[<-fj,J6 (cd s) _ _ hh] at et;rw[fj] at et;have ff:=(hg.trans (H.grownBy (J gn))).trans ay;refine Ao rfl (λKk hK=>?_);go_simp;refine hK _ _ (λh=>absurd h (by omega)) ?_;clear hK Kk;refine Bj ?_;clear co fo ay c8 hX hg H ej ep jy eo fj;go_wp2_with (fail);go_roundw
    case rel=>exact⟨k+1,by omega,by go_num,ff,et⟩
    simp[intOf]<;>omega
   obtain rfl:k=t.cells:=by omega
   rw[Ok] at hX;have nk:=Z (λj h1=>(ju.o j h1).kept hg (.inr λe=>absurd ((nf.o j h1) e) (Nat.lt_irrefl _)));clear nh ni ju nf ek gx fh;obtain⟨c9,j1⟩:=Xq (t.ok q);have nl:=Z (λV (E:Ext wr V)=>show V.cell? ⟨g8,2,I⟩=J (U (J ⟨g9,0,I⟩) M M)/\V.cell? ⟨ba,oa+q,I⟩=J (.bool c9) from
    ⟨(Τ V g8 2 _ _ _ (E.heap er.o)).trans rfl,by rw[<-j1];exact qe.o V (eo.t E) q qt⟩)
   have qp:(s:Int)<(M:Int):=by omega
   have sd:(q:Int)<(n:Int):=by omega
   go_upto_region 44 with (fail)
   refine Bl 8 [(0,Α),(1,Α),(2,Α),(3,Α),(4,Α),(5,Α),(6,Α),(7,Α),(8,Ε)] (by kernel_rfl) (by kernel_rfl) (λ_ _ _ _ h=>h) (λV=>Ext wr V) (Κ wr).drew ?_;have H:=(Κ wr).drew;obtain⟨wy,ak⟩:=Xq (wr.drew);rw[ak] at H;rw[ak];clear ak;iterate 8
    refine Af (v:=?_) rfl rfl (λV E=>?_) ?_
    rotate_left
    ·obtain⟨k8,kA⟩:=nl.o V E;clear E;go_simp;first|done|with_reducible rfl
    simp only[η,Θ,Μ,Λ]
   have cm:=Aa jy H;have j2:=Aa ep H;have c8:=Aa hX H;have co:=Au Ε cm bh.o.2.symm s (by rw[bh.o.2];exact af);have fo:=cm.frozenAt s;have qu:G.heap.size<=g9:=(cm.lt g9 rfl).1;obtain⟨nm,ay⟩:=Ba (f:=ϊ) cm s c9;have j3:=(eo.t H).grown ay (λk e=>by cases e;exact qu);have nn:=j2.kept ay (Aj j2 cm (by decide));have et:=c8.kept ay (Aj c8 cm (by decide));have np:ϟ ((wy.setCell ⟨g9,s,I⟩ (.bool c9)).heap[g8]? = J (Β (dA vc (U (J ⟨g5,0,I⟩) M M) (U (J ⟨g9,0,I⟩) M M)) 40 (0,0))):=Z ((ay.block g8 (Al (H.heap er.o)) (λe=>by
    have h1:=H.heap er.o;obtain⟨C,hC,-⟩:=Ek cm;injection e with e
    rw[e,hC] at h1;injection h1 with h1
    injection h1 with _ h2 _
    exact absurd h2 (by decide))).trans (H.heap er.o))
   have nq:ϟ (∀ j,j<s+1->OwnI (wy.setCell ⟨g9,s,I⟩ (.bool c9)) G.heap.size ((NX.set s (U (J ⟨gn,0,I⟩) t.cells t.cells)).getD j Ω) ((π t.cells).map (cd j))):=Z (λj qv=>by
    by_cases e:j=s
    ·subst e;rw[B7 (by rw[jx];exact af)];have:=Ff et jt;unfold OwnI;rw[ι,List.length_range];exact this
    rw[Be e];have h1:=Aa (nk.o j (by omega)) H;exact h1.kept ay (Aj h1 cm (by decide)))
   have qw:ϟ (∀ j,j<s+1->(AC.set s c9).getD j Ε=t.ok (R.getD j 0)):=Z (λj qv=>by
    by_cases e:j=s
    ·subst e;rw[B7 (by rw[bh.o.2];exact af),na.o,j1]
    rw[Be e];exact gu.o j (by omega))
   have qx:ϟ ((NX.set s (U (J ⟨gn,0,I⟩) t.cells t.cells)).length=M/\(AC.set s c9).length=M):=Z ⟨by rw[υ];exact bh.o.1,by rw[υ];exact bh.o.2⟩;have nr:=j3.size;refine Ao rfl (λKk hK=>?_);go_simp;refine hK _ _ (λh=>absurd h (by omega)) ?_;clear hK Kk;refine Bj ?_;clear co fo ay cm j2 c8 hX hg H nl ep jy eo et nk gu er bh j1 gy;obtain⟨wF,j4⟩:=Xq (wy.setCell ⟨g9,s,I⟩ (.bool c9));rw[j4] at nm j3 nn np nq nr;try simp only[j4]
   clear j4;go_wp2_with (fail);go_roundw
   case rel=>exact⟨s+1,_,AC.set s c9,by omega,by go_num,j3,nr,qx,nn,nm,np,nq,qw⟩
   simp[intOf]<;>omega
  obtain rfl:s=M:=by omega
  obtain⟨d,hd⟩:=Xq (Dfa.mk L ((π s).map λj=>(π t.cells).map (cd j)) AC:Dfa);have dn:QuotD L t (λs=>N.getD s 0) R d:=by
   rw[<-hd];refine⟨rfl,by rw[b9.o];simp,by rw[b9.o];exact bh.o.2,λi hi=>?_,λi hi k hk=>?_,λi hi=>?_⟩
   ·rw[b9.o] at hi;show (((π s).map λj=>(π t.cells).map (cd j)).getD i []).length=_;rw[E0 _ _ _ _ hi,<-h7.o];simp
   ·rw[b9.o] at hi;rw[<-h7.o] at hk;show (((π s).map λj=>(π t.cells).map (cd j)).getD i []).getD k 0=_;rw[E0 _ _ _ _ hi,E0 _ _ _ _ hk,<-my.o]
   rw[b9.o] at hi;exact gu.o i hi
  have ns:=JV ke.o (l:=l) (B:=λs=>N.getD s 0) (R:=R) (by rw[HT.o];exact HL.o) (by rw[HT.o];exact HB.o) p2.o (by rw[HT.o];exact dn);rw[HT.o] at ns;obtain⟨j5,nt⟩:=ns;have j6:d.n.length=s:=by rw[dn.len,b9.o]
  have nu:IsD wr (.agg (dA vc (U (J ⟨g5,0,I⟩) s s) (U (J ⟨g9,0,I⟩) s s))) d:=by
   refine⟨vc,_,_,rfl,by rw[<-hd];exact qa.o.ext hE,?_,?_⟩
   ·rw[<-hd];refine⟨NX,by rw[bh.o.1];simp,?_,λi hi=>?_⟩
    ·have:=Sl.of_owns c3 (show s<=4611686018427387904 by omega) Ω;simp only[ι,List.length_range];exact this
    have gm:i<s:=by simpa using hi
    have h1:=HQ.o i gm;simp only;rw[E0 _ _ _ _ gm];exact h1.ints (by simp;omega)
   have h9:OwnB wr G.heap.size (U (J ⟨g9,0,I⟩) s s) AC:=by unfold OwnB;rw[bh.o.2];exact c4
   rw[<-hd];exact h9.bools (by rw[bh.o.2];omega)
  have qy:=Z (Tg d j5 (by rw[j6];omega) _ wr (oe.o wr (eh.o.t hE)) (Ξ kc (eh.o.t hE).size) nu);have dm:=Z (hE.heap dm.o);have qz:=Z nt;have q4:=Z j5;have q5:=Z j6;have HE:=Z (eh.o.t hE);clear j5 j6 nt nu dn c3 c4 HQ gu hE ei hd;go_wp2_with (first
   | (refine Lr 40 (δ 21) H8.o Ο Ae ?_)
   | (go_at_call 80;(with_reducible refine qy.o.mono ?_);rintro e w9 ⟨r,j7,nv,nw,ny⟩;obtain⟨n0,n1,n2,n3,n4,n5,n9,ob,oc,k2,rfl⟩:=j7.form;have q8:=Z j7;have j8:=Z nv;have od:=Z nw;clear j7 nv nw;have dm:=Z (ny.heap dm.o))
   | (refine Sr 40 (δ 4) (δ 184) rfl dm.o Ae rfl (Av _ _ _ rfl rfl rfl) ?_))
  refine ω (v:=ϗ #[.agg (dA (U n0 n1 n2) (U n3 n4 n5) (U n9 ob oc)),.int Φ k2]) (Bi rfl _ _ _ _ _ _ _ rfl _ rfl (Χ w9 _ _ (dA (U n0 n1 n2) (U n3 n4 n5) (U n9 ob oc)) 40 (0,0) dm.o) Ο rfl Ae) rfl ?_;refine⟨J r,q8.o.setRow (λd' h=>by injection h with h;subst h;exact j8.o.val) dm.o _,⟨j8.o,λx=>by rw[od.o,qz.o],?_⟩,(HE.o.t ny).setRow (by omega) _⟩;have:=O0 j8.o q4.o (λx=>by rw[od.o]);rw[q5.o] at this;omega
 have l6:((R.length:Int)==(m:Int))=Ε:=by simp;omega
 obtain⟨j9,si⟩:=Xd HV.o HL.o HO.o (by omega) (by rw[ai.o.2.1,HN.o]) ai.o.1 he;have j9:=Z j9;have q9:ϟ (∀ s,s<n->G.cell? ⟨T.heap.size+1,s,I⟩=J (iv (N.getD s 0))):=Z λs hs=>Au 0 e1 ai.o.2.1.symm s (by rw[ai.o.2.1];exact hs)
 clear he;go_wp2_with (fail);go_roundw
 case rel=>exact⟨N,R,R.length,T.heap.size+1,_,bg,de,rfl,rfl,rfl,bm,fy,by omega,q9,b5,j9⟩
 simp[intOf]<;>omega
theorem Pp (a s g:Nat) (W:Γ) (hc:W.cell? ⟨g,0,I⟩=J (iv a)) :
  ϛ Η 106 #[iv s,ε (J ⟨g,0,I⟩)] W λe w'=>e=.returned (iv (swp a s))/\w'=W:=by
 go_enter Tryz.func106,Tryz.ntmps106;unfold swp;obtain⟨H,h0⟩:=Xq (((s:Int)==0));obtain⟨b1,h1⟩:=Xq (((s:Int)==(a:Int)));have E:(s=0)↔H=Α:=by rw[<-h0];simp
 have G:(s=a)↔b1=Α:=by rw[<-h1];simp;omega
 cases H
 ·rw[if_neg (λh=>by simpa using E.1 h)];cases b1
  ·rw[if_neg (λh=>by simpa using G.1 h)];clear E G;go_wp2;go_ret;exact⟨rfl,rfl⟩
  rw[if_pos (G.2 rfl)];clear E G;go_wp2;go_ret;exact⟨rfl,rfl⟩
 rw[if_pos (E.2 rfl)];clear E G;go_wp2;go_ret;exact⟨rfl,rfl⟩
def R5 (E n G:Nat) (vc T:Δ):Nat->Δ->Γ->Prop
 | 0,v,_=>v=ε (J ⟨G,0,I⟩)
 | 1,v,_=>v=vc
 | 2,v,_=>v=ε (J ⟨G,1,I⟩)
 | 3,v,_=>v=T
 | 4,v,_=>v=iv n
 | 5,v,W=>∃ g,v=U (J ⟨g,0,I⟩) n n/\W.ownsRow E 54 1 v n (θ n (U I 0 0))
 | 6,v,W=>∃ H,v=.agg #[vc,U (J ⟨H,0,I⟩) n n]/\W.ownsRow E 54 1 (U (J ⟨H,0,I⟩) n n) n (θ n (U I 0 0))
 | _,v,W=>∃ g,v=ε (J ⟨g,0,I⟩)/\W.heap[g]? = J (Β #[U I 0 0,U I 0 0] 128 (0,0))/\E<=g
theorem SX (H n T:Nat) (vc X:Δ):∀ (i:Nat) (v:Δ) (w w':Γ),R5 H n T vc X i v w->Ext w w'->R5 H n T vc X i v w'
 | 0,_,_,_,h,_=>h
 | 1,_,_,_,h,_=>h
 | 2,_,_,_,h,_=>h
 | 3,_,_,_,h,_=>h
 | 4,_,_,_,h,_=>h
 | 5,_,_,_,⟨g,h1,E⟩,G=>⟨g,h1,Aa E G⟩
 | 6,_,_,_,⟨g,h1,E⟩,G=>⟨g,h1,Aa E G⟩
 | _+7,_,_,_,⟨g,h1,E,h3⟩,G=>⟨g,h1,G.heap E,h3⟩
theorem Tn (a E:Option Addr) (n G c H:Nat):Η.built 128 [(0,U a n c),(1,U E G H)]=J #[U a n c,U E G H]:=by kernel_rfl
theorem SW (d:Dfa) (hv:Val d) (hn:d.n.length<=64) (a:Nat) (bg:a<d.n.length) (v:Δ) (w:Γ) (hT:Tab w) (e5:0<w.heap.size) (h:IsD w v d) :
  ϛ Η 84 #[v,iv a] w λe w'=>∃ r,ResOf w' e (J r)/\Cano r/\r.n.length<=64/\(∀ x,r.has x=d.ok (d.run a x))/\Ext w w':=by
 have ia:=Z (λW (X:Ext w W)=>hT.below X.below e5);have HV:=Z hv;have HI:=Z h;obtain⟨vc,vn,va,rfl,hC,hN,hA⟩:=h;obtain⟨ac,H,ib⟩:=Sl.len hC;obtain⟨bn,on,cn,ic,hR⟩:=Lh hN d.cls.length hv.pos hv.parts.pos hv.row;obtain⟨ba,oa,ca,e9,fa⟩:=â hA (by rw[hv.accL];exact hv.pos);have HC:=Z hC;have HR:=Z hR;have fc:ϟ (∀ s,s<d.n.length->w.cell? ⟨ba,oa+s,I⟩=J (.bool (d.ok s))):=Z λs hs=>fa s (by rw[hv.accL];omega)
 rw[hv.accL] at e9;subst ib ic e9;have ie:=hv.parts.pos;have ig:=hv.parts.le;have ih:=hv.pos;clear hC hN hA hR fa hv hT;obtain⟨i0,hi,ik,il,im⟩:=ϓ Dw;obtain⟨j0,hj,iw,ix,iy⟩:=ϓ Fi;obtain⟨k0,hk,ja,jb,jc⟩:=ϓ L6;obtain⟨n,c4⟩:=Xq (d.n.length);obtain⟨m,c6⟩:=Xq (d.cls.length);have HN:=Z c4;have HM:=Z c6;rw[c4] at hn bg ih HR fc HI;rw[c6] at ie ig HR HI HC;rw[c4,c6];clear c4 c6;obtain⟨Va,dv⟩:=Xq (dA (U ac m H) (U (J ⟨bn,on,I⟩) n cn) (U (J ⟨ba,oa,I⟩) n ca));have dw:=Z dv;have dx:=(((Κ w).alloc (Β Va 40)).alloc (Β #[iv a] 3)).alloc (Β #[U I 0 0,U I 0 0,U I 0 0] 40);have H2:=Ah (Ah (Ad w (Β Va 40)) (Β #[iv a] 3)) (Β #[U I 0 0,U I 0 0,U I 0 0] 40);have H3:=Ah (ϒ w (Β Va 40) (Β #[iv a] 3)) (Β #[U I 0 0,U I 0 0,U I 0 0] 40);have H4:=Ad ((w.alloc (Β Va 40)).alloc (Β #[iv a] 3)) (Β #[U I 0 0,U I 0 0,U I 0 0] 40);rw[Ρ,Ρ] at H4;rw[show (#[U ac m H,U (J ⟨bn,on,I⟩) n cn,U (J ⟨ba,oa,I⟩) n ca]:Array Δ)=Va from dv];clear dv;go_enter Tryz.func84,Tryz.ntmps84;go_upto_region 2 with (fail)
 obtain⟨w1,dy⟩:=Xq (((w.alloc (Β Va 40)).alloc (Β #[iv a] 3)).alloc (Β #[U I 0 0,U I 0 0,U I 0 0] 40));rw[dy] at dx H2 H3 H4;simp only[dy];clear dy;have bu:=Z dx;have H3:=Z H3;have H4:=Z H4;have ff:=Z (λV (E:Ext w1 V)=>(Τ V w.heap.size 0 _ _ _ (E.heap H2)).trans (show Va[0]? = J (U ac m H) by rw[<-dw.o];rfl));have c8:=Z (λV (E:Ext w1 V)=>(Τ V w.heap.size 1 _ _ _ (E.heap H2)).trans (show Va[1]? = J (U (J ⟨bn,on,I⟩) n cn) by rw[<-dw.o];rfl));have jd:=Z (λV (E:Ext w1 V)=>(Τ V w.heap.size 2 _ _ _ (E.heap H2)).trans (show Va[2]? = J (U (J ⟨ba,oa,I⟩) n ca) by rw[<-dw.o];rfl));have dz:=Z (λV (E:Ext w1 V)=>(Τ V (w.heap.size+1) 0 _ _ _ (E.heap H3.o)).trans (show (#[iv a]:Array Δ)[0]? = J (iv a) from rfl));have je:=Z (λs (hs:s<n)=>HR.o.ext bu.o s hs);have jf:=Z (λV (E:Ext w1 V) s hs=>(bu.o.t E).cell (fc.o s hs));clear dx H2;refine Ia 8 76 (by kernel_rfl) (by kernel_rfl) rfl (R5 w1.heap.size n w.heap.size (U ac m H) (U (J ⟨bn,on,I⟩) n cn)) Hk Jr (SX _ _ _ _ _) (λi c9=>?_) (λvs w5 fg hF hN=>?_)
 ·have da:=(Κ w1).drew
  match i,c9 with
  | 0,_=>
   refine Ap _ _ rfl rfl rfl λc W X aa a1=>?_
   have h3:c.tmps.getD 2 Ω=ε (J ⟨w.heap.size,0,I⟩):=a1 2 (by kernel_rfl);go_simp;exact⟨_,rfl,Κ W,rfl,λ_ _ _ _ _=>trivial⟩
  | 1,_=>
   refine Ap _ _ rfl rfl rfl λc W X aa a1=>?_
   have h3:c.tmps.getD 14 Ω=ε (J ⟨w.heap.size,0,I⟩):=aa 0 14 (by kernel_rfl);have c0:=ff.o W (da.t X);go_simp;exact⟨_,rfl,Κ W,rfl,λ_ _ _ _ _=>trivial⟩
  | 2,_=>
   refine Ap _ _ rfl rfl rfl λc W X aa a1=>?_
   have h3:c.tmps.getD 2 Ω=ε (J ⟨w.heap.size,0,I⟩):=a1 2 (by kernel_rfl);go_simp;exact⟨_,rfl,Κ W,rfl,λ_ _ _ _ _=>trivial⟩
  | 3,_=>
   refine Ap _ _ rfl rfl rfl λc W X aa a1=>?_
   have h3:c.tmps.getD 16 Ω=ε (J ⟨w.heap.size,1,I⟩):=aa 2 16 (by kernel_rfl);have c1:=c8.o W (da.t X);go_simp;exact⟨_,rfl,Κ W,rfl,λ_ _ _ _ _=>trivial⟩
  | 4,_=>
   refine Ap _ _ rfl rfl rfl λc W X aa a1=>?_
   have h3:c.tmps.getD 17 Ω=U (J ⟨bn,on,I⟩) n cn:=aa 3 17 (by kernel_rfl);go_simp;exact⟨_,rfl,Κ W,rfl,λ_ _ _ _ _=>trivial⟩
  | 5,_=>
   refine Ap _ _ rfl rfl rfl λc W X aa a1=>?_
   have h3:c.tmps.getD 18 Ω=iv n:=aa 4 18 (by kernel_rfl);refine Gz W _ _ 37 rfl w1.heap.size 54 k0 (U I 0 0) 1 Tryz.underlying37 hk ja jb Φ Φ _ _ n h3 h3 rfl rfl (by rw[jc];omega) (by unfold ϐ;omega) (da.t X).size ?_;intro W' jg ai;refine⟨_,rfl,(Κ W).grown ai (λk e=>by cases e),⟨_,rfl,?_⟩,λ_ _ _ _ _=>trivial⟩;rw[<-Ju];exact jg
  | 6,_=>
   refine Ap _ _ rfl rfl rfl λc W X aa a1=>?_
   have h3:c.tmps.getD 15 Ω=U ac m H:=aa 1 15 (by kernel_rfl);obtain⟨G,fh,h5⟩:∃ g,c.tmps.getD 19 Ω=U (J ⟨g,0,I⟩) n n/\W.ownsRow w1.heap.size 54 1 (c.tmps.getD 19 Ω) n (θ n (U I 0 0)):=aa 5 19 (by kernel_rfl);rw[fh] at h5;refine Cr (Fy 128 _ rfl (A:=#[U ac m H,U (J ⟨G,0,I⟩) n n]) ?_ W) ?_
   ·have e:(Array.map (λ(i,x)=>(i,c.eval x)) #[(0,Ñ.tmp 15),(1,Ñ.tmp 19)]).toList=[(0,c.eval (δ 15)),(1,c.eval (δ 19))]:=by simp
    rw[e,show c.eval (δ 15)=_ from h3,show c.eval (δ 19)=_ from fh];exact Tn _ _ _ _ _ _
   exact⟨_,rfl,Κ W,⟨G,rfl,h5⟩,λ_ _ _ _ _=>trivial⟩
  | 7,_=>
   refine Ap _ _ rfl rfl rfl λc W X aa a1=>?_
   go_simp;exact⟨_,rfl,(Κ W).alloc _,⟨_,rfl,Ad W _,(da.t X).size⟩,λ_ _ _ _ _=>trivial⟩
 have fk:vs 0=ε (J ⟨w.heap.size,0,I⟩):=hF 0 (by omega);have fl:vs 1=U ac m H:=hF 1 (by omega);have fm:vs 2=ε (J ⟨w.heap.size,1,I⟩):=hF 2 (by omega);have fp:vs 3=U (J ⟨bn,on,I⟩) n cn:=hF 3 (by omega);have fq:vs 4=iv n:=hF 4 (by omega);obtain⟨j6,fs,-⟩:∃ g,vs 5=U (J ⟨g,0,I⟩) n n/\_:=hF 5 (by omega);obtain⟨G,ft,bc⟩:∃ G,vs 6=.agg #[U ac m H,U (J ⟨G,0,I⟩) n n]/\_:=hF 6 (by omega);obtain⟨T,fu,H7,jh⟩:∃ g,vs 7=ε (J ⟨g,0,I⟩)/\_/\_:=hF 7 (by omega);simp only[Bq,Ä,ϰ,fk,fl,fm,fp,fq,fs,ft,fu,Ã,Å,Æ,ó,η,Θ,Μ,Λ];clear hF hN fk fl fm fp fq fs ft fu;go_upto_region 3 with (refine Sr 128 (δ 7) (δ 20) rfl H7 Fv rfl (by simp[ξ]) ?_)
 have b8:=((Κ w1).drew.t fg).setRow jh #[U ac m H,U (J ⟨G,0,I⟩) n n];have db:=Χ w5 T _ #[U ac m H,U (J ⟨G,0,I⟩) n n] _ _ H7;have eb:=bc.kept (Cc w5 T #[U ac m H,U (J ⟨G,0,I⟩) n n]) (B3 bc H7 (by decide));obtain⟨w6,ec⟩:=Xq (w5.setRow T #[U ac m H,U (J ⟨G,0,I⟩) n n]);rw[ec] at b8 db eb;simp only[ec];clear ec H7 bc fg;have k1:=c8.o w6 b8;go_upto_region 4 with (at_make;refine Ϟ _ rfl _ _ 38 rfl w1.heap.size 4 j0 (.bool Ε) 1 ä hj iw ix Φ Φ _ _ n rfl rfl rfl rfl (by rw[iy];omega) (by unfold ϐ;omega) b8.size ?_;intro w7 b9 aj)
 have an:=b8.grown aj (λk e=>by cases e);have cb:=Bz eb aj;have cd:=Z ((aj.block T (Al db) (by simp)).trans db);obtain⟨gA,ed⟩:=Xq (w6.heap.size);have cf:w7.ownsRow w1.heap.size 4 1 (U (J ⟨gA,0,I⟩) n n) n ((θ n Ε).map ϊ):=by rw[<-ed,<-B8];exact b9
 simp only[ed];clear b9 aj eb db ed b8 k1;have k1:=c8.o w7 an;go_wp2_with (fail);clear k1;have bz:=an.size;go_loopw [28] (λi W=>∃ (s:Nat) (NX:List Δ) (AC:List Bool),s<=n/\i=.int Φ s/\Ext w1 W/\w1.heap.size<=W.heap.size/\ϟ (NX.length=n/\AC.length=n)/\W.ownsRow w1.heap.size 54 1 (U (J ⟨G,0,I⟩) n n) n NX/\W.ownsRow w1.heap.size 4 1 (U (J ⟨gA,0,I⟩) n n) n (AC.map ϊ)/\ϟ (W.heap[T]? = J (Β #[U ac m H,U (J ⟨G,0,I⟩) n n] 128 (0,0)))/\ϟ (∀ j,j<s->OwnI W w1.heap.size (NX.getD j Ω) ((π m).map λq=>swp a (d.ent2 (swp a j) q)))/\ϟ (∀ j,j<s->AC.getD j Ε=d.ok (swp a j)))
  (λi _=>n-(intOf i).toNat)
 case atStart=>exact⟨0,_,_,by omega,rfl,an,bz,Z ⟨by simp,by simp⟩,cb,cf,cd,Z (λj h=>by omega),Z (λj h=>by omega)⟩
 clear an bz cb cf cd;obtain⟨s,NX,AC,hs,rfl,hE,bz,HL,bc,dc,H7,HQ,dd⟩:=hrel;by_cases cj:s<n
 ·have ji:=ff.o wr hE;go_upto_region 8 with (at_make;refine Ϟ _ rfl _ _ 54 rfl wr.heap.size 3 i0 (.int Φ 0) 1 Ϥ hi ik il Φ Φ _ _ m rfl rfl rfl rfl (by rw[im];omega) (by unfold ϐ;omega) (Υ _) ?_;intro w7 b9 aj)
  have an:=hE.grown aj (λk e=>by cases e);have cb:=Bz bc aj;have cf:=Bz dc aj;have cd:=Z ((aj.block T (Al H7.o) (by simp)).trans H7.o);have de:w7.ownsRow wr.heap.size 3 1 (U (J ⟨wr.heap.size,0,I⟩) m m) m ((Cv (λq=>swp a (d.ent2 (swp a s) q)) m 0).map iv):=by rw[Mc,<-B8];exact b9
  have df:=Z (λj h1=>ï (Bz (HQ.o j h1) aj) (λe=>(show ∀ k,(NX.getD j Ω).ownBlock=J k->k<wr.heap.size from λk e=>((HQ.o j h1).lt k e).2) wr.heap.size e));have ee:w1.heap.size<=wr.heap.size:=bz;obtain⟨gn,ck⟩:=Xq (wr.heap.size);rw[ck] at de ee df;simp only[ck];clear ck b9 aj HQ bc dc H7 hE bz ji;have ef:=Ih bg cj;obtain⟨q,hq⟩:=Xq (swp a s);have eg:=Z hq;rw[hq] at ef de;have k1:=Aw (c8.o w7 an);obtain⟨br,or',cr,fw,fx⟩:=je.o q ef;have jk:=Aw (an.cell fw);have jl:=Z fx;have bh:=λ(e:EW w7)=>Z (Pp a s (w.heap.size+1) e.W (dz.o e.W (an.t e.ext)))
  rw[hq] at bh;have eh:=enters_of Tryz.func106 (by kernel_rfl) rfl;clear hq fw fx;refine B2 (by kernel_rfl) (by kernel_rfl) ?_;iterate 9 (with_reducible refine wpQuiet_step (λK hK=>?_);go_simp;first|(refine hK _ ?_;clear hK K)|(apply Exists.intro;refine⟨λ_=>?_,hK _ ?_⟩;(with_reducible exact WQ (bh _).o);clear hK K))
  refine wpQuiet_nil ?_;rintro _ ⟨e,rfl⟩;have ei:=an.t e.ext;have cl:=Aa cb e.ext;have dg:=Aa cf e.ext;have dh:=Aa de e.ext;have cm:=Z (e.ext.heap cd.o);have ej:=Z (λj h1=>Aa (df.o j h1).1 e.ext);have fy:=Z (λj h1=>(df.o j h1).2);clear bh eh k1 jk an cb cf de cd df;obtain⟨w8,ek⟩:=Xq (e.W);rw[ek] at ei cl dg dh cm ej;simp only[ek];clear ek;have dk:=Z dh;go_wp2_with (fail);go_loopw [43] (λi W=>∃ k:Nat,k<=m/\i=.int Φ k/\w8.grownBy W (J gn)/\W.ownsRow gn 3 1 (U (J ⟨gn,0,I⟩) m m) m ((Cv (λz=>swp a (d.ent2 q z)) m k).map iv))
   (λi _=>m-(intOf i).toNat)
  case atStart=>exact⟨0,by omega,rfl,Γ.grownBy.refl _ _,dh⟩
  clear dh;obtain⟨k,j7,rfl,hg,hX⟩:=hrel;have be:=ei.grown hg (λk e=>by cases e;exact ee);by_cases en:k<m
  ·have ct:wr.cell? ⟨br,or'+k,I⟩=J (iv (d.ent2 q k)):=be.cell (jl.o k en);have co:=Au 0 hX (E1 _ _ _).symm k (by rw[E1];exact en);have fo:=hX.frozenAt k;obtain⟨cp,ai⟩:=Ba hX k (swp a (d.ent2 q k));rw[J6 (λz=>swp a (d.ent2 q z)) _ _ en] at cp;have f49:=Z (Pp a (d.ent2 q k) (w.heap.size+1) wr (dz.o wr be));have j9:=enters_of Tryz.func106 (by kernel_rfl) rfl;have ck:=hg.trans ai;have ka:(k:Int)<(m:Int):=by omega
   clear ai be hg hX;generalize d.ent2 q k=x at *;generalize swp a x=y at *;go_wp2_with (go_at_call 106;(with_reducible refine f49.o.mono ?_);rintro e W' ⟨rfl,rfl⟩);go_roundw
   case rel=>exact⟨k+1,by omega,by go_num,ck,cp⟩
   simp[intOf]<;>omega
  obtain rfl:k=m:=by omega
  rw[Ok] at hX;have cq:G≠gn:=λe=>by
   obtain⟨C,hC,-⟩:=Ek dk.o;obtain⟨C5,ak,-⟩:=Ek cl;rw[e,hC] at ak;injection ak with ak
   injection ak with _ h2 _
   exact absurd h2 (by decide)
  have gb:T≠gn:=λe=>by
   have h1:=cm.o;obtain⟨C,hC,-⟩:=Ek dk.o;rw[e,hC] at h1;injection h1 with h1
   injection h1 with _ h2 _
   exact absurd h2 (by decide)
  have gd:=cl.kept hg (Cd cl cq);have gf:=dg.kept hg (Aj dg dk.o (by decide));have dm:=Z ((hg.block T (Al cm.o) (λe=>gb (by injection e))).trans cm.o);have eo:=Z (λj h1=>(ej.o j h1).kept hg (.inr λe=>absurd ((fy.o j h1) e) (Nat.lt_irrefl _)));have bh:=Z (λV (E:Ext w1 V)=>Pp a s (w.heap.size+1) V (dz.o V E));rw[eg.o] at bh;have eh:=enters_of Tryz.func106 (by kernel_rfl) rfl;obtain⟨bf,ep⟩:=Xq (d.ok q);have gg:=Z (λV (E:Ext w1 V) (h7:V.heap[T]? = J (Β #[U ac k H,U (J ⟨G,0,I⟩) n n] 128 (0,0)))=>show V.cell? ⟨T,1,I⟩=J (U (J ⟨G,0,I⟩) n n)/\V.cell? ⟨w.heap.size,2,I⟩=J (U (J ⟨ba,oa,I⟩) n ca)/\V.cell? ⟨ba,oa+q,I⟩=J (.bool bf) from
   ⟨(Τ V T 1 _ _ _ h7).trans rfl,jd.o V E,by rw[<-ep];exact jf.o V E q ef⟩)
  have kb:(s:Int)<(n:Int):=by omega
  have kc:(q:Int)<(n:Int):=by omega
  clear hg cq ej fy cl dg cm dk ei;go_upto_region 13 with (fail)
  refine Bl 16 [(0,Α),(1,Α),(2,Α),(3,Α),(4,Α),(5,Α),(6,Α),(7,Α),(8,Α),(9,Α),(10,Ε),(11,Α),(12,Α),(13,Α),(14,Ε),(15,Α),(16,Ε)] (by kernel_rfl) (by kernel_rfl) (λ_ _ _ _ h=>h) (λV=>Ext w1 V/\V.heap[T]? = J (Β #[U ac k H,U (J ⟨G,0,I⟩) n n] 128 (0,0))) ⟨be.t (Κ wr).drew,(Κ wr).drew.heap dm.o⟩ ?_;have ag:=(Κ wr).drew;obtain⟨wy,et⟩:=Xq (wr.drew);rw[et] at ag;rw[et];clear et;iterate 10
   refine Af (v:=?_) rfl rfl (λV E=>?_) ?_
   rotate_left
   ·obtain⟨k7,k2,kA⟩:=gg.o V E.1 E.2;clear E;go_simp;first|done|with_reducible rfl
   simp only[η,Θ,Μ,Λ]
  refine Ao rfl (λKk hK=>?_);go_simp
  (with_reducible refine (bh.o wy (be.t ag)).mono ?_)
  rintro e wy ⟨rfl,rfl⟩;refine hK _ _ (λ_=>⟨be.t ag,ag.heap dm.o⟩) ?_;clear hK Kk;iterate 3
   refine Af (v:=?_) rfl rfl (λV E=>?_) ?_
   rotate_left
   ·obtain⟨k7,k2,kA⟩:=gg.o V E.1 E.2;clear E;go_simp;first|done|with_reducible rfl
   simp only[η,Θ,Μ,Λ]
  have au:=Aa gd ag;have ev:=Aa gf ag;have dn:=Aa hX ag;have cv:=ag.heap dm.o;have c5:=C7 au s (by rw[HL.o.1];exact cj);have f5:=au.frozenAt s;have js:w1.heap.size<=G:=(au.lt G rfl).1;obtain⟨dp,b0⟩:=au.stored s (U (J ⟨gn,0,I⟩) k k);have dq:=(be.t ag).grown b0 (λk e=>by cases e;exact js);have aw:=ev.kept b0 (Aj ev au (by decide));have cq:G≠gn:=λe=>by
   have h1:=(au.lt G rfl).1;obtain⟨C,hC,-⟩:=Ek dn;obtain⟨C5,ak,-⟩:=Ek au;rw[e,hC] at ak;injection ak with ak
   injection ak with _ h2 _
   exact absurd h2 (by decide)
  have dr:=dn.kept b0 (Cd dn (Ne.symm cq));have gi:T≠G:=λe=>by
   obtain⟨C5,ak,-⟩:=Ek au;rw[e,ak] at cv;injection cv with h1
   injection h1 with _ h2 _
   exact absurd h2 (by decide)
  have b4:=(b0.block T (Al cv) (λe=>gi (by injection e))).trans cv;have ew:=Z (λj h1=>(Aa (eo.o j h1) ag).kept b0 (Aj (Aa (eo.o j h1) ag) au (by decide)));refine Ao rfl (λKk hK=>?_);go_simp;refine hK _ _ (λ_=>⟨dq,b4⟩) ?_;clear hK Kk;clear c5 f5 b0 au ev dn cv gd gf hX be ag dm eo;obtain⟨wz,ez⟩:∃ W,W=wy.setCell ⟨G,s,I⟩ (U (J ⟨gn,0,I⟩) k k):=⟨_,rfl⟩;rw[<-ez] at dp dq aw dr b4 ew;rw[<-ez];clear ez;refine Af (v:=?_) rfl rfl (λV E=>?_) ?_
  rotate_left
  ·clear E;go_simp;first|done|with_reducible rfl
  simp only[η,Θ,Μ,Λ];have co:=Au Ε aw HL.o.2.symm s (by rw[HL.o.2];exact cj);have fo:=aw.frozenAt s;have jt:w1.heap.size<=gA:=(aw.lt gA rfl).1;obtain⟨gj,ai⟩:=Ba (f:=ϊ) aw s bf;have e0:=dq.grown ai (λk e=>by cases e;exact jt);have gk:=dp.kept ai (Aj dp aw (by decide));have cp:=dr.kept ai (Aj dr aw (by decide));have gl:ϟ ((wz.setCell ⟨gA,s,I⟩ (.bool bf)).heap[T]? = J (Β #[U ac k H,U (J ⟨G,0,I⟩) n n] 128 (0,0))):=Z ((ai.block T (Al b4) (λe=>by
   have h1:=b4;obtain⟨C,hC,-⟩:=Ek aw;injection e with e
   rw[e,hC] at h1;injection h1 with h1
   injection h1 with _ h2 _
   exact absurd h2 (by decide))).trans b4)
  have gm:ϟ (∀ j,j<s+1->OwnI (wz.setCell ⟨gA,s,I⟩ (.bool bf)) w1.heap.size ((NX.set s (U (J ⟨gn,0,I⟩) k k)).getD j Ω) ((π k).map λz=>swp a (d.ent2 (swp a j) z))):=Z (λj ju=>by
   by_cases e:j=s
   ·subst e;rw[B7 (by rw[HL.o.1];exact cj),eg.o];have:=Ff cp ee;unfold OwnI;rw[ι,List.length_range];exact this
   rw[Be e];have h1:=ew.o j (by omega);exact h1.kept ai (Aj h1 aw (by decide)))
  have jv:ϟ (∀ j,j<s+1->(AC.set s bf).getD j Ε=d.ok (swp a j)):=Z (λj ju=>by
   by_cases e:j=s
   ·subst e;rw[B7 (by rw[HL.o.2];exact cj),eg.o,ep]
   rw[Be e];exact dd.o j (by omega))
  have e1:ϟ ((NX.set s (U (J ⟨gn,0,I⟩) k k)).length=n/\(AC.set s bf).length=n):=Z ⟨by rw[υ];exact HL.o.1,by rw[υ];exact HL.o.2⟩;have gp:=e0.size;refine Ao rfl (λKk hK=>?_);go_simp;refine hK _ _ (λh=>absurd h (by omega)) ?_;clear hK Kk;refine Bj ?_;clear co fo ai aw dp dr cp ew dd HL ep b4 dq gi cq gb eh bh;obtain⟨wF,e2⟩:=Xq (wz.setCell ⟨gA,s,I⟩ (.bool bf));rw[e2] at gj e0 gk gl gm gp;try simp only[e2]
  clear e2;go_wp2_with (fail);go_roundw
  case rel=>exact⟨s+1,_,AC.set s bf,by omega,by go_num,e0,gp,e1,gk,gj,gl,gm,jv⟩
  simp[intOf]<;>omega
 obtain rfl:s=n:=by omega
 obtain⟨q,hq⟩:=Xq (Dfa.mk d.cls ((π s).map λj=>(π m).map λz=>swp a (d.ent2 (swp a j) z)) AC:Dfa);have cw:Quot d q a:=by
  rw[<-hq];have gq:∀ x,x<s->((π s).map λj=>(π m).map λz=>swp a (d.ent2 (swp a j) z)).getD (swp a x) []=(π m).map λz=>swp a (d.ent2 x z):=λx hx=>by rw[E0 _ _ _ _ (Ih bg hx),M5]
  refine⟨rfl,by rw[HN.o];simp,by rw[HN.o];exact HL.o.2,λx hx=>?_,λx hx k hk=>?_,λx hx=>?_⟩
  ·rw[HN.o] at hx;rw[gq x hx,HM.o];simp
  ·rw[HN.o] at hx;rw[HM.o] at hk;show (((π s).map λj=>(π m).map λz=>swp a (d.ent2 (swp a j) z)).getD (swp a x) []).getD k 0=_;rw[gq x hx,E0 _ _ _ _ hk]
  rw[HN.o] at hx;show AC.getD (swp a x) Ε=_;rw[dd.o (swp a x) (Ih bg hx),M5]
 have bk:Val q:=cw.val HV.o (by rw[HN.o];exact bg);have gu:q.n.length=s:=by rw[cw.len,HN.o]
 have gv:∀ x,q.has x=d.ok (d.run a x):=λx=>by
  have h1:=cw.run HV.o x a (by rw[HN.o];exact bg);have h0:swp a a=0:=by unfold swp;split<;>simp_all
  rw[h0] at h1;unfold Dfa.has;rw[h1];exact cw.acc _ (HV.o.run_lt _ (by rw[HN.o];exact bg))
 have gw:WVal q.cls q.n q.acc:=⟨bk.pos,bk.accL,λx hx=>bk.row x hx,λx hx k hk=>bk.tgt x hx k hk,bk.parts⟩;have gx:IsW wr #[U ac m H,U (J ⟨G,0,I⟩) s s] q.cls q.n:=by
  refine⟨_,_,rfl,by rw[<-hq];exact HC.o.ext (bu.o.t hE),?_⟩;rw[<-hq];refine⟨NX,by rw[HL.o.1];simp,?_,λi hi=>?_⟩
  ·have:=Sl.of_owns bc (show s<=4611686018427387904 by omega) Ω;simp only[ι,List.length_range];exact this
  have c9:i<s:=by simpa using hi
  have h1:=HQ.o i c9;simp only;rw[E0 _ _ _ _ c9];exact h1.ints (by simp;omega)
 have gy:Bools wr (U (J ⟨gA,0,I⟩) s s) q.acc:=by
  have h9:OwnB wr w1.heap.size (U (J ⟨gA,0,I⟩) s s) AC:=by unfold OwnB;rw[HL.o.2];exact dc
  rw[<-hq];exact h9.bools (by rw[HL.o.2];omega)
 have jx:=Z (Qz q.cls q.n q.acc gw (by rw[gu];omega) _ _ wr (ia.o wr (bu.o.t hE)) (Ξ e5 (bu.o.t hE).size) gx gy);have cy:=Z (hE.heap H4.o);have jy:=Z (λr (h:Dc (λu=>(Az q.cls q.n q.acc).has u=Α) r)=>show ∃ d',r=J d'/\Cano d'/\d'.n.length<=64/\∀ x,d'.has x=d.ok (d.run a x) from by
  have hw:∀ u,(Az q.cls q.n q.acc).has u=q.has u:=λu=>rfl
  cases r with
  | none=>have h:Big (λu=>(Az q.cls q.n q.acc).has u=Α):=h;have:=Tu h bk (λu=>by rw[hw]);omega
  | some d'=>obtain⟨h1,h2,h3⟩:=h;exact⟨d',rfl,h1,h3,λx=>by have h4:d'.has x=Α↔(Az q.cls q.n q.acc).has x=Α:=h2 x;rw[Ϸ,h4,hw,gv]⟩)
 have HE:=Z (bu.o.t hE);clear bk gu gv cw gx gy gw bc dc HQ dd hE bz hq;go_wp2_with (first
  | (refine Lr 128 (δ 7) H7.o Tryz.underlying128 Fv ?_)
  | (go_at_call 55;(with_reducible refine jx.o.mono ?_);rintro e w9 ⟨r,e3,ha,hf⟩;obtain⟨hh,hl,ho,hp,hr,ht,hy,hz,h6,k2,rfl⟩:=e3.form;have j3:=Z e3;have e1:=Z (jy.o r ha);clear e3 ha;have cy:=Z (hf.heap cy.o))
  | (refine Sr 40 (δ 4) (δ 74) rfl cy.o Ae rfl (Av _ _ _ rfl rfl rfl) ?_))
 refine ω (v:=ϗ #[.agg (dA (U hh hl ho) (U hp hr ht) (U hy hz h6)),.int Φ k2]) (Bi rfl _ _ _ _ _ _ _ rfl _ rfl (Χ w9 _ _ (dA (U hh hl ho) (U hp hr ht) (U hy hz h6)) 40 (0,0) cy.o) Ο rfl Ae) rfl ?_;obtain⟨d',rfl,h1,h2,h3⟩:=e1.o;exact⟨d',j3.o.setRow (λke h=>by injection h with h;subst h;exact h1.val) cy.o _,h1,h2,h3,(HE.o.t hf).setRow (by omega) _⟩
theorem NN:I8 81 (λx y=>x&&!y):=by
 intro W x y;go_enter Tryz.func81,Tryz.ntmps81;cases x<;>cases y
 all_goals
  go_wp2;go_ret;exact⟨rfl,Κ W⟩
theorem Xx (a b:Dfa) (ha:Val a) (hb:Val b) (bh:a.n.length<=64) (bj:b.n.length<=64) (va vb:Δ) (w:Γ) (hT:Tab w) (au:0<w.heap.size) (ae:IsD w va a) (af:IsD w vb b) :
  ϛ Η 56 #[va,vb] w λe w'=>∃ r,ResOf w' e r/\Lim (λu=>a.has u=Α/\¬ b.has u=Α) r/\Ext w w':=by
 have aw:=Z ae;have ax:=Z af;obtain⟨ac,lc,cc,an,cn,aa,la,ca,rfl⟩:=ae.agg;obtain⟨br,bt,bu,bw,bz,b0,b4,b5,rfl⟩:=af.agg;have f78:=λW (T:Ext w W)=>Z (S2 a b ha hb bh bj 81 (λx y=>x&&!y) NN (enters_of Tryz.func81 (by kernel_rfl) rfl) _ _ W (hT.below T.below au) (Ξ au T.size) (aw.o.ext T) (ax.o.ext T))
 obtain⟨E,X⟩:=Xq (dA (U ac lc cc) (U an a.n.length cn) (U aa la ca));obtain⟨G,ab⟩:=Xq (dA (U br bt bu) (U bw b.n.length bz) (U b0 b4 b5));have b6:(Η.info? 40).map (·.size)=J E.size:=by rw[<-X];exact Ae
 have b7:(Η.info? 40).map (·.size)=J G.size:=by rw[<-ab];exact Ae
 rw[X] at f78 aw;rw[ab] at f78 ax;rw[X,ab];have ag:=(((Κ w).alloc (Β E 40)).alloc (Β G 40)).alloc (Β #[U I 0 0,U I 0 0,U I 0 0] 40);have H3:=Ah (Ah (Ad w (Β E 40)) (Β G 40)) (Β #[U I 0 0,U I 0 0,U I 0 0] 40);have H4:=Ah (ϒ w (Β E 40) (Β G 40)) (Β #[U I 0 0,U I 0 0,U I 0 0] 40);have H6:=Ad ((w.alloc (Β E 40)).alloc (Β G 40)) (Β #[U I 0 0,U I 0 0,U I 0 0] 40);rw[Ρ,Ρ] at H6;clear ae af ha hb hT X ab;go_enter Tryz.func56,Tryz.ntmps56;go_upto_region 1 with (fail)
 obtain⟨w1,aj⟩:=Xq (((w.alloc (Β E 40)).alloc (Β G 40)).alloc (Β #[U I 0 0,U I 0 0,U I 0 0] 40));rw[aj] at ag H3 H4 H6;simp only[aj];clear aj;have b8:=Z H3;have b9:=Z H4;have H:=Z H6;have ay:=Z ag;clear H3 H4 H6 ag;go_wp2_with (first
  | (refine Lr 40 (δ 2) b8.o Ο b6 ?_)
  | (refine Lr 40 (δ 3) b9.o Ο b7 ?_)
  | (go_at_call 36;(with_reducible refine (f78 _ ay.o).o.mono ?_);rintro e w5 ⟨r,ak,az,a1⟩;obtain⟨a6,a7,a8,ba,bb,bc,bd,be,bf,k1,rfl⟩:=ak.form;have cd:=Z ak;have bg:=Z az;clear ak az;have H:=Z (a1.heap H.o))
  | (refine Sr 40 (δ 4) (δ 9) rfl H.o Ae rfl (Av _ _ _ rfl rfl rfl) ?_))
 refine ω (v:=ϗ #[.agg (dA (U a6 a7 a8) (U ba bb bc) (U bd be bf)),.int Φ k1]) (Bi rfl _ _ _ _ _ _ _ rfl _ rfl (Χ w5 _ _ (dA (U a6 a7 a8) (U ba bb bc) (U bd be bf)) 40 (0,0) H.o) Ο rfl Ae) rfl ?_;exact⟨r,cd.o.setRow (Hm bg.o) H.o _,Gm bg.o (λu=>by simp),(ay.o.t a1).setRow (by omega) _⟩
theorem Sd {L:Ag} (h:Big L) {α:Type} [DecidableEq α] (g:List UInt8->α) (hg:∀ w w',g w=g w'->∀ u,L (w++u)↔L (w'++u)) (l:List α) (G:∀ w,g w∈l) (hn:l.length<=64):False:=by
 obtain⟨E,h1,H⟩:=h;have T:(E.map g).Nodup:=by rw[List.nodup_iff_pairwise_ne,List.pairwise_map];exact H.imp λ{u v} ⟨x,hx⟩ e=>hx (hg u v e x)
 have:=D8 (E.map g) l T λs X=>by obtain⟨u,_,rfl⟩:=ϴ.1 X;exact G u
 rw[ι] at this;omega
theorem Ol {L:Ag} (h:Lim L I) {α:Type} [DecidableEq α] (g:List UInt8->α) (hg:∀ w w',g w=g w'->∀ u,L (w++u)↔L (w'++u)) (l:List α) (G:∀ w,g w∈l) (H:l.length<=64):False:=by obtain⟨d,h1,E,T⟩:=h;have:=Kg h1 g (λw w' e u=>by rw[Ϸ,E,E];exact hg w w' e u) l G;omega
def Fe (n m:Nat):List (Nat × Nat):=(π n).flatMap λi=>(π m).map λj=>(i,j)
theorem Hh {n m i j:Nat} (hi:i<n) (E:j<m):(i,j)∈Fe n m:=by simp only[Fe,List.mem_flatMap,ϴ,ϔ];exact⟨i,hi,j,E,rfl⟩
theorem Hi (n m:Nat):(Fe n m).length=n*m:=by
 unfold Fe;rw[List.length_flatMap];induction n with
 | zero=>simp
 | succ n E=>rw[List.range_succ,ϩ,List.sum_append,E,Nat.succ_mul];simp
theorem YB {a:Dfa} (H:Val a) {s:Nat} (T:s<a.n.length) (X:2*a.n.length<=64):¬ Big (Ds a s):=λh=>by
 refine Sd h (λw=>((if w=[] then 0 else 1),a.run s w)) (λw w' e u=>?_) (Fe 2 a.n.length) (λw=>Hh (by split<;>omega) (H.run_lt w T)) (by rw[Hi];exact X);injection e with G e2
 unfold Ds;rw[Bf,Bf,e2];refine and_congr ?_ Iff.rfl;by_cases h1:w=[]
 ·by_cases E:w'=[]
  ·rw[h1,E]
  rw[if_pos h1,if_neg E] at G;cases G
 by_cases E:w'=[]
 ·rw[if_neg h1,if_pos E] at G;cases G
 simp[h1,E]
theorem YA {a m:Dfa} (H:Val a) {s:Nat} (T:s<a.n.length) (hm:Cano m) (h:∀ x,m.has x=Α↔Ds a s x):m.n.length<=2*a.n.length:=by
 have:=Kg hm (λw=>((if w=[] then 0 else 1),a.run s w)) (λw w' e u=>?_) (Fe 2 a.n.length) (λw=>Hh (by split<;>omega) (H.run_lt w T))
 ·rwa [Hi] at this
 injection e with G X
 rw[Ϸ,h,h];unfold Ds;rw[Bf,Bf,X];refine and_congr ?_ Iff.rfl;by_cases h1:w=[]
 ·by_cases E:w'=[]
  ·rw[h1,E]
  rw[if_pos h1,if_neg E] at G;cases G
 by_cases E:w'=[]
 ·rw[if_neg h1,if_pos E] at G;cases G
 simp[h1,E]
def Dz (m b:Dfa) (w:List UInt8) (q:Nat):Prop:=∃ x y,w=x++y/\m.has x=Α/\b.run 0 y=q
theorem BP {m b:Dfa} (w u:List UInt8):Cat (wd1 m) (wd1 b) (w++u)↔(∃ q,Dz m b w q/\b.ok (b.run q u)=Α)\/∃ x y,u=x++y/\m.ok (m.run (m.run 0 w) x)=Α/\b.has y=Α:=by
 constructor
 ·rintro⟨x,y,e,hx,E⟩;rcases List.append_eq_append_iff.1 e with⟨z,G,H⟩|⟨z,G,H⟩
  ·right
   refine⟨z,y,H,?_,E⟩;rw[<-Bf,<-G];exact hx
  left
  refine⟨b.run 0 z,⟨x,z,G,hx,rfl⟩,?_⟩;rw[<-Bf,<-H];exact E
 rintro (⟨q,⟨x,y,rfl,hx,rfl⟩,h⟩|⟨x,y,rfl,hx,E⟩)
 ·refine⟨x,y++u,by simp,hx,?_⟩;show b.ok (b.run 0 (y++u))=Α;rw[Bf];exact h
 refine⟨w++x,y,by simp,?_,E⟩;show m.ok (m.run 0 (w++x))=Α;rw[Bf];exact hx
open Classical in
theorem Tb {m b:Dfa} (hm:Val m) (hb:Val b) (h2:b.n.length<=2) {d:Dfa} (hd:Fit d (Cat (wd1 m) (wd1 b))):d.n.length<=m.n.length*4:=by
 have:=Kg hd.1 (λw=>(m.run 0 w,(if Dz m b w 0 then 1 else 0)+(if Dz m b w 1 then 2 else 0))) (λw w' e u=>?_) (Fe m.n.length 4) (λw=>Hh (hm.run_lt w hm.pos) (by split<;>split<;>omega))
 ·rwa [Hi] at this
 injection e with E T
 have h0:Dz m b w 0↔Dz m b w' 0:=by by_cases a0:Dz m b w 0<;>by_cases G:Dz m b w' 0<;>by_cases H:Dz m b w 1<;>by_cases b1:Dz m b w' 1<;>simp[a0,G,H,b1] at T ⊢
 have h1:Dz m b w 1↔Dz m b w' 1:=by by_cases a0:Dz m b w 0<;>by_cases G:Dz m b w' 0<;>by_cases H:Dz m b w 1<;>by_cases b1:Dz m b w' 1<;>simp[a0,G,H,b1] at T ⊢
 have X:∀ q,Dz m b w q↔Dz m b w' q:=λq=>by
  by_cases e0:q=0
  ·rw[e0];exact h0
  by_cases E:q=1
  ·rw[E];exact h1
  constructor
  ·rintro⟨_,y,_,_,rfl⟩;have:=hb.run_lt y hb.pos;omega
  rintro⟨_,y,_,_,rfl⟩;have:=hb.run_lt y hb.pos;omega
 rw[Ϸ,hd.2,hd.2,BP,BP,E];simp only[X]
theorem NL {b c:Dfa} (hb:Val b) (hc:Val c) (E:b.n.length*c.n.length<=64):¬ Lim (λv=>b.has v=Α/\¬ c.has v=Α) I:=λh=>by
 refine Ol h (λw=>(b.run 0 w,c.run 0 w)) (λw w' e u=>?_) (Fe b.n.length c.n.length) (λw=>Hh (hb.run_lt w hb.pos) (hc.run_lt w hc.pos)) (by rw[Hi];exact E);injection e with G H
 unfold Dfa.has;rw[Bf,Bf,Bf,Bf,G,H]
def Ed (b:Dfa) (P:Nat->Prop):Ag:=λv=>∃ q,q<b.n.length/\P q/\b.ok (b.run q v)=Α
theorem Vj {b:Dfa} (T:b.n.length<=2) (P:Nat->Prop) {w w':List UInt8} (E:b.run 0 w=b.run 0 w') (G:b.run 1 w=b.run 1 w') (u:List UInt8):Ed b P (w++u)↔Ed b P (w'++u):=by
 unfold Ed;refine exists_congr λq=>?_
 by_cases H:q<b.n.length
 ·have e:b.run q w=b.run q w':=by
   by_cases h0:q=0
   ·rw[h0];exact E
   rw[show q=1 by omega];exact G
  rw[Bf,Bf,e]
 simp[H]
theorem IE {b:Dfa} (hb:Val b) (X:b.n.length<=2) (P:Nat->Prop):¬ Lim (Ed b P) I:=λh=>by
 classical
 refine Ol h (λw=>(b.run 0 w,if 1<b.n.length then b.run 1 w else 0)) (λw w' e u=>?_) (Fe 2 2) (λw=>Hh (by have:=hb.run_lt w hb.pos;omega) (by
  split
  ·rename_i h;have:=hb.run_lt w h;omega
  omega)) (by rw[Hi];decide)
 injection e with G H
 by_cases T:1<b.n.length
 ·rw[if_pos T,if_pos T] at H;exact Vj X P G H u
 have:∀ v,Ed b P v↔P 0/\b.ok (b.run 0 v)=Α:=λv=>by
  constructor
  ·rintro⟨q,hq,h1,E⟩;obtain rfl:q=0:=by omega
   exact⟨h1,E⟩
  rintro⟨h1,E⟩;exact⟨0,hb.pos,h1,E⟩
 rw[this,this,Bf,Bf,G]
theorem JI {b:Dfa} (hb:Val b) (X:b.n.length<=2) (P:Nat->Prop):¬ Lim (λv=>b.has v=Α/\¬ Ed b P v) I:=λh=>by
 classical
 refine Ol h (λw=>(b.run 0 w,if 1<b.n.length then b.run 1 w else 0)) (λw w' e u=>?_) (Fe 2 2) (λw=>Hh (by have:=hb.run_lt w hb.pos;omega) (by
  split
  ·rename_i h;have:=hb.run_lt w h;omega
  omega)) (by rw[Hi];decide)
 injection e with E H
 have eh:b.has (w++u)=b.has (w'++u):=by unfold Dfa.has;rw[Bf,Bf,E]
 rw[eh];refine and_congr Iff.rfl (not_congr ?_);by_cases T:1<b.n.length
 ·rw[if_pos T,if_pos T] at H;exact Vj X P E H u
 have:∀ v,Ed b P v↔P 0/\b.ok (b.run 0 v)=Α:=λv=>by
  constructor
  ·rintro⟨q,hq,h1,G⟩;obtain rfl:q=0:=by omega
   exact⟨h1,G⟩
  rintro⟨h1,G⟩;exact⟨0,hb.pos,h1,G⟩
 rw[this,this,Bf,Bf,E]
theorem PT {a b:Dfa} (E:Val a) (hb:Val b) (l:List (Nat × Nat)) (G:l.Nodup) (H:∀ s∈l,∃ w,Aq (lnx a b) (0,0) w=s):l.length<=a.n.length*2 ^ b.n.length:=by
 have:=D8 l (Fe a.n.length (2 ^ b.n.length)) G λs T=>by
  obtain⟨w,rfl⟩:=H s T;have h1:(Aq (lnx a b) (0,0) w).1<a.n.length:=by rw[(Lw hb w).1];exact E.run_lt w E.pos
  have X:(Aq (lnx a b) (0,0) w).2<2 ^ b.n.length:=by
   have key:∀ r:List UInt8,(Aq (lnx a b) (0,0) r.reverse).2<2 ^ b.n.length:=by
    intro r;cases r with
    | nil=>exact Nat.two_pow_pos _
    | cons c r=>rw[List.reverse_cons,E9];exact N5 hb _ _ _ c.toNat_lt
   have:=key w.reverse
   rwa [List.reverse_reverse] at this
  exact Hh h1 X
 rwa [Hi] at this
theorem PP {a b:Dfa} (E:Val a) (hb:Val b) (G:a.n.length*2 ^ b.n.length<=64) (P:Nat × Nat->Prop):¬ Big λw=>P (Aq (lnx a b) (0,0) w):=λh=>by
 refine Sd h (λw=>Aq (lnx a b) (0,0) w) (λw w' e u=>?_) (Fe a.n.length (2 ^ b.n.length)) (λw=>?_) (by rw[Hi];exact G)
 ·unfold Aq;unfold Aq at e;rw[ÿ,ÿ,e]
 have h1:(Aq (lnx a b) (0,0) w).1<a.n.length:=by rw[(Lw hb w).1];exact E.run_lt w E.pos
 have H:(Aq (lnx a b) (0,0) w).2<2 ^ b.n.length:=by
  have key:∀ r:List UInt8,(Aq (lnx a b) (0,0) r.reverse).2<2 ^ b.n.length:=by
   intro r;cases r with
   | nil=>exact Nat.two_pow_pos _
   | cons c r=>rw[List.reverse_cons,E9];exact N5 hb _ _ _ c.toNat_lt
  have:=key w.reverse
  rwa [List.reverse_reverse] at this
 exact Hh h1 H
def BoxH (W:Γ) (A:Array Δ):Prop:=A=#[U I 0 0,U I 0 0,U I 0 0]\/∃ p,Val p/\IsD W (.agg A) p
theorem IsD.setBx {W:Γ} {v:Δ} {q:Dfa} (G:Val q) (h:IsD W v q) {A:Array Δ} (E:BoxH W A) {g:Nat} {e:TypeId} {fr:Nat × Nat} (hg:W.heap[g]? = J (Β A e fr)) (cs:Array Δ):IsD (W.setRow g cs) v q:=by
 rcases E with rfl|⟨p,H,E⟩
 ·exact h.setRow G hg cs
 exact h.setBox G H E hg cs
theorem BoxH.ext {W W':Γ} {A:Array Δ} (h:BoxH W A) (E:Ext W W'):BoxH W' A:=by
 rcases h with h|⟨p,G,h⟩
 ·exact .inl h
 exact .inr ⟨p,G,h.ext E⟩
theorem BoxH.size {W:Γ} {A:Array Δ} (h:BoxH W A):A.size=3/\A.all (·.oneCell')=Α:=by
 rcases h with rfl|⟨p,E,h⟩
 ·exact⟨rfl,Fg⟩
 obtain⟨_,_,_,_,_,_,_,_,he⟩:=h.agg;injection he with he
 rw[he];exact⟨rfl,Av _ _ _ rfl rfl rfl⟩
def T7 (b:Dfa):Prop:=(∃ P,Lim (Ed b P) I)\/∃ P,Lim (λv=>b.has v=Α/\¬ Ed b P v) I
def DV (b:Dfa) (S:Nat):Option Dfa->Prop
 | some d=>Cano d/\d.n.length<=64/\∀ v,d.has v=Α↔b.has v=Α/\¬ Ed b (λq=>S.testBit q=Α) v
 | none=>T7 b
theorem Yk {L E:List UInt8->Prop} {r:Option Dfa} (h:Lim L r) (G:∀ w,L w↔E w):Lim E r:=by
 have:L=E:=funext λw=>propext (G w)
 rwa [<-this]
def UniP (b:Dfa) (S q:Nat):Option Dfa->Prop
 | some u=>Cano u/\u.n.length<=64/\∀ v,u.has v=Α↔Ed b (λx=>x<q/\S.testBit x=Α) v
 | none=>∀ x,x<q->S.testBit x=Ε
theorem UniP.skip {b:Dfa} {S q:Nat} {u:Option Dfa} (h:UniP b S q u) (H:S.testBit q=Ε):UniP b S (q+1) u:=by
 cases u with
 | none=>
  intro x hx;by_cases e:x=q
  ·rw[e];exact H
  exact h x (by omega)
 | some u=>
  obtain⟨h1,T,X⟩:=h;refine⟨h1,T,λv=>(X v).trans ?_⟩;constructor
  ·rintro⟨x,hx,⟨h4,E⟩,G⟩;exact⟨x,hx,⟨by omega,E⟩,G⟩
  rintro⟨x,hx,⟨h4,E⟩,G⟩;refine⟨x,hx,⟨?_,E⟩,G⟩;rcases Nat.lt_or_ge x q with h|h
  ·exact h
  obtain rfl:x=q:=by omega
  rw[H] at E;cases E
theorem FE {b d:Dfa} {S q:Nat} (T:q<b.n.length) (h:UniP b S q I) (hb:S.testBit q=Α) (h1:Cano d) (X:d.n.length<=64) (h3:∀ x,d.has x=b.ok (b.run q x)):UniP b S (q+1) (J d):=by
 refine⟨h1,X,λv=>?_⟩;rw[h3];constructor
 ·exact λE=>⟨q,T,⟨by omega,hb⟩,E⟩
 rintro⟨x,hx,⟨E,G⟩,h6⟩;rcases Nat.lt_or_ge x q with H|H
 ·rw[h x H] at G;cases G
 obtain rfl:x=q:=by omega
 exact h6
theorem FC {b d u:Dfa} {S q:Nat} (X:q<b.n.length) (h:∀ v,u.has v=Α↔Ed b (λx=>x<q/\S.testBit x=Α) v) (hb:S.testBit q=Α) (h3:∀ x,d.has x=b.ok (b.run q x)) (v:List UInt8):(u.has v=Α\/d.has v=Α)↔Ed b (λx=>x<q+1/\S.testBit x=Α) v:=by
 rw[h,h3];constructor
 ·rintro (⟨x,hx,⟨G,H⟩,E⟩|G)
  ·exact⟨x,hx,⟨by omega,H⟩,E⟩
  exact⟨q,X,⟨by omega,hb⟩,G⟩
 rintro⟨x,hx,⟨G,H⟩,E⟩;rcases Nat.lt_or_ge x q with T|T
 ·exact .inl ⟨x,hx,⟨T,H⟩,E⟩
 obtain rfl:x=q:=by omega
 exact .inr E
theorem FD {b d u:Dfa} {S q:Nat} (H:q<b.n.length) (h:UniP b S q (J u)) (hb:S.testBit q=Α) (T:∀ x,d.has x=b.ok (b.run q x)) {r:Option Dfa} (X:Lim (λv=>u.has v=Α\/d.has v=Α) r):(r=I->T7 b)/\∀ G,r=J G->UniP b S (q+1) (J G):=by
 have E:=Yk X (FC H h.2.2 hb T);constructor
 ·rintro rfl;exact .inl ⟨_,E⟩
 rintro G rfl;exact⟨E.1,E.2.2,E.2.1⟩
theorem FF {b u:Dfa} {S:Nat} (h:UniP b S b.n.length (J u)) (v:List UInt8):u.has v=Α↔Ed b (λq=>S.testBit q=Α) v:=by
 rw[h.2.2];constructor
 ·rintro⟨x,hx,⟨_,E⟩,G⟩;exact⟨x,hx,E,G⟩
 rintro⟨x,hx,E,G⟩;exact⟨x,hx,⟨hx,E⟩,G⟩
theorem ZB (b:Dfa) (hb:Cano b) (hn:b.n.length<=64) (S:Nat) (hS:S<18446744073709551616) (v:Δ) (w:Γ) (hT:Tab w) (bn:0<w.heap.size) (h:IsD w v b) :
  ϛ Η 60 #[v,.int .u64 (S:Int)] w λe w'=>∃ r,ResOf w' e r/\DV b S r/\Ext w w':=by
 have cd:=Z (λW (hW:Ext w W)=>hT.below hW.below bn);have HC:=Z hb;have HI:=Z h;have ev:=hb.val.pos;obtain⟨ac,lc,cc,an,cn,aa,la,ca,rfl⟩:=h.agg;obtain⟨H,az⟩:=Xq (dA (U ac lc cc) (U an b.n.length cn) (U aa la ca));have cf:=Z az;have ba:(Η.info? 40).map (·.size)=J H.size:=by rw[<-az];exact Ae
 have e2:H.all (·.oneCell')=Α:=by rw[<-az];exact Av _ _ _ rfl rfl rfl
 rw[az] at HI;rw[az];obtain⟨n,cg⟩:=Xq (b.n.length);have HN:=Z cg;rw[cg] at hn ev cf;have cj:=(((Κ w).alloc (Β H 40)).alloc (Β #[U I 0 0,U I 0 0,U I 0 0] 40)).alloc (Β #[U I 0 0,U I 0 0,U I 0 0] 40);have T:=Ah (Ah (Ad w (Β H 40)) (Β #[U I 0 0,U I 0 0,U I 0 0] 40)) (Β #[U I 0 0,U I 0 0,U I 0 0] 40);have X:=Ah (ϒ w (Β H 40) (Β #[U I 0 0,U I 0 0,U I 0 0] 40)) (Β #[U I 0 0,U I 0 0,U I 0 0] 40);have H6:=Ad ((w.alloc (Β H 40)).alloc (Β #[U I 0 0,U I 0 0,U I 0 0] 40)) (Β #[U I 0 0,U I 0 0,U I 0 0] 40);rw[Ρ,Ρ] at H6;clear h hb hT az cg;go_enter Tryz.func60,Tryz.ntmps60;go_upto_region 2 with (fail)
 obtain⟨w1,ck⟩:=Xq (((w.alloc (Β H 40)).alloc (Β #[U I 0 0,U I 0 0,U I 0 0] 40)).alloc (Β #[U I 0 0,U I 0 0,U I 0 0] 40));rw[ck] at cj T X H6;simp only[ck];clear ck;have c1:=(Τ w1 w.heap.size 1 _ _ _ T).trans (show H[1]? = J (U an n cn) by rw[<-cf.o];rfl);go_wp2_with (fail);clear c1;go_loopw [7,14] (λvs vi W=>∃ (q:Nat) (u:Option Dfa) (A:Array Δ),q<=n/\vi=iv q/\vs=.bool u.isSome/\Ext w W/\ϟ (W.heap[w.heap.size]? = J (Β H 40 (0,0)))/\ϟ (W.heap[w.heap.size+1]? = J (Β #[U I 0 0,U I 0 0,U I 0 0] 40 (0,0)))/\ϟ (W.heap[w.heap.size+1+1]? = J (Β A 40 (0,0)))/\ϟ (BoxH W A)/\ϟ (UniP b S q u)/\ϟ (∀ d,u=J d->IsD W (.agg A) d))
  (λ_ vi _=>n-(intOf vi).toNat)
 case atStart=>exact⟨0,I,_,by omega,rfl,rfl,cj,Z T,Z X,Z H6,Z (.inl rfl),Z (λx hx=>by omega),Z (λd e=>by cases e)⟩
 clear cj T X H6;obtain⟨q,u,A,hq,rfl,rfl,hE,T,X,H6,HB,HU,bq⟩:=hrel;have de:(Η.info? 40).map (·.size)=J A.size:=by rw[HB.o.size.1];exact Ae
 by_cases cm:q<n
 ·have e3:=Vm S q hS;obtain⟨bt,cp⟩:=Xq (S.testBit q);rw[cp] at e3;have cq:=Z cp;clear cp;have fo:(q:Int)<(n:Int):=by omega
  have fp:(q:Int)<64:=by omega
  have fq:(0:Int)<=(S:Int):=by omega
  have fs:(S:Int)<18446744073709551616:=by omega
  have e5:∀ x:Int,x=(S:Int)->x=(S:Int):=λx h=>h
  clear e5;have df:=λW (hW:Ext w W)=>Z (SW b HC.o.val (by rw[HN.o];exact hn) q (by rw[HN.o];exact cm) (.agg H) W (cd.o W hW) (Ξ bn hW.size) (HI.o.ext hW))
  cases bt with
  | false=>
   generalize (S:Int)=e6 at *;go_upto_region 6 with (fail)
   go_wp2_with (fail);go_roundw
   case rel=>exact⟨q+1,u,A,by omega,by go_num,rfl,hE,T,X,H6,HB,Z (HU.o.skip cq.o),bq⟩
   simp[intOf]<;>omega
  | true=>
   generalize e7:(S:Int)=e6 at *;clear e7;go_upto_region 8 with (first
    | (refine Lr 40 (δ 2) T.o Ο ba ?_)
    | (go_at_call 84;(with_reducible refine (df _ hE).o.mono ?_);rintro e w5 ⟨r,ad,dg,dh,dk,dm⟩;obtain⟨dn,dp,dq,dr,dt,du,dv,dw,dx,k1,rfl⟩:=ad.form;have aw:=Z ad;have bc:=Z dg;have dy:=Z dh;have dz:=Z dk;have ax:=Z dm;clear ad dg dh dk dm)
    | (refine Sr 40 (δ 9) (δ 26) rfl (Ad w5 (Β #[U I 0 0,U I 0 0,U I 0 0] 40)) Ae rfl (Av _ _ _ rfl rfl rfl) ?_))
   clear df;obtain⟨ag,bd⟩:=Dv w5 (dA (U dn dp dq) (U dr dt du) (U dv dw dx));obtain⟨G,a1⟩:=Xq (dA (U dn dp dq) (U dr dt du) (U dv dw dx));have ct:(Η.info? 40).map (·.size)=J G.size:=by rw[<-a1];exact Ae
   have e8:G.all (·.oneCell')=Α:=by rw[<-a1];exact Av _ _ _ rfl rfl rfl
   have ea:ϟ (G.size=3):=Z (by rw[<-a1];rfl);have eb:ϟ (A.size=3):=Z HB.o.size.1;have ec:=aw.o.ext ag;rw[a1] at ag bd;have be:k1=0/\IsD ((w5.alloc (Β #[U I 0 0,U I 0 0,U I 0 0] 40)).setRow w5.heap.size G) (.agg G) r:=by obtain⟨h1,h2⟩:=ec.some_inv;rw[a1] at h2;exact⟨h1,h2⟩
   obtain⟨rfl,be⟩:=be;have bf:=(hE.t ax.o).trans ag;have bg:=(ax.o.t ag).heap T.o;have bh:=(ax.o.t ag).heap X.o;have ao:=(ax.o.t ag).heap H6.o;have br:=HB.o.ext (ax.o.t ag);have cu:=Z (λd e=>(bq.o d e).ext (ax.o.t ag));simp only[a1];obtain⟨w6,cw⟩:=Xq ((w5.alloc (Β #[U I 0 0,U I 0 0,U I 0 0] 40)).setRow w5.heap.size G);rw[cw] at bd be bf bg bh ao br cu;simp only[cw];have e9:w.heap.size+1+1<w5.heap.size:=Al (ax.o.heap H6.o);obtain⟨g9,cy⟩:=Xq (w5.heap.size);rw[cy] at bd e9;simp only[cy];clear cw cy ag ec aw hE T X H6 HB bq;have bg:=Z bg;have bh:=Z bh;have ao:=Z ao;have cz:=Z bd;have br:=Z br;have c3:=Z be;clear bd be;cases u with
   | none=>
    go_upto_region 12 with (fail)
    go_wp2_with (first
     | (refine Lr 40 (δ 9) cz.o Ο ct ?_)
     | (refine Sr 40 (δ 6) (δ 43) rfl ao.o ct (eb.o.trans ea.o.symm) e8 ?_))
    have ah:=bf.setRow (show w.heap.size<=w.heap.size+1+1 by omega) G;have G2:=Bm bg.o (show w.heap.size≠w.heap.size+1+1 by omega) G;have G4:=Bm bh.o (show w.heap.size+1≠w.heap.size+1+1 by omega) G;have G6:=Χ w6 _ _ G _ _ ao.o;have ee:=c3.o.setBx bc.o.val br.o ao.o G;have fa:=Z (FE (by rw[HN.o];exact cm) HU.o cq.o bc.o dy.o dz.o);go_roundw
    case rel=>exact⟨q+1,J r,G,by omega,by go_num,rfl,ah,Z G2,Z G4,Z G6,Z (.inr ⟨r,bc.o.val,ee⟩),fa,Z (λd e=>by injection e with e;rw[<-e];exact ee)⟩
    simp[intOf]<;>omega
   | some u=>
    have f39:=Z (Qs u r HU.o.1.val bc.o.val HU.o.2.1 dy.o (.agg A) (.agg G) w6 (cd.o w6 bf) (Ξ bn bf.size) (cu.o u rfl) c3.o);go_upto_region 10 with (first
     | (refine Lr 40 (δ 6) ao.o Ο de ?_)
     | (refine Lr 40 (δ 9) cz.o Ο ct ?_)
     | (go_at_call 74;(with_reducible refine f39.o.mono ?_);rintro e w7 ⟨r2,ad,bj,ah⟩;obtain⟨bu,bw,bz,b0,b4,b5,b6,b7,b8,k2,rfl⟩:=ad.form;have aw:=Z ad;have c4:=Z bj;have au:=Z ah;have b9:=Z (ah.heap cz.o);clear ad bj ah)
     | (refine Sr 40 (δ 9) (δ 37) rfl b9.o Ae ea.o (Av _ _ _ rfl rfl rfl) ?_))
    clear f39;obtain⟨E,bk⟩:=Xq (dA (U bu bw bz) (U b0 b4 b5) (U b6 b7 b8));have eg:(Η.info? 40).map (·.size)=J E.size:=by rw[<-bk];exact Ae
    have fb:E.all (·.oneCell')=Α:=by rw[<-bk];exact Av _ _ _ rfl rfl rfl
    have fc:ϟ (E.size=3):=Z (by rw[<-bk];rfl);simp only[bk];have c5:=(bf.t au.o).setRow (show w.heap.size<=g9 by omega) E;have G2:=Bm (au.o.heap bg.o) (show w.heap.size≠g9 by omega) E;have G4:=Bm (au.o.heap bh.o) (show w.heap.size+1≠g9 by omega) E;have G6:=Bm (au.o.heap ao.o) (show w.heap.size+1+1≠g9 by omega) E;have G9:=Χ w7 _ _ E _ _ b9.o;have eh:BoxH w7 G:=.inr ⟨r,bc.o.val,c3.o.ext au.o⟩;have c6:IsD (w7.setRow g9 E) (.agg A) u:=((cu.o u rfl).ext au.o).setBx HU.o.1.val eh b9.o E;have ei:=Z (λ(d':Dfa) (fe:Val d') (h:IsD w7 (.agg E) d')=>h.setBx fe eh b9.o E);obtain⟨w8,c7⟩:=Xq (w7.setRow g9 E);rw[c7] at c5 G2 G4 G6 G9 c6 ei;simp only[c7];clear c7;have G2:=Z G2;have G4:=Z G4;have G6:=Z G6;have G9:=Z G9;have en:=Z (FD (by rw[HN.o];exact cm) HU.o cq.o dz.o c4.o);cases r2 with
    | none=>
     obtain⟨rfl,hz⟩:=aw.o.none_inv;have fg:=Z Ga;clear hz;go_wp2_with (first
      | (refine Bk rfl 40 _ rfl #[U I 0 0,U I 0 0,U I 0 0] ?_ ?_;(simp;with_reducible exact fg.o))
      | (refine Sr 40 (δ 4) (δ 41) rfl G4.o Ae rfl Fg ?_))
     refine ω (v:=ϗ #[zD,.int Φ 2]) (Bi rfl _ _ _ _ _ _ _ rfl _ rfl (Χ w8 _ _ #[U I 0 0,U I 0 0,U I 0 0] 40 (0,0) G4.o) Ο rfl Ae) rfl ?_;exact⟨I,rfl,en.o.1 (by simp),c5.setRow (by omega) _⟩
    | some r2=>
     obtain⟨rfl,c8⟩:=aw.o.some_inv;rw[bk] at c8;have c9:=en.o.2 r2 rfl;have eo:=ei.o r2 c9.1.val c8;go_upto_region 12 with (fail)
     go_wp2_with (first
      | (refine Lr 40 (δ 9) G9.o Ο eg ?_)
      | (refine Sr 40 (δ 6) (δ 43) rfl G6.o eg (eb.o.trans fc.o.symm) fb ?_))
     have fh:=c5.setRow (show w.heap.size<=w.heap.size+1+1 by omega) E;have K2:=Bm G2.o (show w.heap.size≠w.heap.size+1+1 by omega) E;have K4:=Bm G4.o (show w.heap.size+1≠w.heap.size+1+1 by omega) E;have K6:=Χ w8 _ _ E _ _ G6.o;have ep:=eo.setBx c9.1.val (.inr ⟨u,HU.o.1.val,c6⟩) G6.o E;have er:=Z c9;clear eo c8 c6;go_roundw
     case rel=>exact⟨q+1,J r2,E,by omega,by go_num,rfl,fh,Z K2,Z K4,Z K6,Z (.inr ⟨r2,er.o.1.val,ep⟩),er,Z (λd e=>by injection e with e;rw[<-e];exact ep)⟩
     simp[intOf]<;>omega
 obtain rfl:q=n:=by omega
 cases u with
 | none=>
  go_wp2_with (first
   | (refine Lr 40 (δ 2) T.o Ο ba ?_)
   | (refine Sr 40 (δ 4) (δ 47) rfl X.o ba (by rw[<-cf.o];rfl) e2 ?_))
  refine ω (v:=ϗ #[.agg H,.int Φ 0]) (Bi rfl _ _ _ _ _ _ _ rfl _ rfl (Χ wr _ _ H 40 (0,0) X.o) Ο rfl ba) rfl ?_;refine⟨J b,⟨_,rfl,(HI.o.ext hE).setRow HC.o.val X.o _⟩,⟨HC.o,by rw[HN.o];exact hn,λv=>?_⟩,hE.setRow (by omega) _⟩;constructor
  ·refine λh=>⟨h,?_⟩
   rintro⟨x,hx,h1,_⟩;rw[HN.o] at hx;have h0:S.testBit x=Ε:=HU.o x hx;rw[h0] at h1;cases h1
  exact λh=>h.1
 | some u=>
  have f149:=Z (Xx b u HC.o.val HU.o.1.val (by rw[HN.o];exact hn) HU.o.2.1 (.agg H) (.agg A) wr (cd.o wr hE) (Ξ bn hE.size) (HI.o.ext hE) (bq.o u rfl));go_wp2_with (first
   | (refine Lr 40 (δ 2) T.o Ο ba ?_)
   | (refine Lr 40 (δ 6) H6.o Ο de ?_)
   | (go_at_call 56;(with_reducible refine f149.o.mono ?_);rintro e w7 ⟨r2,ad,bj,ah⟩;obtain⟨bu,bw,bz,b0,b4,b5,b6,b7,b8,k2,rfl⟩:=ad.form;have aw:=Z ad;have c4:=Z bj;have au:=Z ah;have da:=Z (ah.heap X.o);clear ad bj ah)
   | (refine Sr 40 (δ 4) (δ 51) rfl da.o Ae rfl (Av _ _ _ rfl rfl rfl) ?_))
  refine ω (v:=ϗ #[.agg (dA (U bu bw bz) (U b0 b4 b5) (U b6 b7 b8)),.int Φ k2]) (Bi rfl _ _ _ _ _ _ _ rfl _ rfl (Χ w7 _ _ (dA (U bu bw bz) (U b0 b4 b5) (U b6 b7 b8)) 40 (0,0) da.o) Ο rfl Ae) rfl ?_;have hU:=HU.o;rw[<-HN.o] at hU;have hl:=Yk c4.o (λv=>show (b.has v=Α/\¬ u.has v=Α)↔(b.has v=Α/\¬ Ed b (λq=>S.testBit q=Α) v) by rw[FF hU]);refine⟨r2,aw.o.setRow (λd e=>?_) da.o _,?_,(hE.t au.o).setRow (by omega) _⟩
  ·subst e;exact hl.1.val
  ·cases r2 with
   | none=>exact .inr ⟨_,hl⟩
   | some d=>exact⟨hl.1,hl.2.2,hl.2.1⟩
end Go.Proofs.YtilncahcpjlfnaaGreatDoor
