import Derived.Laws.CopyRow
import Derived.Test.YtaiogolidlamiaaGreatDoorM13
import Derived.Test.YtaiogolidlamiaaGreatDoorM01
import Derived.Test.YtaiogolidlamiaaGreatDoorM11
import Derived.Test.YtaiogolidlamiaaGreatDoorM10
set_option linter.unusedVariables false
set_option linter.unusedSimpArgs false
open Bool renaming false → Τ, true → Ξ
open Go renaming World → Κ, Value → Ρ, Calls → Ϝ, heap_alloc2_new → Ϙ, info_parts → ϕ, wpList_load_row → Υ, wpList_store_row → Φ, setRow_heap → μ, cell_of_row → Ω, size_setRow → Õ, maxLen → ϙ, wpList_make_full → ϫ, frozen_of_row → Ϯ, setCell_eq_setRow → Ϥ, wpList_append_lies → ϐ, bodyPost_ret → ϋ, cell_one_new → Ϫ, results_cell_row → ϵ, undef → ς
open Go.Act renaming put → Ϛ
open Go.Ending renaming returned → ν
open Go.IntKind renaming i64 → ζ, u64 → π, i64 → ç
open Go.IntWalk renaming i64_in → Ý
open Go.Lib renaming hid → Α
open Go.Obj renaming cells → Ε
open Go.Operand renaming tmp → η
open Go.Proofs.Tryz renaming prog → Η, underlying28 → Ã, underlying30 → Ν, underlying68 → ϓ, underlying27 → ê, underlying62 → ϗ
open Go.RowKit renaming Hid → Ϻ
open Go.Value renaming slice → Β, bool → ο, oneCell' → ϊ, slice → ϟ
open Go.World renaming size_alloc → Λ, ownsRow_lit → Ô, ownsRow → ϛ, ownsRow_nil → Í
open List renaming replicate → δ, getElem?_eq_some_iff → ό, getD_eq_getElem?_getD → Ζ, getElem?_eq_getElem → Μ, mem_map → À, mem_of_getElem? → Ä, range → ι, ext_getElem? → ϡ, getElem?_map → Ϟ, getElem?_replicate → ϧ, getElem?_set → ϲ, getElem?_range → ì, setIfInBounds_toArray → Θ, set_cons_zero → Χ, set_cons_succ → Ψ, mem_singleton → ϳ, length_append → Ο, getElem?_eq_none → Ϩ, mem_range → υ, length_replicate → Î, map_append → ϔ, length_set → ύ
open Nat renaming lt_of_lt_of_le → ε, le_trans → ψ, le_refl → θ, le_of_eq → å
open Option renaming some → Δ, none → Γ, map_some → ð
open Option.some renaming inj → ω
namespace Go.Proofs.YtaiogolidlamiaaGreatDoor
set_option maxRecDepth 100000
set_option maxHeartbeats 4000000
open Go.RowKit Go.Shelf
open Go.Maps (Keyed)
theorem Ak5 (W:Κ) (g:Nat) (x:Dfa) (E G H:Nat) (ty:TypeId) (J:x.acc.length<=64) (hg:W.heap[g]? = Δ (Ε (Av (δ 64 Τ)) 88 (0,0)))
  (M:∀ s,s<x.acc.length->W.cell? ⟨E,G+s,Γ⟩=Δ (.bool (x.ok s))) (u:Ρ) (hu:u=Β (Δ ⟨E,G,Γ⟩) x.acc.length H) :
  ∃ c,(Builtin.copy_ #[28,28] ty #[Β (Δ ⟨g,0,Γ⟩) 64 64,u]).run Η W=.ok c (W.setRow g (Av (rst x))):=by
 subst hu;have D:(x.acc.map ο).length=x.acc.length:=List.length_map _;have:=run_copy_row (P:=Η) W 28 28 ty 4 g 0 64 64 ⟨E,G,Γ⟩ x.acc.length H (Av (δ 64 Τ)) 88 (x.acc.map ο) Ã (by kernel_rfl) hg
  (by rw[D];show x.acc.length=min x.acc.length 64;omega)
  (λj v T=>by
   obtain⟨U,aa⟩:=ό.1 T;have I:j<x.acc.length:=by rwa [D] at U
   rw[Addr.add_mid,M j I,<-aa,List.getElem_map];unfold Dfa.ok;rw[Ζ,Μ I];rfl)
  (by rw[D,Ic];simp;omega) (λv hv=>by obtain⟨b,_,rfl⟩:=À.1 hv;rfl)
 refine⟨goInt (x.acc.map ο).length,this.trans ?_⟩
 congr 2
 have e:=Ac9 x J;show _=(Ck (rst x)).toArray;rw[e,D];simp[Av]
theorem Aki {σ:Type} {c:Nat->Nat} {bs:List Nat} {st:σ} {nx:σ->Nat->σ} {ac:σ->Bool} {l:List σ} {t:Tbl} (h:Expl c bs st nx ac l t) {a b:Nat->Nat} (E:Joint a b c bs)
  (hn:∀ s x,x<256->nx s (bs.getD (c x) 0)=nx s x) (w:List UInt8):Aw nx st w∈l:=by
 have:∀ (w:List UInt8) i s,l[i]? = Δ s->l[t.run i w]? = Δ (Aw nx s w):=λw=>by
  induction w with
  | nil=>intro i s hi;exact hi
  | cons x w G=>
   intro i s hi;have D:=(h.tgt i s hi _ (E.lt _ x.toNat_lt)).2;rw[hn s _ x.toNat_lt] at D;refine G (t.stp i x.toNat) _ ?_;unfold Tbl.stp;rw[h.cell];exact D
 exact Ä (this w 0 st h.zero)
theorem Pc {L M:List UInt8->Prop} {r:Option Dfa} (h:F5 L r) (e:∀ w,L w↔M w):F5 M r:=by
 rw[show M=L from funext λw=>propext (e w).symm];exact h
def D1 (f:Nat->Bool) (n k:Nat):List Bool:=(ι n).map λq=>if q<k then f q else Τ
theorem I6 (f:Nat->Bool) (n k:Nat):(D1 f n k).length=n:=by simp[D1]
theorem Akb (f:Nat->Bool) (n k q:Nat) (D:q<n) (E:q<k):(D1 f n k).getD q Τ=f q:=by
 unfold D1;rw[Da _ _ _ _ D,if_pos E]
theorem Aj9 (f:Nat->Bool) (n:Nat):D1 f n 0=δ n Τ:=by
 apply ϡ;intro i;simp only[D1,Ϟ,ϧ,Nat.not_lt_zero,if_false];by_cases h:i<n
 ·simp[h]
 ·simp[h]
theorem Aka (f:Nat->Bool) (n k:Nat) (E:k<n):(D1 f n k).set k (f k)=D1 f n (k+1):=by
 apply ϡ;intro i;rw[ϲ,I6];simp only[D1,Ϟ];by_cases e:k=i
 ·subst e;simp[E]
 ·by_cases hi:i<n
  ·simp only[ì hi,ð,e,if_false];by_cases D:i<k
   ·simp[D,Nat.lt_succ_of_lt D]
   ·have:¬ i<k+1:=by omega
    simp[D,this]
  ·simp[e,hi]
theorem Tn (d:Dfa) (hv:Val d) (hn:d.n.length<=64) (v:Ρ) (w:Κ) (hT:Tab w) (af:0<w.heap.size) (h:IsD w v d) :
  Ϝ Η 18 #[v] w λe w'=>∃ r,ResOf w' e r/\Jl d r/\Ext w w':=by
 have HD:=Α h;obtain⟨ac,lc,cc,an,cn,aa,la,ca,rfl⟩:=h.agg;obtain⟨Va,e9⟩:∃ X,dA (Β ac lc cc) (Β an d.n.length cn) (Β aa la ca)=X:=⟨_,rfl⟩;have k5:(Η.info? 30).map (·.size)=Δ Va.size:=by rw[<-e9];exact Ad
 rw[e9] at HD ⊢;clear e9 h;have dv:=((Ι w).alloc (Ε Va 30)).alloc (Ε #[Β Γ 0 0,Β Γ 0 0,Β Γ 0 0] 30);have H0:=Ag (Ab w (Ε Va 30)) (Ε #[Β Γ 0 0,Β Γ 0 0,Β Γ 0 0] 30);have H1:=Ϙ w (Ε Va 30) (Ε #[Β Γ 0 0,Β Γ 0 0,Β Γ 0 0] 30);have ib:=Α (λW (H:Ext w W)=>hT.below H.below af);have f28:=λW (H:Ext w W)=>Α (Jf d hv hn _ W (ib.out W H) (ε af H.size) (HD.out.ext H))
 have ic:=Α (λ(x:Dfa) (hx:Cano x) (e:∀ u,x.has u=d.has u)=>ψ (Kx hx hv e) hn);clear hv hT hn;obtain⟨i0,hi,k9,lb,lf⟩:=ϕ Cg;go_enter Tryz.func18,Tryz.ntmps18;go_upto_region 1 with (fail)
 obtain⟨w1,dw⟩:∃ W,(w.alloc (Ε Va 30)).alloc (Ε #[Β Γ 0 0,Β Γ 0 0,Β Γ 0 0] 30)=W:=⟨_,rfl⟩;have lg:w.heap.size+1<w1.heap.size:=by rw[<-dw,Λ,Λ];omega
 rw[dw] at dv H0 H1;simp only[dw];clear dw;have ie:=Α H0;have dx:=Α H1;clear H0 H1;go_upto_region 4 with (first
  | (refine Υ rfl 30 (η 1) rfl _ rfl _ _ _ _ ie.out Ν rfl k5 ?_)
  | (go_at_call 28;(with_reducible refine (f28 _ dv).out.mono ?_);rintro e w2 ⟨x,⟨v2,rfl,dy⟩,ea,fc,eb⟩;obtain⟨bc,oc,bo,bn,on,bp,ba,oa,a6,rfl,hC,hR,hA⟩:=dy.opened ea.val)
  | (refine Φ rfl 30 (η 4) (η 23) rfl _ _ rfl rfl _ _ (Ab w2 _) Ad rfl (Ap _ _ _ rfl rfl rfl) ?_))
 have fe:=ic.out x ea fc;have bq:=((Ι w2).alloc (Ε #[Β Γ 0 0,Β Γ 0 0,Β Γ 0 0] 30)).setRow (θ _) (dA (Β (Δ ⟨bc,oc,Γ⟩) x.cls.length bo) (Β (Δ ⟨bn,on,Γ⟩) x.n.length bp) (Β (Δ ⟨ba,oa,Γ⟩) x.n.length a6));have H4:=μ (w2.alloc (Ε #[Β Γ 0 0,Β Γ 0 0,Β Γ 0 0] 30)) w2.heap.size _ (dA (Β (Δ ⟨bc,oc,Γ⟩) x.cls.length bo) (Β (Δ ⟨bn,on,Γ⟩) x.n.length bp) (Β (Δ ⟨ba,oa,Γ⟩) x.n.length a6)) _ _ (Ab w2 _);obtain⟨I,ff⟩:∃ W,(w2.alloc (Ε #[Β Γ 0 0,Β Γ 0 0,Β Γ 0 0] 30)).setRow w2.heap.size (dA (Β (Δ ⟨bc,oc,Γ⟩) x.cls.length bo) (Β (Δ ⟨bn,on,Γ⟩) x.n.length bp) (Β (Δ ⟨ba,oa,Γ⟩) x.n.length a6))=W:=⟨_,rfl⟩;rw[ff] at bq H4;simp only[ff];clear ff;have HC:=Α (λ(W:Κ) (H:Ext I W)=>hC.ext (bq.trans H));have HR:=Α (λ(W:Κ) (H:Ext I W)=>hR.ext (bq.trans H));have ij:=Α (λ(W:Κ) (H:Ext I W) s (hs:s<x.n.length)=>(bq.trans H).cell (hA s hs));have ec:=Α (λ(W:Κ) (H:Ext I W)=>(Ω W w2.heap.size 0 _ _ _ (H.heap H4)).trans (show (dA (Β (Δ ⟨bc,oc,Γ⟩) x.cls.length bo) (Β (Δ ⟨bn,on,Γ⟩) x.n.length bp) (Β (Δ ⟨ba,oa,Γ⟩) x.n.length a6))[0]? = Δ (Β (Δ ⟨bc,oc,Γ⟩) x.cls.length bo) from rfl));have fh:=Α (λ(W:Κ) (H:Ext I W)=>(Ω W w2.heap.size 1 _ _ _ (H.heap H4)).trans (show (dA (Β (Δ ⟨bc,oc,Γ⟩) x.cls.length bo) (Β (Δ ⟨bn,on,Γ⟩) x.n.length bp) (Β (Δ ⟨ba,oa,Γ⟩) x.n.length a6))[1]? = Δ (Β (Δ ⟨bn,on,Γ⟩) x.n.length bp) from rfl));have ik:=Α (λ(W:Κ) (H:Ext I W)=>(Ω W w2.heap.size 2 _ _ _ (H.heap H4)).trans (show (dA (Β (Δ ⟨bc,oc,Γ⟩) x.cls.length bo) (Β (Δ ⟨bn,on,Γ⟩) x.n.length bp) (Β (Δ ⟨ba,oa,Γ⟩) x.n.length a6))[2]? = Δ (Β (Δ ⟨ba,oa,Γ⟩) x.n.length a6) from rfl));have fj:=(dv.trans eb).trans bq;have dx:=Α ((eb.trans bq).heap dx.out);have n9:w.heap.size+1<I.heap.size:=ε lg (eb.trans bq).size;have fk:=Α ea;have fl:=Α fc;clear dy ea fc hC hR hA bq H4 ie HD f28 ic eb dv;generalize w2.heap.size=g4 at *;have HV:=Α fk.out.val;have lj:=HV.out.pos;have lk:=HV.out.parts.pos;have ll:=HV.out.parts.le;have fm:=Α HV.out.accL;have a8:=Α (G9 x.cls);have im:=Α (λ(W:Κ) (H:Ext I W) (g:Nat) (ty:TypeId) (hg:W.heap[g]? = Δ (Ε (Av (δ 64 Τ)) 88 (0,0)))=>Ak5 W g x ba oa a6 ty (by rw[fm.out];exact fe) hg (λs hs=>ij.out W H s (by rw[<-fm.out];exact hs)) (Β (Δ ⟨ba,oa,Γ⟩) x.n.length a6) (by rw[fm.out]))
 obtain⟨nn,ed⟩:∃ n,x.n.length=n:=⟨_,rfl⟩;obtain⟨m,hm⟩:∃ n,x.cls.length=n:=⟨_,rfl⟩;rw[ed] at lj fe fh ik HR im ij;rw[hm] at lk ll ec HR a8;rw[ed,hm];have ee:=Α ed;have c8:=Α hm;clear ed hm;have da:=(Ι I).alloc (Ε (Av (δ 64 Τ)) 88);have H6:=Ab I (Ε (Av (δ 64 Τ)) 88);go_upto_region 5 with (fail)
 rw[z64];obtain⟨w4,eg⟩:∃ W,I.alloc (Ε (Av (δ 64 Τ)) 88)=W:=⟨_,rfl⟩;have ln:w4.heap.size=I.heap.size+1:=by rw[<-eg,Λ]
 rw[eg] at da H6;simp only[eg];clear eg;refine B0 3 [(0,Ξ),(1,Ξ),(2,Ξ),(3,Τ)] (by kernel_rfl) (by kernel_rfl) (λ_ _ _ _ h=>h) (λW=>W.cell? ⟨g4,2,Γ⟩=Δ (Β (Δ ⟨ba,oa,Γ⟩) nn a6)) (ik.out _ da.drew) ?_;iterate 3
  refine Ao (v:=?_) rfl rfl (λW H=>?_) ?_
  rotate_left
  ·go_simp;first|done|with_reducible rfl
  simp only[Ϛ,Θ,Χ,Ψ]
 obtain⟨c5,iq⟩:=im.out w4.drew da.drew I.heap.size 3 H6;refine A4 rfl (λK hK=>?_);refine (if_pos (by rfl)).mpr ?_;refine Z4 _ _ 28 28 rfl _ _ rfl rfl iq ?_;refine hK _ _ (λh=>absurd h (by omega)) ?_;clear hK K;refine B2 ?_;have cv:=da.drew.setRow (θ I.heap.size) (Av (rst x));have fo:=Α (μ w4.drew I.heap.size _ (Av (rst x)) _ _ H6);obtain⟨D,eh⟩:∃ W,w4.drew.setRow I.heap.size (Av (rst x))=W:=⟨_,rfl⟩;have od:I.heap.size<D.heap.size:=by rw[<-eh,Õ];show _<w4.heap.size;omega
 rw[eh] at cv fo;simp only[eh];clear eh iq H6 da ln;have dd:=Jz x;have ir:=S8 (rst x) dd;have bb:=Pr (rst x) dd;have lo:=@run_makeMap Η;have iu:=Ke D 88 Dp;have iw:=cv.alloc (.map #[] 0);have ei:=Α (Ag fo.out (.map #[] 0));have ix:D.heap.size+1<=(D.alloc (.map #[] 0)).heap.size:=by rw[Λ];omega
 go_upto_region 7 with (first
  | (refine Υ rfl 88 (η 6) rfl _ rfl _ _ _ _ ei.out Tryz.underlying88 rfl bb ?_)
  | (refine Rg rfl _ _ _ 89 rfl Mj Tryz.underlying89 rfl iu (by unfold ϙ;omega) S9 (rst x) rfl ir 0 rfl (by omega) ?_;intro w6 ai ej))
 clear lo iu;have cg:=iw.grown ej (λk e=>by cases e;omega);have H7:=Α ((ej.block I.heap.size (An ei.out) (λe=>by have:=ω e;omega)).trans ei.out);have bg:D.heap.size+1<=w6.heap.size:=ψ ix ej.size;clear ej ix iw ei fo;go_upto_region 8 with (first
  | (refine Υ rfl 88 (η 6) rfl _ rfl _ _ _ _ H7.out Tryz.underlying88 rfl bb ?_)
  | (refine Rh rfl _ rfl (rst x) dd rfl ?_))
 have bt:=cg.alloc (Ε (Av (rst x)) 88);have bh:=ai.alloc (Ε (Av (rst x)) 88);have aj:Lb (w6.alloc (Ε (Av (rst x)) 88)) (D.heap.size+1) (Β (Δ ⟨w6.heap.size,0,Γ⟩) 1 1) [rst x]:=by
  have:=Ô (base:=D.heap.size+1) (e:=88) (size:=64) w6 (Av (rst x)) 1 bg (by unfold ϙ;omega) (by rw[Ic,dd]);show ϛ _ _ _ _ _ _ _;rw[W4];exact this
 have ch:D.heap.size+1<=(w6.alloc (Ε (Av (rst x)) 88)).heap.size:=by rw[Λ];omega
 obtain⟨w8,fp⟩:∃ W,w6.alloc (Ε (Av (rst x)) 88)=W:=⟨_,rfl⟩;rw[fp] at bt bh aj ch;simp only[fp];clear fp ai cg H7 bg ir bb;obtain⟨lp,iz⟩:∃ x,w6.heap.size=x:=⟨_,rfl⟩;rw[iz] at aj ⊢;clear iz;have oe:I.heap.size<=D.heap.size:=by omega
 have fs:=Α (λk (hk:k<m)=>Ie HV.out.parts (show k<x.cls.length by rw[c8.out];exact hk));have jb:=Í w8 (D.heap.size+1) 68 1;have jc:RowsO w8 (D.heap.size+1) [] [] (λ_=>False):=⟨rfl,λj hj=>by simp at hj⟩;clear dd;go_wp2_with (fail);go_loopw [8,9,10] (λvo vn vi W=>∃ (i:Nat) (l:List (List Bool)) (f:List Bool->Option Nat) (N':List (List Nat)) (vs:List Ρ) (go co:Nat),i<=l.length/\l.length<=4096/\vi=.int ζ i/\vo=Β (Δ ⟨go,0,Γ⟩) l.length co/\Ext I W/\D.heap.size+1<=W.heap.size/\
   IsMp W 88 Dp D.heap.size l.length f/\Lb W (D.heap.size+1) vo l/\W.ownsRow (D.heap.size+1) 68 1 vn vs.length vs/\
   RowsO W (D.heap.size+1) vs N' (λ_=>False)/\Ϻ (EInv (Cf x.cls) (rst x) (rnx x) i 0 l f N' (δ m 0)/\∀ S,S∈l->S.length=64))
  (λ_ _ vi _=>4097-(intOf vi).toNat)
 case atStart=>exact⟨0,[rst x],_,[],[],lp,1,by omega,by simp,rfl,rfl,bt,ch,bh,aj,jb,jc,Α ⟨Qg (Cf x.cls) (rst x) (rnx x) _ (by rw[a8.out];simp),λS hS=>by rw[ϳ] at hS;rw[hS];exact Jz x⟩⟩
 case round=>
  clear bt bh aj ch jb jc;obtain⟨i,l,f,N',vs,go,co,lq,jd,rfl,rfl,J,af,bu,hL,U,hV,HI⟩:=hrel;by_cases je:i<l.length
  ·obtain⟨wo,lr⟩:∃ W,W=wr:=⟨_,rfl⟩;subst lr;obtain⟨S,ay⟩:∃ s,l[i]? = Δ s:=⟨l[i],by simp[je]⟩;have fu:=Α ay;have fv:=Α (HI.out.2 S (Ä ay));clear ay;have k0:=ec.out wo J;go_upto_region 13 with (at_make;refine ϫ _ rfl _ _ 68 rfl (D.heap.size+1) 3 i0 (.int ζ 0) 1 ϓ hi k9 lb ζ ζ _ _ m rfl rfl rfl rfl (by rw[lf];omega) (by unfold ϙ;omega) (by omega) ?_;intro w7 jf ah)
   clear k0;have cv:=J.grown ah (λk e=>by cases e);have eo:w7.ownsRow (D.heap.size+1) 3 1 (Β (Δ ⟨wo.heap.size,0,Γ⟩) m m) m ((δ m 0).map iv):=by rw[<-B7];exact jf
   have jg:=bu.kept ah (by simp);have jh:=Cb hL ah;have ji:=Cb U ah;have fw:=(hV.av (av':=λo=>o=Δ wo.heap.size) (λv l ho cj e=>by
    have:=(ho.lt _ e).2;omega)).kept ah (λv l ho cj=>by cases v.ownBlock<;>simp)
   have jj:=ψ af ah.size;have lu:=(eo.lt wo.heap.size rfl).1;obtain⟨gr,fx⟩:∃ x,wo.heap.size=x:=⟨_,rfl⟩;rw[fx] at eo fw lu;rw[fx];clear jf ah bu hL U hV J af fx;have k0:=ec.out w7 cv;go_wp2_with (fail);clear k0;go_loopw [8,51] (λvo vk W=>∃ (k:Nat) (G:List (List Bool)) (f2:List Bool->Option Nat) (r:List Nat) (dg ep:Nat),k<=m/\G.length<=4096+k/\vk=.int ζ k/\vo=Β (Δ ⟨dg,0,Γ⟩) G.length ep/\Ext I W/\D.heap.size+1<=W.heap.size/\
     IsMp W 88 Dp D.heap.size G.length f2/\Lb W (D.heap.size+1) vo G/\W.ownsRow (D.heap.size+1) 3 1 (Β (Δ ⟨gr,0,Γ⟩) m m) m (r.map iv)/\
     W.ownsRow (D.heap.size+1) 68 1 u9 vs.length vs/\RowsO W (D.heap.size+1) vs N' (λo=>o=Δ gr)/\
     Ϻ (EInv (Cf x.cls) (rst x) (rnx x) i k G f2 N' r/\i<G.length/\(∀ j,j<=i->G[j]? = l[j]?)/\∀ S,S∈G->S.length=64))
    (λ_ vk _=>m-(intOf vk).toNat)
   case atStart=>exact⟨0,l,f,_,go,co,by omega,by omega,rfl,rfl,cv,jj,jg,jh,eo,ji,fw,Α ⟨HI.out.1,je,λ_ _=>rfl,HI.out.2⟩⟩
   case round=>
    clear cv jj jg jh eo ji fw;obtain⟨k,G,f2,r,dg,ep,hk,og,rfl,rfl,J,af,bu,hL,hQ,U,hV,HJ⟩:=hrel;have dh:Ϻ (r.length=m):=Α (by rw[HJ.out.1.lenr,a8.out]);have oh:=HJ.out.2.1;have gb:Ϻ (G[i]? = Δ S):=Α (by rw[HJ.out.2.2.1 i (θ _)];exact fu.out);obtain⟨w7,lv⟩:∃ W,W=wr:=⟨_,rfl⟩;subst lv;by_cases ck:k<m
    ·have et:=(Ι w7).alloc (Ε (Av (δ 64 Τ)) 88);have dk:=Ab w7 (Ε (Av (δ 64 Τ)) 88);have gd:w7.heap.size<(w7.alloc (Ε (Av (δ 64 Τ)) 88)).heap.size:=by rw[Λ];omega
     go_upto_region 17 with (fail)
     rw[z64];obtain⟨ws,gf⟩:∃ W,w7.alloc (Ε (Av (δ 64 Τ)) 88)=W:=⟨_,rfl⟩;rw[gf] at et dk gd;simp only[gf];clear gf;rw[<-Aj6 x S k] at dk;obtain⟨gS,eu⟩:∃ y,w7.heap.size=y:=⟨_,rfl⟩;rw[eu] at dk gd;rw[eu];have ly:=Α eu;clear eu;have cg:=J.trans et;have k1:=fh.out ws cg;go_wp2_with (fail);clear k1;have jk:=Α (λ(W:Κ) (H:Ext w7 W) (q:Nat) (hq:q<64)=>H.cell (S7 hL HJ.out.2.2.2 i S gb.out q hq));have jl:w7.heap.size<=gS:=å ly.out;go_loopw [57] (λvs W=>∃ s:Nat,s<=nn/\vs=.int ζ s/\Ext w7 W/\Ϻ (W.heap[gS]? = Δ (Ε (Av (Dh x S k s)) 88 (0,0))))
      (λvs _=>nn-(intOf vs).toNat)
     case atStart=>exact⟨0,by omega,rfl,et,Α dk⟩
     case round=>
      clear dk et;obtain⟨s,hs,rfl,au,HG⟩:=hrel;by_cases ay:s<nn
      ·have jm:=J.trans au;have gg:=jm.drew;obtain⟨br,or',cr,jo,jq⟩:=HR.out wr.drew gg s ay;have gh:=jq k ck;have l4:x.ent2 s k<nn:=by rw[<-ee.out];exact HV.out.tgt s (by rw[ee.out];exact ay) k (by rw[c8.out];exact ck)
       obtain⟨y,bx⟩:∃ y,x.ent2 s k=y:=⟨_,rfl⟩;rw[bx] at gh l4;have gi:=jk.out wr.drew au.drew y (by omega);obtain⟨bS,gk⟩:∃ b,S.getD y Τ=b:=⟨_,rfl⟩;rw[gk] at gi;have l5:Ϻ (S.getD (x.ent2 s k) Τ=bS):=Α (by rw[bx];exact gk);have l6:s<64:=by omega
       have dn:(y:Int)<64:=by omega
       have om:(s:Int)<64:=by omega
       have jr:=fh.out wr.drew gg;have gl:wr.drew.heap[gS]? = Δ (Ε (Av (Dh x S k s)) 88 (0,0)):=HG.out;have ev:=(Ω wr.drew gS s _ _ _ gl).trans (Ta _ s (by rw[Xe];omega));have ew:=Ϯ wr.drew gS s _ _ gl;have js:=Α ev;have jt:=Α ew;clear jq bx gk ev ew;go_upto_region 20 with (fail)
       refine B0 15 [(0,Ξ),(1,Ξ),(2,Ξ),(3,Ξ),(4,Ξ),(5,Ξ),(6,Ξ),(7,Ξ),(8,Ξ),(9,Ξ),(10,Ξ),(11,Ξ),(12,Ξ),(13,Ξ),(14,Ξ),(15,Τ)] (by kernel_rfl) (by kernel_rfl) (λ_ _ _ _ h=>h)
        (λX=>X.cell? ⟨g4,1,Γ⟩=Δ (Β (Δ ⟨bn,on,Γ⟩) nn bp)/\X.cell? ⟨bn,on+s,Γ⟩=Δ (Β (Δ ⟨br,or',Γ⟩) m cr)/\X.cell? ⟨br,or'+k,Γ⟩=Δ (iv y)/\X.cell? ⟨dg,i*64+y,Γ⟩=Δ (.bool bS)) ⟨jr,jo,gh,gi⟩ ?_
       clear jr jo gh gi;iterate 15
        refine Ao (v:=?_) rfl rfl (λX hX=>?_) ?_
        rotate_left
        ·obtain⟨t0,t1,t2,t3⟩:=hX;go_simp;first|done|with_reducible rfl
        simp only[Ϛ,Θ,Χ,Ψ]
       have ev:=js.out;have ew:=jt.out;refine A4 rfl (λK hK=>?_);go_simp;refine hK _ _ (λh=>absurd h (by omega)) ?_;clear hK K ev ew js jt;refine B2 ?_;have ju:wr.setCell ⟨gS,s,Γ⟩ (.bool bS)=wr.setRow gS (Av (Dh x S k (s+1))):=by
        rw[Ϥ wr gS s _ _ _ _ HG.out,<-l5.out,Aj7 x S k s l6]
       have l7:Ϻ ((wr.setRow gS (Av (Dh x S k (s+1)))).drew.heap[gS]? = Δ (Ε (Av (Dh x S k (s+1))) 88 (0,0))):=Α (μ wr gS _ (Av (Dh x S k (s+1))) _ _ HG.out);have gm:=(au.setRow jl (Av (Dh x S k (s+1)))).drew;rw[ju];clear ju gl jm gg au;go_wp2;go_roundw
       case rel=>exact⟨s+1,by omega,by go_num,gm,l7⟩
       case measure=>simp[intOf];omega
      ·obtain rfl:s=nn:=by omega
       obtain⟨y,bx⟩:∃ y,rnx x S ((Cf x.cls).getD k 0)=y:=⟨_,rfl⟩;have hG:wr.heap[gS]? = Δ (Ε (Av y) 88 (0,0)):=by
        have h1:=HG.out;have h2:=Aj8 x S k (fs.out k ck).2;rw[ee.out,bx] at h2;rw[h2] at h1;exact h1
       have dn:y.length=64:=by rw[<-bx];exact N8 _ _ _
       have gn:=Α dn;have gp:=Α bx;have gq:=S8 y dn;have bb:=Pr y dn;have b4:=Ah hL au;have aw:=Ah hQ au;have bk:=Ah U au;have cl:=hV.kept (au.grownBy Γ) (λv l _ _=>by cases v.ownBlock<;>simp);have ai:=bu.ext au;have bt:=J.trans au;have bg:=ψ af au.size;have e0:=Α hG;have oo:D.heap.size+1<=gS:=ψ af jl;clear hL hQ U hV bu J af cg bx hG dn HG gd au jk;obtain⟨T,gu⟩:∃ W,W=wr:=⟨_,rfl⟩;subst gu;cases hf:f2 y with
       | some v=>
        have gv:=Α (Qi HJ.out.1 (by rw[a8.out];exact ck) gb.out v (by rw[gp.out];exact hf));have cq:=Am 0 aw dh.out.symm k (by rw[dh.out];exact ck);have fq:=aw.frozenAt k;obtain⟨dp,ae⟩:=Bj aw k v;have cm:=bt.grown ae (λk e=>by cases e;omega);have aj:=b4.kept ae (Ai b4 aw (by decide));have cp:=bk.kept ae (Ai bk aw (by decide));have e2:=cl.kept ae (λv l ho cj=>.inr (λe=>cj e));have bh:=ai.kept ae (λe=>by have:=ω e;omega);have ch:=ψ bg ae.size;clear ae b4 aw bk cl bt bg;go_wp2_with (first
         | (refine Υ rfl 88 (η 13) rfl _ rfl _ _ _ _ e0.out Tryz.underlying88 rfl bb ?_)
         | (at_lookup;refine Er rfl _ _ 89 rfl Mj Tryz.underlying89 rfl ai y rfl gq ?_;rw[hf];dsimp only [Option.isSome,Option.getD]))
        go_roundw
        case rel=>exact⟨k+1,G,f2,r.set k v,dg,ep,by omega,by omega,by go_num,rfl,cm,ch,bh,aj,dp,cp,e2,Α ⟨gv.out,HJ.out.2⟩⟩
        case measure=>simp[intOf];omega
       | none=>
        have gw:=Qj HJ.out.1 (by rw[a8.out];exact ck) (λq hq=>(fs.out q (by rw[<-a8.out];exact hq)).1) gb.out (by rw[gp.out];exact hf);rw[gp.out] at gw;have gv:=Α gw;clear gw;obtain⟨i7,mb,mc,me,mf⟩:=ϕ Wc;have jw:gS<T.heap.size:=An e0.out;have mg:gS≠D.heap.size:=λe=>by omega
        go_upto_region 26 with (first
         | (refine Υ rfl 88 (η 13) rfl _ rfl _ _ _ _ e0.out Tryz.underlying88 rfl bb ?_)
         | (at_lookup;refine Er rfl _ _ 89 rfl Mj Tryz.underlying89 rfl ai y rfl gq ?_;rw[hf];dsimp only [Option.isSome,Option.getD])
         | (at_mapUpdate;refine Jm rfl _ _ _ 89 rfl Mj Tryz.underlying89 rfl ai (by unfold ϙ;omega) S9 y rfl gq G.length rfl (by omega) ?_;intro gx bh ae))
        have aj:=b4.kept ae (ai.far b4);have dp:=aw.kept ae (ai.far aw);have cp:=bk.kept ae (ai.far bk);have e2:=cl.kept ae (λv l ho cj=>ai.far ho);have cm:=bt.grown ae (λk e=>by cases e;omega);have ch:=ψ bg ae.size;have jx:=Α ((ae.block gS jw (λe=>mg (ω e))).trans e0.out);clear ae b4 aw bk cl bt bg ai jw;go_upto_region 27 with (first
         | (refine Υ rfl 88 (η 13) rfl _ rfl _ _ _ _ jx.out Tryz.underlying88 rfl bb ?_)
         | (refine Rh rfl _ rfl y gn.out rfl ?_)
         | (at_builtin;refine ϐ _ rfl _ _ 90 rfl (D.heap.size+1) 88 i7 (Dp (δ 64 Τ)) 64 64 Tryz.underlying90 mb mc me mf (by show (Av (δ 64 Τ)).size=64;rw[Ic];rfl) (by decide) _ _ _ rfl (aj.alloc _) _ 1 1 (Ck y) rfl (by rw[G2,gn.out]) (Κ.news_of_block (Ab gx _)) (λu hu=>by obtain⟨b,_,rfl⟩:=À.1 hu;rfl) (by decide) (by unfold ϙ;omega) (by omega) (by rw[Λ];omega) _ rfl ?_;intro g9 c9 j1 dq al _ _))
        have b5:=(cm.alloc (Ε (Av y) 88)).grown al (λk e=>by have:=(aj.lt k e).1;omega);have cy:=(dp.alloc (Ε (Av y) 88)).kept al (Ai dp aj (by decide));have cz:=(cp.alloc (Ε (Av y) 88)).kept al (Ai cp aj (by decide));have dr:=(e2.alloc (Ε (Av y) 88)).kept al (λv l ho _=>Ai ho (aj.alloc (Ε (Av y) 88)) (by decide));have j2:=(bh.alloc (Ε (Av y) 88)).kept al (bh.ne_row aj);have dt:D.heap.size+1<=j1.heap.size:=by
         have:=al.size;rw[Λ] at this;omega
        have gy:Ϻ (Lb j1 (D.heap.size+1) (Β (Δ ⟨g9,0,Γ⟩) (G++[y]).length c9) (G++[y])):=Α (by
         show ϛ _ _ _ _ _ _ _;rw[Ο,Ajw,W4];exact dq)
        clear al aj dp cp e2 cm ch bh dq jx;have cq:=Am 0 cy dh.out.symm k (by rw[dh.out];exact ck);have fq:=cy.frozenAt k;obtain⟨mh,ct⟩:=Bj cy k G.length;have mi:=b5.grown ct (λk e=>by cases e;omega);have mj:=Α (gy.out.kept ct (Ai gy.out cy (by decide)));have ml:=cz.kept ct (Ai cz cy (by decide));have mm:=dr.kept ct (λv l ho cj=>.inr (λe=>cj e));have mo:=j2.kept ct (λe=>by have:=ω e;omega);have e3:=ψ dt ct.size;clear ct gy cy cz dr b5 dt j2;go_wp2_with (fail);go_roundw
        case rel=>
         refine⟨k+1,G++[y],_,r.set k G.length,g9,c9,by omega,by rw[Ο];simp;omega,by go_num,?_,mi,e3,?_,?_,mh,ml,mm,Α ⟨gv.out,?_,λj hj=>?_,λX hX=>?_⟩⟩
         ·rw[Ο];rfl
         ·rw[Ο];exact mo
         ·have h9:ϛ _ _ _ _ _ _ _:=mj.out;show ϛ _ _ _ _ _ _ _;rw[show (G++[y]).length=G.length+1 by simp] at h9 ⊢;exact h9
         ·rw[Ο];have:=HJ.out.2.1;omega
         ·rw[List.getElem?_append_left (by have:=HJ.out.2.1;omega)];exact HJ.out.2.2.1 j hj
         ·rcases List.mem_append.1 hX with hX|hX
          ·exact HJ.out.2.2.2 X hX
          ·rw[ϳ] at hX;rw[hX];exact gn.out
        case measure=>simp[intOf];omega
    ·obtain rfl:m=k:=by omega
     by_cases mq:4096<G.length
     ·have mr:(4096:Int)<(G.length:Int):=by omega
      have mu:=Α (show B9 (rnx x) (rst x) 4096 from⟨G,HJ.out.1.nodup,λS hS=>HJ.out.1.reach S hS,mq⟩);have mv:=Α Fa;have e4:=Α (J.heap dx.out);go_wp2_with (first
       | (refine B3 rfl 30 _ rfl #[Β Γ 0 0,Β Γ 0 0,Β Γ 0 0] ?_ ?_;(simp;with_reducible exact mv.out))
       | (refine Φ rfl 30 (η 2) (η 101) rfl _ _ rfl rfl _ _ e4.out Ad rfl Ew ?_))
      refine ϋ (v:=.tuple #[zD,.int ζ 2]) (Ba rfl _ _ _ _ _ _ _ rfl _ rfl (μ _ _ _ #[Β Γ 0 0,Β Γ 0 0,Β Γ 0 0] 30 (0,0) e4.out) Ν rfl Ad) rfl ?_;exact⟨Γ,rfl,⟨x,fk.out,fl.out,λ_=>rfl,λmw=>absurd mu.out mw⟩,(fj.trans J).setRow (by omega) _⟩
     ·have mr:¬ (4096:Int)<(G.length:Int):=by omega
      obtain⟨i6,mz,na,nb,dy⟩:=ϕ Mo;have oq:vs.length<=1073741824:=by rw[hV.1,HJ.out.1.lenN];omega
      go_wp2_with (at_builtin;refine ϐ _ rfl _ _ 27 rfl (D.heap.size+1) 68 i6 (Β Γ 0 0) 1 24 ê mz na nb dy rfl (by decide) u9 vs.length vs rfl (U.alloc _) _ 1 1 [Β (Δ ⟨gr,0,Γ⟩) m m] rfl rfl (Ϫ _ _ _) (by simp[ϊ]) (by decide) (by unfold ϙ;omega) (by omega) (by rw[Λ];omega) _ rfl ?_;intro g7 c7 w8 bk ah _ _);have ai:=(bu.alloc (Ε #[Β (Δ ⟨gr,0,Γ⟩) m m] 68)).kept ah (bu.ne_row U);have b4:=(hL.alloc (Ε #[Β (Δ ⟨gr,0,Γ⟩) m m] 68)).kept ah (Ai hL U (by decide));have aw:=(hQ.alloc (Ε #[Β (Δ ⟨gr,0,Γ⟩) m m] 68)).kept ah (Ai hQ U (by decide));have cl:=(hV.alloc (Ε #[Β (Δ ⟨gr,0,Γ⟩) m m] 68)).kept ah (λv l ho _=>Ai ho (U.alloc (Ε #[Β (Δ ⟨gr,0,Γ⟩) m m] 68)) (by decide));have cg:=(J.alloc (Ε #[Β (Δ ⟨gr,0,Γ⟩) m m] 68)).grown ah (λk e=>by have:=(U.lt k e).1;omega);have bg:D.heap.size+1<=w8.heap.size:=by
       have:=ah.size;rw[Λ] at this;omega
      have cp:w8.ownsRow (D.heap.size+1) 68 1 (Β (Δ ⟨g7,0,Γ⟩) (vs.length+1) c7) (vs++[ϟ (Δ ⟨gr,0,Γ⟩) m m]).length (vs++[ϟ (Δ ⟨gr,0,Γ⟩) m m]):=by
       rw[Ο];exact bk
      have j4:OwnI w8 (D.heap.size+1) (Β (Δ ⟨gr,0,Γ⟩) m m) r:=by
       show ϛ _ _ _ _ _ _ _;rw[dh.out];exact aw
      have nf:=(cl.av (av':=λ_=>False) (λv l _ _ e=>e)).snoc j4 (λe=>e);have ng:=Α (Qh (by rw[a8.out];exact HJ.out.1) HJ.out.2.1 (δ m 0) (by rw[a8.out];simp));clear ah bk aw j4 cl;go_roundw
      case rel=>exact⟨i+1,G,f2,N'++[r],vs++[Β (Δ ⟨gr,0,Γ⟩) m m],dg,ep,by omega,by omega,by go_num,rfl,cg,bg,ai,b4,cp,nf,Α ⟨ng.out,HJ.out.2.2.2⟩⟩
      case measure=>simp[intOf];omega
  ·obtain rfl:i=l.length:=by omega
   have j5:=Α HI.out.2;have b6:=Α (Qk (c:=Ak x.cls) (ac:=λS=>S.getD 0 Τ) (A:=D1 (λq=>(l.getD q []).getD 0 Τ) l.length l.length) (by
     have h:=HI.out.1;rw[show δ m 0=δ m 0 from rfl] at h;exact h) rfl (I6 _ _ _) (λj s hs=>by
    have hj:j<l.length:=(ό.1 hs).1;have e:l.getD j []=s:=by rw[Ζ,hs];rfl
    rw[Akb _ _ _ _ hj hj,e]))
   have nh:=HI.out.1.pos;obtain⟨j0,hj,nj,nk,nm⟩:=ϕ Dt;obtain⟨E,du⟩:∃ x,l.length=x:=⟨_,rfl⟩;have b7:=Α du;have j6:ϛ wr (D.heap.size+1) 88 64 (Β (Δ ⟨go,0,Γ⟩) E co) E (flB l):=by
    rw[<-du];exact hL
   rw[du] at jd nh;rw[du];clear lq bu du hL;go_upto_region 33 with (at_make;refine ϫ _ rfl _ _ 28 rfl (D.heap.size+1) 4 j0 (.bool Τ) 1 Ã hj nj nk ζ ζ _ _ E rfl rfl rfl rfl (by rw[nm];omega) (by unfold ϙ;omega) (by omega) ?_;intro T j7 al)
   have cm:=J.grown al (λk e=>by cases e);have gz:T.ownsRow (D.heap.size+1) 4 1 (Β (Δ ⟨wr.heap.size,0,Γ⟩) E E) E ((D1 (λq=>(l.getD q []).getD 0 Τ) E 0).map ο):=by rw[Aj9,<-B7];exact j7
   have dq:=Cb j6 al;have cz:=Cb U al;have dr:=hV.kept al (λv l ho cj=>by cases v.ownBlock<;>simp);have dt:=ψ af al.size;obtain⟨ga,e5⟩:∃ x,wr.heap.size=x:=⟨_,rfl⟩;have ot:D.heap.size+1<=ga:=by rw[<-e5];exact af
   rw[e5] at gz;rw[e5];clear j7 al j6 U hV J af e5;go_wp2_with (fail);go_loopw [111] (λvj W=>∃ j:Nat,j<=E/\vj=.int ζ j/\Ext I W/\D.heap.size+1<=W.heap.size/\W.ownsRow (D.heap.size+1) 88 64 (Β (Δ ⟨go,0,Γ⟩) E co) E (flB l)/\
     W.ownsRow (D.heap.size+1) 68 1 u9 vs.length vs/\RowsO W (D.heap.size+1) vs N' (λ_=>False)/\W.ownsRow (D.heap.size+1) 4 1 (Β (Δ ⟨ga,0,Γ⟩) E E) E ((D1 (λq=>(l.getD q []).getD 0 Τ) E j).map ο))
    (λvj _=>E-(intOf vj).toNat)
   case atStart=>exact⟨0,by omega,rfl,cm,dt,dq,cz,dr,gz⟩
   case round=>
    clear cm dt dq cz dr gz;obtain⟨j,ou,rfl,J,af,hL,U,hV,hA⟩:=hrel;obtain⟨T,gu⟩:∃ W,W=wr:=⟨_,rfl⟩;subst gu;by_cases e6:j<E
    ·obtain⟨S,ay⟩:∃ s,l[j]? = Δ s:=⟨l[j]'(by rw[b7.out];exact e6),by simp[b7.out,e6]⟩;have c1:=j5.out S (Ä ay);have j8:T.rangeAt go (j*64) (Ck S):=λq v hq=>by
      have hl:q<(Ck S).length:=(ό.1 hq).1;rw[G2,c1] at hl;have h1:ϛ T (D.heap.size+1) 88 64 (Β (Δ ⟨go,0,Γ⟩) l.length co) l.length (flB l):=by rw[b7.out];exact hL
      rw[S7 h1 j5.out j S ay q hl];have h2:(Ck S)[q]? = Δ (.bool (S.getD q Τ)):=by
       simp[Ck,Ζ,c1,hl]
      rw[<-h2,hq]
     have bb:=Pr S c1;have j9:(Η.info? 88).map (·.size)=Δ (Ck S).length:=by rw[G2,c1];exact Wd
     have np:=Α j8;have fu:=Α ay;have fv:=Α c1;clear j8 ay c1;go_upto_region 36 with (first
      | (refine wpList_load_mid rfl 88 (η 114) rfl go (j*64) rfl (Ck S) _ np.out Tryz.underlying88 rfl j9 ?_)
      | (refine Φ rfl 88 (η 19) (η 115) rfl _ (Av S) rfl rfl _ _ (Ab T _) bb (by rw[Ic,fv.out];rfl) (Acj S) ?_))
     have b8:=((Ι T).alloc (Ε (Av (δ 64 Τ)) 88)).setRow (θ T.heap.size) (Av S);have hp:=μ (T.alloc (Ε (Av (δ 64 Τ)) 88)) T.heap.size _ (Av S) _ _ (Ab T _);simp only[z64];obtain⟨wz,hr⟩:∃ W,(T.alloc (Ε (Av (δ 64 Τ)) 88)).setRow T.heap.size (Av S)=W:=⟨_,rfl⟩;rw[hr] at b8 hp;simp only[hr];clear hr;have e3:=ψ af b8.size;generalize T.heap.size=gT at *;have hy:=Ah hL b8;have hz:=Ah U b8;have cu:=Ah hA b8;have ka:=hV.kept (b8.grownBy Γ) (λv l _ _=>by cases v.ownBlock<;>simp);have b5:=J.trans b8;have ow:=(Ω wz gT 0 _ _ _ hp).trans (Ta S 0 (by rw[fv.out];omega));have ca:=Am Τ cu (I6 _ _ _).symm j (by rw[I6];exact e6);have cf:=cu.frozenAt j;obtain⟨kb,c2⟩:=Bj cu j (S.getD 0 Τ);have kc:(D1 (λq=>(l.getD q []).getD 0 Τ) E j).set j (S.getD 0 Τ)=D1 (λq=>(l.getD q []).getD 0 Τ) E (j+1):=by
      rw[<-Aka _ _ _ e6];have e:l.getD j []=S:=by rw[Ζ,fu.out];rfl
      rw[e]
     rw[kc] at kb;have ns:=hy.kept c2 (Ai hy cu (by decide));have nt:=hz.kept c2 (Ai hz cu (by decide));have nu:=ka.kept c2 (λv l ho _=>Ai ho cu (by decide));have gm:=b5.grown c2 (λk e=>by cases e;omega);have nv:=ψ e3 c2.size;clear hL U hA hV J af b8 hp hy hz ka b5 e3 cu c2 kc bb j9;generalize S.getD 0 Τ=b0 at *;go_wp2_with (fail);go_roundw
     case rel=>exact⟨j+1,by omega,by go_num,gm,nv,ns,nt,nu,kb⟩
     case measure=>simp[intOf];omega
    ·obtain rfl:E=j:=by omega
     have k0:=ec.out T J;have e7:=Po HV.out.parts;rw[b7.out] at b6;obtain⟨t,ht⟩:∃ t:Tbl,(⟨Ak x.cls,(Cf x.cls).length,N',D1 (λq=>(l.getD q []).getD 0 Τ) E E⟩:Tbl)=t:=⟨_,rfl⟩;rw[ht] at b6;have h0:∀ b,b<256->Ak x.cls ((Cf x.cls).getD (Ak x.cls b) 0)=Ak x.cls b:=λb hb=>(fs.out _ (by rw[<-c8.out];exact cell_lt HV.out.parts hb)).2
     have h4:∀ (S:List Bool) b,b<256->rnx x S ((Cf x.cls).getD (Ak x.cls b) 0)=rnx x S b:=λS b hb=>by unfold rnx Dfa.stp;rw[h0 b hb]
     have nw:=Α (Adn HV.out (by rw[ee.out];exact fe) b6.out e7 h0);have kd:=Akh b6.out e7 h4;have ke:=Expl.tval b6.out e7;have ny:=Α (Ip l (Aki b6.out e7 h4) (by rw[b7.out];exact jd));have kf:t.n.length=E:=by rw[b6.out.len,b7.out]
     have h5:N'.length=E:=by rw[HI.out.1.lenN,b7.out]
     have kg:Rows T u9 t.n:=by
      rw[<-ht];exact hV.rows U (by rw[h5];omega) (λj hj=>by rw[HI.out.1.rows j (by rw[b7.out,<-h5];exact hj),a8.out];omega)
     have kh:Bools T (Β (Δ ⟨ga,0,Γ⟩) E E) t.acc:=by
      rw[<-ht];exact OwnB.bools (base:=D.heap.size+1) (l:=D1 (λq=>(l.getD q []).getD 0 Τ) E E) (by
       show ϛ _ _ _ _ _ _ _;rw[I6];exact hA) (by rw[I6];omega)
     have ki:Cs T (Β (Δ ⟨bc,oc,Γ⟩) m bo) x.cls:=by rw[<-c8.out];exact HC.out T J
     have f58:=Α (Ags t ke (by rw[kf];omega) kd x.cls HV.out.parts (by rw[<-ht];show (Cf x.cls).length=_;rw[a8.out,c8.out]) (λb _=>by rw[<-ht]) _ _ _ T (ib.out T (fj.trans J)) (by omega) ki kg kh);have n0:=Α (λ(r:Option Dfa) (h:F5 (λu=>t.has u=Ξ) r)=>Pc (M:=λu=>d.has u.reverse=Ξ) h λu=>by rw[nw.out,fl.out]);have e4:=Α (J.heap dx.out);have n2:=Α (fj.trans J);clear kd ke kf h5 kg kh ki hL U hV hA J h4 h0 ht b6;go_wp2_with (first
      | (go_at_call 58;(with_reducible refine f58.out.mono ?_);rintro e gx ⟨r,h6,kj,b5⟩;obtain⟨kk,kl,km,kn,ko,kq,kr,ks,kt,k3,rfl⟩:=h6.form;have n3:=Α h6;have ku:=Α (n0.out r kj);clear h6 kj;have h7:=Α (b5.heap e4.out))
      | (refine Φ rfl 30 (η 2) (η 127) rfl _ _ rfl rfl _ _ h7.out Ad rfl (Ap _ _ _ rfl rfl rfl) ?_))
     refine ϋ (v:=.tuple #[.agg (dA (Β kk kl km) (Β kn ko kq) (Β kr ks kt)),.int ζ k3]) (Ba rfl _ _ _ _ _ _ _ rfl _ rfl (μ gx _ _ (dA (Β kk kl km) (Β kn ko kq) (Β kr ks kt)) 30 (0,0) h7.out) Ν rfl Ad) rfl ?_;exact⟨r,n3.out.setRow (λd' h=>by subst h;exact ku.out.1.val) h7.out _,⟨x,fk.out,fl.out,λhm=>absurd hm ny.out,λ_=>ku.out⟩,(n2.out.trans b5).setRow (by omega) _⟩
theorem Rx (c:Cls) (b:Int) (D:0<=b) (I:b<256) (w:Κ) :
  Ϝ Η 103 #[.agg (Aa c),.int ζ b] w λe w'=>e=ν (.agg (Aa (Bf c b)))/\Ext w w':=by
 have ⟨h1,h2⟩:=F8 c (b / 64).toNat;have J:=((Ι w).alloc (Ε (Aa c) 62)).alloc (Ε #[.int π 0,.int π 0,.int π 0,.int π 0] 62);have E:=Ag (heap_alloc_new w (Ε (Aa c) 62)) (Ε #[.int π 0,.int π 0,.int π 0,.int π 0] 62);have M:=Ϙ w (Ε (Aa c) 62) (Ε #[.int π 0,.int π 0,.int π 0,.int π 0] 62);go_enter Tryz.func103,Tryz.ntmps103;go_upto_region 1 with (fail)
 generalize (w.alloc (Ε (Aa c) 62)).alloc (Ε #[.int π 0,.int π 0,.int π 0,.int π 0] 62)=W at *;have G:W.drew.heap[w.heap.size]? = Δ (Ε (Aa c) 62 (0,0)):=E;have T:=(Ω W.drew _ (b / 64).toNat _ _ _ G).trans (F1 c _ (by omega));have hf:=Ϯ W.drew _ (b / 64).toNat _ _ G;have an:ç.wrap (b.tdiv 64)=((b / 64).toNat:Int):=by
  rw[Int.tdiv_eq_ediv_of_nonneg D];simp[IntKind.wrap,IntKind.signed,IntKind.bits];omega
 have ao:b.tmod 64=b % 64:=Int.tmod_eq_emod_of_nonneg D;have aq:0<=b % 64:=by omega
 have ar:b % 64<=64:=by omega
 have au:((b / 64).toNat:Int)<4:=by omega
 have ah:=Α (Q7 c b D I);have ai:=Α (Q8 c b D I);generalize (b / 64).toNat=q at *;refine B0 11 [(0,Ξ),(1,Ξ),(2,Ξ),(3,Ξ),(4,Ξ),(5,Ξ),(6,Ξ),(7,Ξ),(8,Ξ),(9,Ξ),(10,Ξ),(11,Τ)] (by kernel_rfl) (by kernel_rfl) (λ_ _ _ _ h=>h)
  (λX=>X.cell? ⟨w.heap.size,q,Γ⟩=Δ (.int π (wd c q))) T ?_
 iterate 11
  refine Ao (v:=?_) rfl rfl (λX hX=>?_) ?_
  rotate_left
  ·go_simp;first|done|with_reducible rfl
  simp only[Ϛ,Θ,Χ,Ψ]
 refine A4 rfl (λK U=>?_);go_simp;refine U _ _ (λh=>absurd h (by omega)) ?_;clear U K T hf;refine B2 ?_;rw[ah.out,Ϥ W _ _ _ _ _ _ E,ai.out];have HB:=Α (μ W w.heap.size _ (Aa (Bf c b)) _ _ E);have HR:=Α (B8 M (show w.heap.size+1≠w.heap.size by omega) (Aa (Bf c b)));have ad:=J.setRow (θ w.heap.size) (Aa (Bf c b));clear J E M G;obtain⟨H,ae⟩:∃ X,W.setRow w.heap.size (Aa (Bf c b))=X:=⟨_,rfl⟩;rw[ae] at HB HR ad;rw[ae];have aj:Ϻ (H.drew.heap[w.heap.size]? = Δ (Ε (Aa (Bf c b)) 62 (0,0))):=Α HB.out;have af:Ϻ (H.drew.heap[w.heap.size+1]? = Δ (Ε #[.int π 0,.int π 0,.int π 0,.int π 0] 62 (0,0))):=Α HR.out;go_wp2_with (first
  | (refine Υ rfl 62 _ rfl _ rfl _ _ _ _ aj.out ϗ rfl Bg ?_)
  | (refine Φ rfl 62 _ _ rfl _ _ rfl rfl _ _ af.out Bg rfl (Eb _) ?_))
 refine ϋ (v:=.agg (Aa (Bf c b))) (ϵ rfl _ _ _ _ _ _ _ rfl (μ H.drew _ _ (Aa (Bf c b)) 62 (0,0) af.out) ϗ rfl Bg) rfl ?_;exact⟨rfl,ad.drew.setRow (by omega) _⟩
def lkL (n x:Nat):Nat:=if 97<=x/\x<97+n then x-97 else n
theorem Iq (n x:Nat):lkL n x<n+1:=by unfold lkL;split<;>omega
def Ex (n:Nat):Nat->Nat->Cls
 | 0,_=>0#256
 | b+1,k=>if lkL n b=k then Bf (Ex n b k) (b:Int) else Ex n b k
theorem Hd (n:Nat):∀ (b k x:Nat),b<=256->((Ex n b k).getLsbD x=Ξ↔x<b/\lkL n x=k)
 | 0,k,x,_=>by simp[Ex]
 | b+1,k,x,I=>by
  have G:=Hd n b k x (by omega);unfold Ex;by_cases e:lkL n b=k
  ·rw[if_pos e,Iz _ b x (by omega),Bool.or_eq_true,decide_eq_true_eq,G];constructor
   ·rintro (⟨E,D⟩|rfl)
    ·exact⟨by omega,D⟩
    ·exact⟨by omega,e⟩
   ·rintro⟨E,D⟩;by_cases H:x=b
    ·exact .inr H
    ·exact .inl ⟨by omega,D⟩
  ·rw[if_neg e,G];constructor
   ·rintro⟨E,D⟩;exact⟨by omega,D⟩
   ·rintro⟨E,D⟩;refine⟨?_,D⟩;rcases Nat.lt_or_ge x b with h|h
    ·exact h
    ·obtain rfl:x=b:=by omega
     exact absurd D e
def Cc (n b:Nat):List Cls:=(ι (n+1)).map λk=>Ex n b k
theorem D8 (n b:Nat):(Cc n b).length=n+1:=by simp[Cc]
theorem Vw (n b k:Nat) (D:k<n+1):(Cc n b).getD k 0#256=Ex n b k:=Da _ _ _ _ D
theorem Ah2 (n b:Nat):(Cc n b).set (lkL n b) (Bf (Ex n b (lkL n b)) (b:Int))=Cc n (b+1):=by
 apply ϡ;intro i;rw[ϲ,D8];by_cases hi:i<n+1
 ·simp only[Cc,Ϟ,ì hi,ð,Ex];by_cases e:lkL n b=i
  ·subst e;simp[hi]
  ·simp[e]
 ·rw[Ϩ (show (Cc n b).length<=i by rw[D8];omega),Ϩ (show (Cc n (b+1)).length<=i by rw[D8];omega),if_neg (by have:=Iq n b;omega)]
theorem Pe (n:Nat) (hn:n<=100):Parts (Cc n 256) where
 nz:=λc G=>by
  obtain⟨k,E,rfl⟩:=À.1 G;have E:=υ.1 E;by_cases e:k=n
  ·subst e;exact Gg ((Hd k 256 k 0 (θ _)).2 ⟨by omega,by simp[lkL]⟩)
  ·exact Gg ((Hd n 256 k (97+k) (θ _)).2 ⟨by omega,by unfold lkL;rw[if_pos (by omega)];omega⟩)
 dis:=by
  unfold Cc;rw[List.pairwise_map];refine (List.nodup_iff_pairwise_ne.1 List.nodup_range).imp λ{i j} H x D=>H ?_
  have I:=(Hd n 256 i x (θ _)).1 D.1;have J:=(Hd n 256 j x (θ _)).1 D.2;exact I.2.symm.trans J.2
 cov:=λx D=>⟨Ex n 256 (lkL n x),À.2 ⟨_,υ.2 (Iq n x),rfl⟩,(Hd n 256 _ x (θ _)).2 ⟨D,rfl⟩⟩
theorem Ah1 (n:Nat):Cc n 0=δ (n+1) 0#256:=by
 apply ϡ;intro i;simp only[Cc,Ϟ,ϧ,Ex];by_cases h:i<n+1
 ·simp[h]
 ·simp[h]
theorem Vl (n:Nat):(madeCells (Ρ.agg zA).cells (n*4)).toList=Cy (δ n 0#256):=by
 have D:(Ρ.agg zA).cells=#[.int π 0,.int π 0,.int π 0,.int π 0]:=rfl;apply ϡ;intro i;rw[D];by_cases hi:i<n*4
 ·rw[I2 _ i (by rw[Î];exact hi)];have E:i % 4=0\/i % 4=1\/i % 4=2\/i % 4=3:=by omega
  have G:(δ n 0#256).getD (i / 4) 0#256=0#256:=by
   rw[Ζ,ϧ];split<;>rfl
  rw[G];rcases E with h|h|h|h<;>simp[madeCells,hi,h]<;>rfl
 ·rw[Ϩ (by simp[madeCells];omega),Ϩ (by rw[P1,Î];omega)]
theorem Ah0 (n:Nat) (hn:n<=100) (w:Κ) :
  Ϝ Η 67 #[iv n] w λe w'=>∃ v,e=ν v/\Cs w' v (Cc n 256)/\Ext w w':=by
 obtain⟨i0,hi,aq,ar,au⟩:=ϕ (show (Η.info? 62).map (λi=>(i.zero,i.size,i.bytes))=Δ (Δ (.agg zA),4,32) by kernel_rfl);go_enter Tryz.func67,Tryz.ntmps67;go_upto_region 2 with (at_make;refine ϫ _ rfl _ _ 26 rfl w.heap.size 62 i0 (.agg zA) 4 Tryz.underlying26 hi aq ar ζ ζ _ _ (n+1) rfl rfl rfl rfl (by rw[au];omega) (by unfold ϙ;omega) (θ _) ?_;intro w3 T ad)
 have ae:=(Ι w).grown ad (λk e=>by cases e);have af:Row w3 w.heap.size (Β (Δ ⟨w.heap.size,0,Γ⟩) (n+1) (n+1)) (Cc n 0):=by
  rw[Vl,<-Ah1] at T;show ϛ _ _ _ _ _ _ _;rw[D8];exact T
 clear T ad;go_wp2_with (fail);go_loopw [4] (λv W=>∃ b:Nat,b<=256/\v=.int ζ b/\Ext w W/\Row W w.heap.size (Β (Δ ⟨w.heap.size,0,Γ⟩) (n+1) (n+1)) (Cc n b))
  (λv _=>256-(intOf v).toNat)
 case atStart=>exact⟨0,by omega,rfl,ae,af⟩
 case round=>
  clear ae af;obtain⟨b,hb,rfl,H,I⟩:=hrel;by_cases bb:b<256
  ·obtain⟨k,hk,J⟩:∃ k,lkL n b=k/\k<n+1:=⟨_,rfl,Iq n b⟩;have E:lkL n b=if 97<=b/\b<97+n then b-97 else n:=rfl
   have U:=Α (Ah2 n b);rw[hk] at U E;have M:Row wr w.heap.size (Β (Δ ⟨w.heap.size,0,Γ⟩) (Cc n b).length (n+1)) (Cc n b):=by rw[D8];exact I
   obtain⟨a0,a1,a2,a3⟩:=Kj M k (by rw[D8];exact J);rw[Vw n b k J] at a0 a1 a2 a3;have HR:=Α M;generalize Ex n b k=c at *;have hW:=λW=>Α (Rx c (b:Int) (by omega) (by omega) W)
   have HE:=Α H;have ab:∀ D,Ext wr D->Ϻ (D.there w.heap.size (k*4) 4)/\Ϻ (Ext w (D.setCells w.heap.size (k*4) (Aa (Bf c (b:Int))).toList))/\Ϻ (Row (D.setCells w.heap.size (k*4) (Aa (Bf c (b:Int))).toList) w.heap.size (Β (Δ ⟨w.heap.size,0,Γ⟩) (n+1) (n+1)) (Cc n (b+1))):=λD h2=>by
    have ai:=Ah M h2;have hr:=J0 ai k (by rw[D8];exact J) (Bf c (b:Int));refine⟨Α (Lv ai k (by rw[D8];exact J)),Α ((H.trans h2).grown hr.2 (λq e=>by cases e;exact θ _)),Α ?_⟩;have h1:=hr.1;rw[U.out,D8] at h1;exact h1
   have be:(k:Int)<(n:Int)+1:=by omega
   have bf:(k:Int)<100+1:=by omega
   clear I M hk H U;rcases (show b<97\/(97<=b/\97+n<=b)\/(97<=b/\b<97+n) by omega) with h|⟨h,h'⟩|⟨h,h'⟩
   ·rw[if_neg (by omega)] at E;subst E;have an:¬ (97:Int)<=b:=by omega
    go_wp2_with (first
     | (go_at_call 103;with_reducible refine (hW _).out.mono ?_;rintro e D ⟨rfl,G⟩;obtain⟨f1,f2,f3⟩:=ab D G)
     | (refine wpList_store_mid rfl 62 (η 32) (η 31) rfl w.heap.size (k*4) (Aa (Bf c (b:Int))) rfl rfl f1.out Bg (Eb _) ?_))
    go_roundw
    case rel=>exact⟨b+1,by omega,by go_num,f2.out,f3.out⟩
    case measure=>simp[intOf];omega
   ·rw[if_neg (by omega)] at E;subst E;have an:(97:Int)<=b:=by omega
    have a6:ç.wrap (97+(k:Int))=97+(k:Int):=Ý _ ⟨by omega,by omega⟩;have a7:¬ (b:Int)<97+(k:Int):=by omega
    go_wp2_with (first
     | (go_at_call 103;with_reducible refine (hW _).out.mono ?_;rintro e D ⟨rfl,G⟩;obtain⟨f1,f2,f3⟩:=ab D G)
     | (refine wpList_store_mid rfl 62 (η 32) (η 31) rfl w.heap.size (k*4) (Aa (Bf c (b:Int))) rfl rfl f1.out Bg (Eb _) ?_))
    go_roundw
    case rel=>exact⟨b+1,by omega,by go_num,f2.out,f3.out⟩
    case measure=>simp[intOf];omega
   ·rw[if_pos ⟨h,h'⟩] at E;have an:(97:Int)<=b:=by omega
    have a6:ç.wrap (97+(n:Int))=97+(n:Int):=Ý _ ⟨by omega,by omega⟩;have a7:(b:Int)<97+(n:Int):=by omega
    have bg:ç.wrap ((b:Int)-97)=(k:Int):=by
     rw[show (b:Int)-97=(k:Int) by omega];exact Ý _ ⟨by omega,by omega⟩
    clear E;go_wp2_with (first
     | (go_at_call 103;with_reducible refine (hW _).out.mono ?_;rintro e D ⟨rfl,G⟩;obtain⟨f1,f2,f3⟩:=ab D G)
     | (refine wpList_store_mid rfl 62 (η 32) (η 31) rfl w.heap.size (k*4) (Aa (Bf c (b:Int))) rfl rfl f1.out Bg (Eb _) ?_))
    go_roundw
    case rel=>exact⟨b+1,by omega,by go_num,f2.out,f3.out⟩
    case measure=>simp[intOf];omega
  ·obtain rfl:b=256:=by omega
   have a8:=I.toCs (by rw[D8];omega);clear I;go_wp2;go_ret;exact⟨_,rfl,a8,H⟩
def ByW (W:Κ) (v:Ρ) (l:List UInt8):Prop:=
 l.length<=9223372036854775807/\((l.length=0/\∃ a D,v=Β a 0 D)\/
  (0<l.length/\∃ b E D,v=Β (Δ ⟨b,E,Γ⟩) l.length D/\b<W.heap.size/\∀ i,i<l.length->W.cell? ⟨b,E+i,Γ⟩=Δ (bv (l.getD i 0))))
theorem ByW.short {W:Κ} {v:Ρ} {l:List UInt8} (h:ByW W v l) (J:l.length<=1000000):By W v l:=by
 obtain⟨_,h|⟨D,b,E,G,hv,H,I⟩⟩:=h
 ·exact⟨by omega,.inl h⟩
 ·exact⟨by omega,.inr ⟨D,b,E,G,hv,H,λi hi=>I i (by omega)⟩⟩
theorem ByW.ext {W W':Κ} {v:Ρ} {l:List UInt8} (h:ByW W v l) (D:Ext W W'):ByW W' v l:=by
 obtain⟨E,h|⟨G,b,H,I,hv,J,M⟩⟩:=h
 ·exact⟨E,.inl h⟩
 ·exact⟨E,.inr ⟨G,b,H,I,hv,ε J D.size,λi hi=>D.cell (M i hi)⟩⟩
theorem ByW.split {W:Κ} {v:Ρ} {l:List UInt8} (h:ByW W v l):∃ a b E D,v=Β a l.length D/\(0<l.length->a=Δ ⟨b,E,Γ⟩)/\(0<l.length->b<W.heap.size)/\∀ i,i<l.length->W.cell? ⟨b,E+i,Γ⟩=Δ (bv (l.getD i 0)):=by
 obtain⟨I,⟨hn,a,D,rfl⟩|⟨hn,b,E,D,rfl,G,H⟩⟩:=h
 ·exact⟨a,0,0,D,by rw[hn],by omega,by omega,by omega⟩
 ·exact⟨_,b,E,D,rfl,λ_=>rfl,λ_=>G,H⟩
def MadeOk (N M s:Nat) (R:List (List Nat)) (Ac:List Bool):Prop:=
 R.length=s/\Ac.length=s/\∀ j,j<s->(R.getD j []).length=M/\∀ k,k<M->(R.getD j []).getD k 0<N
theorem MadeOk.snoc {N M s:Nat} {R:List (List Nat)} {Ac:List Bool} (h:MadeOk N M s R Ac) {r:List Nat} (D:r.length=M) (E:∀ k,k<M->r.getD k 0<N) (b:Bool):MadeOk N M (s+1) (R++[r]) (Ac++[b]):=by
 obtain⟨G,H,I⟩:=h;refine⟨by simp[G],by simp[H],λj J=>?_⟩;by_cases e:j<R.length
 ·rw[Bt _ _ _ _ e];exact I j (by omega)
 ·obtain rfl:j=R.length:=by omega
  rw[Cm];exact⟨D,E⟩
theorem MadeOk.val {N M:Nat} {R:List (List Nat)} {Ac:List Bool} (h:MadeOk N M N R Ac) (E:0<N) {C:List Cls} (G:Parts C) (D:C.length=M):Val ⟨C,R,Ac⟩ where
 pos:=by show 0<R.length;rw[h.1];exact E
 accL:=by show Ac.length=R.length;rw[h.1,h.2.1]
 row:=λs hs=>by
  show (R.getD s []).length=C.length;rw[D];exact (h.2.2 s (by rw[<-h.1];exact hs)).1
 tgt:=λs hs k H=>by
  show (R.getD s []).getD k 0<R.length;rw[h.1];exact (h.2.2 s (by rw[<-h.1];exact hs)).2 k (by rw[<-D];exact H)
 parts:=G
theorem RowsO.moved {W W':Κ} {base:Nat} {vs:List Ρ} {R:List (List Nat)} {g E:Nat} {o:Obj} (h:RowsO W base vs R (λo=>o=Δ g)) (hg:Δ g=Δ E\/E=(W.alloc o).heap.size) (I:(W.alloc o).grownBy W' (Δ g)):RowsO W' base vs R (λo=>o=Δ E):=by
 refine RowsO.kept ((h.av (av':=λo=>o=Δ g\/o=Δ E) (λv l G D e=>?_)).alloc o) I (λv l G D=>.inr λe=>D (.inl e)) |>.av (λv l G D e=>D (.inr e))
 rcases e with e|e
 ·exact D e
 ·rcases hg with H|H
  ·exact D (by show _=Δ g;rw[H,<-e])
  ·have:=(G.lt _ e).2;rw[Λ] at H;omega
structure MadeAt (W:Κ) (L N:Nat) (R:List (List Nat)) (Ac:List Bool) (vs:List Ρ) (vn va:Ρ) (ac:Option Addr) (cc base:Nat):Prop where
 n1:0<N
 n5:N<=5
 l3:L<=3
 cls:Cs W (Β ac (L+1) cc) (Cc L 256)
 clb:∃ b o,ac=Δ ⟨b,o,Γ⟩/\b<base
 nxt:W.ownsRow base 68 1 vn vs.length vs
 acc:OwnB W base va Ac
 rows:RowsO W base vs R (λ_=>False)
 apart:vs.Pairwise λv v'=>v.ownBlock≠v'.ownBlock
 ok:MadeOk N (L+1) N R Ac
theorem Alp {W:Κ} {L cc:Nat} {ac:Option Addr} (h:Cs W (Β ac (L+1) cc) (Cc L 256)):∃ b o,ac=Δ ⟨b,o,Γ⟩/\b<W.heap.size+1:=by
 obtain⟨_,⟨D,_⟩|⟨_,b,o,E,he,G,_⟩⟩:=h
 ·rw[D8] at D;omega
 ·injection he with he _ _
  exact⟨b,o,he,by omega⟩
theorem Sl.grown {W W':Κ} {b o c m k n:Nat} {f:Nat->Ρ} {row:Option Nat} (h:Sl W (Β (Δ ⟨b,o,Γ⟩) m c) k n f) (hg:W.grownBy W' row) (I:Δ b≠row):Sl W' (Β (Δ ⟨b,o,Γ⟩) m c) k n f:=by
 obtain⟨E,⟨hn,a,G,he⟩|⟨hn,b',M,G,he,H,J⟩⟩:=h
 ·exact⟨E,.inl ⟨hn,a,G,he⟩⟩
 ·have D:b=b':=by
   injection he with D _ _
   injection D with D
   injection D
  subst D;refine⟨E,.inr ⟨hn,_,_,_,he,ε H hg.size,λi hi=>?_⟩⟩;rw[Κ.cell?_of_block (hg.block b H I)];exact J i hi
theorem Ag3 (S A:Nat) (hS:S<256) (hA:A<256) (vt:Ρ) (l:List UInt8) (w:Κ) (ht:ByW w vt l) :
  Ϝ Η 26 #[.agg #[.int .u8 S,vt,.int .u8 A]] w λe w'=>∃ L N R Ac vs vn va ac cc base,e=ν (.agg (dA (Β ac (L+1) cc) vn va))/\MadeAt w' L N R Ac vs vn va ac cc base/\w.heap.size<=base/\Ext w w':=by
 obtain⟨i0,hi,e9,fa,fb⟩:=ϕ Cg;obtain⟨i4,fe,ff,fg,fh⟩:=ϕ Dt;obtain⟨i6,fk,fl,fm,fo⟩:=ϕ (show (Η.info? 68).map (λi=>(i.zero,i.size,i.bytes))=Δ (Δ (Β Γ 0 0),1,24) by kernel_rfl);obtain⟨N,G⟩:∃ N,1+S % 5=N:=⟨_,rfl⟩;obtain⟨L,hL⟩:∃ L,1+S / 5 % 3=L:=⟨_,rfl⟩;have dv:Ϻ (1+(S:Int) % 5=(N:Int)):=Α (by omega);have dw:Ϻ (1+(S:Int) / 5 % 3=(L:Int)):=Α (by omega);have bp:0<N:=by omega
 have bc:N<=5:=by omega
 have fq:L<=3:=by omega
 clear G hL;have f67:=λW=>Α (Ah0 L (by omega) W)
 have gy:=ht.1;obtain⟨al,bt,ot,ct,rfl,dx,fu,dy⟩:=ht.split;have ea:0<l.length->∃ b o,al=Δ ⟨b,o,Γ⟩/\∀ i,i<l.length->w.cell? ⟨b,o+i,Γ⟩=Δ (bv (l.getD i 0)):=λh0=>⟨bt,ot,dx h0,dy⟩
 have cd:=((Ι w).alloc (Ε #[.int .u8 S,Β al l.length ct,.int .u8 A] 24)).alloc (Ε #[Β Γ 0 0,Β Γ 0 0,Β Γ 0 0] 30);have H0:=Ag (Ab w (Ε #[.int .u8 S,Β al l.length ct,.int .u8 A] 24)) (Ε #[Β Γ 0 0,Β Γ 0 0,Β Γ 0 0] 30);have H1:=Ϙ w (Ε #[.int .u8 S,Β al l.length ct,.int .u8 A] 24) (Ε #[Β Γ 0 0,Β Γ 0 0,Β Γ 0 0] 30);have eb:=Α ea;clear ht ea dx fu dy;go_enter Tryz.func26,Tryz.ntmps26;go_upto_region 1 with (fail)
 obtain⟨w1,bq⟩:∃ W,(w.alloc (Ε #[.int .u8 S,Β al l.length ct,.int .u8 A] 24)).alloc (Ε #[Β Γ 0 0,Β Γ 0 0,Β Γ 0 0] 30)=W:=⟨_,rfl⟩;have fv:w1.heap.size=w.heap.size+1+1:=by rw[<-bq,Λ,Λ]
 rw[bq] at cd H0 H1;simp only[bq];clear bq;have br:=Α H0;have ec:=Α H1;have ch:Ϻ (∀ W,Ext w1 W->W.cell? ⟨w.heap.size,0,Γ⟩=Δ (.int .u8 S)/\W.cell? ⟨w.heap.size,1,Γ⟩=Δ (Β al l.length ct)/\W.cell? ⟨w.heap.size,2,Γ⟩=Δ (.int .u8 A)):=Α λW J=>by
  exact⟨(Ω W _ 0 _ _ _ (J.heap br.out)).trans rfl,(Ω W _ 1 _ _ _ (J.heap br.out)).trans rfl,(Ω W _ 2 _ _ _ (J.heap br.out)).trans rfl⟩
 clear H0 H1;have cj:=Α cd;clear cd;have kx:=(ch.out w1 (Ι w1)).1;have f67:∀ W,Ext w1 W->Ϻ (Ϝ Η 67 #[iv L] W λe w'=>∃ a c,e=ν (Β a (L+1) c)/\Cs w' (Β a (L+1) c) (Cc L 256)/\Ext w1 w'):=λW J=>Α ((f67 W).out.mono λe w' ⟨v,he,hc,H⟩=>by
  obtain⟨a,c,rfl⟩:=Sl.len hc;rw[D8] at he hc;exact⟨a,c,he,hc,J.trans H⟩)
 go_upto_region 3 with (first
  | (go_at_call 67;rw[dw.out];(with_reducible refine (f67 _ (Ι w1)).out.mono ?_);rintro e D ⟨ac,cc,rfl,bd,ed⟩;have ee:=Α bd;have a7:=Α ed;have ef:=Α (Qz ac (L+1) cc);have bu:=Ab D (Ε #[Β Γ 0 0,Β Γ 0 0,Β Γ 0 0] 30);clear bd ed)
  | (refine B3 rfl 30 _ rfl (dA (Β ac (L+1) cc) (Β Γ 0 0) (Β Γ 0 0)) ?_ ?_;(simp[Act.eval];with_reducible exact ef.out))
  | (refine Φ rfl 30 (η 4) (η 22) rfl _ _ rfl rfl _ _ bu Ad rfl (Ap _ _ _ rfl rfl rfl) ?_))
 rw[dv.out];clear bu kx f67 dw dv hS;have H:=((Ι D).alloc (Ε #[Β Γ 0 0,Β Γ 0 0,Β Γ 0 0] 30)).setRow (θ _) (dA (Β ac (L+1) cc) (Β Γ 0 0) (Β Γ 0 0));have cl:=μ (D.alloc (Ε #[Β Γ 0 0,Β Γ 0 0,Β Γ 0 0] 30)) D.heap.size _ (dA (Β ac (L+1) cc) (Β Γ 0 0) (Β Γ 0 0)) _ _ (Ab D _);have au:D.heap.size+1<=((D.alloc (Ε #[Β Γ 0 0,Β Γ 0 0,Β Γ 0 0] 30)).setRow D.heap.size (dA (Β ac (L+1) cc) (Β Γ 0 0) (Β Γ 0 0))).heap.size:=by rw[Õ,Λ];omega
 obtain⟨wa,cn⟩:∃ W,(D.alloc (Ε #[Β Γ 0 0,Β Γ 0 0,Β Γ 0 0] 30)).setRow D.heap.size (dA (Β ac (L+1) cc) (Β Γ 0 0) (Β Γ 0 0))=W:=⟨_,rfl⟩;rw[cn] at H cl au;simp only[cn];clear cn;have M:=Α cl;clear cl;have HX:Ϻ (∀ W,Ext D W->W.cell? ⟨w.heap.size,1,Γ⟩=Δ (Β al l.length ct)/\W.cell? ⟨w.heap.size,2,Γ⟩=Δ (.int .u8 A)):=Α λW J=>(ch.out W (a7.out.trans J)).2
 have HY:Ϻ (∀ W,Ext D W->0<l.length->∃ b o,al=Δ ⟨b,o,Γ⟩/\∀ i,i<l.length->W.cell? ⟨b,o+i,Γ⟩=Δ (bv (l.getD i 0))):=Α λW J h0=>by
  obtain⟨b,o,h1,h2⟩:=eb.out h0;exact⟨b,o,h1,λi hi=>((cj.out.trans a7.out).trans J).cell (h2 i hi)⟩
 have ga:=Α (a7.out.heap ec.out);have gz:w.heap.size+1<D.heap.size:=by have:=a7.out.size;omega
 have eh:=Α (cj.out.trans a7.out);clear ch eb cj a7 br ec fv ef;have ei:=Í wa (D.heap.size+1) 68 1;have ej:=Í wa (D.heap.size+1) 4 1;have hV:RowsO wa (D.heap.size+1) [] [] (λ_=>False):=⟨rfl,λj hj=>by simp at hj⟩;have ek:MadeOk N (L+1) 0 [] []:=⟨rfl,rfl,λj hj=>by omega⟩;go_wp2_with (fail);go_loopw [5,6] (λva vi W=>∃ (a s:Nat) (R:List (List Nat)) (Ac:List Bool) (vs:List Ρ) (af E:Ρ),s<=N/\va=.int ζ a/\vi=.int ζ s/\a<=s*4/\Ext D W/\D.heap.size+1<=W.heap.size/\Ϻ (W.heap[D.heap.size]? = Δ (Ε (dA (Β ac (L+1) cc) af E) 30 (0,0)))/\
   W.ownsRow (D.heap.size+1) 68 1 af vs.length vs/\OwnB W (D.heap.size+1) E Ac/\RowsO W (D.heap.size+1) vs R (λ_=>False)/\Ϻ (MadeOk N (L+1) s R Ac)/\Ϻ (vs.Pairwise λv v'=>v.ownBlock≠v'.ownBlock))
  (λ_ vi _=>N-(intOf vi).toNat)
 case atStart=>exact⟨0,0,[],[],[],_,_,by omega,rfl,rfl,by omega,H,au,M,ei,ej,hV,Α ek,Α List.Pairwise.nil⟩
 case round=>
  clear H au M ei ej hV ek;obtain⟨a,s,R,Ac,vs,af,E,hs,rfl,rfl,ha,H,au,M,G,ae,hV,HM,HP⟩:=hrel;by_cases hb:s<N
  ·go_upto_region 8 with (fail)
   have cp:=H.alloc (Ε #[] 3);have cq:=Α (Ag M.out (Ε #[] 3));have bc:=G.alloc (Ε #[] 3);have cr:=ae.alloc (Ε #[] 3);have cu:=(hV.av (av':=λo=>o=Δ wr.heap.size) (λv l ho hf e=>by
    have:=(ho.lt _ e).2;omega)).alloc (Ε #[] 3)
   have cv:OwnI (wr.alloc (Ε #[] 3)) (D.heap.size+1) (Β (Δ ⟨wr.heap.size,0,Γ⟩) 0 0) []:=Ô (base:=D.heap.size+1) (e:=3) (size:=1) wr #[] 0 au (by unfold ϙ;omega) rfl;have cw:D.heap.size+1<=(wr.alloc (Ε #[] 3)).heap.size:=by rw[Λ];omega
   obtain⟨wq,cy⟩:∃ W,wr.alloc (Ε #[] 3)=W:=⟨_,rfl⟩;rw[cy] at cp cq bc cr cu cv cw;rw[cy];clear cy H au M G ae hV;generalize wr.heap.size=g0 at *;go_wp2_with (fail);go_loopw [5,7,8] (λva vr vi W=>∃ (a k g c:Nat) (r:List Nat),k<=L+1/\va=.int ζ a/\vr=Β (Δ ⟨g,0,Γ⟩) r.length c/\vi=.int ζ k/\a<=s*4+k/\Ext D W/\D.heap.size+1<=W.heap.size/\Ϻ (W.heap[D.heap.size]? = Δ (Ε (dA (Β ac (L+1) cc) af E) 30 (0,0)))/\
     W.ownsRow (D.heap.size+1) 68 1 af vs.length vs/\OwnB W (D.heap.size+1) E Ac/\RowsO W (D.heap.size+1) vs R (λo=>o=Δ g)/\OwnI W (D.heap.size+1) (Β (Δ ⟨g,0,Γ⟩) r.length c) r/\Ϻ (r.length=k/\∀ j,j<k->r.getD j 0<N))
    (λ_ _ vi _=>L+1-(intOf vi).toNat)
   case atStart=>exact⟨a,0,g0,0,[],by omega,rfl,rfl,rfl,by omega,cp,cw,cq,bc,cr,cu,cv,Α ⟨rfl,λj hj=>by omega⟩⟩
   case round=>
    clear cp cw cq bc cr cu cv ha;obtain⟨a,k,g,c,r,hk,rfl,rfl,rfl,ha,H,au,M,G,ae,hV,hQ,HR⟩:=hrel;obtain⟨wo,gg⟩:∃ W,W=wr:=⟨_,rfl⟩;subst gg;have c0:=(Ω wo D.heap.size 0 _ _ _ M.out).trans (show (dA (Β ac (L+1) cc) af E)[0]? = Δ (Β ac (L+1) cc) from rfl);by_cases hp:k<L+1
    ·have k1:=(HX.out wo H).1;have hq:(k:Int)<(L:Int)+1:=by omega
     go_upto_if 40 with (fail)
     clear c0;go_cut [9] (λv W=>∃ y:Nat,y<N/\v=iv y/\W=wo)
     case first=>
      by_cases bu:a<l.length
      ·obtain⟨b,o,rfl,bd⟩:=HY.out wo H (by omega);have cx:=bd a bu;obtain⟨x,hx⟩:∃ x,l.getD a 0=x:=⟨_,rfl⟩;rw[hx] at cx;have hr:=x.toNat_lt;clear bd hx;go_wp2_with (fail);go_meet
       exact⟨x.toNat % N,Nat.mod_lt _ bp,rfl,rfl⟩
      ·go_wp2_with (fail);go_meet
       exact⟨0,bp,rfl,rfl⟩
     case rest=>
      obtain⟨y,hy,rfl,rfl⟩:=hcut;clear k1;have bw:r.length=k:=HR.out.1;have hz:r.length<=65536:=by omega
      clear bw;go_wp2_with (at_builtin;refine ϐ _ rfl _ _ 68 rfl (D.heap.size+1) 3 i0 (.int ζ 0) 1 8 ϓ hi e9 fa fb rfl (by decide) _ _ _ rfl (hQ.alloc _) _ 1 1 [iv y] rfl rfl (Ϫ _ _ _) (by simp[ϊ]) (by decide) (by unfold ϙ;omega) (by omega) (by simp;omega) _ rfl ?_;intro g7 c7 T ax U ep _);have bz:=(H.alloc (Ε #[iv y] 3)).grown U (λk e=>by have:=(hQ.lt k e).1;omega);have ay:=Α ((U.block D.heap.size (ε (An M.out) (by rw[Λ];omega)) (λe=>by have:=(hQ.lt _ e.symm).1;omega)).trans (Ag M.out _));have aj:=(G.alloc (Ε #[iv y] 3)).kept U (Ai G hQ (by decide));have bj:=(ae.alloc (Ε #[iv y] 3)).kept U (Ai ae hQ (by decide));have b0:=hV.moved ep U;have b4:D.heap.size+1<=T.heap.size:=by
       have:=U.size;rw[Λ] at this;omega
      have gj:Ϻ (OwnI T (D.heap.size+1) (Β (Δ ⟨g7,0,Γ⟩) (r++[y]).length c7) (r++[y])):=Α (by
       show ϛ _ _ _ _ _ _ _;rw[Ο,ϔ];exact ax)
      have gk:Ϻ ((r++[y]).length=k+1/\∀ j,j<k+1->(r++[y]).getD j 0<N):=Α ⟨by rw[Ο,HR.out.1];rfl,λj hj=>by
       rw[He,HR.out.1];by_cases cz:j<k
       ·rw[if_pos cz];exact HR.out.2 j cz
       ·rw[if_neg cz,if_pos (by omega)];exact hy⟩
      clear U ep H M G ae hV hQ ax;go_roundw
      case rel=>exact⟨a+1,k+1,g7,c7,r++[y],by omega,by go_num,by rw[Ο];rfl,by go_num,by omega,bz,b4,ay,aj,bj,b0,gj.out,gk⟩
      case measure=>simp[intOf];omega
    ·obtain rfl:k=L+1:=by omega
     have bw:Ϻ (r.length=L+1):=Α HR.out.1;have h3:vs.length<=65536:=by rw[hV.1,HM.out.1];omega
     go_upto_region 16 with (fail)
     clear c0;have c1:=(Ω wo D.heap.size 1 _ _ _ M.out).trans (show (dA (Β ac (L+1) cc) af E)[1]? = Δ af from rfl);go_upto_region 17 with (at_builtin;refine ϐ _ rfl _ _ 27 rfl (D.heap.size+1) 68 i6 (Β Γ 0 0) 1 24 ê fk fl fm fo rfl (by decide) af vs.length vs rfl (G.alloc _) _ 1 1 [Β (Δ ⟨g,0,Γ⟩) r.length c] rfl rfl (Ϫ _ _ _) (by simp[ϊ]) (by decide) (by unfold ϙ;omega) (by omega) (by simp;omega) _ rfl ?_;intro g7 c7 T aj U _ _;have ay:Ϻ (T.heap[D.heap.size]? = _):=Α ((U.block D.heap.size (ε (An M.out) (by rw[Λ];omega)) (λe=>by have:=(G.lt _ e.symm).1;omega)).trans (Ag M.out _));have gm:=(Ω T D.heap.size 1 _ _ _ ay.out).trans (show (dA (Β ac (L+1) cc) af E)[1]? = Δ af from rfl);have f17:=Ϯ T D.heap.size 1 _ _ ay.out)
     clear c1 gm f17;have ax:=(hQ.alloc (Ε #[Β (Δ ⟨g,0,Γ⟩) r.length c] 68)).kept U (Ai hQ G (by decide));have bj:=(ae.alloc (Ε #[Β (Δ ⟨g,0,Γ⟩) r.length c] 68)).kept U (Ai ae G (by decide));have b0:=(hV.alloc (Ε #[Β (Δ ⟨g,0,Γ⟩) r.length c] 68)).kept U (λv l ho _=>Ai ho (G.alloc (Ε #[Β (Δ ⟨g,0,Γ⟩) r.length c] 68)) (by decide));have bz:=(H.alloc (Ε #[Β (Δ ⟨g,0,Γ⟩) r.length c] 68)).grown U (λk e=>by have:=(G.lt k e).1;omega);have b4:D.heap.size+1<=T.heap.size:=by
      have:=U.size;rw[Λ] at this;omega
     clear U hQ ae hV H G M;have aj:T.ownsRow (D.heap.size+1) 68 1 (Β (Δ ⟨g7,0,Γ⟩) (vs.length+1) c7) (vs++[ϟ (Δ ⟨g,0,Γ⟩) r.length c]).length (vs++[ϟ (Δ ⟨g,0,Γ⟩) r.length c]):=by
      rw[Ο];exact aj
     obtain⟨row,c3⟩:∃ v,ϟ (Δ ⟨g,0,Γ⟩) r.length c=v:=⟨_,rfl⟩;have gn:row.ownBlock=Δ g:=by rw[<-c3];rfl
     rw[c3] at aj ax;clear c3;obtain⟨I,er⟩:∃ v,ϟ (Δ ⟨g7,0,Γ⟩) (vs.length+1) c7=v:=⟨_,rfl⟩;rw[er] at aj;have bk:=Bx T D.heap.size (dA (Β ac (L+1) cc) I E);have bl:T.setCell ⟨D.heap.size,1,Γ⟩ I=T.setRow D.heap.size (dA (Β ac (L+1) cc) I E):=Ϥ T _ _ _ _ _ _ ay.out;have b5:=bz.setRow (θ _) (dA (Β ac (L+1) cc) I E);have c4:=ax.kept bk (Aq ax (by omega));have c5:=aj.kept bk (Aq aj (by omega));have c6:=bj.kept bk (Aq bj (by omega));have c8:=b0.kept bk (λv l ho _=>Aq ho (by omega));have b6:=Α (μ T D.heap.size _ (dA (Β ac (L+1) cc) I E) _ _ ay.out);have c9:D.heap.size+1<=(T.setRow D.heap.size (dA (Β ac (L+1) cc) I E)).heap.size:=by rw[Õ];exact b4
     rw[er,bl];clear bk ax aj bj b0 bz b4 ay bl;obtain⟨w8,da⟩:∃ W,T.setRow D.heap.size (dA (Β ac (L+1) cc) I E)=W:=⟨_,rfl⟩;rw[da] at c4 c5 c6 c8 b6 b5 c9;rw[da];clear da;have c2:∀ W:Κ,W.heap[D.heap.size]? = Δ (Ε (dA (Β ac (L+1) cc) I E) 30 (0,0))->W.cell? ⟨D.heap.size,2,Γ⟩=Δ E:=λW J=>(Ω W D.heap.size 2 _ _ _ J).trans rfl
     refine B0 11 [(0,Ξ),(1,Ξ),(2,Ξ),(3,Ξ),(4,Ξ),(5,Ξ),(6,Ξ),(7,Ξ),(8,Τ),(9,Τ),(10,Ξ),(11,Τ)] (by kernel_rfl) (by kernel_rfl) (λ_ _ _ _ h=>h)
      (λW=>Ext D W/\W.heap[D.heap.size]? = Δ (Ε (dA (Β ac (L+1) cc) I E) 30 (0,0))) ⟨b5.drew,b6.out⟩ ?_
     iterate 8
      refine En (v:=?_) rfl rfl (λW J=>?_) ?_
      rotate_left
      ·obtain⟨gp,et⟩:=J;have k2:=c2 W et;have k8:=(HX.out W gp).2;clear et;go_simp;first|done|with_reducible rfl
      simp only[Ϛ,Θ,Χ,Ψ]
     have b7:=Ah c4 (Ι w8).drew;have b8:=Ah c5 (Ι w8).drew;have ao:=Ah c6 (Ι w8).drew;have dc:=c8.kept ((Ι w8).drew.grownBy Γ) (λv l _ _=>by cases v.ownBlock<;>simp);have bm:Ϻ (w8.drew.heap[D.heap.size]? = Δ (Ε (dA (Β ac (L+1) cc) I E) 30 (0,0))):=Α b6.out;have b9:=b5.drew;have ev:D.heap.size+1<=w8.drew.heap.size:=c9;obtain⟨w9,dd⟩:∃ W,w8.drew=W:=⟨_,rfl⟩;rw[dd] at b7 b8 ao dc bm b9 ev;rw[dd];clear dd c4 c5 c6 c8 b6 b5 c9;have h5:Ac.length<=65536:=by rw[HM.out.2.1];omega
     generalize (((A:Int) / (2:Int) ^ s).tmod 2==1)=bx;refine Co rfl (λK hK=>?_);go_simp;refine hK _ _ (λ_=>⟨b9.alloc _,Ag bm.out _⟩) ?_;clear hK K;refine Co rfl (λK hK=>?_);refine step_append_lies _ rfl _ _ 28 rfl (D.heap.size+1) 4 i4 (.bool Τ) 1 1 Ã fe ff fg fh rfl (by decide) E Ac.length (Ac.map ο) rfl (ao.alloc _) _ 1 1 [.bool bx] rfl rfl (Ϫ _ _ _) (by simp[ϊ]) (by decide) (by unfold ϙ;omega) (by omega) (by simp;omega) _ rfl ?_;intro ew ey ag ba a1 _ _;have de:=(b9.alloc (Ε #[.bool bx] 4)).grown a1 (λk e=>by have:=(ao.lt k e).1;omega);have bb:=Α ((a1.block D.heap.size (ε (An bm.out) (by rw[Λ];omega)) (λe=>by have:=(ao.lt _ e.symm).1;omega)).trans (Ag bm.out _));have df:=(b7.alloc (Ε #[.bool bx] 4)).kept a1 (Ai b7 ao (by decide));have dg:=(b8.alloc (Ε #[.bool bx] 4)).kept a1 (Ai b8 ao (by decide));have ez:=(dc.alloc (Ε #[.bool bx] 4)).kept a1 (λv l ho _=>Ai ho (ao.alloc (Ε #[.bool bx] 4)) (by decide));have e0:D.heap.size+1<=ag.heap.size:=by
      have:=a1.size;rw[Λ] at this;omega
     have ba:OwnB ag (D.heap.size+1) (Β (Δ ⟨ew,0,Γ⟩) (Ac.length+1) ey) (Ac++[bx]):=by
      show ϛ _ _ _ _ _ _ _;rw[Ο,ϔ];exact ba
     clear a1 b7 b8 ao dc bm b9 ev;refine hK _ _ (λ_=>⟨de,bb.out⟩) ?_;clear hK K;refine En (v:=?_) rfl rfl (λW J=>?_) ?_
     rotate_left
     ·clear J;go_simp;first|done|with_reducible rfl
     simp only[Ϛ,Θ,Χ,Ψ];have k2:=c2 ag bb.out;have f2:=Ϯ ag D.heap.size 2 _ _ bb.out;refine Co rfl (λK hK=>?_);go_simp;refine hK _ _ (λh=>absurd h (by omega)) ?_;clear hK K k2 f2 c2;refine B2 ?_;obtain⟨ar,e1⟩:∃ v,ϟ (Δ ⟨ew,0,Γ⟩) (Ac.length+1) ey=v:=⟨_,rfl⟩;rw[e1] at ba;have bn:=Bx ag D.heap.size (dA (Β ac (L+1) cc) I ar);have bl:ag.setCell ⟨D.heap.size,2,Γ⟩ ar=ag.setRow D.heap.size (dA (Β ac (L+1) cc) I ar):=Ϥ ag _ _ _ _ _ _ bb.out;have e2:=de.setRow (θ _) (dA (Β ac (L+1) cc) I ar);have dh:=df.kept bn (Aq df (by omega));have e3:=dg.kept bn (Aq dg (by omega));have e4:=ba.kept bn (Aq ba (by omega));have bo:=ez.kept bn (λv l ho _=>Aq ho (by omega));have e5:=Α (μ ag D.heap.size _ (dA (Β ac (L+1) cc) I ar) _ _ bb.out);have e6:D.heap.size+1<=(ag.setRow D.heap.size (dA (Β ac (L+1) cc) I ar)).heap.size:=by rw[Õ];exact e0
     rw[e1,bl];clear bn df dg ba ez de e0 bb bl;obtain⟨h6,dk⟩:∃ W,ag.setRow D.heap.size (dA (Β ac (L+1) cc) I ar)=W:=⟨_,rfl⟩;rw[dk] at dh e3 e4 bo e5 e2 e6;rw[dk];clear dk;have gq:Ϻ ((vs++[row]).Pairwise λv v'=>v.ownBlock≠v'.ownBlock):=Α (by
      rw[List.pairwise_append];refine⟨HP.out,List.pairwise_singleton _ _,λv hv v' gr=>?_⟩;obtain rfl:=ϳ.1 gr;obtain⟨j,hj,rfl⟩:=List.getElem_of_mem hv;rw[gn];have:=(bo.2 j (by rw[<-bo.1];exact hj)).2;rw[Ζ,Μ hj] at this;exact this)
     have gu:=(bo.av (av':=λ_=>False) (λv l _ _ e=>e)).snoc dh (λe=>e);have gv:=Α (HM.out.snoc bw.out (λj hj=>HR.out.2 j hj) bx);clear dh bo bw;go_wp2;go_roundw
     case rel=>exact⟨a,s+1,R++[r],Ac++[bx],vs++[row],I,ar,by omega,by go_num,by go_num,by omega,e2,e6,e5,e3,e4,gu,gv,gq⟩
     case measure=>simp[intOf];omega
  ·obtain rfl:s=N:=by omega
   obtain⟨an,dn,rfl⟩:=Dr G;obtain⟨aa,dq,rfl⟩:=Dr ae;have dr:=Α (H.heap ga.out);have gw:=Pe L (by omega);have h7:=HM.out.val bp gw (D8 _ _);go_wp2_with (first
    | (refine Υ rfl 30 (η 4) rfl _ rfl _ _ _ _ M.out Ν rfl Ad ?_)
    | (refine Φ rfl 30 (η 2) (η 72) rfl _ _ rfl rfl _ _ dr.out Ad rfl (Ap _ _ _ rfl rfl rfl) ?_))
   refine ϋ (v:=.agg (dA (Β ac (L+1) cc) (Β an vs.length dn) (Β aa Ac.length dq))) (ϵ rfl _ _ _ _ _ _ _ rfl (μ wr _ _ (dA (Β ac (L+1) cc) (Β an vs.length dn) (Β aa Ac.length dq)) 30 (0,0) dr.out) Ν rfl Ad) rfl ?_;have dt:=Bx wr (w.heap.size+1) (dA (Β ac (L+1) cc) (Β an vs.length dn) (Β aa Ac.length dq));exact⟨L,s,R,Ac,vs,_,_,ac,cc,D.heap.size+1,rfl,⟨bp,bc,fq,Sl.setRow (ee.out.ext H) dr.out (λi _ o ho=>by cases J7 ho) (by omega) _,Alp ee.out,G.kept dt (Aq G (by omega)),ae.kept dt (Aq ae (by omega)),hV.kept dt (λv l ho _=>Aq ho (by omega)),HP.out,HM.out⟩,by have:=eh.out.size;omega,(eh.out.trans H).setRow (by omega) _⟩
def Rb (W:Κ) (g:Nat) (d:Dfa) (N:Nat):Prop:=∀ i,i<=N->∃ D,W.cell? ⟨g,i,Γ⟩=Δ (Β (Δ ⟨D,0,Γ⟩) d.n.length d.n.length)/\∀ s,s<d.n.length->W.cell? ⟨D,s,Γ⟩=Δ (iv (sat (A3 d i s)))
theorem Wq {l:List Ρ} {k:Nat} {v:Ρ} (D:k<l.length) (h:l.getD k ς=v):l[k]? = Δ v:=by
 rw[<-h,Ζ,Μ D];rfl
theorem Xf (f:Nat->Nat) (m k:Nat) (h:f k=0):Br f m k=Br f m (k+1):=by
 unfold Br;refine List.map_congr_left λq _=>?_
 by_cases e:q=k
 ·subst e;simp[h]
 ·by_cases D:q<k
  ·rw[if_pos D,if_pos (by omega)]
  ·rw[if_neg D,if_neg (by omega)]
theorem Xg (f:Nat->Nat) (m k:Nat):(Br f m k).set k 0=Br f m k:=by
 apply ϡ;intro i;rw[ϲ,C2];by_cases e:k=i
 ·subst e;by_cases D:k<m
  ·simp[Br,D]
  ·simp[Br,D]
 ·simp[e]
theorem Xr (d:Dfa) (hv:Val d) (hn:d.n.length<=64) (N:Nat) (hN:N<=64) (v:Ρ) (w:Κ) (h:IsD w v d) :
  Ϝ Η 62 #[v,iv N] w λe w'=>∃ g,e=ν (Β (Δ ⟨g,0,Γ⟩) (N+1) (N+1))/\Rb w' g d N/\Ext w w':=by
 obtain⟨bc,oc,cc,bn,on,cn,ba,oa,ca,rfl,hC,hR,dw⟩:=h.opened hv;obtain⟨ij,ik,il,fh,dx⟩:=ä hC hv.parts.pos;injection fh with e1 e2 e3
 injection e1 with e1
 injection e1 with e1 e4
 subst e1 e4 e3;have HV:=Α hv;have fl:=Α dx;have HR:=Α hR;have fo:=Α dw;have im:=hv.parts.pos;have iq:=hv.parts.le;have ir:=hv.pos;obtain⟨i0,hi,b8,fq,fs⟩:=ϕ Cg;obtain⟨k0,hk,fv,fw,fx⟩:=ϕ Mo;obtain⟨Va,ao⟩:∃ X,dA (Β (Δ ⟨bc,oc,Γ⟩) d.cls.length cc) (Β (Δ ⟨bn,on,Γ⟩) d.n.length cn) (Β (Δ ⟨ba,oa,Γ⟩) d.n.length ca)=X:=⟨_,rfl⟩;rw[ao];have aq:=(Ι w).alloc (Ε Va 30);have H2:=Ab w (Ε Va 30);have fy:=Α (λ(W:Κ) (hW:Ext (w.alloc (Ε Va 30)) W)=>(Ω W w.heap.size 0 _ _ _ (hW.heap H2)).trans (show Va[0]? = Δ (Β (Δ ⟨bc,oc,Γ⟩) d.cls.length cc) by rw[<-ao];rfl));have b9:=Α (λ(W:Κ) (hW:Ext (w.alloc (Ε Va 30)) W)=>(Ω W w.heap.size 1 _ _ _ (hW.heap H2)).trans (show Va[1]? = Δ (Β (Δ ⟨bn,on,Γ⟩) d.n.length cn) by rw[<-ao];rfl));have fz:=Α (λ(W:Κ) (hW:Ext (w.alloc (Ε Va 30)) W)=>(Ω W w.heap.size 2 _ _ _ (hW.heap H2)).trans (show Va[2]? = Δ (Β (Δ ⟨ba,oa,Γ⟩) d.n.length ca) by rw[<-ao];rfl));clear hC dx hR dw hv ao H2 h;go_enter Tryz.func62,Tryz.ntmps62;go_upto_region 1 with (fail)
 generalize w.alloc (Ε Va 30)=w1 at *;go_upto_region 2 with (at_make;refine ϫ _ rfl _ _ 27 rfl w1.heap.size 68 k0 (Β Γ 0 0) 1 ê hk fv fw ζ ζ _ _ (N+1) rfl rfl (by push_cast;rfl) (by push_cast;rfl) (by rw[fx];omega) (by unfold ϙ;omega) (θ _) ?_;intro w2 eb ec)
 have ed:Ext w1 w2:=(Ι w1).grown ec (λk e=>by cases e);have cd:w2.ownsRow w1.heap.size 68 1 (Β (Δ ⟨w1.heap.size,0,Γ⟩) (N+1) (N+1)) (N+1) (δ (N+1) (Β Γ 0 0)):=by
  have:(madeCells (ϟ Γ 0 0).cells ((N+1)*1)).toList=δ (N+1) (Β Γ 0 0):=by
   rw[Nat.mul_one];exact toList_madeCells_one _ _
  rw[<-this];exact eb
 have ee:w1.heap.size<w2.heap.size:=(cd.lt _ rfl).2;clear eb ec;generalize ef:w1.heap.size=E at *;have ga:=Α ef;clear ef;go_wp2_with (fail);go_loopw [15] (λvi W=>∃ (i:Nat) (I:Int) (U:List Ρ),i<=N+1/\vi=.int ζ I/\Ϻ (I=(i:Int))/\Ext w1 W/\E<W.heap.size/\Ϻ (U.length=N+1)/\
   W.ownsRow E 68 1 (Β (Δ ⟨E,0,Γ⟩) (N+1) (N+1)) (N+1) U/\
   Ϻ (∀ G,G<i->∃ D,U.getD G ς=Β (Δ ⟨D,0,Γ⟩) d.n.length d.n.length/\W.ownsRow E 3 1 (Β (Δ ⟨D,0,Γ⟩) d.n.length d.n.length) d.n.length (((ι d.n.length).map λs=>sat (A3 d G s)).map iv)))
  (λvi _=>N+1-(intOf vi).toNat)
 case atStart=>exact⟨0,0,_,by omega,rfl,Α rfl,ed,ee,Α (by simp),cd,Α (λG h=>by omega)⟩
 case round=>
  clear ed ee cd;obtain⟨i,I,U,iu,rfl,HI,hE,ch,HL,hO,HQ⟩:=hrel;have iw:0<=I:=by rw[HI.out];omega
  by_cases aw:i<N+1
  ·have gb:I<(N:Int)+1:=by have:=HI.out;omega
   have ix:I.toNat=i:=by rw[HI.out];omega
   have k1:=b9.out wr hE;have ck:w1.heap.size<=E:=å ga.out;obtain⟨M,gd⟩:∃ W,W=wr:=⟨_,rfl⟩;subst gd;have ax:=hO.cellAt i (by omega);rw[Μ (by rw[HL.out];exact aw)] at ax;obtain⟨uo,eg⟩:∃ u,U[i]'(by rw[HL.out];exact aw)=u:=⟨_,rfl⟩;rw[eg] at ax;clear eg;have cl:=hO.frozenAt i;go_upto_region 6 with (at_make;refine ϫ _ rfl _ _ 68 rfl M.heap.size 3 i0 (.int ζ 0) 1 ϓ hi b8 fq ζ ζ _ _ d.n.length rfl rfl rfl rfl (by rw[fs];omega) (by unfold ϙ;omega) (θ _) ?_;intro w3 eh al;have ax:=(al.cell_far ⟨E,i,Γ⟩ ch (by simp)).trans ax;have cl:=(al.frozen_far ⟨E,i,Γ⟩ ch (by simp)).trans cl)
   have ay:=Cb hO al;have cm:=(ay.stored i (Β (Δ ⟨M.heap.size,0,Γ⟩) d.n.length d.n.length)).1;have az:=(ay.stored i (Β (Δ ⟨M.heap.size,0,Γ⟩) d.n.length d.n.length)).2;have ct:w3.ownsRow M.heap.size 3 1 (Β (Δ ⟨M.heap.size,0,Γ⟩) d.n.length d.n.length) d.n.length ((Br (λs=>sat (A3 d i s)) d.n.length 0).map iv):=by rw[Hg,<-B7];exact eh
   have bm:=ct.kept az (Ai ct ay (by decide));have cu:=(hE.grown al (λk e=>by cases e)).grown az (λk e=>by cases e;exact ck);have cv:=Α (λG (cx:G<i)=>by
    obtain⟨D,cy,bp⟩:=HQ.out G cx;have h1:D<M.heap.size:=(bp.lt D rfl).2;have ei:=Cb bp al;exact (⟨D,cy,ei.kept az (Ai ei ay (by decide)),h1⟩:∃ D,U.getD G ς=Β (Δ ⟨D,0,Γ⟩) d.n.length d.n.length/\(w3.setCell ⟨E,i,Γ⟩ (Β (Δ ⟨M.heap.size,0,Γ⟩) d.n.length d.n.length)).ownsRow E 3 1 (Β (Δ ⟨D,0,Γ⟩) d.n.length d.n.length) d.n.length (((ι d.n.length).map λs=>sat (A3 d G s)).map iv)/\D<M.heap.size))
   have gf:M.heap.size<(w3.setCell ⟨E,i,Γ⟩ (Β (Δ ⟨M.heap.size,0,Γ⟩) d.n.length d.n.length)).heap.size:=(bm.lt _ rfl).2;obtain⟨w4,cz⟩:∃ W,w3.setCell ⟨E,i,Γ⟩ (Β (Δ ⟨M.heap.size,0,Γ⟩) d.n.length d.n.length)=W:=⟨_,rfl⟩;rw[cz] at cm bm cu cv gf az;simp only[cz];clear cz ay ct eh al az ax cl k1 hO hE HQ;have ah:Ϻ ((U.set i (Β (Δ ⟨M.heap.size,0,Γ⟩) d.n.length d.n.length)).length=N+1/\(U.set i (Β (Δ ⟨M.heap.size,0,Γ⟩) d.n.length d.n.length)).getD i ς=Β (Δ ⟨M.heap.size,0,Γ⟩) d.n.length d.n.length/\∀ G,G≠i->(U.set i (Β (Δ ⟨M.heap.size,0,Γ⟩) d.n.length d.n.length)).getD G ς=U.getD G ς):=by
    refine Α ⟨by rw[ύ];exact HL.out,?_,λG gg=>?_⟩
    ·rw[Bb _ _ _ _ _ (by rw[HL.out];exact aw),if_pos rfl]
    ·rw[Bb _ _ _ _ _ (by rw[HL.out];exact aw),if_neg gg]
   generalize gh:M.heap.size=H at *;have ek:E<H:=ch;clear gh;have k1:=b9.out w4 cu;go_upto_region 7 with (fail)
   clear k1;go_loopw [28] (λvs W=>∃ s:Nat,s<=d.n.length/\vs=.int ζ s/\w4.grownBy W (Δ H)/\W.ownsRow H 3 1 (Β (Δ ⟨H,0,Γ⟩) d.n.length d.n.length) d.n.length ((Br (λs=>sat (A3 d i s)) d.n.length s).map iv))
    (λvs _=>d.n.length-(intOf vs).toNat)
   case atStart=>exact⟨0,by omega,rfl,Κ.grownBy.refl _ _,bm⟩
   case round=>
    obtain⟨s,hs,rfl,hg,T⟩:=hrel;have a6:=cu.grown hg (λk e=>by cases e;exact ψ ck (Nat.le_of_lt ek));have bq:=cm.kept hg (Ai cm bm (by decide));have bt:=bq.cellAt;have c7:=Am 0 T (C2 _ _ _).symm;by_cases ad:s<d.n.length
    ·have c8:Ϻ (wr.cell? ⟨E,i,Γ⟩=Δ (Β (Δ ⟨H,0,Γ⟩) d.n.length d.n.length)):=Α (by
      rw[bt i (by omega)];exact Wq (by rw[ah.out.1];exact aw) ah.out.2.1)
     have gj:Ϻ (∀ j,i=j+1->∃ D,wr.cell? ⟨E,j,Γ⟩=Δ (Β (Δ ⟨D,0,Γ⟩) d.n.length d.n.length)/\D<H/\∀ x,x<d.n.length->wr.cell? ⟨D,x,Γ⟩=Δ (iv (sat (A3 d j x)))):=Α (λj hj=>by
      obtain⟨D,q1,q2,q3⟩:=cv.out j (by omega);have q4:=q2.kept hg (.inr λe=>by have:D=H:=ω e;omega);refine⟨D,?_,q3,λx hx=>?_⟩
      ·rw[bt j (by omega)];exact Wq (by rw[ah.out.1];omega) ((ah.out.2.2 j (by omega)).trans q1)
      ·have:=Am 0 q4 (by simp) x (by simpa using hx);rw[Da _ _ _ _ hx] at this;exact this)
     have bu:=c7 s (by rw[C2];exact ad);have bw:(Br (λs=>sat (A3 d i s)) d.n.length s).getD s 0=0:=by
      unfold Br;rw[Da _ _ _ _ ad,if_neg (Nat.lt_irrefl _)]
     have gl:=T.frozenAt s;clear bt c7;rcases i with _|j
     ·have ja:(I==0)=Ξ:=by rw[HI.out];rfl
      have k2:=fz.out wr a6;have ka:=((aq.trans a6).cell (fo.out s ad));have a7:sat (A3 d 0 s)=if d.ok s then 1 else 0:=by unfold sat A3;split<;>rfl
      obtain⟨bo,eo⟩:∃ b,d.ok s=b:=⟨_,rfl⟩;rw[eo] at ka a7;clear eo;rw[bw] at bu;cases bo
      ·have ep:=Xf (λs=>sat (A3 d 0 s)) d.n.length s (by rw[a7];rfl);rw[ep] at T;clear ep a7 bw bu gl;go_wp2;go_roundw
       case rel=>exact⟨s+1,by omega,by go_num,hg,T⟩
       case measure=>simp[intOf];omega
      ·obtain⟨ai,aj⟩:=Bj T s (sat (A3 d 0 s));rw[F0 (λs=>sat (A3 d 0 s)) _ _ ad] at ai;rw[a7] at ai aj;have a8:=hg.trans aj;have c0:=c8.out;clear a7 bw aj;go_wp2;go_roundw
       case rel=>exact⟨s+1,by omega,by go_num,a8,ai⟩
       case measure=>simp[intOf];omega
     ·obtain⟨D,er,jc,et⟩:=gj.out j rfl;have eu:=Α et;have ev:=er;have gp:(I==0)=Τ:=by rw[HI.out];simp;omega
      have kc:=fy.out wr a6;rw[bw] at bu;obtain⟨wq,gu⟩:∃ W,W=wr:=⟨_,rfl⟩;subst gu;clear et er;go_upto_region 13 with (fail)
      clear kc gp bu;have ew:=T;rw[<-Xg (λs=>sat (A3 d (j+1) s)) d.n.length s] at ew;have b8:sat (Du d j s 0)=0:=rfl;go_loopw [46] (λvk W=>∃ k:Nat,k<=d.cls.length/\vk=.int ζ k/\wq.grownBy W (Δ H)/\W.ownsRow H 3 1 (Β (Δ ⟨H,0,Γ⟩) d.n.length d.n.length) d.n.length (((Br (λs=>sat (A3 d (j+1) s)) d.n.length s).set s (sat (Du d j s k))).map iv))
       (λvk _=>d.cls.length-(intOf vk).toNat)
      case atStart=>exact⟨0,by omega,rfl,Κ.grownBy.refl _ _,by rw[b8];exact ew⟩
      case round=>
       obtain⟨k,jd,rfl,bb,bx⟩:=hrel;have ey:=a6.grown bb (λk e=>by cases e;exact ψ ck (Nat.le_of_lt ek));by_cases bd:k<d.cls.length
       ·obtain⟨a0,a1,a2,a3⟩:=Gq (W:=wr) (λi hi=>(aq.trans ey).cell (fl.out i hi)) k bd;obtain⟨c,db⟩:∃ c,d.cls.getD k 0#256=c:=⟨_,rfl⟩;rw[db] at a0 a1 a2 a3;have dc:=Α db;clear db;go_upto_region 15 with (fail)
        obtain⟨wz,bz⟩:∃ W,wr.alloc (Ε (Aa c) 62)=W:=⟨_,rfl⟩;have b0:Ext wr wz:=bz▸(Ι wr).alloc _;have H9:=Α (show wz.heap[wr.heap.size]? = Δ (Ε (Aa c) 62 (0,0)) from bz▸Ab wr _);simp only[bz];clear bz a0 a1 a2 a3;generalize wr.heap.size=g9 at *;have dd:=Ah bx b0;have cw:=Am 0 dd (by rw[ύ,C2]) s (by rw[ύ,C2];exact ad);rw[Bb _ _ _ _ _ (by rw[C2];exact ad),if_pos rfl] at cw;have b4:∀ p:Addr,p.block<wq.heap.size->p.block≠H->wz.cell? p=wq.cell? p:=λp h1 h2=>by
         have e1:=bb.cell_far p h1 (by simpa using h2);have e2:=Κ.cell?_of_block (b0.block (k:=p.block) (ε h1 bb.size));rw[e2,e1]
        have cg:=(b4 ⟨E,j+1,Γ⟩ (by have:=Gr c8.out;exact this) (by show E≠H;omega)).trans c8.out;have cp:=(b4 ⟨E,j,Γ⟩ (Gr ev) (by show E≠H;omega)).trans ev;have df:=ey.trans b0;have e8:=b9.out wz df;obtain⟨br,or',cr,fa,fb⟩:=HR.out s ad;have fc:=(aq.trans df).cell fa;have fe:=(aq.trans df).cell (fb k bd);have ff:=HV.out.tgt s ad k bd;have cq:=(b4 ⟨D,d.ent2 s k,Γ⟩ (Gr (eu.out _ ff)) (by show D≠H;omega)).trans (eu.out _ ff);have dg:=Te (Du d j s k) (sz c) (A3 d j (d.ent2 s k)) (by
         have h0:c≠0#256:=by rw[<-dc.out];exact HV.out.parts.nz _ (by rw[Ζ,Μ bd];exact List.getElem_mem bd)
         rcases Nat.eq_zero_or_pos (sz c) with h1|h1
         ·exact absurd ((Lj c).1 h1) h0
         ·exact h1)
        rw[<-dc.out,<-Zm,dc.out] at dg;have je:=Jy (Du d j s k);have hb:=Jy (A3 d j (d.ent2 s k));have hc:sz c<=256:=Si c;have f105:=λW=>Α (S6 c W)
        generalize sat (Du d j s k)=A at *;generalize d.ent2 s k=x at *;generalize sat (A3 d j x)=B at *;have hf:=Α dg;generalize sz c=z at *;have hh:z*B<=256*1099511627777:=Nat.mul_le_mul hc hb;obtain⟨p,hp⟩:∃ p:Nat,z*B=p:=⟨_,rfl⟩;rw[hp] at hh;have hl:(z:Int)*(B:Int)=(p:Int):=by rw[<-hp];push_cast;rfl
        have HP:=Α hp;clear hp dg fb fa b4;have b6:∀ V,Ext wz V->V.cell? ⟨E,j+1,Γ⟩=Δ (Β (Δ ⟨H,0,Γ⟩) d.n.length d.n.length)/\V.cell? ⟨E,j,Γ⟩=Δ (Β (Δ ⟨D,0,Γ⟩) d.n.length d.n.length)/\V.cell? ⟨H,s,Γ⟩=Δ (iv A)/\
          V.cell? ⟨w.heap.size,1,Γ⟩=Δ (Β (Δ ⟨bn,on,Γ⟩) d.n.length cn)/\V.cell? ⟨bn,on+s,Γ⟩=Δ (Β (Δ ⟨br,or',Γ⟩) d.cls.length cr)/\V.cell? ⟨br,or'+k,Γ⟩=Δ (iv x)/\V.cell? ⟨D,x,Γ⟩=Δ (iv B):=
         λV J=>⟨J.cell cg,J.cell cp,J.cell cw,J.cell e8,J.cell fc,J.cell fe,J.cell cq⟩
        clear cg cp cw e8 fc fe cq;have jf:j<N:=by omega
        have hq:ç.wrap (I-1)=(j:Int):=by
         have:=HI.out;rw[show I-1=(j:Int) by omega];exact Ý _ ⟨by omega,by omega⟩
        have jg:(j:Int)<(N:Int)+1:=by omega
        have hr:ç.wrap (p:Int)=(p:Int):=Ý _ ⟨by omega,by omega⟩;have ht:ç.wrap ((A:Int)+(p:Int))=((A+p:Nat):Int):=by rw[show ((A+p:Nat):Int)=(A:Int)+(p:Int) by push_cast;rfl];exact Ý _ ⟨by omega,by omega⟩
        refine B0 33 [(0,Ξ),(1,Ξ),(2,Ξ),(3,Ξ),(4,Ξ),(5,Ξ),(6,Ξ),(7,Ξ),(8,Ξ),(9,Ξ),(10,Ξ),(11,Ξ),(12,Ξ),(14,Ξ),(15,Ξ),(16,Ξ),(17,Ξ),(18,Ξ),(19,Ξ),(20,Ξ),(21,Ξ),(22,Ξ),(23,Ξ),(24,Ξ),(25,Ξ),(26,Ξ),(27,Ξ),(28,Ξ),(13,Τ),(29,Ξ),(30,Ξ),(31,Ξ),(32,Ξ),(33,Τ)] (by kernel_rfl) (by kernel_rfl) (λ_ _ _ _ h=>h)
         (λV=>Ext wz V) (Ι wz).drew ?_
        have an:=(Ι wz).drew;obtain⟨wy,dh⟩:∃ V,wz.drew=V:=⟨_,rfl⟩;rw[dh] at an;rw[dh];clear dh;iterate 12
         refine Ao (v:=?_) rfl rfl (λV J=>?_) ?_
         rotate_left
         ·obtain⟨c0,c1,c2,c3,c4,c5,c6⟩:=b6 V J;clear J;go_simp;first|done|with_reducible rfl
         simp only[Ϛ,Θ,Χ,Ψ]
        refine Ao (v:=.agg (Aa c)) rfl rfl (λV J=>?_) ?_
        ·exact D2 62 (η 9) rfl g9 rfl _ _ _ _ (J.heap H9.out) ϗ rfl Bg
        simp only[Ϛ,Θ,Χ,Ψ];iterate 15
         refine Ao (v:=?_) rfl rfl (λV J=>?_) ?_
         rotate_left
         ·obtain⟨c0,c1,c2,c3,c4,c5,c6⟩:=b6 V J;clear J;go_simp;first|done|with_reducible rfl
         simp only[Ϛ,Θ,Χ,Ψ]
        refine A4 rfl (λK hK=>?_);go_simp
        (with_reducible refine (f105 wy).out.mono ?_)
        rintro e w7 ⟨rfl,bf⟩;refine hK _ _ (λ_=>an.trans bf) ?_;clear hK K;refine Ao (v:=.int ζ (p:Int)) rfl rfl (λV _=>?_) ?_
        ·go_simp
        simp only[Ϛ,Θ,Χ,Ψ];refine Ao (v:=.int ζ ((A+p:Nat):Int)) rfl rfl (λV _=>?_) ?_
        ·go_simp
        simp only[Ϛ,Θ,Χ,Ψ];refine Ao (v:=.int ζ ((min (A+p) 1099511627777:Nat):Int)) rfl rfl (λV _=>?_) ?_
        ·go_simp;omega
        simp only[Ϛ,Θ,Χ,Ψ];refine Ao (v:=?_) rfl rfl (λV J=>?_) ?_
        rotate_left
        ·clear J;go_simp;first|done|with_reducible rfl
        simp only[Ϛ,Θ,Χ,Ψ];have dk:=Ah (Ah dd an) bf;have h9:=dk.frozenAt s;have ia:=(b6 w7 (an.trans bf)).2.2.1;have ib:=Bj dk s (min (A+p) 1099511627777);refine A4 rfl (λK hK=>?_);go_simp;refine hK _ _ (λh=>absurd h (by omega)) ?_;clear hK K;refine B2 ?_;obtain⟨ai,aj⟩:=ib;rw[List.set_set] at ai;have dm:min (A+p) 1099511627777=sat (Du d j s (k+1)):=by rw[<-hf.out,HP.out]
        rw[dm] at ai aj;rw[dm];have a8:=((bb.trans ((b0.trans (an.trans bf)).grownBy _)).trans aj);clear aj dk dd h9 ia b6 dm ht hr hq hl an bf f105 T bx bq;go_wp2;go_roundw
        case rel=>exact⟨k+1,by omega,by go_num,a8,ai⟩
        case measure=>simp[intOf];omega
       ·obtain rfl:k=d.cls.length:=by omega
        rw[Zn,F0 (λs=>sat (A3 d (j+1) s)) _ _ ad] at bx;have a8:=hg.trans bb;go_wp2;go_roundw
        case rel=>exact⟨s+1,by omega,by go_num,a8,bx⟩
        case measure=>simp[intOf];omega
    ·obtain rfl:s=d.n.length:=by omega
     rw[I5] at T;have HX:=Α T;have ie:=Α bq;have ig:E<wr.heap.size:=by have:H<wr.heap.size:=(T.lt _ rfl).2;omega
     clear bt c7 T bq;go_wp2;go_roundw
     case rel=>
      refine⟨i+1,I+1,_,by omega,by go_num,Α (by rw[HI.out];push_cast;rfl),a6,ig,Α ah.out.1,ie.out,Α (λG cx=>?_)⟩;by_cases e:G=i
      ·subst e;exact⟨H,ah.out.2.1,L9 HX.out (by omega)⟩
      ·obtain⟨D,q1,q2,q3⟩:=cv.out G (by omega);exact⟨D,by rw[ah.out.2.2 G e];exact q1,q2.kept hg (.inr λe=>by have:D=H:=ω e;omega)⟩
     case measure=>simp[intOf];have:=HI.out;omega
  ·obtain rfl:i=N+1:=by omega
   have gb:¬ I<(N:Int)+1:=by have:=HI.out;omega
   go_wp2;go_ret;refine⟨E,rfl,λG cx=>?_,aq.trans hE⟩;obtain⟨D,cy,bp⟩:=HQ.out G (by omega);refine⟨D,?_,λs hs=>?_⟩
   ·rw[hO.cellAt G (by omega),<-cy,Ζ,Μ (by rw[HL.out];omega)];rfl
   ·have:=Am 0 bp (by simp) s (by simpa using hs);rw[Da _ _ _ _ hs] at this;exact this
end Go.Proofs.YtaiogolidlamiaaGreatDoor
