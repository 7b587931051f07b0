import Derived.Laws.CopyRow
import Derived.Test.YtaiogolidlamiaaGreatDoorN13
import Derived.Test.YtaiogolidlamiaaGreatDoorN01
import Derived.Test.YtaiogolidlamiaaGreatDoorN11
import Derived.Test.YtaiogolidlamiaaGreatDoorN10
import Derived.Test.YtaiogolidlamiaaGreatDoorN02
import Derived.OrdersIn
import Derived.TacticsInMore
import Derived.Test.YtaiogolidlamiaaGreatDoorN04
set_option linter.unusedVariables false
set_option linter.unusedSimpArgs false
open Array renaming getElem?_eq_some_iff → ϐ, getElem?_toList → æ
open Bool renaming false → Τ, true → Ξ, or_eq_true → Å, and_eq_true → Ϝ
open Go renaming World → Λ, Value → Ν, heap_alloc2_new → Ϗ, info_parts → Ϟ, wpList_load_row → Ο, wpList_store_row → Φ, setRow_heap → μ, cell_of_row → γ, maxLen → ϛ, wpList_make_full → ϩ, frozen_of_row → Ϸ, setCell_eq_setRow → Ϧ, wpList_append_lies → Ϙ, bodyPost_ret → ω, undef → ς, Program → ã, Act → ú, Oper → ϳ, getD_replicate_false → ϫ
open Go.Act renaming put → Ϛ
open Go.Ending renaming returned → θ
open Go.IntKind renaming i64 → ε, u64 → π, i64 → þ
open Go.IntWalk renaming i64_in → ý
open Go.Lib renaming hid → Α
open Go.Obj renaming cells → Ε
open Go.Operand renaming tmp → η
open Go.Proofs.Tryz renaming prog → Ζ, underlying28 → Ã, underlying30 → Κ, underlying68 → ϔ, underlying27 → î, underlying62 → ϑ
open Go.Region renaming ready → É, wanted → Ë
open Go.RowKit renaming Hid → À
open Go.Value renaming slice → Β, bool → ο, slice → Ϥ
open Go.World renaming size_alloc → Ρ, ownsRow → Ϡ, putObj_heap_other → Ç
open List renaming replicate → ζ, getElem?_eq_some_iff → ϊ, getD_eq_getElem?_getD → Η, getElem?_eq_getElem → Μ, mem_map → ϸ, mem_of_getElem? → Â, range → ι, ext_getElem? → ϥ, getElem?_map → ϕ, getElem?_replicate → Ϭ, getElem?_set → Ï, setIfInBounds_toArray → Ι, set_cons_zero → Χ, set_cons_succ → Ψ, mem_singleton → ϴ, length_append → Υ, mem_range → υ, length_replicate → Ò, getElem?_eq_none → Ϩ, length_set → ϒ
open Nat renaming lt_of_lt_of_le → δ, le_trans → ψ, le_refl → ν, le_of_eq → à
open Option renaming some → Δ, none → Γ
open Option.some renaming inj → ύ
namespace Go.Proofs.YtaiogolidlamiaaGreatDoor
set_option maxRecDepth 100000
set_option maxHeartbeats 4000000
open Go.RowKit Go.Shelf
open Go.Maps (Keyed)
theorem Alr (W:Λ) (g:Nat) (x:Dfa) (E G I:Nat) (ty:TypeId) (M:x.acc.length<=64) (hg:W.heap[g]? = Δ (Ε (Au (ζ 64 Τ)) 88 (0,0)))
  (T:∀ s,s<x.acc.length->W.cell? ⟨E,G+s,Γ⟩=Δ (.bool (x.ok s))) (u:Ν) (hu:u=Β (Δ ⟨E,G,Γ⟩) x.acc.length I) :
  ∃ c,(Builtin.copy_ #[28,28] ty #[Β (Δ ⟨g,0,Γ⟩) 64 64,u]).run Ζ W=.ok c (W.setRow g (Au (rst x))):=by
 subst hu;have D:(x.acc.map ο).length=x.acc.length:=List.length_map _;have:=run_copy_row (P:=Ζ) W 28 28 ty 4 g 0 64 64 ⟨E,G,Γ⟩ x.acc.length I (Au (ζ 64 Τ)) 88 (x.acc.map ο) Ã (by kernel_rfl) hg
  (by rw[D];show x.acc.length=min x.acc.length 64;omega)
  (λj v U=>by
   obtain⟨aa,ab⟩:=ϊ.1 U;have J:j<x.acc.length:=by rwa [D] at aa
   rw[Addr.add_mid,T j J,<-ab,List.getElem_map];unfold Dfa.ok;rw[Η,Μ J];rfl)
  (by rw[D,Il];simp;omega) (λv hv=>by obtain⟨b,_,rfl⟩:=ϸ.1 hv;rfl)
 refine⟨goInt (x.acc.map ο).length,this.trans ?_⟩
 congr 2
 have e:=Ac9 x M;show _=(Ck (rst x)).toArray;rw[e,D];simp[Au]
theorem Akz {σ:Type} {c:Nat->Nat} {bs:List Nat} {st:σ} {nx:σ->Nat->σ} {ac:σ->Bool} {l:List σ} {t:Tbl} (h:Expl c bs st nx ac l t) {a b:Nat->Nat} (E:Joint a b c bs)
  (hn:∀ s x,x<256->nx s (bs.getD (c x) 0)=nx s x) (w:List UInt8):Ax nx st w∈l:=by
 have:∀ (w:List UInt8) i s,l[i]? = Δ s->l[t.run i w]? = Δ (Ax nx s w):=λw=>by
  induction w with
  | nil=>intro i s hi;exact hi
  | cons x w G=>
   intro i s hi;have D:=(h.tgt i s hi _ (E.lt _ x.toNat_lt)).2;rw[hn s _ x.toNat_lt] at D;refine G (t.stp i x.toNat) _ ?_;unfold Tbl.stp;rw[h.cell];exact D
 exact Â (this w 0 st h.zero)
theorem Pu {L M:List UInt8->Prop} {r:Option Dfa} (h:F8 L r) (e:∀ w,L w↔M w):F8 M r:=by
 rw[show M=L from funext λw=>propext (e w).symm];exact h
def D1 (f:Nat->Bool) (n k:Nat):List Bool:=(ι n).map λq=>if q<k then f q else Τ
theorem Je (f:Nat->Bool) (n k:Nat):(D1 f n k).length=n:=by simp[D1]
theorem Aks (f:Nat->Bool) (n k q:Nat) (D:q<n) (E:q<k):(D1 f n k).getD q Τ=f q:=by
 unfold D1;rw[Dg _ _ _ _ D,if_pos E]
theorem Akq (f:Nat->Bool) (n:Nat):D1 f n 0=ζ n Τ:=by
 apply ϥ;intro i;simp only[D1,ϕ,Ϭ,Nat.not_lt_zero,if_false];by_cases h:i<n
 ·simp[h]
 ·simp[h]
theorem Akr (f:Nat->Bool) (n k:Nat) (E:k<n):(D1 f n k).set k (f k)=D1 f n (k+1):=by
 apply ϥ;intro i;rw[Ï,Je];simp only[D1,ϕ];by_cases e:k=i
 ·subst e;simp[E]
 ·by_cases hi:i<n
  ·simp only[List.getElem?_range hi,Option.map_some,e,if_false];by_cases D:i<k
   ·simp[D,Nat.lt_succ_of_lt D]
   ·have:¬ i<k+1:=by omega
    simp[D,this]
  ·simp[e,hi]
theorem T3 (d:Dfa) (hv:Val d) (hn:d.n.length<=64) (v:Ν) (w:Λ) (hT:Tab w) (ag:0<w.heap.size) (h:IsD w v d) :
  Calls Ζ 18 #[v] w λe w'=>∃ r,ResOf w' e r/\Ju d r/\Ext w w':=by
 have HD:=Α h;obtain⟨ac,lc,cc,an,cn,aa,la,ca,rfl⟩:=h.agg;obtain⟨Va,fa⟩:∃ X,dA (Β ac lc cc) (Β an d.n.length cn) (Β aa la ca)=X:=⟨_,rfl⟩;have k6:(Ζ.info? 30).map (·.size)=Δ Va.size:=by rw[<-fa];exact Ad
 rw[fa] at HD ⊢;clear fa h;have dw:=((Θ w).alloc (Ε Va 30)).alloc (Ε #[Β Γ 0 0,Β Γ 0 0,Β Γ 0 0] 30);have H0:=Ag (Aa w (Ε Va 30)) (Ε #[Β Γ 0 0,Β Γ 0 0,Β Γ 0 0] 30);have H1:=Ϗ w (Ε Va 30) (Ε #[Β Γ 0 0,Β Γ 0 0,Β Γ 0 0] 30);have ic:=Α (λW (I:Ext w W)=>hT.below I.below ag);have f28:=λW (I:Ext w W)=>Α (Jn d hv hn _ W (ic.out W I) (δ ag I.size) (HD.out.ext I))
 have ie:=Α (λ(x:Dfa) (hx:Cano x) (e:∀ u,x.has u=d.has u)=>ψ (K8 hx hv e) hn);clear hv hT hn;obtain⟨i0,hi,lb,lf,lg⟩:=Ϟ Cp;go_enter Tryz.func18,Tryz.ntmps18;go_upto_region 1 with (fail)
 obtain⟨w1,dx⟩:∃ W,(w.alloc (Ε Va 30)).alloc (Ε #[Β Γ 0 0,Β Γ 0 0,Β Γ 0 0] 30)=W:=⟨_,rfl⟩;have lh:w.heap.size+1<w1.heap.size:=by rw[<-dx,Ρ,Ρ];omega
 rw[dx] at dw H0 H1;simp only[dx];clear dx;have ig:=Α H0;have dy:=Α H1;clear H0 H1;go_upto_region 4 with (first
  | (refine Ο rfl 30 (η 1) rfl _ rfl _ _ _ _ ig.out Κ rfl k6 ?_)
  | (go_at_call 28;(with_reducible refine (f28 _ dw).out.mono ?_);rintro e w2 ⟨x,⟨v2,rfl,ea⟩,eb,fe,ec⟩;obtain⟨bc,oc,bp,bn,on,bq,ba,oa,a7,rfl,hC,hR,hA⟩:=ea.opened eb.val)
  | (refine Φ rfl 30 (η 4) (η 23) rfl _ _ rfl rfl _ _ (Aa w2 _) Ad rfl (Aq _ _ _ rfl rfl rfl) ?_))
 have ff:=ie.out x eb fe;have bt:=((Θ w2).alloc (Ε #[Β Γ 0 0,Β Γ 0 0,Β Γ 0 0] 30)).setRow (ν _) (dA (Β (Δ ⟨bc,oc,Γ⟩) x.cls.length bp) (Β (Δ ⟨bn,on,Γ⟩) x.n.length bq) (Β (Δ ⟨ba,oa,Γ⟩) x.n.length a7));have H4:=μ (w2.alloc (Ε #[Β Γ 0 0,Β Γ 0 0,Β Γ 0 0] 30)) w2.heap.size _ (dA (Β (Δ ⟨bc,oc,Γ⟩) x.cls.length bp) (Β (Δ ⟨bn,on,Γ⟩) x.n.length bq) (Β (Δ ⟨ba,oa,Γ⟩) x.n.length a7)) _ _ (Aa w2 _);obtain⟨J,fg⟩:∃ W,(w2.alloc (Ε #[Β Γ 0 0,Β Γ 0 0,Β Γ 0 0] 30)).setRow w2.heap.size (dA (Β (Δ ⟨bc,oc,Γ⟩) x.cls.length bp) (Β (Δ ⟨bn,on,Γ⟩) x.n.length bq) (Β (Δ ⟨ba,oa,Γ⟩) x.n.length a7))=W:=⟨_,rfl⟩;rw[fg] at bt H4;simp only[fg];clear fg;have HC:=Α (λ(W:Λ) (I:Ext J W)=>hC.ext (bt.trans I));have HR:=Α (λ(W:Λ) (I:Ext J W)=>hR.ext (bt.trans I));have ik:=Α (λ(W:Λ) (I:Ext J W) s (hs:s<x.n.length)=>(bt.trans I).cell (hA s hs));have ed:=Α (λ(W:Λ) (I:Ext J W)=>(γ W w2.heap.size 0 _ _ _ (I.heap H4)).trans (show (dA (Β (Δ ⟨bc,oc,Γ⟩) x.cls.length bp) (Β (Δ ⟨bn,on,Γ⟩) x.n.length bq) (Β (Δ ⟨ba,oa,Γ⟩) x.n.length a7))[0]? = Δ (Β (Δ ⟨bc,oc,Γ⟩) x.cls.length bp) from rfl));have fj:=Α (λ(W:Λ) (I:Ext J W)=>(γ W w2.heap.size 1 _ _ _ (I.heap H4)).trans (show (dA (Β (Δ ⟨bc,oc,Γ⟩) x.cls.length bp) (Β (Δ ⟨bn,on,Γ⟩) x.n.length bq) (Β (Δ ⟨ba,oa,Γ⟩) x.n.length a7))[1]? = Δ (Β (Δ ⟨bn,on,Γ⟩) x.n.length bq) from rfl));have il:=Α (λ(W:Λ) (I:Ext J W)=>(γ W w2.heap.size 2 _ _ _ (I.heap H4)).trans (show (dA (Β (Δ ⟨bc,oc,Γ⟩) x.cls.length bp) (Β (Δ ⟨bn,on,Γ⟩) x.n.length bq) (Β (Δ ⟨ba,oa,Γ⟩) x.n.length a7))[2]? = Δ (Β (Δ ⟨ba,oa,Γ⟩) x.n.length a7) from rfl));have fk:=(dw.trans ec).trans bt;have dy:=Α ((ec.trans bt).heap dy.out);have ob:w.heap.size+1<J.heap.size:=δ lh (ec.trans bt).size;have fl:=Α eb;have fm:=Α fe;clear ea eb fe hC hR hA bt H4 ig HD f28 ie ec dw;generalize w2.heap.size=g4 at *;have HV:=Α fl.out.val;have lk:=HV.out.pos;have ll:=HV.out.parts.pos;have ln:=HV.out.parts.le;have fo:=Α HV.out.accL;have bb:=Α (Hd x.cls);have iq:=Α (λ(W:Λ) (I:Ext J W) (g:Nat) (ty:TypeId) (hg:W.heap[g]? = Δ (Ε (Au (ζ 64 Τ)) 88 (0,0)))=>Alr W g x ba oa a7 ty (by rw[fo.out];exact ff) hg (λs hs=>ik.out W I s (by rw[<-fo.out];exact hs)) (Β (Δ ⟨ba,oa,Γ⟩) x.n.length a7) (by rw[fo.out]))
 obtain⟨nn,ee⟩:∃ n,x.n.length=n:=⟨_,rfl⟩;obtain⟨m,hm⟩:∃ n,x.cls.length=n:=⟨_,rfl⟩;rw[ee] at lk ff fj il HR iq ik;rw[hm] at ll ln ed HR bb;rw[ee,hm];have ef:=Α ee;have da:=Α hm;clear ee hm;have db:=(Θ J).alloc (Ε (Au (ζ 64 Τ)) 88);have H6:=Aa J (Ε (Au (ζ 64 Τ)) 88);go_upto_region 5 with (fail)
 rw[z64];obtain⟨w4,eh⟩:∃ W,J.alloc (Ε (Au (ζ 64 Τ)) 88)=W:=⟨_,rfl⟩;have lo:w4.heap.size=J.heap.size+1:=by rw[<-eh,Ρ]
 rw[eh] at db H6;simp only[eh];clear eh;refine B2 3 [(0,Ξ),(1,Ξ),(2,Ξ),(3,Τ)] (by kernel_rfl) (by kernel_rfl) (λ_ _ _ _ h=>h) (λW=>W.cell? ⟨g4,2,Γ⟩=Δ (Β (Δ ⟨ba,oa,Γ⟩) nn a7)) (il.out _ db.drew) ?_;iterate 3
  refine Ao (v:=?_) rfl rfl (λW I=>?_) ?_
  rotate_left
  ·go_simp;first|done|with_reducible rfl
  simp only[Ϛ,Ι,Χ,Ψ]
 obtain⟨c5,ir⟩:=iq.out w4.drew db.drew J.heap.size 3 H6;refine A5 rfl (λK hK=>?_);refine (if_pos (by rfl)).mpr ?_;refine Z7 _ _ 28 28 rfl _ _ rfl rfl ir ?_;refine hK _ _ (λh=>absurd h (by omega)) ?_;clear hK K;refine B3 ?_;have cw:=db.drew.setRow (ν J.heap.size) (Au (rst x));have fp:=Α (μ w4.drew J.heap.size _ (Au (rst x)) _ _ H6);obtain⟨D,ei⟩:∃ W,w4.drew.setRow J.heap.size (Au (rst x))=W:=⟨_,rfl⟩;have oe:J.heap.size<D.heap.size:=by rw[<-ei,size_setRow];show _<w4.heap.size;omega
 rw[ei] at cw fp;simp only[ei];clear ei ir H6 db lo;have de:=Ka x;have iu:=Tn (rst x) de;have bd:=Qb (rst x) de;have lp:=@run_makeMap Ζ;have iw:=Kt D 88 Dq;have ix:=cw.alloc (.map #[] 0);have ej:=Α (Ag fp.out (.map #[] 0));have iy:D.heap.size+1<=(D.alloc (.map #[] 0)).heap.size:=by rw[Ρ];omega
 go_upto_region 7 with (first
  | (refine Ο rfl 88 (η 6) rfl _ rfl _ _ _ _ ej.out Tryz.underlying88 rfl bd ?_)
  | (refine Rx rfl _ _ _ 89 rfl Mv Tryz.underlying89 rfl iw (by unfold ϛ;omega) To (rst x) rfl iu 0 rfl (by omega) ?_;intro w6 aj ek))
 clear lp iw;have ch:=ix.grown ek (λk e=>by cases e;omega);have H7:=Α ((ek.block J.heap.size (An ej.out) (λe=>by have:=ύ e;omega)).trans ej.out);have bh:D.heap.size+1<=w6.heap.size:=ψ iy ek.size;clear ek iy ix ej fp;go_upto_region 8 with (first
  | (refine Ο rfl 88 (η 6) rfl _ rfl _ _ _ _ H7.out Tryz.underlying88 rfl bd ?_)
  | (refine Ry rfl _ rfl (rst x) de rfl ?_))
 have bu:=ch.alloc (Ε (Au (rst x)) 88);have bj:=aj.alloc (Ε (Au (rst x)) 88);have ak:Ll (w6.alloc (Ε (Au (rst x)) 88)) (D.heap.size+1) (Β (Δ ⟨w6.heap.size,0,Γ⟩) 1 1) [rst x]:=by
  have:=Λ.ownsRow_lit (base:=D.heap.size+1) (e:=88) (size:=64) w6 (Au (rst x)) 1 bh (by unfold ϛ;omega) (by rw[Il,de]);show Ϡ _ _ _ _ _ _ _;rw[Xa];exact this
 have cj:D.heap.size+1<=(w6.alloc (Ε (Au (rst x)) 88)).heap.size:=by rw[Ρ];omega
 obtain⟨w8,fs⟩:∃ W,w6.alloc (Ε (Au (rst x)) 88)=W:=⟨_,rfl⟩;rw[fs] at bu bj ak cj;simp only[fs];clear fs aj ch H7 bh iu bd;obtain⟨lq,ja⟩:∃ x,w6.heap.size=x:=⟨_,rfl⟩;rw[ja] at ak ⊢;clear ja;have og:J.heap.size<=D.heap.size:=by omega
 have ft:=Α (λk (hk:k<m)=>Io HV.out.parts (show k<x.cls.length by rw[da.out];exact hk));have jc:=Λ.ownsRow_nil w8 (D.heap.size+1) 68 1;have jd:RowsO w8 (D.heap.size+1) [] [] (λ_=>False):=⟨rfl,λj hj=>by simp at hj⟩;clear de;go_wp2_with (fail);go_loopw [8,9,10] (λvo vn vi W=>∃ (i:Nat) (l:List (List Bool)) (f:List Bool->Option Nat) (N':List (List Nat)) (vs:List Ν) (go co:Nat),i<=l.length/\l.length<=4096/\vi=.int ε i/\vo=Β (Δ ⟨go,0,Γ⟩) l.length co/\Ext J W/\D.heap.size+1<=W.heap.size/\
   IsMp W 88 Dq D.heap.size l.length f/\Ll W (D.heap.size+1) vo l/\W.ownsRow (D.heap.size+1) 68 1 vn vs.length vs/\
   RowsO W (D.heap.size+1) vs N' (λ_=>False)/\À (EInv (Ce x.cls) (rst x) (rnx x) i 0 l f N' (ζ m 0)/\∀ S,S∈l->S.length=64))
  (λ_ _ vi _=>4097-(intOf vi).toNat)
 case atStart=>exact⟨0,[rst x],_,[],[],lq,1,by omega,by simp,rfl,rfl,bu,cj,bj,ak,jc,jd,Α ⟨Qv (Ce x.cls) (rst x) (rnx x) _ (by rw[bb.out];simp),λS hS=>by rw[ϴ] at hS;rw[hS];exact Ka x⟩⟩
 case round=>
  clear bu bj ak cj jc jd;obtain⟨i,l,f,N',vs,go,co,lr,je,rfl,rfl,T,ag,bw,hL,ab,hV,HI⟩:=hrel;by_cases jf:i<l.length
  ·obtain⟨wo,ls⟩:∃ W,W=wr:=⟨_,rfl⟩;subst ls;obtain⟨S,az⟩:∃ s,l[i]? = Δ s:=⟨l[i],by simp[jf]⟩;have fv:=Α az;have fw:=Α (HI.out.2 S (Â az));clear az;have k0:=ed.out wo T;go_upto_region 13 with (at_make;refine ϩ _ rfl _ _ 68 rfl (D.heap.size+1) 3 i0 (.int ε 0) 1 ϔ hi lb lf ε ε _ _ m rfl rfl rfl rfl (by rw[lg];omega) (by unfold ϛ;omega) (by omega) ?_;intro w7 jg ai)
   clear k0;have cw:=T.grown ai (λk e=>by cases e);have ep:w7.ownsRow (D.heap.size+1) 3 1 (Β (Δ ⟨wo.heap.size,0,Γ⟩) m m) m ((ζ m 0).map iv):=by rw[<-B6];exact jg
   have jh:=bw.kept ai (by simp);have ji:=Cb hL ai;have jj:=Cb ab ai;have fx:=(hV.av (av':=λo=>o=Δ wo.heap.size) (λv l ho ck e=>by
    have:=(ho.lt _ e).2;omega)).kept ai (λv l ho ck=>by cases v.ownBlock<;>simp)
   have jk:=ψ ag ai.size;have lv:=(ep.lt wo.heap.size rfl).1;obtain⟨gr,fy⟩:∃ x,wo.heap.size=x:=⟨_,rfl⟩;rw[fy] at ep fx lv;rw[fy];clear jg ai bw hL ab hV T ag fy;have k0:=ed.out w7 cw;go_wp2_with (fail);clear k0;go_loopw [8,51] (λvo vk W=>∃ (k:Nat) (G:List (List Bool)) (f2:List Bool->Option Nat) (r:List Nat) (dh er:Nat),k<=m/\G.length<=4096+k/\vk=.int ε k/\vo=Β (Δ ⟨dh,0,Γ⟩) G.length er/\Ext J W/\D.heap.size+1<=W.heap.size/\
     IsMp W 88 Dq D.heap.size G.length f2/\Ll W (D.heap.size+1) vo G/\W.ownsRow (D.heap.size+1) 3 1 (Β (Δ ⟨gr,0,Γ⟩) m m) m (r.map iv)/\
     W.ownsRow (D.heap.size+1) 68 1 u9 vs.length vs/\RowsO W (D.heap.size+1) vs N' (λo=>o=Δ gr)/\
     À (EInv (Ce x.cls) (rst x) (rnx x) i k G f2 N' r/\i<G.length/\(∀ j,j<=i->G[j]? = l[j]?)/\∀ S,S∈G->S.length=64))
    (λ_ vk _=>m-(intOf vk).toNat)
   case atStart=>exact⟨0,l,f,_,go,co,by omega,by omega,rfl,rfl,cw,jk,jh,ji,ep,jj,fx,Α ⟨HI.out.1,jf,λ_ _=>rfl,HI.out.2⟩⟩
   case round=>
    clear cw jk jh ji ep jj fx;obtain⟨k,G,f2,r,dh,er,hk,oh,rfl,rfl,T,ag,bw,hL,hQ,ab,hV,HJ⟩:=hrel;have dk:À (r.length=m):=Α (by rw[HJ.out.1.lenr,bb.out]);have om:=HJ.out.2.1;have gd:À (G[i]? = Δ S):=Α (by rw[HJ.out.2.2.1 i (ν _)];exact fv.out);obtain⟨w7,lx⟩:∃ W,W=wr:=⟨_,rfl⟩;subst lx;by_cases cl:k<m
    ·have eu:=(Θ w7).alloc (Ε (Au (ζ 64 Τ)) 88);have dm:=Aa w7 (Ε (Au (ζ 64 Τ)) 88);have gf:w7.heap.size<(w7.alloc (Ε (Au (ζ 64 Τ)) 88)).heap.size:=by rw[Ρ];omega
     go_upto_region 17 with (fail)
     rw[z64];obtain⟨ws,gg⟩:∃ W,w7.alloc (Ε (Au (ζ 64 Τ)) 88)=W:=⟨_,rfl⟩;rw[gg] at eu dm gf;simp only[gg];clear gg;rw[<-Akn x S k] at dm;obtain⟨gS,ev⟩:∃ y,w7.heap.size=y:=⟨_,rfl⟩;rw[ev] at dm gf;rw[ev];have lz:=Α ev;clear ev;have ch:=T.trans eu;have k1:=fj.out ws ch;go_wp2_with (fail);clear k1;have jl:=Α (λ(W:Λ) (I:Ext w7 W) (q:Nat) (hq:q<64)=>I.cell (Tm hL HJ.out.2.2.2 i S gd.out q hq));have jm:w7.heap.size<=gS:=à lz.out;go_loopw [57] (λvs W=>∃ s:Nat,s<=nn/\vs=.int ε s/\Ext w7 W/\À (W.heap[gS]? = Δ (Ε (Au (Dh x S k s)) 88 (0,0))))
      (λvs _=>nn-(intOf vs).toNat)
     case atStart=>exact⟨0,by omega,rfl,eu,Α dm⟩
     case round=>
      clear dm eu;obtain⟨s,hs,rfl,aw,HG⟩:=hrel;by_cases az:s<nn
      ·have jn:=T.trans aw;have gh:=jn.drew;obtain⟨br,or',cr,jq,jr⟩:=HR.out wr.drew gh s az;have gi:=jr k cl;have l5:x.ent2 s k<nn:=by rw[<-ef.out];exact HV.out.tgt s (by rw[ef.out];exact az) k (by rw[da.out];exact cl)
       obtain⟨y,bz⟩:∃ y,x.ent2 s k=y:=⟨_,rfl⟩;rw[bz] at gi l5;have gj:=jl.out wr.drew aw.drew y (by omega);obtain⟨bS,gl⟩:∃ b,S.getD y Τ=b:=⟨_,rfl⟩;rw[gl] at gj;have l6:À (S.getD (x.ent2 s k) Τ=bS):=Α (by rw[bz];exact gl);have l7:s<64:=by omega
       have dp:(y:Int)<64:=by omega
       have oo:(s:Int)<64:=by omega
       have js:=fj.out wr.drew gh;have gm:wr.drew.heap[gS]? = Δ (Ε (Au (Dh x S k s)) 88 (0,0)):=HG.out;have ew:=(γ wr.drew gS s _ _ _ gm).trans (Tp _ s (by rw[Xk];omega));have ey:=Ϸ wr.drew gS s _ _ gm;have jt:=Α ew;have ju:=Α ey;clear jr bz gl ew ey;go_upto_region 20 with (fail)
       refine B2 15 [(0,Ξ),(1,Ξ),(2,Ξ),(3,Ξ),(4,Ξ),(5,Ξ),(6,Ξ),(7,Ξ),(8,Ξ),(9,Ξ),(10,Ξ),(11,Ξ),(12,Ξ),(13,Ξ),(14,Ξ),(15,Τ)] (by kernel_rfl) (by kernel_rfl) (λ_ _ _ _ h=>h)
        (λX=>X.cell? ⟨g4,1,Γ⟩=Δ (Β (Δ ⟨bn,on,Γ⟩) nn bq)/\X.cell? ⟨bn,on+s,Γ⟩=Δ (Β (Δ ⟨br,or',Γ⟩) m cr)/\X.cell? ⟨br,or'+k,Γ⟩=Δ (iv y)/\X.cell? ⟨dh,i*64+y,Γ⟩=Δ (.bool bS)) ⟨js,jq,gi,gj⟩ ?_
       clear js jq gi gj;iterate 15
        refine Ao (v:=?_) rfl rfl (λX hX=>?_) ?_
        rotate_left
        ·obtain⟨t0,t1,t2,t3⟩:=hX;go_simp;first|done|with_reducible rfl
        simp only[Ϛ,Ι,Χ,Ψ]
       have ew:=jt.out;have ey:=ju.out;refine A5 rfl (λK hK=>?_);go_simp;refine hK _ _ (λh=>absurd h (by omega)) ?_;clear hK K ew ey jt ju;refine B3 ?_;have jv:wr.setCell ⟨gS,s,Γ⟩ (.bool bS)=wr.setRow gS (Au (Dh x S k (s+1))):=by
        rw[Ϧ wr gS s _ _ _ _ HG.out,<-l6.out,Ako x S k s l7]
       have l8:À ((wr.setRow gS (Au (Dh x S k (s+1)))).drew.heap[gS]? = Δ (Ε (Au (Dh x S k (s+1))) 88 (0,0))):=Α (μ wr gS _ (Au (Dh x S k (s+1))) _ _ HG.out);have gn:=(aw.setRow jm (Au (Dh x S k (s+1)))).drew;rw[jv];clear jv gm jn gh aw;go_wp2;go_roundw
       case rel=>exact⟨s+1,by omega,by go_num,gn,l8⟩
       case measure=>simp[intOf];omega
      ·obtain rfl:s=nn:=by omega
       obtain⟨y,bz⟩:∃ y,rnx x S ((Ce x.cls).getD k 0)=y:=⟨_,rfl⟩;have hG:wr.heap[gS]? = Δ (Ε (Au y) 88 (0,0)):=by
        have h1:=HG.out;have h2:=Akp x S k (ft.out k cl).2;rw[ef.out,bz] at h2;rw[h2] at h1;exact h1
       have dp:y.length=64:=by rw[<-bz];exact Ot _ _ _
       have gp:=Α dp;have gq:=Α bz;have gu:=Tn y dp;have bd:=Qb y dp;have b5:=Ah hL aw;have ax:=Ah hQ aw;have bl:=Ah ab aw;have cm:=hV.kept (aw.grownBy Γ) (λv l _ _=>by cases v.ownBlock<;>simp);have aj:=bw.ext aw;have bu:=T.trans aw;have bh:=ψ ag aw.size;have e1:=Α hG;have oq:D.heap.size+1<=gS:=ψ ag jm;clear hL hQ ab hV bw T ag ch bz hG dp HG gf aw jl;obtain⟨U,gv⟩:∃ W,W=wr:=⟨_,rfl⟩;subst gv;cases hf:f2 y with
       | some v=>
        have gw:=Α (Qx HJ.out.1 (by rw[bb.out];exact cl) gd.out v (by rw[gq.out];exact hf));have cq:=Am 0 ax dk.out.symm k (by rw[dk.out];exact cl);have fq:=ax.frozenAt k;obtain⟨dq,af⟩:=Bk ax k v;have cp:=bu.grown af (λk e=>by cases e;omega);have ak:=b5.kept af (Aj b5 ax (by decide));have ct:=bl.kept af (Aj bl ax (by decide));have e3:=cm.kept af (λv l ho ck=>.inr (λe=>ck e));have bj:=aj.kept af (λe=>by have:=ύ e;omega);have cj:=ψ bh af.size;clear af b5 ax bl cm bu bh;go_wp2_with (first
         | (refine Ο rfl 88 (η 13) rfl _ rfl _ _ _ _ e1.out Tryz.underlying88 rfl bd ?_)
         | (at_lookup;refine Er rfl _ _ 89 rfl Mv Tryz.underlying89 rfl aj y rfl gu ?_;rw[hf];dsimp only [Option.isSome,Option.getD]))
        go_roundw
        case rel=>exact⟨k+1,G,f2,r.set k v,dh,er,by omega,by omega,by go_num,rfl,cp,cj,bj,ak,dq,ct,e3,Α ⟨gw.out,HJ.out.2⟩⟩
        case measure=>simp[intOf];omega
       | none=>
        have gx:=Qy HJ.out.1 (by rw[bb.out];exact cl) (λq hq=>(ft.out q (by rw[<-bb.out];exact hq)).1) gd.out (by rw[gq.out];exact hf);rw[gq.out] at gx;have gw:=Α gx;clear gx;obtain⟨i7,mc,me,mf,mg⟩:=Ϟ Wj;have jx:gS<U.heap.size:=An e1.out;have mh:gS≠D.heap.size:=λe=>by omega
        go_upto_region 26 with (first
         | (refine Ο rfl 88 (η 13) rfl _ rfl _ _ _ _ e1.out Tryz.underlying88 rfl bd ?_)
         | (at_lookup;refine Er rfl _ _ 89 rfl Mv Tryz.underlying89 rfl aj y rfl gu ?_;rw[hf];dsimp only [Option.isSome,Option.getD])
         | (at_mapUpdate;refine Jw rfl _ _ _ 89 rfl Mv Tryz.underlying89 rfl aj (by unfold ϛ;omega) To y rfl gu G.length rfl (by omega) ?_;intro gy bj af))
        have ak:=b5.kept af (aj.far b5);have dq:=ax.kept af (aj.far ax);have ct:=bl.kept af (aj.far bl);have e3:=cm.kept af (λv l ho ck=>aj.far ho);have cp:=bu.grown af (λk e=>by cases e;omega);have cj:=ψ bh af.size;have jy:=Α ((af.block gS jx (λe=>mh (ύ e))).trans e1.out);clear af b5 ax bl cm bu bh aj jx;go_upto_region 27 with (first
         | (refine Ο rfl 88 (η 13) rfl _ rfl _ _ _ _ jy.out Tryz.underlying88 rfl bd ?_)
         | (refine Ry rfl _ rfl y gp.out rfl ?_)
         | (at_builtin;refine Ϙ _ rfl _ _ 90 rfl (D.heap.size+1) 88 i7 (Dq (ζ 64 Τ)) 64 64 Tryz.underlying90 mc me mf mg (by show (Au (ζ 64 Τ)).size=64;rw[Il];rfl) (by decide) _ _ _ rfl (ak.alloc _) _ 1 1 (Ck y) rfl (by rw[Hb,gp.out]) (Λ.news_of_block (Aa gy _)) (λu hu=>by obtain⟨b,_,rfl⟩:=ϸ.1 hu;rfl) (by decide) (by unfold ϛ;omega) (by omega) (by rw[Ρ];omega) _ rfl ?_;intro g9 c9 j2 dr ao _ _))
        have b6:=(cp.alloc (Ε (Au y) 88)).grown ao (λk e=>by have:=(ak.lt k e).1;omega);have cz:=(dq.alloc (Ε (Au y) 88)).kept ao (Aj dq ak (by decide));have c1:=(ct.alloc (Ε (Au y) 88)).kept ao (Aj ct ak (by decide));have dt:=(e3.alloc (Ε (Au y) 88)).kept ao (λv l ho _=>Aj ho (ak.alloc (Ε (Au y) 88)) (by decide));have j3:=(bj.alloc (Ε (Au y) 88)).kept ao (bj.ne_row ak);have du:D.heap.size+1<=j2.heap.size:=by
         have:=ao.size;rw[Ρ] at this;omega
        have gz:À (Ll j2 (D.heap.size+1) (Β (Δ ⟨g9,0,Γ⟩) (G++[y]).length c9) (G++[y])):=Α (by
         show Ϡ _ _ _ _ _ _ _;rw[Υ,Akd,Xa];exact dr)
        clear ao ak dq ct e3 cp cj bj dr jy;have cq:=Am 0 cz dk.out.symm k (by rw[dk.out];exact cl);have fq:=cz.frozenAt k;obtain⟨mi,cu⟩:=Bk cz k G.length;have mj:=b6.grown cu (λk e=>by cases e;omega);have ml:=Α (gz.out.kept cu (Aj gz.out cz (by decide)));have mm:=c1.kept cu (Aj c1 cz (by decide));have mo:=dt.kept cu (λv l ho ck=>.inr (λe=>ck e));have mq:=j3.kept cu (λe=>by have:=ύ e;omega);have e4:=ψ du cu.size;clear cu gz cz c1 dt b6 du j3;go_wp2_with (fail);go_roundw
        case rel=>
         refine⟨k+1,G++[y],_,r.set k G.length,g9,c9,by omega,by rw[Υ];simp;omega,by go_num,?_,mj,e4,?_,?_,mi,mm,mo,Α ⟨gw.out,?_,λj hj=>?_,λX hX=>?_⟩⟩
         ·rw[Υ];rfl
         ·rw[Υ];exact mq
         ·have h9:Ϡ _ _ _ _ _ _ _:=ml.out;show Ϡ _ _ _ _ _ _ _;rw[show (G++[y]).length=G.length+1 by simp] at h9 ⊢;exact h9
         ·rw[Υ];have:=HJ.out.2.1;omega
         ·rw[List.getElem?_append_left (by have:=HJ.out.2.1;omega)];exact HJ.out.2.2.1 j hj
         ·rcases List.mem_append.1 hX with hX|hX
          ·exact HJ.out.2.2.2 X hX
          ·rw[ϴ] at hX;rw[hX];exact gp.out
        case measure=>simp[intOf];omega
    ·obtain rfl:m=k:=by omega
     by_cases mr:4096<G.length
     ·have mu:(4096:Int)<(G.length:Int):=by omega
      have mv:=Α (show B8 (rnx x) (rst x) 4096 from⟨G,HJ.out.1.nodup,λS hS=>HJ.out.1.reach S hS,mr⟩);have mw:=Α Dn;have e5:=Α (T.heap dy.out);go_wp2_with (first
       | (refine Bw rfl 30 _ rfl #[Β Γ 0 0,Β Γ 0 0,Β Γ 0 0] ?_ ?_;(simp;with_reducible exact mw.out))
       | (refine Φ rfl 30 (η 2) (η 101) rfl _ _ rfl rfl _ _ e5.out Ad rfl C8 ?_))
      refine ω (v:=.tuple #[zD,.int ε 2]) (A3 rfl _ _ _ _ _ _ _ rfl _ rfl (μ _ _ _ #[Β Γ 0 0,Β Γ 0 0,Β Γ 0 0] 30 (0,0) e5.out) Κ rfl Ad) rfl ?_;exact⟨Γ,rfl,⟨x,fl.out,fm.out,λ_=>rfl,λmy=>absurd mv.out my⟩,(fk.trans T).setRow (by omega) _⟩
     ·have mu:¬ (4096:Int)<(G.length:Int):=by omega
      obtain⟨i6,na,nb,nc,ea⟩:=Ϟ M1;have ot:vs.length<=1073741824:=by rw[hV.1,HJ.out.1.lenN];omega
      go_wp2_with (at_builtin;refine Ϙ _ rfl _ _ 27 rfl (D.heap.size+1) 68 i6 (Β Γ 0 0) 1 24 î na nb nc ea rfl (by decide) u9 vs.length vs rfl (ab.alloc _) _ 1 1 [Β (Δ ⟨gr,0,Γ⟩) m m] rfl rfl (cell_one_new _ _ _) (by simp[Ν.oneCell']) (by decide) (by unfold ϛ;omega) (by omega) (by rw[Ρ];omega) _ rfl ?_;intro g7 c7 w8 bl ai _ _);have aj:=(bw.alloc (Ε #[Β (Δ ⟨gr,0,Γ⟩) m m] 68)).kept ai (bw.ne_row ab);have b5:=(hL.alloc (Ε #[Β (Δ ⟨gr,0,Γ⟩) m m] 68)).kept ai (Aj hL ab (by decide));have ax:=(hQ.alloc (Ε #[Β (Δ ⟨gr,0,Γ⟩) m m] 68)).kept ai (Aj hQ ab (by decide));have cm:=(hV.alloc (Ε #[Β (Δ ⟨gr,0,Γ⟩) m m] 68)).kept ai (λv l ho _=>Aj ho (ab.alloc (Ε #[Β (Δ ⟨gr,0,Γ⟩) m m] 68)) (by decide));have ch:=(T.alloc (Ε #[Β (Δ ⟨gr,0,Γ⟩) m m] 68)).grown ai (λk e=>by have:=(ab.lt k e).1;omega);have bh:D.heap.size+1<=w8.heap.size:=by
       have:=ai.size;rw[Ρ] at this;omega
      have ct:w8.ownsRow (D.heap.size+1) 68 1 (Β (Δ ⟨g7,0,Γ⟩) (vs.length+1) c7) (vs++[Ϥ (Δ ⟨gr,0,Γ⟩) m m]).length (vs++[Ϥ (Δ ⟨gr,0,Γ⟩) m m]):=by
       rw[Υ];exact bl
      have j5:OwnI w8 (D.heap.size+1) (Β (Δ ⟨gr,0,Γ⟩) m m) r:=by
       show Ϡ _ _ _ _ _ _ _;rw[dk.out];exact ax
      have ng:=(cm.av (av':=λ_=>False) (λv l _ _ e=>e)).snoc j5 (λe=>e);have nh:=Α (Qw (by rw[bb.out];exact HJ.out.1) HJ.out.2.1 (ζ m 0) (by rw[bb.out];simp));clear ai bl ax j5 cm;go_roundw
      case rel=>exact⟨i+1,G,f2,N'++[r],vs++[Β (Δ ⟨gr,0,Γ⟩) m m],dh,er,by omega,by omega,by go_num,rfl,ch,bh,aj,b5,ct,ng,Α ⟨nh.out,HJ.out.2.2.2⟩⟩
      case measure=>simp[intOf];omega
  ·obtain rfl:i=l.length:=by omega
   have j6:=Α HI.out.2;have b7:=Α (Qz (c:=Ak x.cls) (ac:=λS=>S.getD 0 Τ) (A:=D1 (λq=>(l.getD q []).getD 0 Τ) l.length l.length) (by
     have h:=HI.out.1;rw[show ζ m 0=ζ m 0 from rfl] at h;exact h) rfl (Je _ _ _) (λj s hs=>by
    have hj:j<l.length:=(ϊ.1 hs).1;have e:l.getD j []=s:=by rw[Η,hs];rfl
    rw[Aks _ _ _ _ hj hj,e]))
   have ni:=HI.out.1.pos;obtain⟨j0,hj,nk,nm,np⟩:=Ϟ D8;obtain⟨E,dv⟩:∃ x,l.length=x:=⟨_,rfl⟩;have b8:=Α dv;have j7:Ϡ wr (D.heap.size+1) 88 64 (Β (Δ ⟨go,0,Γ⟩) E co) E (flB l):=by
    rw[<-dv];exact hL
   rw[dv] at je ni;rw[dv];clear lr bw dv hL;go_upto_region 33 with (at_make;refine ϩ _ rfl _ _ 28 rfl (D.heap.size+1) 4 j0 (.bool Τ) 1 Ã hj nk nm ε ε _ _ E rfl rfl rfl rfl (by rw[np];omega) (by unfold ϛ;omega) (by omega) ?_;intro U j8 ao)
   have cp:=T.grown ao (λk e=>by cases e);have hc:U.ownsRow (D.heap.size+1) 4 1 (Β (Δ ⟨wr.heap.size,0,Γ⟩) E E) E ((D1 (λq=>(l.getD q []).getD 0 Τ) E 0).map ο):=by rw[Akq,<-B6];exact j8
   have dr:=Cb j7 ao;have c1:=Cb ab ao;have dt:=hV.kept ao (λv l ho ck=>by cases v.ownBlock<;>simp);have du:=ψ ag ao.size;obtain⟨ga,e6⟩:∃ x,wr.heap.size=x:=⟨_,rfl⟩;have ou:D.heap.size+1<=ga:=by rw[<-e6];exact ag
   rw[e6] at hc;rw[e6];clear j8 ao j7 ab hV T ag e6;go_wp2_with (fail);go_loopw [111] (λvj W=>∃ j:Nat,j<=E/\vj=.int ε j/\Ext J W/\D.heap.size+1<=W.heap.size/\W.ownsRow (D.heap.size+1) 88 64 (Β (Δ ⟨go,0,Γ⟩) E co) E (flB l)/\
     W.ownsRow (D.heap.size+1) 68 1 u9 vs.length vs/\RowsO W (D.heap.size+1) vs N' (λ_=>False)/\W.ownsRow (D.heap.size+1) 4 1 (Β (Δ ⟨ga,0,Γ⟩) E E) E ((D1 (λq=>(l.getD q []).getD 0 Τ) E j).map ο))
    (λvj _=>E-(intOf vj).toNat)
   case atStart=>exact⟨0,by omega,rfl,cp,du,dr,c1,dt,hc⟩
   case round=>
    clear cp du dr c1 dt hc;obtain⟨j,ow,rfl,T,ag,hL,ab,hV,hA⟩:=hrel;obtain⟨U,gv⟩:∃ W,W=wr:=⟨_,rfl⟩;subst gv;by_cases e7:j<E
    ·obtain⟨S,az⟩:∃ s,l[j]? = Δ s:=⟨l[j]'(by rw[b8.out];exact e7),by simp[b8.out,e7]⟩;have c2:=j6.out S (Â az);have j9:U.rangeAt go (j*64) (Ck S):=λq v hq=>by
      have hp:q<(Ck S).length:=(ϊ.1 hq).1;rw[Hb,c2] at hp;have h1:Ϡ U (D.heap.size+1) 88 64 (Β (Δ ⟨go,0,Γ⟩) l.length co) l.length (flB l):=by rw[b8.out];exact hL
      rw[Tm h1 j6.out j S az q hp];have h2:(Ck S)[q]? = Δ (.bool (S.getD q Τ)):=by
       simp[Ck,Η,c2,hp]
      rw[<-h2,hq]
     have bd:=Qb S c2;have ka:(Ζ.info? 88).map (·.size)=Δ (Ck S).length:=by rw[Hb,c2];exact Wk
     have nq:=Α j9;have fv:=Α az;have fw:=Α c2;clear j9 az c2;go_upto_region 36 with (first
      | (refine wpList_load_mid rfl 88 (η 114) rfl go (j*64) rfl (Ck S) _ nq.out Tryz.underlying88 rfl ka ?_)
      | (refine Φ rfl 88 (η 19) (η 115) rfl _ (Au S) rfl rfl _ _ (Aa U _) bd (by rw[Il,fw.out];rfl) (Acj S) ?_))
     have b9:=((Θ U).alloc (Ε (Au (ζ 64 Τ)) 88)).setRow (ν U.heap.size) (Au S);have hr:=μ (U.alloc (Ε (Au (ζ 64 Τ)) 88)) U.heap.size _ (Au S) _ _ (Aa U _);simp only[z64];obtain⟨wz,hy⟩:∃ W,(U.alloc (Ε (Au (ζ 64 Τ)) 88)).setRow U.heap.size (Au S)=W:=⟨_,rfl⟩;rw[hy] at b9 hr;simp only[hy];clear hy;have e4:=ψ ag b9.size;generalize U.heap.size=gT at *;have hz:=Ah hL b9;have h0:=Ah ab b9;have cv:=Ah hA b9;have kb:=hV.kept (b9.grownBy Γ) (λv l _ _=>by cases v.ownBlock<;>simp);have b6:=T.trans b9;have ox:=(γ wz gT 0 _ _ _ hr).trans (Tp S 0 (by rw[fw.out];omega));have ca:=Am Τ cv (Je _ _ _).symm j (by rw[Je];exact e7);have cf:=cv.frozenAt j;obtain⟨kc,c3⟩:=Bk cv j (S.getD 0 Τ);have kd:(D1 (λq=>(l.getD q []).getD 0 Τ) E j).set j (S.getD 0 Τ)=D1 (λq=>(l.getD q []).getD 0 Τ) E (j+1):=by
      rw[<-Akr _ _ _ e7];have e:l.getD j []=S:=by rw[Η,fv.out];rfl
      rw[e]
     rw[kd] at kc;have nt:=hz.kept c3 (Aj hz cv (by decide));have nu:=h0.kept c3 (Aj h0 cv (by decide));have nv:=kb.kept c3 (λv l ho _=>Aj ho cv (by decide));have gn:=b6.grown c3 (λk e=>by cases e;omega);have nw:=ψ e4 c3.size;clear hL ab hA hV T ag b9 hr hz h0 kb b6 e4 cv c3 kd bd ka;generalize S.getD 0 Τ=b0 at *;go_wp2_with (fail);go_roundw
     case rel=>exact⟨j+1,by omega,by go_num,gn,nw,nt,nu,nv,kc⟩
     case measure=>simp[intOf];omega
    ·obtain rfl:E=j:=by omega
     have k0:=ed.out U T;have e8:=P7 HV.out.parts;rw[b8.out] at b7;obtain⟨t,ht⟩:∃ t:Tbl,(⟨Ak x.cls,(Ce x.cls).length,N',D1 (λq=>(l.getD q []).getD 0 Τ) E E⟩:Tbl)=t:=⟨_,rfl⟩;rw[ht] at b7;have h3:∀ b,b<256->Ak x.cls ((Ce x.cls).getD (Ak x.cls b) 0)=Ak x.cls b:=λb hb=>(ft.out _ (by rw[<-da.out];exact cell_lt HV.out.parts hb)).2
     have h5:∀ (S:List Bool) b,b<256->rnx x S ((Ce x.cls).getD (Ak x.cls b) 0)=rnx x S b:=λS b hb=>by unfold rnx Dfa.stp;rw[h3 b hb]
     have ny:=Α (Adn HV.out (by rw[ef.out];exact ff) b7.out e8 h3);have ke:=Aky b7.out e8 h5;have kf:=Expl.tval b7.out e8;have n0:=Α (Iw l (Akz b7.out e8 h5) (by rw[b8.out];exact je));have kg:t.n.length=E:=by rw[b7.out.len,b8.out]
     have h6:N'.length=E:=by rw[HI.out.1.lenN,b8.out]
     have kh:Rows U u9 t.n:=by
      rw[<-ht];exact hV.rows ab (by rw[h6];omega) (λj hj=>by rw[HI.out.1.rows j (by rw[b8.out,<-h6];exact hj),bb.out];omega)
     have ki:Bools U (Β (Δ ⟨ga,0,Γ⟩) E E) t.acc:=by
      rw[<-ht];exact OwnB.bools (base:=D.heap.size+1) (l:=D1 (λq=>(l.getD q []).getD 0 Τ) E E) (by
       show Ϡ _ _ _ _ _ _ _;rw[Je];exact hA) (by rw[Je];omega)
     have kj:Cs U (Β (Δ ⟨bc,oc,Γ⟩) m bp) x.cls:=by rw[<-da.out];exact HC.out U T
     have f58:=Α (Ag5 t kf (by rw[kg];omega) ke x.cls HV.out.parts (by rw[<-ht];show (Ce x.cls).length=_;rw[bb.out,da.out]) (λb _=>by rw[<-ht]) _ _ _ U (ic.out U (fk.trans T)) (by omega) kj kh ki);have n2:=Α (λ(r:Option Dfa) (h:F8 (λu=>t.has u=Ξ) r)=>Pu (M:=λu=>d.has u.reverse=Ξ) h λu=>by rw[ny.out,fm.out]);have e5:=Α (T.heap dy.out);have n3:=Α (fk.trans T);clear ke kf kg h6 kh ki kj hL ab hV hA T h5 h3 ht b7;go_wp2_with (first
      | (go_at_call 58;(with_reducible refine f58.out.mono ?_);rintro e gy ⟨r,h7,kk,b6⟩;obtain⟨kl,km,kn,ko,kq,kr,ks,kt,ku,k3,rfl⟩:=h7.form;have n4:=Α h7;have kv:=Α (n2.out r kk);clear h7 kk;have h8:=Α (b6.heap e5.out))
      | (refine Φ rfl 30 (η 2) (η 127) rfl _ _ rfl rfl _ _ h8.out Ad rfl (Aq _ _ _ rfl rfl rfl) ?_))
     refine ω (v:=.tuple #[.agg (dA (Β kl km kn) (Β ko kq kr) (Β ks kt ku)),.int ε k3]) (A3 rfl _ _ _ _ _ _ _ rfl _ rfl (μ gy _ _ (dA (Β kl km kn) (Β ko kq kr) (Β ks kt ku)) 30 (0,0) h8.out) Κ rfl Ad) rfl ?_;exact⟨r,n4.out.setRow (λd' h=>by subst h;exact kv.out.1.val) h8.out _,⟨x,fl.out,fm.out,λhm=>absurd hm n0.out,λ_=>kv.out⟩,(n3.out.trans b6).setRow (by omega) _⟩
theorem Aak (c:Cls) (b:Int) (D:0<=b) (J:b<256) (w:Λ) :
  Calls Ζ 103 #[.agg (Ab c),.int ε b] w λe w'=>e=θ (.agg (Ab (Bp c b)))/\Ext w w':=by
 have ⟨h1,h2⟩:=Gb c (b / 64).toNat;have M:=((Θ w).alloc (Ε (Ab c) 62)).alloc (Ε #[.int π 0,.int π 0,.int π 0,.int π 0] 62);have E:=Ag (heap_alloc_new w (Ε (Ab c) 62)) (Ε #[.int π 0,.int π 0,.int π 0,.int π 0] 62);have T:=Ϗ w (Ε (Ab c) 62) (Ε #[.int π 0,.int π 0,.int π 0,.int π 0] 62);go_enter Tryz.func103,Tryz.ntmps103;go_upto_region 1 with (fail)
 generalize (w.alloc (Ε (Ab c) 62)).alloc (Ε #[.int π 0,.int π 0,.int π 0,.int π 0] 62)=W at *;have G:W.drew.heap[w.heap.size]? = Δ (Ε (Ab c) 62 (0,0)):=E;have U:=(γ W.drew _ (b / 64).toNat _ _ _ G).trans (F3 c _ (by omega));have hf:=Ϸ W.drew _ (b / 64).toNat _ _ G;have ao:þ.wrap (b.tdiv 64)=((b / 64).toNat:Int):=by
  rw[Int.tdiv_eq_ediv_of_nonneg D];simp[IntKind.wrap,IntKind.signed,IntKind.bits];omega
 have aq:b.tmod 64=b % 64:=Int.tmod_eq_emod_of_nonneg D;have ar:0<=b % 64:=by omega
 have au:b % 64<=64:=by omega
 have aw:((b / 64).toNat:Int)<4:=by omega
 have ai:=Α (Rk c b D J);have aj:=Α (Rl c b D J);generalize (b / 64).toNat=q at *;refine B2 11 [(0,Ξ),(1,Ξ),(2,Ξ),(3,Ξ),(4,Ξ),(5,Ξ),(6,Ξ),(7,Ξ),(8,Ξ),(9,Ξ),(10,Ξ),(11,Τ)] (by kernel_rfl) (by kernel_rfl) (λ_ _ _ _ h=>h)
  (λX=>X.cell? ⟨w.heap.size,q,Γ⟩=Δ (.int π (wd c q))) U ?_
 iterate 11
  refine Ao (v:=?_) rfl rfl (λX hX=>?_) ?_
  rotate_left
  ·go_simp;first|done|with_reducible rfl
  simp only[Ϛ,Ι,Χ,Ψ]
 refine A5 rfl (λK hK=>?_);go_simp;refine hK _ _ (λh=>absurd h (by omega)) ?_;clear hK K U hf;refine B3 ?_;rw[ai.out,Ϧ W _ _ _ _ _ _ E,aj.out];have HB:=Α (μ W w.heap.size _ (Ab (Bp c b)) _ _ E);have HR:=Α (B7 T (show w.heap.size+1≠w.heap.size by omega) (Ab (Bp c b)));have ae:=M.setRow (ν w.heap.size) (Ab (Bp c b));clear M E T G;obtain⟨I,af⟩:∃ X,W.setRow w.heap.size (Ab (Bp c b))=X:=⟨_,rfl⟩;rw[af] at HB HR ae;rw[af];have ak:À (I.drew.heap[w.heap.size]? = Δ (Ε (Ab (Bp c b)) 62 (0,0))):=Α HB.out;have ag:À (I.drew.heap[w.heap.size+1]? = Δ (Ε #[.int π 0,.int π 0,.int π 0,.int π 0] 62 (0,0))):=Α HR.out;go_wp2_with (first
  | (refine Ο rfl 62 _ rfl _ rfl _ _ _ _ ak.out ϑ rfl Bf ?_)
  | (refine Φ rfl 62 _ _ rfl _ _ rfl rfl _ _ ag.out Bf rfl (Eq _) ?_))
 refine ω (v:=.agg (Ab (Bp c b))) (results_cell_row rfl _ _ _ _ _ _ _ rfl (μ I.drew _ _ (Ab (Bp c b)) 62 (0,0) ag.out) ϑ rfl Bf) rfl ?_;exact⟨rfl,ae.drew.setRow (by omega) _⟩
def lkL (n x:Nat):Nat:=if 97<=x/\x<97+n then x-97 else n
theorem Ahy (n x:Nat):lkL n x<n+1:=by unfold lkL;split<;>omega
def Hh (n:Nat):Nat->Nat->Cls
 | 0,_=>0#256
 | b+1,k=>if lkL n b=k then Bp (Hh n b k) (b:Int) else Hh n b k
theorem I0 (n:Nat):∀ (b k x:Nat),b<=256->((Hh n b k).getLsbD x=Ξ↔x<b/\lkL n x=k)
 | 0,k,x,_=>by simp[Hh]
 | b+1,k,x,J=>by
  have G:=I0 n b k x (by omega);unfold Hh;by_cases e:lkL n b=k
  ·rw[if_pos e,I6 _ b x (by omega),Å,decide_eq_true_eq,G];constructor
   ·rintro (⟨E,D⟩|rfl)
    ·exact⟨by omega,D⟩
    ·exact⟨by omega,e⟩
   ·rintro⟨E,D⟩;by_cases I:x=b
    ·exact .inr I
    ·exact .inl ⟨by omega,D⟩
  ·rw[if_neg e,G];constructor
   ·rintro⟨E,D⟩;exact⟨by omega,D⟩
   ·rintro⟨E,D⟩;refine⟨?_,D⟩;rcases Nat.lt_or_ge x b with h|h
    ·exact h
    ·obtain rfl:x=b:=by omega
     exact absurd D e
def Kn (n b:Nat):List Cls:=(ι (n+1)).map λk=>Hh n b k
theorem Aod (n b:Nat):(Kn n b).length=n+1:=by simp[Kn]
theorem Aoc (n:Nat) (hn:n<=100):Parts (Kn n 256) where
 nz:=λc G=>by
  obtain⟨k,E,rfl⟩:=ϸ.1 G;have E:=υ.1 E;by_cases e:k=n
  ·subst e;exact Gj ((I0 k 256 k 0 (ν _)).2 ⟨by omega,by simp[lkL]⟩)
  ·exact Gj ((I0 n 256 k (97+k) (ν _)).2 ⟨by omega,by unfold lkL;rw[if_pos (by omega)];omega⟩)
 dis:=by
  unfold Kn;rw[List.pairwise_map];refine (List.nodup_iff_pairwise_ne.1 List.nodup_range).imp λ{i j} I x D=>I ?_
  have J:=(I0 n 256 i x (ν _)).1 D.1;have M:=(I0 n 256 j x (ν _)).1 D.2;exact J.2.symm.trans M.2
 cov:=λx D=>⟨Hh n 256 (lkL n x),ϸ.2 ⟨_,υ.2 (Ahy n x),rfl⟩,(I0 n 256 _ x (ν _)).2 ⟨D,rfl⟩⟩
theorem Ahf (n:Nat):(madeCells (Ν.agg zA).cells (n*4)).toList=Cy (ζ n 0#256):=by
 have D:(Ν.agg zA).cells=#[.int π 0,.int π 0,.int π 0,.int π 0]:=rfl;apply ϥ;intro i;rw[D];by_cases hi:i<n*4
 ·rw[Ja _ i (by rw[Ò];exact hi)];have E:i % 4=0\/i % 4=1\/i % 4=2\/i % 4=3:=by omega
  have G:(ζ n 0#256).getD (i / 4) 0#256=0#256:=by
   rw[Η,Ϭ];split<;>rfl
  rw[G];rcases E with h|h|h|h<;>simp[madeCells,hi,h]<;>rfl
 ·rw[Ϩ (by simp[madeCells];omega),Ϩ (by rw[Qj,Ò];omega)]
def ByW (W:Λ) (v:Ν) (l:List UInt8):Prop:=
 l.length<=9223372036854775807/\((l.length=0/\∃ a D,v=Β a 0 D)\/
  (0<l.length/\∃ b E D,v=Β (Δ ⟨b,E,Γ⟩) l.length D/\b<W.heap.size/\∀ i,i<l.length->W.cell? ⟨b,E+i,Γ⟩=Δ (bv (l.getD i 0))))
theorem ByW.ext {W W':Λ} {v:Ν} {l:List UInt8} (h:ByW W v l) (D:Ext W W'):ByW W' v l:=by
 obtain⟨E,h|⟨G,b,I,J,hv,M,T⟩⟩:=h
 ·exact⟨E,.inl h⟩
 ·exact⟨E,.inr ⟨G,b,I,J,hv,δ M D.size,λi hi=>D.cell (T i hi)⟩⟩
theorem ByW.split {W:Λ} {v:Ν} {l:List UInt8} (h:ByW W v l):∃ a b E D,v=Β a l.length D/\(0<l.length->a=Δ ⟨b,E,Γ⟩)/\(0<l.length->b<W.heap.size)/\∀ i,i<l.length->W.cell? ⟨b,E+i,Γ⟩=Δ (bv (l.getD i 0)):=by
 obtain⟨J,⟨hn,a,D,rfl⟩|⟨hn,b,E,D,rfl,G,I⟩⟩:=h
 ·exact⟨a,0,0,D,by rw[hn],by omega,by omega,by omega⟩
 ·exact⟨_,b,E,D,rfl,λ_=>rfl,λ_=>G,I⟩
def MadeOk (N M s:Nat) (R:List (List Nat)) (Ac:List Bool):Prop:=
 R.length=s/\Ac.length=s/\∀ j,j<s->(R.getD j []).length=M/\∀ k,k<M->(R.getD j []).getD k 0<N
theorem MadeOk.snoc {N M s:Nat} {R:List (List Nat)} {Ac:List Bool} (h:MadeOk N M s R Ac) {r:List Nat} (D:r.length=M) (E:∀ k,k<M->r.getD k 0<N) (b:Bool):MadeOk N M (s+1) (R++[r]) (Ac++[b]):=by
 obtain⟨G,I,J⟩:=h;refine⟨by simp[G],by simp[I],λj T=>?_⟩;by_cases e:j<R.length
 ·rw[Bt _ _ _ _ e];exact J j (by omega)
 ·obtain rfl:j=R.length:=by omega
  rw[Cm];exact⟨D,E⟩
theorem MadeOk.val {N M:Nat} {R:List (List Nat)} {Ac:List Bool} (h:MadeOk N M N R Ac) (E:0<N) {C:List Cls} (G:Parts C) (D:C.length=M):Val ⟨C,R,Ac⟩ where
 pos:=by show 0<R.length;rw[h.1];exact E
 accL:=by show Ac.length=R.length;rw[h.1,h.2.1]
 row:=λs hs=>by
  show (R.getD s []).length=C.length;rw[D];exact (h.2.2 s (by rw[<-h.1];exact hs)).1
 tgt:=λs hs k I=>by
  show (R.getD s []).getD k 0<R.length;rw[h.1];exact (h.2.2 s (by rw[<-h.1];exact hs)).2 k (by rw[<-D];exact I)
 parts:=G
theorem RowsO.moved {W W':Λ} {base:Nat} {vs:List Ν} {R:List (List Nat)} {g E:Nat} {o:Obj} (h:RowsO W base vs R (λo=>o=Δ g)) (hg:Δ g=Δ E\/E=(W.alloc o).heap.size) (J:(W.alloc o).grownBy W' (Δ g)):RowsO W' base vs R (λo=>o=Δ E):=by
 refine RowsO.kept ((h.av (av':=λo=>o=Δ g\/o=Δ E) (λv l G D e=>?_)).alloc o) J (λv l G D=>.inr λe=>D (.inl e)) |>.av (λv l G D e=>D (.inr e))
 rcases e with e|e
 ·exact D e
 ·rcases hg with I|I
  ·exact D (by show _=Δ g;rw[I,<-e])
  ·have:=(G.lt _ e).2;rw[Ρ] at I;omega
structure MadeAt (W:Λ) (L N:Nat) (R:List (List Nat)) (Ac:List Bool) (vs:List Ν) (vn va:Ν) (ac:Option Addr) (cc base:Nat):Prop where
 n1:0<N
 n5:N<=5
 l3:L<=3
 cls:Cs W (Β ac (L+1) cc) (Kn L 256)
 clb:∃ b o,ac=Δ ⟨b,o,Γ⟩/\b<base
 nxt:W.ownsRow base 68 1 vn vs.length vs
 acc:OwnB W base va Ac
 rows:RowsO W base vs R (λ_=>False)
 apart:vs.Pairwise λv v'=>v.ownBlock≠v'.ownBlock
 ok:MadeOk N (L+1) N R Ac
theorem Sl.grown {W W':Λ} {b o c m k n:Nat} {f:Nat->Ν} {row:Option Nat} (h:Sl W (Β (Δ ⟨b,o,Γ⟩) m c) k n f) (hg:W.grownBy W' row) (J:Δ b≠row):Sl W' (Β (Δ ⟨b,o,Γ⟩) m c) k n f:=by
 obtain⟨E,⟨hn,a,G,he⟩|⟨hn,b',T,G,he,I,M⟩⟩:=h
 ·exact⟨E,.inl ⟨hn,a,G,he⟩⟩
 ·have D:b=b':=by
   injection he with D _ _
   injection D with D
   injection D
  subst D;refine⟨E,.inr ⟨hn,_,_,_,he,δ I hg.size,λi hi=>?_⟩⟩;rw[Λ.cell?_of_block (hg.block b I J)];exact M i hi
def Rs (W:Λ) (g:Nat) (d:Dfa) (N:Nat):Prop:=∀ i,i<=N->∃ D,W.cell? ⟨g,i,Γ⟩=Δ (Β (Δ ⟨D,0,Γ⟩) d.n.length d.n.length)/\∀ s,s<d.n.length->W.cell? ⟨D,s,Γ⟩=Δ (iv (sat (A4 d i s)))
theorem Ww {l:List Ν} {k:Nat} {v:Ν} (D:k<l.length) (h:l.getD k ς=v):l[k]? = Δ v:=by
 rw[<-h,Η,Μ D];rfl
theorem Xl (f:Nat->Nat) (m k:Nat) (h:f k=0):Br f m k=Br f m (k+1):=by
 unfold Br;refine List.map_congr_left λq _=>?_
 by_cases e:q=k
 ·subst e;simp[h]
 ·by_cases D:q<k
  ·rw[if_pos D,if_pos (by omega)]
  ·rw[if_neg D,if_neg (by omega)]
theorem Xm (f:Nat->Nat) (m k:Nat):(Br f m k).set k 0=Br f m k:=by
 apply ϥ;intro i;rw[Ï,C2];by_cases e:k=i
 ·subst e;by_cases D:k<m
  ·simp[Br,D]
  ·simp[Br,D]
 ·simp[e]
theorem Xy (d:Dfa) (hv:Val d) (hn:d.n.length<=64) (N:Nat) (hN:N<=64) (v:Ν) (w:Λ) (h:IsD w v d) :
  Calls Ζ 62 #[v,iv N] w λe w'=>∃ g,e=θ (Β (Δ ⟨g,0,Γ⟩) (N+1) (N+1))/\Rs w' g d N/\Ext w w':=by
 obtain⟨bc,oc,cc,bn,on,cn,ba,oa,ca,rfl,hC,hR,dx⟩:=h.opened hv;obtain⟨ik,il,im,fj,dy⟩:=Û hC hv.parts.pos;injection fj with e1 e2 e3
 injection e1 with e1
 injection e1 with e1 e4
 subst e1 e4 e3;have HV:=Α hv;have fm:=Α dy;have HR:=Α hR;have fp:=Α dx;have iq:=hv.parts.pos;have ir:=hv.parts.le;have iu:=hv.pos;obtain⟨i0,hi,b9,fs,ft⟩:=Ϟ Cp;obtain⟨k0,hk,fw,fx,fy⟩:=Ϟ M1;obtain⟨Va,aq⟩:∃ X,dA (Β (Δ ⟨bc,oc,Γ⟩) d.cls.length cc) (Β (Δ ⟨bn,on,Γ⟩) d.n.length cn) (Β (Δ ⟨ba,oa,Γ⟩) d.n.length ca)=X:=⟨_,rfl⟩;rw[aq];have ar:=(Θ w).alloc (Ε Va 30);have H2:=Aa w (Ε Va 30);have fz:=Α (λ(W:Λ) (hW:Ext (w.alloc (Ε Va 30)) W)=>(γ W w.heap.size 0 _ _ _ (hW.heap H2)).trans (show Va[0]? = Δ (Β (Δ ⟨bc,oc,Γ⟩) d.cls.length cc) by rw[<-aq];rfl));have cb:=Α (λ(W:Λ) (hW:Ext (w.alloc (Ε Va 30)) W)=>(γ W w.heap.size 1 _ _ _ (hW.heap H2)).trans (show Va[1]? = Δ (Β (Δ ⟨bn,on,Γ⟩) d.n.length cn) by rw[<-aq];rfl));have ga:=Α (λ(W:Λ) (hW:Ext (w.alloc (Ε Va 30)) W)=>(γ W w.heap.size 2 _ _ _ (hW.heap H2)).trans (show Va[2]? = Δ (Β (Δ ⟨ba,oa,Γ⟩) d.n.length ca) by rw[<-aq];rfl));clear hC dy hR dx hv aq H2 h;go_enter Tryz.func62,Tryz.ntmps62;go_upto_region 1 with (fail)
 generalize w.alloc (Ε Va 30)=w1 at *;go_upto_region 2 with (at_make;refine ϩ _ rfl _ _ 27 rfl w1.heap.size 68 k0 (Β Γ 0 0) 1 î hk fw fx ε ε _ _ (N+1) rfl rfl (by push_cast;rfl) (by push_cast;rfl) (by rw[fy];omega) (by unfold ϛ;omega) (ν _) ?_;intro w2 ec ed)
 have ee:Ext w1 w2:=(Θ w1).grown ed (λk e=>by cases e);have cf:w2.ownsRow w1.heap.size 68 1 (Β (Δ ⟨w1.heap.size,0,Γ⟩) (N+1) (N+1)) (N+1) (ζ (N+1) (Β Γ 0 0)):=by
  have:(madeCells (Ϥ Γ 0 0).cells ((N+1)*1)).toList=ζ (N+1) (Β Γ 0 0):=by
   rw[Nat.mul_one];exact toList_madeCells_one _ _
  rw[<-this];exact ec
 have ef:w1.heap.size<w2.heap.size:=(cf.lt _ rfl).2;clear ec ed;generalize eg:w1.heap.size=E at *;have gb:=Α eg;clear eg;go_wp2_with (fail);go_loopw [15] (λvi W=>∃ (i:Nat) (I:Int) (OX:List Ν),i<=N+1/\vi=.int ε I/\À (I=(i:Int))/\Ext w1 W/\E<W.heap.size/\À (OX.length=N+1)/\
   W.ownsRow E 68 1 (Β (Δ ⟨E,0,Γ⟩) (N+1) (N+1)) (N+1) OX/\
   À (∀ G,G<i->∃ D,OX.getD G ς=Β (Δ ⟨D,0,Γ⟩) d.n.length d.n.length/\W.ownsRow E 3 1 (Β (Δ ⟨D,0,Γ⟩) d.n.length d.n.length) d.n.length (((ι d.n.length).map λs=>sat (A4 d G s)).map iv)))
  (λvi _=>N+1-(intOf vi).toNat)
 case atStart=>exact⟨0,0,_,by omega,rfl,Α rfl,ee,ef,Α (by simp),cf,Α (λG h=>by omega)⟩
 case round=>
  clear ee ef cf;obtain⟨i,I,OX,iw,rfl,HI,hE,cj,HL,hO,HQ⟩:=hrel;have ix:0<=I:=by rw[HI.out];omega
  by_cases ax:i<N+1
  ·have gd:I<(N:Int)+1:=by have:=HI.out;omega
   have iy:I.toNat=i:=by rw[HI.out];omega
   have k1:=cb.out wr hE;have cl:w1.heap.size<=E:=à gb.out;obtain⟨T,gf⟩:∃ W,W=wr:=⟨_,rfl⟩;subst gf;have ay:=hO.cellAt i (by omega);rw[Μ (by rw[HL.out];exact ax)] at ay;obtain⟨uo,eh⟩:∃ u,OX[i]'(by rw[HL.out];exact ax)=u:=⟨_,rfl⟩;rw[eh] at ay;clear eh;have cm:=hO.frozenAt i;go_upto_region 6 with (at_make;refine ϩ _ rfl _ _ 68 rfl T.heap.size 3 i0 (.int ε 0) 1 ϔ hi b9 fs ε ε _ _ d.n.length rfl rfl rfl rfl (by rw[ft];omega) (by unfold ϛ;omega) (ν _) ?_;intro w3 ei an;have ay:=(an.cell_far ⟨E,i,Γ⟩ cj (by simp)).trans ay;have cm:=(an.frozen_far ⟨E,i,Γ⟩ cj (by simp)).trans cm)
   have az:=Cb hO an;have ct:=(az.stored i (Β (Δ ⟨T.heap.size,0,Γ⟩) d.n.length d.n.length)).1;have a6:=(az.stored i (Β (Δ ⟨T.heap.size,0,Γ⟩) d.n.length d.n.length)).2;have cu:w3.ownsRow T.heap.size 3 1 (Β (Δ ⟨T.heap.size,0,Γ⟩) d.n.length d.n.length) d.n.length ((Br (λs=>sat (A4 d i s)) d.n.length 0).map iv):=by rw[Hl,<-B6];exact ei
   have bp:=cu.kept a6 (Aj cu az (by decide));have cv:=(hE.grown an (λk e=>by cases e)).grown a6 (λk e=>by cases e;exact cl);have cx:=Α (λG (cy:G<i)=>by
    obtain⟨D,cz,bq⟩:=HQ.out G cy;have h1:D<T.heap.size:=(bq.lt D rfl).2;have ej:=Cb bq an;exact (⟨D,cz,ej.kept a6 (Aj ej az (by decide)),h1⟩:∃ D,OX.getD G ς=Β (Δ ⟨D,0,Γ⟩) d.n.length d.n.length/\(w3.setCell ⟨E,i,Γ⟩ (Β (Δ ⟨T.heap.size,0,Γ⟩) d.n.length d.n.length)).ownsRow E 3 1 (Β (Δ ⟨D,0,Γ⟩) d.n.length d.n.length) d.n.length (((ι d.n.length).map λs=>sat (A4 d G s)).map iv)/\D<T.heap.size))
   have gg:T.heap.size<(w3.setCell ⟨E,i,Γ⟩ (Β (Δ ⟨T.heap.size,0,Γ⟩) d.n.length d.n.length)).heap.size:=(bp.lt _ rfl).2;obtain⟨w4,c7⟩:∃ W,w3.setCell ⟨E,i,Γ⟩ (Β (Δ ⟨T.heap.size,0,Γ⟩) d.n.length d.n.length)=W:=⟨_,rfl⟩;rw[c7] at ct bp cv cx gg a6;simp only[c7];clear c7 az cu ei an a6 ay cm k1 hO hE HQ;have ai:À ((OX.set i (Β (Δ ⟨T.heap.size,0,Γ⟩) d.n.length d.n.length)).length=N+1/\(OX.set i (Β (Δ ⟨T.heap.size,0,Γ⟩) d.n.length d.n.length)).getD i ς=Β (Δ ⟨T.heap.size,0,Γ⟩) d.n.length d.n.length/\∀ G,G≠i->(OX.set i (Β (Δ ⟨T.heap.size,0,Γ⟩) d.n.length d.n.length)).getD G ς=OX.getD G ς):=by
    refine Α ⟨by rw[ϒ];exact HL.out,?_,λG gh=>?_⟩
    ·rw[Bb _ _ _ _ _ (by rw[HL.out];exact ax),if_pos rfl]
    ·rw[Bb _ _ _ _ _ (by rw[HL.out];exact ax),if_neg gh]
   generalize gj:T.heap.size=J at *;have en:E<J:=cj;clear gj;have k1:=cb.out w4 cv;go_upto_region 7 with (fail)
   clear k1;go_loopw [28] (λvs W=>∃ s:Nat,s<=d.n.length/\vs=.int ε s/\w4.grownBy W (Δ J)/\W.ownsRow J 3 1 (Β (Δ ⟨J,0,Γ⟩) d.n.length d.n.length) d.n.length ((Br (λs=>sat (A4 d i s)) d.n.length s).map iv))
    (λvs _=>d.n.length-(intOf vs).toNat)
   case atStart=>exact⟨0,by omega,rfl,Λ.grownBy.refl _ _,bp⟩
   case round=>
    obtain⟨s,hs,rfl,hg,U⟩:=hrel;have a7:=cv.grown hg (λk e=>by cases e;exact ψ cl (Nat.le_of_lt en));have bt:=ct.kept hg (Aj ct bp (by decide));have bu:=bt.cellAt;have c8:=Am 0 U (C2 _ _ _).symm;by_cases ae:s<d.n.length
    ·have c9:À (wr.cell? ⟨E,i,Γ⟩=Δ (Β (Δ ⟨J,0,Γ⟩) d.n.length d.n.length)):=Α (by
      rw[bu i (by omega)];exact Ww (by rw[ai.out.1];exact ax) ai.out.2.1)
     have gk:À (∀ j,i=j+1->∃ D,wr.cell? ⟨E,j,Γ⟩=Δ (Β (Δ ⟨D,0,Γ⟩) d.n.length d.n.length)/\D<J/\∀ x,x<d.n.length->wr.cell? ⟨D,x,Γ⟩=Δ (iv (sat (A4 d j x)))):=Α (λj hj=>by
      obtain⟨D,q1,q2,q3⟩:=cx.out j (by omega);have q4:=q2.kept hg (.inr λe=>by have:D=J:=ύ e;omega);refine⟨D,?_,q3,λx hx=>?_⟩
      ·rw[bu j (by omega)];exact Ww (by rw[ai.out.1];omega) ((ai.out.2.2 j (by omega)).trans q1)
      ·have:=Am 0 q4 (by simp) x (by simpa using hx);rw[Dg _ _ _ _ hx] at this;exact this)
     have bw:=c8 s (by rw[C2];exact ae);have bx:(Br (λs=>sat (A4 d i s)) d.n.length s).getD s 0=0:=by
      unfold Br;rw[Dg _ _ _ _ ae,if_neg (Nat.lt_irrefl _)]
     have gm:=U.frozenAt s;clear bu c8;rcases i with _|j
     ·have jb:(I==0)=Ξ:=by rw[HI.out];rfl
      have k2:=ga.out wr a7;have ka:=((ar.trans a7).cell (fp.out s ae));have a8:sat (A4 d 0 s)=if d.ok s then 1 else 0:=by unfold sat A4;split<;>rfl
      obtain⟨bo,ep⟩:∃ b,d.ok s=b:=⟨_,rfl⟩;rw[ep] at ka a8;clear ep;rw[bx] at bw;cases bo
      ·have er:=Xl (λs=>sat (A4 d 0 s)) d.n.length s (by rw[a8];rfl);rw[er] at U;clear er a8 bx bw gm;go_wp2;go_roundw
       case rel=>exact⟨s+1,by omega,by go_num,hg,U⟩
       case measure=>simp[intOf];omega
      ·obtain⟨aj,ak⟩:=Bk U s (sat (A4 d 0 s));rw[F1 (λs=>sat (A4 d 0 s)) _ _ ae] at aj;rw[a8] at aj ak;have bb:=hg.trans ak;have c0:=c9.out;clear a8 bx ak;go_wp2;go_roundw
       case rel=>exact⟨s+1,by omega,by go_num,bb,aj⟩
       case measure=>simp[intOf];omega
     ·obtain⟨D,et,jd,eu⟩:=gk.out j rfl;have ev:=Α eu;have ew:=et;have gr:(I==0)=Τ:=by rw[HI.out];simp;omega
      have kc:=fz.out wr a7;rw[bx] at bw;obtain⟨wq,gv⟩:∃ W,W=wr:=⟨_,rfl⟩;subst gv;clear eu et;go_upto_region 13 with (fail)
      clear kc gr bw;have ey:=U;rw[<-Xm (λs=>sat (A4 d (j+1) s)) d.n.length s] at ey;have b9:sat (Du d j s 0)=0:=rfl;go_loopw [46] (λvk W=>∃ k:Nat,k<=d.cls.length/\vk=.int ε k/\wq.grownBy W (Δ J)/\W.ownsRow J 3 1 (Β (Δ ⟨J,0,Γ⟩) d.n.length d.n.length) d.n.length (((Br (λs=>sat (A4 d (j+1) s)) d.n.length s).set s (sat (Du d j s k))).map iv))
       (λvk _=>d.cls.length-(intOf vk).toNat)
      case atStart=>exact⟨0,by omega,rfl,Λ.grownBy.refl _ _,by rw[b9];exact ey⟩
      case round=>
       obtain⟨k,je,rfl,bd,bz⟩:=hrel;have ez:=a7.grown bd (λk e=>by cases e;exact ψ cl (Nat.le_of_lt en));by_cases be:k<d.cls.length
       ·obtain⟨a0,a1,a2,a3⟩:=F6 (W:=wr) (λi hi=>(ar.trans ez).cell (fm.out i hi)) k be;obtain⟨c,dc⟩:∃ c,d.cls.getD k 0#256=c:=⟨_,rfl⟩;rw[dc] at a0 a1 a2 a3;have dd:=Α dc;clear dc;go_upto_region 15 with (fail)
        obtain⟨wz,b0⟩:∃ W,wr.alloc (Ε (Ab c) 62)=W:=⟨_,rfl⟩;have b4:Ext wr wz:=b0▸(Θ wr).alloc _;have H9:=Α (show wz.heap[wr.heap.size]? = Δ (Ε (Ab c) 62 (0,0)) from b0▸Aa wr _);simp only[b0];clear b0 a0 a1 a2 a3;generalize wr.heap.size=g9 at *;have de:=Ah bz b4;have cw:=Am 0 de (by rw[ϒ,C2]) s (by rw[ϒ,C2];exact ae);rw[Bb _ _ _ _ _ (by rw[C2];exact ae),if_pos rfl] at cw;have b5:∀ p:Addr,p.block<wq.heap.size->p.block≠J->wz.cell? p=wq.cell? p:=λp h1 h2=>by
         have e1:=bd.cell_far p h1 (by simpa using h2);have e2:=Λ.cell?_of_block (b4.block (k:=p.block) (δ h1 bd.size));rw[e2,e1]
        have cg:=(b5 ⟨E,j+1,Γ⟩ (by have:=Gu c9.out;exact this) (by show E≠J;omega)).trans c9.out;have cp:=(b5 ⟨E,j,Γ⟩ (Gu ew) (by show E≠J;omega)).trans ew;have dg:=ez.trans b4;have e9:=cb.out wz dg;obtain⟨br,or',cr,fb,fc⟩:=HR.out s ae;have fe:=(ar.trans dg).cell fb;have ff:=(ar.trans dg).cell (fc k be);have fg:=HV.out.tgt s ae k be;have cq:=(b5 ⟨D,d.ent2 s k,Γ⟩ (Gu (ev.out _ fg)) (by show D≠J;omega)).trans (ev.out _ fg);have dh:=Tt (Du d j s k) (sz c) (A4 d j (d.ent2 s k)) (by
         have h0:c≠0#256:=by rw[<-dd.out];exact HV.out.parts.nz _ (by rw[Η,Μ be];exact List.getElem_mem be)
         rcases Nat.eq_zero_or_pos (sz c) with h1|h1
         ·exact absurd ((Lu c).1 h1) h0
         ·exact h1)
        rw[<-dd.out,<-Zs,dd.out] at dh;have jf:=J9 (Du d j s k);have hc:=J9 (A4 d j (d.ent2 s k));have hf:sz c<=256:=S1 c;have f105:=λW=>Α (Tl c W)
        generalize sat (Du d j s k)=A at *;generalize d.ent2 s k=x at *;generalize sat (A4 d j x)=B at *;have hh:=Α dh;generalize sz c=z at *;have hl:z*B<=256*1099511627777:=Nat.mul_le_mul hf hc;obtain⟨p,hp⟩:∃ p:Nat,z*B=p:=⟨_,rfl⟩;rw[hp] at hl;have ho:(z:Int)*(B:Int)=(p:Int):=by rw[<-hp];push_cast;rfl
        have HP:=Α hp;clear hp dh fc fb b5;have b7:∀ V,Ext wz V->V.cell? ⟨E,j+1,Γ⟩=Δ (Β (Δ ⟨J,0,Γ⟩) d.n.length d.n.length)/\V.cell? ⟨E,j,Γ⟩=Δ (Β (Δ ⟨D,0,Γ⟩) d.n.length d.n.length)/\V.cell? ⟨J,s,Γ⟩=Δ (iv A)/\
          V.cell? ⟨w.heap.size,1,Γ⟩=Δ (Β (Δ ⟨bn,on,Γ⟩) d.n.length cn)/\V.cell? ⟨bn,on+s,Γ⟩=Δ (Β (Δ ⟨br,or',Γ⟩) d.cls.length cr)/\V.cell? ⟨br,or'+k,Γ⟩=Δ (iv x)/\V.cell? ⟨D,x,Γ⟩=Δ (iv B):=
         λV M=>⟨M.cell cg,M.cell cp,M.cell cw,M.cell e9,M.cell fe,M.cell ff,M.cell cq⟩
        clear cg cp cw e9 fe ff cq;have jg:j<N:=by omega
        have hr:þ.wrap (I-1)=(j:Int):=by
         have:=HI.out;rw[show I-1=(j:Int) by omega];exact ý _ ⟨by omega,by omega⟩
        have jh:(j:Int)<(N:Int)+1:=by omega
        have ht:þ.wrap (p:Int)=(p:Int):=ý _ ⟨by omega,by omega⟩;have hy:þ.wrap ((A:Int)+(p:Int))=((A+p:Nat):Int):=by rw[show ((A+p:Nat):Int)=(A:Int)+(p:Int) by push_cast;rfl];exact ý _ ⟨by omega,by omega⟩
        refine B2 33 [(0,Ξ),(1,Ξ),(2,Ξ),(3,Ξ),(4,Ξ),(5,Ξ),(6,Ξ),(7,Ξ),(8,Ξ),(9,Ξ),(10,Ξ),(11,Ξ),(12,Ξ),(14,Ξ),(15,Ξ),(16,Ξ),(17,Ξ),(18,Ξ),(19,Ξ),(20,Ξ),(21,Ξ),(22,Ξ),(23,Ξ),(24,Ξ),(25,Ξ),(26,Ξ),(27,Ξ),(28,Ξ),(13,Τ),(29,Ξ),(30,Ξ),(31,Ξ),(32,Ξ),(33,Τ)] (by kernel_rfl) (by kernel_rfl) (λ_ _ _ _ h=>h)
         (λV=>Ext wz V) (Θ wz).drew ?_
        have ao:=(Θ wz).drew;obtain⟨wy,dk⟩:∃ V,wz.drew=V:=⟨_,rfl⟩;rw[dk] at ao;rw[dk];clear dk;iterate 12
         refine Ao (v:=?_) rfl rfl (λV M=>?_) ?_
         rotate_left
         ·obtain⟨c0,c1,c2,c3,c4,c5,c6⟩:=b7 V M;clear M;go_simp;first|done|with_reducible rfl
         simp only[Ϛ,Ι,Χ,Ψ]
        refine Ao (v:=.agg (Ab c)) rfl rfl (λV M=>?_) ?_
        ·exact D2 62 (η 9) rfl g9 rfl _ _ _ _ (M.heap H9.out) ϑ rfl Bf
        simp only[Ϛ,Ι,Χ,Ψ];iterate 15
         refine Ao (v:=?_) rfl rfl (λV M=>?_) ?_
         rotate_left
         ·obtain⟨c0,c1,c2,c3,c4,c5,c6⟩:=b7 V M;clear M;go_simp;first|done|with_reducible rfl
         simp only[Ϛ,Ι,Χ,Ψ]
        refine A5 rfl (λK hK=>?_);go_simp
        (with_reducible refine (f105 wy).out.mono ?_)
        rintro e w7 ⟨rfl,bg⟩;refine hK _ _ (λ_=>ao.trans bg) ?_;clear hK K;refine Ao (v:=.int ε (p:Int)) rfl rfl (λV _=>?_) ?_
        ·go_simp
        simp only[Ϛ,Ι,Χ,Ψ];refine Ao (v:=.int ε ((A+p:Nat):Int)) rfl rfl (λV _=>?_) ?_
        ·go_simp
        simp only[Ϛ,Ι,Χ,Ψ];refine Ao (v:=.int ε ((min (A+p) 1099511627777:Nat):Int)) rfl rfl (λV _=>?_) ?_
        ·go_simp;omega
        simp only[Ϛ,Ι,Χ,Ψ];refine Ao (v:=?_) rfl rfl (λV M=>?_) ?_
        rotate_left
        ·clear M;go_simp;first|done|with_reducible rfl
        simp only[Ϛ,Ι,Χ,Ψ];have dm:=Ah (Ah de ao) bg;have ia:=dm.frozenAt s;have ib:=(b7 w7 (ao.trans bg)).2.2.1;have ic:=Bk dm s (min (A+p) 1099511627777);refine A5 rfl (λK hK=>?_);go_simp;refine hK _ _ (λh=>absurd h (by omega)) ?_;clear hK K;refine B3 ?_;obtain⟨aj,ak⟩:=ic;rw[List.set_set] at aj;have dn:min (A+p) 1099511627777=sat (Du d j s (k+1)):=by rw[<-hh.out,HP.out]
        rw[dn] at aj ak;rw[dn];have bb:=((bd.trans ((b4.trans (ao.trans bg)).grownBy _)).trans ak);clear ak dm de ia ib b7 dn hy ht hr ho ao bg f105 U bz bt;go_wp2;go_roundw
        case rel=>exact⟨k+1,by omega,by go_num,bb,aj⟩
        case measure=>simp[intOf];omega
       ·obtain rfl:k=d.cls.length:=by omega
        rw[Zt,F1 (λs=>sat (A4 d (j+1) s)) _ _ ae] at bz;have bb:=hg.trans bd;go_wp2;go_roundw
        case rel=>exact⟨s+1,by omega,by go_num,bb,bz⟩
        case measure=>simp[intOf];omega
    ·obtain rfl:s=d.n.length:=by omega
     rw[Jd] at U;have HX:=Α U;have ig:=Α bt;have ih:E<wr.heap.size:=by have:J<wr.heap.size:=(U.lt _ rfl).2;omega
     clear bu c8 U bt;go_wp2;go_roundw
     case rel=>
      refine⟨i+1,I+1,_,by omega,by go_num,Α (by rw[HI.out];push_cast;rfl),a7,ih,Α ai.out.1,ig.out,Α (λG cy=>?_)⟩;by_cases e:G=i
      ·subst e;exact⟨J,ai.out.2.1,Mk HX.out (by omega)⟩
      ·obtain⟨D,q1,q2,q3⟩:=cx.out G (by omega);exact⟨D,by rw[ai.out.2.2 G e];exact q1,q2.kept hg (.inr λe=>by have:D=J:=ύ e;omega)⟩
     case measure=>simp[intOf];have:=HI.out;omega
  ·obtain rfl:i=N+1:=by omega
   have gd:¬ I<(N:Int)+1:=by have:=HI.out;omega
   go_wp2;go_ret;refine⟨E,rfl,λG cy=>?_,ar.trans hE⟩;obtain⟨D,cz,bq⟩:=HQ.out G (by omega);refine⟨D,?_,λs hs=>?_⟩
   ·rw[hO.cellAt G (by omega),<-cz,Η,Μ (by rw[HL.out];omega)];rfl
   ·have:=Am 0 bq (by simp) s (by simpa using hs);rw[Dg _ _ _ _ hs] at this;exact this
open Go Go.RowKit
def O8 (o:Obj):Prop:=∀ cs fr,o≠Ε cs 22 fr/\o≠Ε cs 38 fr
structure Kp (B:Nat) (W W':Λ):Prop where
 os:W'.os=W.os
 tape:W'.tape=W.tape
 output:W'.output=W.output
 size:W.heap.size<=W'.heap.size
 keep:∀ k o,W.heap[k]? = Δ o->(k<B\/O8 o)->W'.heap[k]? = Δ o
theorem Kp.refl (B:Nat) (W:Λ):Kp B W W:=⟨rfl,rfl,rfl,ν _,λ_ _ h _=>h⟩
theorem Kp.trans {B:Nat} {a b c:Λ} (h:Kp B a b) (k:Kp B b c):Kp B a c:=
 ⟨k.os.trans h.os,k.tape.trans h.tape,k.output.trans h.output,ψ h.size k.size,λi o hi D=>k.keep i o (h.keep i o hi D) D⟩
theorem Kp.of_ext {B:Nat} {a b:Λ} (h:Ext a b):Kp B a b:=⟨h.below.os,h.below.tape,h.below.output,h.size,λ_ _ D _=>h.heap D⟩
theorem Kp.ext {B:Nat} {w W W':Λ} (h:Kp B W W') (D:Ext w W) (I:w.heap.size<=B):Ext w W':=
 ⟨⟨h.os.trans D.below.os,h.tape.trans D.below.tape,h.output.trans D.below.output,ψ D.size h.size,λk E=>by
   have J:k<W.heap.size:=δ E D.size;have G:W.heap[k]? = Δ W.heap[k]:=Array.getElem?_eq_getElem J;rw[h.keep k _ G (.inl (δ E I)),<-G];exact D.block E⟩⟩
theorem Kp.cells {B:Nat} {W W':Λ} (h:Kp B W W') {k:Nat} {cs:Array Ν} {t:TypeId} {fr:Nat × Nat} (D:W.heap[k]? = Δ (Ε cs t fr)) (E:t≠22) (G:t≠38):W'.heap[k]? = Δ (Ε cs t fr):=
 h.keep k _ D (.inr λI J=>⟨λe=>by injection e with _ e _;exact E e,λe=>by injection e with _ e _;exact G e⟩)
theorem Afc (r:Loop):O8 (.loop r):=λ_ _=>⟨by simp,by simp⟩
theorem Us (r:Option (List Deferred)):O8 (.deferred r):=λ_ _=>⟨by simp,by simp⟩
theorem Kp.put_new {B:Nat} {a b:Λ} (h:Kp B a b) {l:Nat} (I:a.heap.size<=l) (o:Obj):Kp B a (b.putObj l o):=by
 have hg:=grownBy_putObj' b l o;exact⟨hg.os.trans h.os,hg.tape.trans h.tape,hg.output.trans h.output,ψ h.size hg.size,λk E D G=>by
  have:k<a.heap.size:=(ϐ.1 D).1;exact (Ç (by omega)).trans (h.keep k E D G)⟩
def WordV (W:Λ) (v:Ν) (x:List UInt8):Prop:=W.ownsRow 0 5 1 v x.length (x.map bv)
theorem Gh {W:Λ} {base e size:Nat} {v:Ν} {n:Nat} {xs:List Ν} (h:W.ownsRow base e size v n xs):W.ownsRow 0 e size v n xs:=by
 obtain⟨D,h|⟨g,E,cur,hv,G,h⟩⟩:=h
 ·exact⟨D,.inl h⟩
 ·exact⟨D,.inr ⟨g,E,cur,hv,Nat.zero_le _,h⟩⟩
theorem Afw {B:Nat} {W W':Λ} {base e size:Nat} {v:Ν} {n:Nat} {xs:List Ν} (h:W.ownsRow base e size v n xs) (E:Kp B W W') (G:e≠22) (I:e≠38):W'.ownsRow base e size v n xs:=by
 obtain⟨D,h|⟨g,J,cur,hv,M,hg,h⟩⟩:=h
 ·exact⟨D,.inl h⟩
 ·exact⟨D,.inr ⟨g,J,cur,hv,M,E.cells hg G I,h⟩⟩
theorem WordV.kp {B:Nat} {W W':Λ} {v:Ν} {x:List UInt8} (h:WordV W v x) (D:Kp B W W'):WordV W' v x:=Afw h D (by decide) (by decide)
theorem WordV.ext {W W':Λ} {v:Ν} {x:List UInt8} (h:WordV W v x) (D:Ext W W'):WordV W' v x:=Ah h D
theorem WordV.by {W:Λ} {v:Ν} {x:List UInt8} (h:WordV W v x) (D:x.length<=4611686018427387904):By W v x:=By.of_owns h D
def Zx {β:Type} (I:β->Λ->Prop):Prop:=∀ s W W',I s W->Ext W W'->I s W'
def Zu (B:Nat) (P:ã) (g:Nat) (G:Array Ν) (E:List (List UInt8)) (w:Λ):Prop:=
 ∀ (l:Nat) (J:List (List UInt8)->Λ->Prop) (W:Λ),Ext w W->Zx J->Nr W.heap.size J->
  (∀ m pre x v D,J pre D->WordV D v x->(pre++[x]) <+: E->YieldAt Fence.wide m P l #[v] D λe W'=>e=θ (.bool Ξ)/\J (pre++[x]) W'/\Kp B D W')->
  J [] W->
  ∀ n,CallsIn Fence.wide n P g (#[.func (.yield l) #[] #[]]++G) W λe W'=>(∃ v,e=θ v)/\J E W'
def Af0 (B:Nat) (I:List (List UInt8)->Λ->Prop) (xs:List (List UInt8)) (W:Λ):Exit->ú->Λ->Prop
 | .normal,_,W'=>Kp B W W'/\I xs W'
 | _,_,_=>False
variable {n:Nat} {P:Program}
theorem Rz {B:Nat} {g:Operand} {U:Array Tmp} {assign body:Code} {Q:Exit->ú->Λ->Prop} {a:ú} {w:Λ}
  {gf:Nat} {lb:Array Ν} (hg:a.eval g=.func (.func gf) #[] lb) (eg:∀ args w,(callFunc gf args).run P w=.ok (.enter gf args) w)
  {ah:List (List UInt8)} (ax:Zu B P gf lb ah w) (ay:U.size=1)
  (I:List (List UInt8)->Λ->Prop) (ak:Zx I) (hI:Nr w.heap.size I) (h0:I [] w) (a₁:Ν->ú)
  (a1:∀ (l:Nat) (v:Ν) (W:Λ) (K:ú->Λ->Prop),K (a₁ v) W->
   assign.wpIn (Fence.wide.inRound l) (n-1-1) P (Exit.then K (λ_ _ _=>False)) { tmps:=(U.zip #[v]).foldl (λt (p,v)=>t.setIfInBounds p v) a.tmps,defers:=[] } W)
  (a6:∀ (l:Nat) (pre:List (List UInt8)) (x:List UInt8) (v:Ν) (W:Λ),I pre W->WordV W v x->(pre++[x]) <+: ah->∀ m,body.wpIn (Fence.wide.inRound l) m P (Af0 B I (pre++[x]) W) (a₁ v) W)
  (a7:∀ (D:Nat) (W:Λ),w.heap.size<=D->I ah W->W.heap[D]? = Δ (.deferred (Δ []))->Q .normal { a with defers:={ target:=.collected D,args:=#[] }::a.defers } W) :
  (Code.rangeFunc g U assign body).wpIn Fence.wide n P Q a w:=by
 refine wpIn_rangeFunc ?_;intro fn a8;obtain⟨rec,J⟩:∃ rec:LoopState->Option Code->Loop,rec=λst pe=>{ state:=st,pending:=pe,fn,tmps:=a.tmps,params:=U,assign,body,defers:=w.heap.size }:=⟨_,rfl⟩
 obtain⟨E,aa⟩:∃ E,(w.alloc (.deferred (Δ []))).alloc (.loop (rec .ready Γ))=E:=⟨_,rfl⟩;have bb:E.heap[w.heap.size+1]? = Δ (.loop (rec .ready Γ)):=by
  rw[<-aa];have:=Λ.alloc_heap_new (w.alloc (.deferred (Δ []))) (.loop (rec .ready Γ));rwa [Ρ] at this
 have bc:E.heap[w.heap.size]? = Δ (.deferred (Δ [])):=by
  rw[<-aa];exact (Below.heap_alloc _ _ _ (by simp)).trans (Λ.alloc_heap_new w _)
 have an:Ext w E:=by rw[<-aa];exact ((Θ w).alloc _).alloc _
 have bd:I [] E:=ak _ _ _ h0 an;have bp:E.heap.size=w.heap.size+2:=by rw[<-aa];simp
 refine⟨w.heap.size+1,[{ target:=.collected w.heap.size,args:=#[] }],E,{ target:=.fn (.func gf) lb,args:=#[.func (.yield (w.heap.size+1)) #[] #[]] },E,gf,
  #[.func (.yield (w.heap.size+1)) #[] #[]]++lb,E,?_,?_,?_,?_,λh=>by simp[Fence.wide] at h,?_⟩
 ·rw[<-aa,J];exact run_enterLoop_outer _ _ _ _ _
 ·simp only[resolve,hg];simp[go_sem]
 ·intro f' br;trivial
 ·simp[invoke,go_sem,eg]
 ·refine (ax (w.heap.size+1)
   (λpre W=>I pre W/\W.heap[w.heap.size+1]? = Δ (.loop (rec .ready Γ))/\W.heap[w.heap.size]? = Δ (.deferred (Δ [])))
   E an (λs W W' h hE=>⟨ak _ _ _ h.1 hE,hE.heap h.2.1,hE.heap h.2.2⟩)
   (λs W l o o' h G ho hc=>⟨hI s W l o o' h.1 (by omega) ho hc,(Ç (by omega)).trans h.2.1,(Ç (by omega)).trans h.2.2⟩) ?_ ⟨bd,bb,bc⟩ (n-1)).mono ?_
  ·rintro m pre x v W ⟨hi,G,M⟩ hv bh;have bj:w.heap.size+1<W.heap.size:=(ϐ.1 G).1;have hy:=run_yield (P:=P) (args:=#[v]) G (by rw[J];exact ay.symm);rw[J] at hy;refine⟨fn,_,assign,body,hy,?_⟩;have aq:RoundIn Fence.wide (n-1-1) P (w.heap.size+1) fn ((U.zip #[v]).foldl (λt (p,v)=>t.setIfInBounds p v) a.tmps) assign body W (λe W'=>e=θ (.bool Ξ)/\(I (pre++[x]) W'/\W'.heap[w.heap.size+1]? = Δ (.loop (rec .ready Γ))/\W'.heap[w.heap.size]? = Δ (.deferred (Δ [])))/\Kp B W W'):=by
    refine roundIn_of_wpIn a8 (a1 _ v W _ ⟨_,run_beginRound G (by rw[J]),?_⟩);have bk:(W.putObj (w.heap.size+1) (.loop { rec .ready Γ with state:=.busy })).heap[w.heap.size+1]? = Δ (.loop { rec .ready Γ with state:=.busy }):=Λ.putObj_heap_same bj;have bl:(W.putObj (w.heap.size+1) (.loop { rec .ready Γ with state:=.busy })).heap[w.heap.size]? = Δ (.deferred (Δ [])):=(Ç (by omega)).trans M;have bm:WordV (W.putObj (w.heap.size+1) (.loop { rec .ready Γ with state:=.busy })) v x:=ownsRow_putObj hv _ G rfl;refine wpIn_mono (a6 _ pre x v _ (hI _ _ _ _ _ hi (by omega) G rfl) bm bh _) ?_;rintro e a3 W3 hp;cases e with
    | normal=>
     obtain⟨T,bo⟩:=hp;have aj:=T.keep _ _ bk (.inr (Afc _));have hr:=run_endRound (P:=P) Γ aj;rw[J] at hr;have au:=(ϐ.1 aj).1;refine⟨_,_,hr,rfl,⟨hI _ _ _ _ _ bo (by omega) aj rfl,?_,(Ç (by omega)).trans (T.keep _ _ bl (.inr (Us _)))⟩,?_⟩
     ·rw[J];exact Λ.putObj_heap_same au
     ·have ab:=grownBy_putObj' W (w.heap.size+1) (.loop { rec .ready Γ with state:=.busy });have ad:=grownBy_putObj' W3 (w.heap.size+1) (.loop (rec .ready Γ));rw[J] at ab ad T G;refine⟨ad.os.trans (T.os.trans ab.os),ad.tape.trans (T.tape.trans ab.tape),ad.output.trans (T.output.trans ab.output),ψ ab.size (ψ T.size ad.size),λk o M hp=>?_⟩;by_cases e:k=w.heap.size+1
      ·subst e;rw[G] at M;injection M with M
       rw[<-M];exact Λ.putObj_heap_same au
      ·exact (Ç e).trans (T.keep k o ((Ç e).trans M) hp)
    | _=>exact hp.elim
   exact⟨aq.1,λc cs _=>aq.2 c cs (λd h=>by simp[Fence.wide] at h)⟩
  ·rintro e W2 ⟨⟨v,rfl⟩,hi,G,M⟩;exact⟨Γ,_,by have:=run_endLoop (P:=P) G (by rw[J];simp);rw[J] at this;exact this,a7 _ _ (ν _) (hI _ _ _ _ _ hi (by omega) G rfl) ((Ç (by omega)).trans M)⟩
def Marks (B:Nat) (W:Λ) (ds:List Deferred):Prop:=∃ E:List Nat,ds=E.map (λD=>{ target:=.collected D,args:=#[] })/\E.Nodup/\∀ D,D∈E->B<=D/\W.heap[D]? = Δ (.deferred (Δ []))
theorem Marks.nil (B:Nat) (W:Λ):Marks B W []:=⟨[],rfl,List.nodup_nil,λ_ h=>by cases h⟩
theorem Marks.kp {B B':Nat} {W W':Λ} {ds:List Deferred} (h:Marks B W ds) (I:Kp B' W W'):Marks B W' ds:=by
 obtain⟨J,M,T,E⟩:=h;exact⟨J,M,T,λD G=>⟨(E D G).1,I.keep _ _ (E D G).2 (.inr (Us _))⟩⟩
theorem Marks.cons {B J:Nat} {W W':Λ} {ds:List Deferred} (h:Marks B W ds) (M:Kp J W W') {D:Nat} (T:B<=D) (hW:W.heap.size<=D) (U:W'.heap[D]? = Δ (.deferred (Δ []))):Marks B W' ({ target:=.collected D,args:=#[] }::ds):=by
 obtain⟨G,I,h2,h3⟩:=h.kp M;obtain⟨ad,ae,_,af⟩:=h;refine⟨D::G,by rw[I];rfl,List.nodup_cons.2 ⟨λhm=>?_,h2⟩,λD' E=>?_⟩
 ·have e:ad=G:=by
   have:=ae.symm.trans I;exact (List.map_inj_right (λx y e=>by injection e with e;injection e)).1 this
  have h4:=(af D (by rw[e];exact hm)).2;have:D<W.heap.size:=(ϐ.1 h4).1;omega
 ·rcases List.mem_cons.1 E with rfl|E
  ·exact⟨T,U⟩
  ·exact h3 D' E
theorem Py {F:Fence} {m:Nat} {fn:Func} {G:Array Ν} {R:Ending->Λ->Prop} {B:Nat} (I:Λ->Prop) (hI:∀ W l (o o':Obj),I W->B<=l->W.heap[l]? = Δ o->o.isCells=Τ->I (W.putObj l o'))
  (af:∀ W,I W->LeavesIn F m P fn G R [] .returning W):∀ (ds:List Deferred) (W:Λ),Marks B W ds->I W->LeavesInM F m P fn G R ds .returning W:=by
 intro ds;induction ds with
 | nil=>intro W _ h;exact af W h
 | cons d ds ih=>
  rintro W ⟨E,J,M,T⟩ h;cases E with
  | nil=>cases J
  | cons D E=>
   injection J with e1 e2
   subst e1 e2;obtain⟨hB,U⟩:=T D List.mem_cons_self;refine⟨by simp,.inl ⟨D,_,rfl,run_takeDeferred U,?_⟩⟩;refine ih _ ⟨E,rfl,(List.nodup_cons.1 M).2,λD' ab=>?_⟩ (hI W D _ _ h hB U rfl);have ak:D'≠D:=λe=>(List.nodup_cons.1 M).1 (e▸ab)
   obtain⟨h4,h5⟩:=T D' (List.mem_cons_of_mem _ ab);exact⟨h4,(Ç ak).trans h5⟩
open Go
section
variable {F:Fence} {m:Nat} {P:Program} {md:Region.Mode} {ops:Array Oper} {Q:Exit->Act->World->Prop} {C:World->Prop} {n:Nat}
def Mn (ops:Array ϳ):Bool:=(ι ops.size).all λj=>match ops[j]? with
 | some o=>(match o.op with|.defer _=>Τ|_=>Ξ)
 | none=>Ξ
theorem Pm (h:Mn ops=Ξ) {j:Nat} {o:ϳ} (D:ops[j]? = Δ o):∀ c,o.op≠.defer c:=by
 intro c E;have G:j<ops.size:=(ϐ.1 D).1;have:=List.all_eq_true.1 h j (υ.2 G);rw[D] at this;simp[E] at this
theorem Rv (E:∀ f,F.fn f) {i:Nat} {o:ϳ} {v:Ν} {a:ú} (hi:ops[i]? = Δ o) (G:∀ c,o.op≠.defer c) (I:YieldsIf P ops C o v a)
  {K:ú->Λ->Prop} {w:Λ} (J:C w) (h:K (a.put o.dst v) w):wpOpIn F m P ops Q i K a w:=by
 unfold Go.wpOpIn;simp only[hi];rcases I with⟨D,hv⟩|⟨D,rfl⟩
 ·simp only[D,if_true,ϳ.wpIn,ϳ.semAt_eq _ _ _ G,hv w J,ϳ.uponIn];exact⟨λf _=>E f,h⟩
 ·simp only[D,Bool.false_eq_true,if_false];exact⟨λf _=>E f,h⟩
theorem Z8 (J:∀ f,F.fn f) {j:Nat} {oi oj:ϳ} {v:Ν} (hj:ops[j]? = Δ oj) (M:∀ c,oj.op≠.defer c) (ae:oi.apart ops oj=Ξ)
  (af:∀ cs b,oi.op≠.select cs b) (ag:∀ cs b,oj.op≠.select cs b)
  (G:∀ c a w,Q (.panic c) (a.put oi.dst v) w->Q (.panic c) a w) {K:ú->Λ->Prop} {a:ú} {w:Λ}
  (D:YieldsIf P ops C oi v a) (h:wpOpIn F m P ops Q j K (a.put oi.dst v) w) :
  wpOpIn F m P ops Q j (λT w'=>YieldsIf P ops C oi v T/\K (T.put oi.dst v) w') a w:=by
 obtain⟨U,E,h3⟩:=ϳ.apart_spec ae;have keep:∀ (a:ú),YieldsIf P ops C oi v a->∀ u,YieldsIf P ops C oi v (a.put oj.dst u):=λa D u=>
  D.of_same (execOp_put oi af a oj.dst u h3) (wanted_put oi a oj.dst u h3)
 have ah:∀ d,YieldsIf P ops C oi v { a with defers:=d::a.defers }:=λd=>D.of_same rfl rfl
 unfold wpOpIn at *;simp only[hj] at *;rw[wanted_put oj a oi.dst v U] at h;split
 ·rename_i I
  simp only[I,if_true] at h;unfold ϳ.wpIn at *;refine⟨λf _=>J f,?_⟩;have h:=h.2;rw[ϳ.semAt_eq _ _ _ M,execOp_put oj ag a oi.dst v U] at h;rw[ϳ.semAt_eq _ _ _ M];generalize (execOp a.eval oj).run P w=r at *;cases r with
  | ok x w'=>
   cases x<;>simp only[ϳ.uponIn] at h ⊢
   case value u=>exact⟨keep a D u,by rw[<-ú.put_comm a v u E];exact h⟩
   case skip=>exact⟨keep a D _,by rw[<-ú.put_comm a v ς E];exact h⟩
   case defer d=>
    refine⟨keep _ (ah d) _,?_⟩;rw[<-ú.put_comm _ v ς E,<-ú.put_defers];exact h
   case enter f args=>
    refine⟨h.1,CallsIn.mono h.2 λe ab he=>?_⟩;cases e with
    | returned u=>exact⟨keep a D u,by rw[<-ú.put_comm a v u E];exact he⟩
    | panicked c=>exact G _ _ _ he
    | outgrown=>exact he
   case row row args=>exact⟨h.1,RowsIn.mono h.2 λu ab he=>⟨keep a D u,by rw[<-ú.put_comm a v u E];exact he⟩⟩
   case round l f al an ao=>
    refine⟨h.1,RoundIn.mono h.2 λe ab he=>?_⟩;cases e with
    | returned u=>exact⟨keep a D u,by rw[<-ú.put_comm a v u E];exact he⟩
    | panicked c=>exact G _ _ _ he
    | outgrown=>exact he
  | halt x w'=>
   cases x<;>simp only[ϳ.uponIn] at h ⊢
   case panic u=>exact G _ _ _ h
 ·rename_i I
  simp only[I] at h;exact⟨λf _=>J f,keep a D _,by rw[<-ú.put_comm a v ς E];exact h.2⟩
def Lf (F:Fence) (m:Nat) (P:ã) (md:Region.Mode) (ops:Array ϳ) (Q:Exit->ú->Λ->Prop) (C:Λ->Prop) (n:Nat):Nat->Array Bool->ú->Λ->Prop
 | 0,listed,a,w=>É md ops listed=[]/\Q .normal a w
 | f+1,listed,a,w=>(É md ops listed=[]->Q .normal a w)/\
  ∀ i∈É md ops listed,wpOpIn F m P ops Q i (λD w'=>(i<n->C w')/\Lf F m P md ops Q C n f (listed.setIfInBounds i Ξ) D w') a w
theorem Zd:∀ (f:Nat) (listed:Array Bool) (a:ú) (w:Λ),Lf F m P md ops Q C n f listed a w->wpAnyIn F m P md ops Q f listed a w
 | 0,_,_,_,h=>h
 | f+1,_,_,_,h=>⟨h.1,λi hi=>wpOpIn_mono (λ_ _ D=>Zd f _ _ _ D.2) (h.2 i hi)⟩
theorem Anx (aa:∀ f,F.fn f) (ab:Mn ops=Ξ) {i:Nat} {oi:ϳ} {v:Ν} (hi:ops[i]? = Δ oi) (ae:∀ (j:Nat) (o:ϳ) cs b,ops[j]? = Δ o->o.op≠.select cs b)
  (hs:Region.sinkB md ops n=Ξ) (hc:Region.chainB md ops n=Ξ) (hn:n<ops.size) (an:i<n)
  (hQ:∀ c a w,Q (.panic c) (a.put oi.dst v) w->Q (.panic c) a w) :
  ∀ (f:Nat) (listed:Array Bool) (a:ú) (w:Λ),HeadInv md ops n listed->
   (∀ j oj,ops[j]? = Δ oj->j≠i->listed.getD j Ξ=Τ->(∀ e∈oj.after,Region.binds md e=Ξ->e.on≠i)->oi.apart ops oj=Ξ)->
   i∈É md ops listed->YieldsIf P ops C oi v a->C w->
   Lf F m P md ops Q C n f (listed.setIfInBounds i Ξ) (a.put oi.dst v) w->Lf F m P md ops Q C n (f+1) listed a w:=by
 intro f;induction f with
 | zero=>
  intro listed a w _ _ E J I H;refine⟨λh=>(by rw[h] at E;cases E),λj G=>?_⟩;by_cases D:j=i
  ·subst D;exact Rv aa hi (Pm ab hi) J I ⟨λ_=>I,H⟩
  ·have:=ready_mono G D;rw[H.1] at this;cases this
 | succ f ih=>
  intro listed a w af ag E J I H;have ah:=(mem_ready.1 E).1;refine⟨λh=>(by rw[h] at E;cases E),λj G=>?_⟩;by_cases D:j=i
  ·subst D;exact Rv aa hi (Pm ab hi) J I ⟨λ_=>I,H⟩
  ·have ad:j<n:=Nat.lt_of_not_le λh=>tail_waits hs hc hn af _ i rfl an ah j h G
   have M:=H.2 j (ready_mono G D);obtain⟨ai,oj,T,ar⟩:=mem_ready.1 G;have au:∀ e∈oj.after,Region.binds md e=Ξ->e.on≠i:=λe he hb ax=>by
    have M:=ar e he hb;rw[ax,getD_both ah] at M;cases M
   have h2:=Z8 aa T (Pm ab T) (ag j oj T D ai au) (λcs b=>ae i oi cs b hi) (λcs b=>ae j oj cs b T) hQ J M;have az:∀ k ok,ops[k]? = Δ ok->k≠i->(listed.setIfInBounds j Ξ).getD k Ξ=Τ->
     (∀ e∈ok.after,Region.binds md e=Ξ->e.on≠i)->oi.apart ops ok=Ξ:=λk ok hk a6 aj a7=>by
    refine ag k ok hk a6 ?_ a7;by_cases ak:j=k
    ·subst ak;exact ai
    ·rw[getD_set_ne Ξ ak] at aj;exact aj
   refine wpOpIn_mono (λa' w' U=>⟨λ_=>U.2.1 ad,ih (listed.setIfInBounds j Ξ) a' w' (af.set G ad) az (ready_mono E (Ne.symm D)) U.1 (U.2.1 ad) ?_⟩) h2;rw[Array.setIfInBounds_comm _ _ D];exact U.2.2
def Fu (F:Fence) (m:Nat) (P:ã) (ops:Array ϳ) (Q:Exit->ú->Λ->Prop) (C:Λ->Prop) (n:Nat):List (Nat × Bool)->ú->Λ->Prop
 | [],a,w=>Q .normal a w
 | (i,Ξ)::is,a,w=>∃ o v,ops[i]? = Δ o/\YieldsIf P ops C o v a/\Fu F m P ops Q C n is (a.put o.dst v) w
 | (i,Τ)::is,a,w=>wpOpIn F m P ops Q i (λD w'=>(i<n->C w')/\Fu F m P ops Q C n is D w') a w
theorem Rg (aa:∀ f,F.fn f) (ab:Mn ops=Ξ) (ad:Region.noSelect ops=Ξ) (hs:Region.sinkB md ops n=Ξ) (hc:Region.chainB md ops n=Ξ) (hn:n<ops.size)
  (hQ:∀ c a tm w,Q (.panic c) { tmps:=tm,defers:=a.defers } w->Q (.panic c) a w):∀ (is:List (Nat × Bool)) (listed:Array Bool) (a:ú) (w:Λ),(is≠[]->HeadInv md ops n listed)->E2 md ops n is listed=Ξ->(is≠[]->C w)->
   Fu F m P ops Q C n is a w->Lf F m P md ops Q C n is.length listed a w
 | [],listed,a,w,_,D,_,h=>⟨by simpa [E2] using D,h⟩
 | (i,Ξ)::is,listed,a,w,G,D,I,⟨o,v,ho,hy,h⟩=>by
  simp only[E2,Ϝ,decide_eq_true_eq] at D;obtain⟨⟨⟨J,M⟩,hf⟩,ag⟩:=D;have T:i∈É md ops listed:=by simpa using J
  have G:=G (by simp);have I:=I (by simp);exact Anx aa ab ho (Region.noSelect_spec ad) hs hc hn M (λc a w U=>by
    cases hd:o.dst with
    | none=>rw[hd] at U;exact U
    | some t=>rw[hd] at U;exact hQ c a _ w U) _ listed a w G (Region.free_spec ho hf) T hy I
   (Rg aa ab ad hs hc hn hQ is _ _ w (λ_=>G.set T M) ag (λ_=>I) h)
 | (i,Τ)::is,listed,a,w,G,D,I,h=>by
  simp only[E2,Ϝ,decide_eq_true_eq,Å,List.isEmpty_iff] at D;obtain⟨⟨J,M⟩,ag⟩:=D;have T:i∈É md ops listed:=by rw[J];simp
  refine⟨λh1=>(by rw[J] at h1;cases h1),λj hj=>?_⟩;rw[J] at hj;have:j=i:=by simpa using hj
  subst this;refine wpOpIn_mono (λa' w' h'=>⟨h'.1,Rg aa ab ad hs hc hn hQ is _ a' w' (λai=>?_) ag (λai=>?_) h'.2⟩) h
  ·rcases M with E|E
   ·exact absurd E ai
   ·exact (G (by simp)).set T E
  ·rcases M with E|E
   ·exact absurd E ai
   ·exact h'.1 E
theorem Aab {id:Nat} {a:ú} {w:Λ} (n:Nat) (is:List (Nat × Bool)) (I:∀ f,F.fn f) (hm:P.follows .mixedOrders=Ξ) (J:Mn ops=Ξ) (D:Mb .any ops n is=Ξ) (M:∀ c a T w,Q (.panic c) { tmps:=T,defers:=a.defers } w->Q (.panic c) a w)
  (C:Λ->Prop) (U:C w.drew) (h:Fu F m P ops Q C n is a w.drew):(Code.region id ops Ξ).wpIn F m P Q a w:=by
 simp only[Mb,Ϝ,decide_eq_true_eq] at D;obtain⟨⟨⟨⟨⟨aa,hs⟩,hc⟩,hn⟩,E⟩,D⟩:=D;refine wpIn_region_any hm (Zd (C:=C) (n:=n) _ _ _ _ ?_);rw[<-E];have ad:HeadInv .any ops n (Array.replicate is.length Τ):=by
  rw[E];exact⟨by simp,λj oj _ G=>(by rw[ϫ] at G;cases G),λt _ ht=>getD_in (by simpa using ht) (ϫ _ _)⟩
 exact Rg I J aa hs hc hn M is _ a _ (λ_=>ad) (by rw[E];exact D) (λ_=>U) h
theorem Abl {a:ú} {w:Λ} (h:Q .normal a w):Fu F m P ops Q C n [] a w:=h
theorem Abk {i:Nat} {is:List (Nat × Bool)} {o:ϳ} {v:Ν} {a:ú} {w:Λ} (D:ops.toList[i]? = Δ o) (E:Ë o (yielded ops a.tmps)=Ξ) (G:∀ W,C W->(execOp a.eval o).run P W=.ok (.value v) W)
  (h:Fu F m P ops Q C n is (a.put o.dst v) w):Fu F m P ops Q C n ((i,Ξ)::is) a w:=⟨o,v,by rw[<-æ];exact D,.inl ⟨E,G⟩,h⟩
theorem Lv (E:∀ f,F.fn f) {i:Nat} {is:List (Nat × Bool)} {o:ϳ} {a:ú} {w:Λ} (G:ops.toList[i]? = Δ o) (J:∀ c,o.op≠.defer c)
  (h:∀ K:ú->Λ->Prop,(∀ D w',(i<n->C w')->Fu F m P ops Q C n is D w'->K D w')->if Ë o (yielded ops a.tmps)=Ξ then o.uponIn F m P a K Q ((execOp a.eval o).run P w) else K (a.put o.dst ς) w):Fu F m P ops Q C n ((i,Τ)::is) a w:=by
 show wpOpIn F m P ops Q i _ a w;unfold wpOpIn;rw[æ] at G;rw[G];have:=h _ (λD w' M T=>And.intro M T);show if _ then _ else _
 by_cases I:Ë o (yielded ops a.tmps)=Ξ
 ·rw[if_pos I] at this ⊢;unfold ϳ.wpIn;rw[ϳ.semAt_eq _ _ _ J];exact⟨λf _=>E f,this⟩
 ·rw[if_neg I] at this ⊢;exact⟨λf _=>E f,this⟩
end
end Go.Proofs.YtaiogolidlamiaaGreatDoor
