import Derived.Test.YtilncahcpjlfnaaGreatDoorN05
import Derived.Test.YtilncahcpjlfnaaGreatDoorN02
import Derived.Test.YtilncahcpjlfnaaGreatDoorN04
import Derived.Maps.AppendAt
import Derived.Test.YtilncahcpjlfnaaGreatDoorN03
import Derived.Lib.SliceRun
set_option linter.unusedVariables false
set_option linter.unusedSimpArgs false
set_option maxRecDepth 100000
set_option maxHeartbeats 4000000
open Array renaming getElem?_eq_some_iff → Ϙ, getElem?_eq_none → õ, getElem?_eq_getElem → ϗ, getD_eq_getD_getElem? → Ϗ, getElem?_toList → Ϲ
open Bool renaming eq_iff_iff → ϴ, true → Α, false → Ε, and_eq_true → ς
open Go renaming Value → Δ, World → Γ, Calls → Ϟ, setRow_heap → Φ, cell_of_row → Τ, TypeId → ϫ, heap_alloc2_new → ύ, bodyPost_ret → ω, info_parts → ϑ, size_setRow → ì, frozen_of_row → Â, setCell_eq_setRow → ϧ, maxLen → ϐ, wpList_append_lies → ϕ, cell_one_new → Õ, Oper → Ϭ, Act → ë, undef → δ, mem_ready → ý, getD_replicate_false → ϛ
open Go.Act renaming eval → ß, put → θ
open Go.Ending renaming returned → Ω
open Go.IntKind renaming i64 → Χ
open Go.Lib renaming hid → Z
open Go.Obj renaming cells → Β
open Go.Operand renaming tmp → ε
open Go.Proofs.Tryz renaming prog → Ι, underlying40 → Ρ, zeroCells84 → Ψ, underlying54 → ϝ, underlying91 → ϋ
open Go.Region renaming wanted → Ϡ, waitsFor → ñ
open Go.RowKit renaming Hid → ϟ
open Go.Value renaming slice → U, tuple → ϙ, oneCell' → ξ, slice → ό, int → ϲ
open Go.World renaming size_alloc → Ο, ownsRow_nil → ϰ, ownsRow → ϣ
open List renaming foldl_append → ô, range → π, mem_range → ώ, mem_cons → ù, getD_eq_getElem?_getD → Ζ, replicate → ζ, ext_getElem? → Ϩ, getElem?_map → υ, getElem?_replicate → Ì, getElem?_set → Ó, getElem?_range → ü, length_append → Ν, map_append → ϥ, all_eq_true → Þ, length_map → ι, getElem?_eq_getElem → Θ, getElem?_eq_none → û, getElem_mem → ϯ, setIfInBounds_toArray → Η, set_cons_zero → Μ, set_cons_succ → Λ, length_set → ο
open Nat renaming lt_of_lt_of_le → Ξ, le_refl → Υ, le_trans → μ, zero_add → Ϣ
open Option renaming some → I, none → J
open Option.some renaming inj → ϓ
namespace Go.Proofs.YtilncahcpjlfnaaGreatDoor
def Df (p:UInt8->Prop):Af:=λw=>∃ x:UInt8,w=[x]/\p x
theorem Gh {d:Dfa} {L:Af} (h:Fit d L) (stp:Nat->UInt8->Nat) (acc:Nat->Prop) (k:Nat) (h0:0<k) (E:∀ s x,s<k->stp s x<k) (G:∀ w,L w↔acc (w.foldl stp 0)):d.n.length<=k:=by
 have hb:∀ (w:List UInt8) s,s<k->w.foldl stp s<k:=λw=>by
  induction w with
  | nil=>intro s E;exact E
  | cons x w H=>intro s T;exact H _ (E s x T)
 have:=Jv h.1 (λw=>w.foldl stp 0) (λw w' e u=>by rw[ϴ,h.2,h.2,G,G,ô,ô,e]) (π k) (λw=>ώ.2 (hb w 0 h0))
 simpa using this
theorem Ff {d:Dfa} {L M:Af} (h:Fit d L) (e:∀ w,L w↔M w):Fit d M:=⟨h.1,λw=>(h.2 w).trans (e w)⟩
theorem Ju {a b:Dfa} {L M:Af} {r:Option Dfa} (h:Cx a b r) (E:Fit a L) (hb:Fit b M) (T:a.n.length*2 ^ b.n.length<=4096) (X:∀ d,Fit d (Cat L M)->d.n.length<=64):∃ d,r=I d/\Fit d (Cat L M):=by
 obtain⟨x,y,hx,G,ex,ey,h1,h2⟩:=h;obtain rfl:=Fu hx E.1 ex;obtain rfl:=Fu G hb.1 ey;have hl:=h2 (TK (Bt hx.val) (Bt G.val) T);have H:Lim (Cat L M) r:=Gc hl λw=>Hg (λw=>E.2 w) (λw=>hb.2 w) w
 cases r with
 | some d=>exact⟨d,rfl,Qa H⟩
 | none=>obtain⟨d,d1,d2,d3⟩:=H;have:=X d ⟨d1,d2⟩;omega
theorem EK {a:Dfa} {L:Af} {r:Option Dfa} (h:Hi a r) (G:Fit a L) (H:2*2 ^ a.n.length<=4096) (T:∀ d,Fit d (Star L)->d.n.length<=64):∃ d,r=I d/\Fit d (Star L):=by
 obtain⟨x,hx,X,h1,h2⟩:=h;obtain rfl:=Fu hx G.1 X;have E:=h2 (EF (Bt hx.val) H);have e:(λw=>x.has w=Α)=L:=funext λw=>propext (G.2 w)
 rw[e] at E;cases r with
 | some d=>exact⟨d,rfl,Qa E⟩
 | none=>obtain⟨d,d1,d2,d3⟩:=E;have:=T d ⟨d1,d2⟩;omega
theorem Gg (stp:Nat->UInt8->Nat) (s:Nat) (h:∀ x,stp s x=s):∀ w:List UInt8,w.foldl stp s=s
 | []=>rfl
 | x::w=>by rw[List.foldl_cons,h x];exact Gg stp s h w
section
open Classical
theorem Je {d:Dfa} {p:UInt8->Prop} (h:Fit d (Df p)):d.n.length<=3:=by
 refine Gh h (λs x=>if s=0/\p x then 1 else 2) (λs=>s=1) 3 (by omega) (λs x _=>by split<;>omega) λw=>?_
 unfold Df;rcases w with _|⟨x,_|⟨y,w⟩⟩
 ·simp
 ·by_cases E:p x<;>simp[E]
 have:(List.foldl (λs x=>if s=0/\p x then 1 else 2) 0 (x::y::w):Nat)=2:=by
  rw[List.foldl_cons,List.foldl_cons];have G:(if (if 0=0/\p x then 1 else 2)=0/\p y then 1 else 2:Nat)=2:=by split<;>simp
  rw[G];exact Gg _ 2 (λx=>by simp) w
 rw[this];simp
theorem Tq (p:UInt8->Prop) (w:List UInt8):Star (Df p) w↔∀ x∈w,p x:=by
 rw[Ot];have key:∀ k w,pw (Df p) k w↔w.length=k/\∀ x∈w,p x:=λk=>by
  induction k with
  | zero=>
   intro w;show w=[]↔_;constructor
   ·rintro rfl;simp
   rintro⟨h,_⟩;exact List.eq_nil_of_length_eq_zero h
  | succ k H=>
   intro w;rw[Fz];constructor
   ·rintro⟨u,v,rfl,⟨x,rfl,hx⟩,T⟩;obtain⟨h1,G⟩:=(H v).1 T;refine⟨by simp[h1,Nat.add_comm],λy E=>?_⟩;rcases ù.1 (by simpa using E) with rfl|E
    ·exact hx
    exact G y E
   rintro⟨h1,G⟩;cases w with
   | nil=>simp at h1
   | cons x w=>exact⟨[x],w,rfl,⟨x,rfl,G x (by simp)⟩,(H w).2 ⟨by simpa using h1,λy E=>G y (by simp[E])⟩⟩
 constructor
 ·rintro⟨k,X⟩;exact ((key k w).1 X).2
 intro h;exact⟨w.length,(key _ w).2 ⟨rfl,h⟩⟩
theorem Jy {d:Dfa} {p:UInt8->Prop} (h:Fit d (λw=>∀ x∈w,p x)):d.n.length<=2:=by
 refine Gh h (λs x=>if s=0/\p x then 0 else 1) (λs=>s=0) 2 (by omega) (λs x _=>by split<;>omega) λw=>?_
 induction w with
 | nil=>simp
 | cons x w G=>
  rw[List.foldl_cons];by_cases E:p x
  ·simp only[E,and_self,if_true,ù,forall_eq_or_imp,true_and];exact G
  have:(List.foldl (λs x=>if s=0/\p x then 0 else 1) 1 w:Nat)=1:=Gg _ 1 (λx=>by simp) w;simp[E,this]
theorem Ia {d:Dfa} (h:Fit d (λw=>w=[])):d.n.length<=2:=by
 refine Gh h (λs x=>1) (λs=>s=0) 2 (by omega) (λs x _=>by omega) λw=>?_
 cases w with
 | nil=>simp
 | cons x w=>have:(List.foldl (λ_ _=>1) 1 w:Nat)=1:=Gg _ 1 (λx=>rfl) w;simp[this]
end
open Go.RowKit Go.Shelf
theorem SC (d:Dfa) (l:List UInt8) (j:Nat) (h:j<l.length):d.run 0 (l.take (j+1))=d.stp (d.run 0 (l.take j)) (l.getD j 0).toNat:=by rw[List.take_succ_eq_append_getElem h,Bf];simp[Dfa.run,Ζ,h]
theorem N8 (d:Dfa) (hv:Val d) (hn:d.n.length<=64) (v:Δ) (l:List UInt8) (u:Δ) (w:Γ) (hT:Tab w) (ak:0<w.heap.size) (h:IsD w v d) (hb:By w u l) :
  Ϟ Ι 24 #[v,u] w λe w'=>e=Ω (.bool (d.has l))/\Ext w w':=by
 have HD:=Z h;obtain⟨vc,vn,va,rfl,_,_,_⟩:=h;have a6:=(Κ w).alloc (Β #[vc,vn,va] 40);have T:=Z (Ad w (Β #[vc,vn,va] 40));have f47:=λW (E:Ext w W)=>Z (Fi d hv hn _ W (HD.o.ext E))
 have f68:=λW (E:Ext w W)=>Z (Iw d hv _ W (hT.below E.below ak) (Ξ ak E.size) (HD.o.ext E))
 obtain⟨ab,bb,ob,cb,rfl,a7,a8⟩:=hb.split;have c4:l.length<=4611686018427387904:=hb.1;have b8:=Z a7;have b9:=Z a8;have hV:=Bt hv;have HV:=Z hv;clear a7 a8 hb HD hT ak;go_enter Tryz.func24,Tryz.ntmps24;go_upto_region 1 with (fail)
 generalize w.alloc (Β #[vc,vn,va] 40)=w1 at *;have ar:(Ι.info? 40).map (·.size)=I 3:=by kernel_rfl
 go_upto_region 3 with (first
  | (refine Lr 40 (ε 2) T.o Ρ ar ?_)
  | (go_at_call 33;with_reducible refine (f47 _ a6).o.mono ?_;rintro e w2 ⟨rfl,au⟩))
 have T:=Z (au.heap T.o);have aw:=a6.t au;go_upto_region 4 with (first
  | (refine Lr 40 (ε 2) T.o Ρ ar ?_)
  | (go_at_call 34;with_reducible refine (f68 _ aw).o.mono ?_;rintro e G ⟨A,rfl,hA,bc⟩;obtain⟨bn,on,cn,ba,oa,ca,ax,bd,be,_,bf,bg,hR,bj⟩:=hA.opened hV;have bk:Ψ.size=A.size:=(by rw[C8,ax]);have bl:(Ι.info? 84).map (·.size)=I A.size:=(by rw[ax];exact Ce))
  | (refine wpList_store_row rfl 84 (ε 5) (ε 13) rfl _ A rfl rfl _ _ (Ad G (Β Ψ 84)) bl bk bd ?_))
 have af:=((Κ G).alloc (Β Ψ 84)).setRow (Υ G.heap.size) A;have H5:=Φ (G.alloc (Β Ψ 84)) _ _ A 84 (0,0) (Ad G (Β Ψ 84));obtain⟨X,bm⟩:=Xq ((G.alloc (Β Ψ 84)).setRow G.heap.size A);simp only[bm] at *;clear bm;have bo:=(aw.t bc).trans af;have cf:=Z (λ(W:Γ) (E:Ext X W)=>(Τ W G.heap.size 257 _ _ _ (E.heap H5)).trans bf);have cg:=Z (λ(W:Γ) (E:Ext X W)=>(Τ W G.heap.size 258 _ _ _ (E.heap H5)).trans bg);have cj:=Z (λ(W:Γ) (E:Ext X W) (b:Nat) (hb:b<256)=>(Τ W G.heap.size b _ _ _ (E.heap H5)).trans (be b hb));have HR:=Z (hR.ext af);have cl:=Z (λs hs=>af.cell (bj s hs));generalize G.heap.size=B5 at *;clear hR bj bf bg be bk bl bd ax H5 T f47 f68 af bc aw au ar;go_wp2_with (fail);go_loopw [6,16] (λs i W=>∃ j:Nat,j<=l.length/\i=.int Χ j/\s=iv (d.run 0 (l.take j))/\Ext X W) (λ_ i _=>l.length-(intOf i).toNat)
 case atStart=>exact⟨0,by omega,rfl,rfl,Κ X⟩
 obtain⟨j,hj,rfl,rfl,H⟩:=hrel;have ai:=HV.o.run_lt (l.take j) HV.o.pos;by_cases bp:j<l.length
 ·have e:=b8.o (by omega);subst e;have aj:=SC d l j bp;have cx:=(bo.t H).cell (b9.o j bp);obtain⟨x,bq⟩:=Xq (l.getD j 0);rw[bq] at cx aj;clear bq;have hx:=x.toNat_lt;obtain⟨s,hs⟩:=Xq (d.run 0 (l.take j));rw[hs] at ai aj ⊢;clear hs;have bt:=Z aj;clear aj;obtain⟨br,or',cr,bu,bw⟩:=HR.o s ai;have k7:=A4 (cf.o wr H);have kc:=A4 (cj.o wr H x.toNat hx);have r1:=A4 (H.cell bu);have hk:=cell_lt HV.o.parts hx;have r2:=A4 (H.cell (bw _ hk));have b4:(Ah d).cell x.toNat=Am d.cls x.toNat:=rfl;rw[b4] at kc;have b5:ϟ ((Ah d).ent2 s (Am d.cls x.toNat)=d.stp s x.toNat):=Z rfl;rw[b5.o,<-bt.o] at r2;clear b4 bu bw;have aa:(Ah d).n.length=d.n.length:=rfl;have b6:(Ah d).cells=d.cls.length:=rfl;rw[aa] at k7;rw[b6] at r1;have df:=HV.o.parts.le;obtain⟨s2,az⟩:=Xq (d.run 0 (l.take (j+1)));rw[az] at r2;have cp:=Z az;clear az;generalize Am d.cls x.toNat=k at *;clear b5 bt aa b6;have dh:(x.toNat:Int)<256:=by omega
  go_upto_region 8 with (fail)
  refine Cl (by kernel_rfl) (by kernel_rfl) ?_;iterate 12 (with_reducible refine wpQuiet_step (λK hK=>?_);go_simp;(refine hK _ ?_;clear hK K))
  refine wpQuiet_nil ?_;rintro _ ⟨e,rfl⟩;have cq:=H.t e.ext;clear k7 kc r1 r2 cx;generalize e.W=w5 at *;go_wp2;go_roundw
  case rel=>exact⟨j+1,by omega,by go_num,by rw[cp.o],cq⟩
  simp[intOf];omega
 obtain rfl:j=l.length:=by omega
 rw[List.take_length] at ai ⊢;have HF:ϟ (d.has l=d.ok (d.run 0 l)):=Z rfl;generalize d.run 0 l=s at *;have k8:=cg.o wr H;have ka:=H.cell (cl.o s ai);have HT:ϟ ((Ah d).ok s=d.has l):=Z (by rw[HF.o];rfl);rw[HT.o] at ka;have aa:(Ah d).n.length=d.n.length:=rfl;rw[aa] at k8;clear aa;go_wp2;go_ret;exact⟨rfl,bo.t H⟩
theorem IsD.opened {W:Γ} {v:Δ} {d:Dfa} (h:IsD W v d) (E:Val d):∃ G H T X on cn ba oa ca,v=.agg (dA (U (I ⟨G,H,J⟩) d.cls.length T) (U (I ⟨X,on,J⟩) d.n.length cn) (U (I ⟨ba,oa,J⟩) d.n.length ca))/\
  Cs W (U (I ⟨G,H,J⟩) d.cls.length T) d.cls/\RowsAt W X on d.n.length d.cls.length d.ent2/\∀ s,s<d.n.length->W.cell? ⟨ba,oa+s,J⟩=I (.bool (d.ok s)):=by
 obtain⟨vc,vn,va,rfl,hC,hN,hA⟩:=h;obtain⟨X,on,cn,rfl,hr⟩:=Ko hN d.cls.length E.pos E.parts.pos E.row;obtain⟨ba,oa,ca,rfl,ha⟩:=N4 hA (by rw[E.accL];exact E.pos);obtain⟨G,H,T,rfl,-⟩:=Ü hC E.parts.pos;refine⟨G,H,T,X,on,cn,ba,oa,ca,by rw[E.accL];rfl,hC,hr,λs hs=>ha s (by rw[E.accL];exact hs)⟩
theorem Sl.first {W:Γ} {v:Δ} {k n:Nat} {f:Nat->Δ} (h:Sl W v k n f) (H:0<n) (T:0<k):∃ b E G,v=U (I ⟨b,E,J⟩) n G/\W.cell? ⟨b,E,J⟩=I (f 0):=by obtain⟨b,E,G,rfl,hc⟩:=Ü h H;exact⟨b,E,G,rfl,hc 0 (Nat.mul_pos H T)⟩
theorem O0 {W:Γ} {v:Δ} {k n k' E:Nat} {f G:Nat->Δ} (h:Sl W v k n f) (X:0<n) (hk:0<k) (h':Sl W v k' E G) (ad:0<E) (ae:0<k'):f 0=G 0:=by
 obtain⟨b,ai,aj,hv,hc⟩:=h.first X hk;obtain⟨b',ak,an,H,T⟩:=h'.first ad ae;rw[hv] at H;injection H with e _ _
 injection e with e
 injection e with e1 e2 _
 subst e1;subst e2;rw[hc] at T;injection T
theorem IsD.setBox {W:Γ} {v:Δ} {q p:Dfa} (hq:Val q) (h:IsD W v q) (H:Val p) {A:Array Δ} (hA:IsD W (.agg A) p) {g:Nat} {e:ϫ} {fr:Nat × Nat} (hg:W.heap[g]? = I (Β A e fr)) (cs:Array Δ):IsD (W.setRow g cs) v q:=by
 obtain⟨vc,vn,va,rfl,h1,⟨vs,au,hN,hr⟩,h3⟩:=h;obtain⟨pc,pn,pa,T,g1,⟨ps,bd,gN,gr⟩,g3⟩:=hA;injection T with T
 have a6:=hq.parts.pos;have a7:=H.parts.pos;have aj:∀ (o:Nat) (x:Δ),A[o]? = I x->x=pc\/x=pn\/x=pa:=λo x hx=>by
  have:=Array.mem_of_getElem? hx;rw[T] at this
  simpa using this
 obtain⟨ac,cc,a8⟩:=Sl.len g1;obtain⟨an,cn,ba⟩:=Sl.len gN;obtain⟨aa,ca,bb⟩:=Sl.len g3;have X:∀ (o:Nat) (x:Δ),A[o]? = I x->∃ a n c,x=U a n c:=λo x hx=>by
  rcases aj o x hx with rfl|rfl|rfl
  ·exact⟨_,_,_,a8⟩
  ·exact⟨_,_,_,ba⟩
  exact⟨_,_,_,bb⟩
 refine⟨vc,vn,va,rfl,Sl.setRow h1 hg (λi hi o hx=>?_) (by omega) cs,⟨vs,au,Sl.setRow hN hg (λi hi o hx=>?_) (by omega) cs,λi hi=>Sl.setRow (hr i hi) hg (λj hj o hx=>?_) (by omega) cs⟩,Sl.setRow h3 hg (λi hi o hx=>?_) (by omega) cs⟩
 ·obtain⟨a,n,c,he⟩:=X _ _ hx;cases he
 ·have ak:i<q.n.length:=by omega
  have E:=hr i ak;have ab:0<(q.n.getD i []).length:=by rw[hq.row i ak];exact a6
  have ad:=H.pos;rcases aj _ _ hx with G|G|G
  ·rw[G] at E;have:=O0 E ab (by omega) g1 a7 (by omega);cases this
  ·rw[G] at E;have h0:=O0 E ab (by omega) gN ad (by omega);obtain⟨a,c,hz⟩:=Sl.len (gr 0 ad);rw[hz] at h0;cases h0
  rw[G] at E;have:=O0 E ab (by omega) g3 (by rw[H.accL];exact ad) (by omega);cases this
 ·obtain⟨a,n,c,he⟩:=X _ _ hx;cases he
 obtain⟨a,n,c,he⟩:=X _ _ hx;cases he
theorem Im {a b:Dfa} {r:Option Dfa} (h:Cx a b r) (d:Dfa) (hd:r=I d):Val d/\d.n.length<=64:=by subst hd;obtain⟨h1,E⟩:=Io h (λ_=>Iff.rfl) (λ_=>Iff.rfl);exact⟨h1.1.val,E⟩
theorem Vh (p d:Dfa) (hp:Val p) (hd:Val d) (cg:p.n.length<=64) (cj:d.n.length<=64) (n:Nat) (hn:n<=1000) (vp vd:Δ) (w:Γ) (hT:Tab w) (b4:0<w.heap.size) (a8:IsD w vp p) (ba:IsD w vd d) :
  Ϟ Ι 101 #[vp,vd,iv n] w λe w'=>∃ r,ResOf w' e r/\Dn p d n r/\Ext w w':=by
 have ck:=Z (λW (hW:Ext w W)=>hT.below hW.below b4);have bb:=Z a8;have b5:=Z ba;have cm:=Z hd;obtain⟨ac,lc,cc,an,cn,aa,la,ca,rfl⟩:=a8.agg;obtain⟨cz,c3,c4,c5,c6,c7,c8,c9,rfl⟩:=ba.agg;obtain⟨H,aw⟩:=Xq (dA (U cz c3 c4) (U c5 d.n.length c6) (U c7 c8 c9));have da:(Ι.info? 40).map (·.size)=I H.size:=by rw[<-aw];exact Ae
 rw[aw] at b5;rw[aw];obtain⟨T,ax⟩:=Xq (dA (U ac lc cc) (U an p.n.length cn) (U aa la ca));have db:ϟ (T.size=3):=Z (by rw[<-ax];rfl);rw[ax] at bb;rw[ax];have ay:=(((Κ w).alloc (Β T 40)).alloc (Β H 40)).alloc (Β #[U J 0 0,U J 0 0,U J 0 0] 40);have X:=Ag (Ag (Ad w (Β T 40)) (Β H 40)) (Β #[U J 0 0,U J 0 0,U J 0 0] 40);have H4:=Ag (ύ w (Β T 40) (Β H 40)) (Β #[U J 0 0,U J 0 0,U J 0 0] 40);have E:=Ad ((w.alloc (Β T 40)).alloc (Β H 40)) (Β #[U J 0 0,U J 0 0,U J 0 0] 40);rw[Ο,Ο] at E;clear a8 ba hd hT aw;go_enter Tryz.func101,Tryz.ntmps101;go_upto_region 1 with (fail)
 obtain⟨w1,bc⟩:=Xq (((w.alloc (Β T 40)).alloc (Β H 40)).alloc (Β #[U J 0 0,U J 0 0,U J 0 0] 40));rw[bc] at ay X H4 E;simp only[bc];clear bc;have b6:=Z (bb.o.ext ay);clear ax bb;go_wp2_with (fail);go_loopw [8,10] (λve vi W=>∃ (i:Nat) (q:Dfa) (A:Array Δ),i<=n/\ve=.int Χ 0/\vi=.int Χ i/\Ext w W/\ϟ (W.heap[w.heap.size]? = I (Β A 40 (0,0)))/\ϟ (W.heap[w.heap.size+1]? = I (Β H 40 (0,0)))/\ϟ (W.heap[w.heap.size+1+1]? = I (Β #[U J 0 0,U J 0 0,U J 0 0] 40 (0,0)))/\ϟ (A.size=3)/\ϟ (IsD W (.agg A) q)/\ϟ (Val q/\q.n.length<=64)/\ϟ (∀ r,Dn q d (n-i) r->Dn p d n r))
  (λ_ vi _=>n-(intOf vi).toNat)
 case atStart=>exact⟨0,p,T,by omega,rfl,rfl,ay,Z X,Z H4,Z E,db,b6,Z ⟨hp,cg⟩,Z λr h=>h⟩
 clear ay X H4 E b6 hp;obtain⟨i,q,A,hi,rfl,rfl,hE,X,H4,E,HA,HI,HQ,HP⟩:=hrel;have a6:(Ι.info? 40).map (·.size)=I A.size:=by rw[HA.o];exact Ae
 obtain⟨dr,dt,du,dv,dw,dx,dy,dz,au⟩:=HI.o.agg;injection au with au
 by_cases ea:i<n
 ·have f31:=Z (Lp q d HQ.o.1 cm.o HQ.o.2 cj _ _ wr (ck.o wr hE) (Ξ b4 hE.size) HI.o (b5.o.ext hE));clear au;go_upto_region 5 with (first
   | (refine Lr 40 (ε 3) X.o Ρ a6 ?_)
   | (refine Lr 40 (ε 4) H4.o Ρ da ?_)
   | (go_at_call 18;(with_reducible refine f31.o.mono ?_);rintro e w5 ⟨r,bh,b7,bj⟩;obtain⟨ab,ad,ae,af,ag,ah,ai,aj,ak,k2,rfl⟩:=bh.form;have b8:=Z bh;have bk:=Z b7;have a7:=Z bj;have bl:=Z (bj.heap X.o);clear bh b7 bj)
   | (refine Sr 40 (ε 3) (ε 16) rfl bl.o Ae HA.o (Aw _ _ _ rfl rfl rfl) ?_))
  have bm:=(hE.t a7.o).setRow (Υ w.heap.size) (dA (U ab ad ae) (U af ag ah) (U ai aj ak));have G3:=Φ w5 _ _ (dA (U ab ad ae) (U af ag ah) (U ai aj ak)) 40 (0,0) bl.o;have G4:=Bk (a7.o.heap H4.o) (show w.heap.size+1≠w.heap.size by omega) (dA (U ab ad ae) (U af ag ah) (U ai aj ak));have G6:=Bk (a7.o.heap E.o) (show w.heap.size+1+1≠w.heap.size by omega) (dA (U ab ad ae) (U af ag ah) (U ai aj ak));have b9:=Z (λ(q':Dfa) (de:Val q') (h:IsD w5 (.agg (dA (U ab ad ae) (U af ag ah) (U ai aj ak))) q')=>IsD.setBox de h HQ.o.1 (HI.o.ext a7.o) bl.o (dA (U ab ad ae) (U af ag ah) (U ai aj ak)));obtain⟨w6,bp⟩:=Xq (w5.setRow w.heap.size (dA (U ab ad ae) (U af ag ah) (U ai aj ak)));rw[bp] at bm G3 G4 G6 b9;simp only[bp];clear bp f31;have G6:=Z G6;cases r with
  | none=>
   have hk:k2=2:=by
    have:=b8.o;unfold ResOf at this;injection this with this
    injection this with this
    injection this with this
    injection this with _ this
    injection this with this _
    injection this
   subst hk;have dh:=Z F1;have cb:Dn q d (n-i) J:=by rw[show n-i=(n-(i+1))+1 by omega];exact⟨J,bk.o,rfl⟩
   have bq:=Z (HP.o J cb);clear cb G3 G4;go_wp2_with (first
    | (refine Bj rfl 40 _ rfl #[U J 0 0,U J 0 0,U J 0 0] ?_ ?_;(simp;with_reducible exact dh.o))
    | (refine Sr 40 (ε 6) (ε 20) rfl G6.o Ae rfl Fa ?_))
   refine ω (v:=ϙ #[zD,.int Χ 2]) (Bi rfl _ _ _ _ _ _ _ rfl _ rfl (Φ w6 _ _ #[U J 0 0,U J 0 0,U J 0 0] 40 (0,0) G6.o) Ρ rfl Ae) rfl ?_;exact⟨J,rfl,bq.o,bm.setRow (by omega) _⟩
  | some q'=>
   obtain⟨v',G,br⟩:=b8.o;injection G with G
   injection G with G
   injection G with G
   injection G with h1 G
   injection G with h2 _
   injection h2 with _ h2
   subst h2;rw[<-h1] at br;obtain⟨cd,dk⟩:=Im bk.o q' rfl;have cf:=b9.o q' cd br;have dm:=Z cf;have dn:=Z (λr (h:Dn q' d (n-(i+1)) r)=>HP.o r (by rw[show n-i=(n-(i+1))+1 by omega];exact⟨I q',bk.o,h⟩))
   clear cf br h1;go_wp2;go_roundw
   case rel=>exact⟨i+1,q',_,by omega,rfl,by go_num,bm,Z G3,Z G4,G6,Z rfl,dm,Z ⟨cd,dk⟩,dn⟩
   simp[intOf];omega
 obtain rfl:n=i:=by omega
 have dp:A.all (·.oneCell')=Α:=by rw[au];exact Aw _ _ _ rfl rfl rfl
 clear au;have bq:=Z (HP.o (I q) (by rw[Nat.sub_self];rfl));go_wp2_with (first
  | (refine Lr 40 (ε 3) X.o Ρ a6 ?_)
  | (refine Sr 40 (ε 6) (ε 23) rfl E.o a6 HA.o.symm dp ?_))
 refine ω (v:=ϙ #[.agg A,.int Χ 0]) (Bi rfl _ _ _ _ _ _ _ rfl _ rfl (Φ wr _ _ A 40 (0,0) E.o) Ρ rfl a6) rfl ?_;exact⟨I q,⟨_,rfl,IsD.setRow HQ.o.1 HI.o E.o _⟩,bq.o,hE.setRow (by omega) _⟩
theorem UT:Ι.built 84 [(1,.int Χ 256)]=I (Ak (λ_=>0) 256 (U J 0 0) (U J 0 0)):=by kernel_rfl
def idC (k y:Nat):Nat:=if y<k then y else 0
theorem OX (k:Nat) (H:k<256) (n:Nat) (E G:Δ):(Ak (idC k) n E G).setIfInBounds k (iv k)=Ak (idC (k+1)) n E G:=by
 rw[Ti _ _ _ _ _ _ H];refine Ho (λb hb=>?_) n E G;unfold idC;by_cases e:b=k
 ·subst e;simp
 rw[if_neg e];by_cases h:b<k
 ·rw[if_pos h,if_pos (by omega)]
 rw[if_neg h,if_neg (by omega)]
def Ew (m k:Nat):List Nat:=(π 256).map λj=>if j<k then m else 0
theorem Jn (m k:Nat):(Ew m k).length=256:=by simp[Ew]
theorem QY (m:Nat):Ew m 0=ζ 256 0:=by
 apply Ϩ;intro i;simp only[Ew,υ,Ì,Nat.not_lt_zero,if_false];by_cases h:i<256
 ·simp[h]
 simp[h]
theorem QZ (m k:Nat) (E:k<256):(Ew m k).set k m=Ew m (k+1):=by
 apply Ϩ;intro i;rw[Ó,Jn];simp only[Ew,υ];by_cases h:i<256
 ·rw[ü h];by_cases e:k=i
  ·subst e;simp[E]
  simp only[e,if_false,Option.map_some];by_cases h1:i<k
  ·rw[if_pos h1,if_pos (by omega)]
  rw[if_neg h1,if_neg (by omega)]
 rw[if_neg (by omega)];simp[h]
theorem CA (l:List UInt8) (s:Nat) (E:s<l.length):(Ew (l.length+1) 256).set (l.getD s 0).toNat (s+1)=Da l s:=by
 apply Ϩ;intro i;rw[Ó,Jn];have hx:=(l.getD s 0).toNat_lt;simp only[Ew,Da,υ];by_cases h:i<256
 ·rw[ü h];by_cases e:(l.getD s 0).toNat=i
  ·rw[if_pos e,if_pos (by omega),Option.map_some,if_pos ⟨E,e⟩]
  rw[if_neg e,Option.map_some,Option.map_some,if_pos h,if_neg (λG=>e G.2)]
 rw[if_neg (by omega)];simp[h]
theorem BZ (l:List UInt8) (s:Nat) (E:¬ s<l.length):Ew (l.length+1) 256=Da l s:=by
 unfold Ew Da;refine List.map_congr_left λb hb=>?_
 have:=ώ.1 hb;rw[if_pos this,if_neg (λh=>E h.1)]
theorem Ma (l:List UInt8) (hl:l.length<=62) (v:Δ) (w:Γ) (h:By w v l) :
  Ϟ Ι 16 #[v] w λe w'=>∃ r,ResOf w' e (I r)/\Cano r/\(∀ u,r.has u=Α↔u=l)/\Ext w w':=by
 obtain⟨ab,bb,ob,cb,rfl,dd,de⟩:=h.split;obtain⟨i0,hi,e9,fa,fb⟩:=ϑ Ds;obtain⟨i4,fe,ff,fg,fh⟩:=ϑ Fc;obtain⟨i6,fl,fm,fo,fp⟩:=ϑ (show (Ι.info? 54).map (λi=>(i.zero,i.size,i.bytes))=I (I (U J 0 0),1,24) by kernel_rfl);have fs:=Z dd;have ft:=Z de;have df:=Z UT;obtain⟨T0,a8⟩:=Xq (Ak (λ_=>0) 256 (U J 0 0) (U J 0 0));rw[a8] at df;have dg:Ψ.size=T0.size:=by rw[<-a8,C8,Es]
 have dh:(Ι.info? 84).map (·.size)=I T0.size:=by rw[<-a8,Es];exact Ce
 have dk:T0.all (·.oneCell')=Α:=by rw[<-a8];exact Hm _ _ (U J 0 0) (U J 0 0) rfl rfl
 have fu:=Z a8;have b4:=(Κ w).alloc (Β #[U J 0 0,U J 0 0,U J 0 0] 40);have H2:=Ad w (Β #[U J 0 0,U J 0 0,U J 0 0] 40);clear a8 h dd de;go_enter Tryz.func16,Tryz.ntmps16;go_upto_region 1 with (fail)
 obtain⟨w1,bp⟩:=Xq (w.alloc (Β #[U J 0 0,U J 0 0,U J 0 0] 40));have hq:w.heap.size<w1.heap.size:=by rw[<-bp,Ο];omega
 rw[bp] at b4 H2;simp only[bp];clear bp;have fv:=Z H2;clear H2;go_upto_region 5 with (first
  | (refine Bj rfl 84 _ rfl T0 ?_ ?_;(simp[ß];with_reducible exact df.o))
  | (refine Sr 84 (ε 5) (ε 15) rfl (Ad w1 (Β Ψ 84)) dh dg dk ?_))
 have b6:=((Κ w1).alloc (Β Ψ 84)).setRow (Υ _) T0;have bq:=Φ (w1.alloc (Β Ψ 84)) w1.heap.size _ T0 _ _ (Ad w1 _);have b7:w1.heap.size+1<=((w1.alloc (Β Ψ 84)).setRow w1.heap.size T0).heap.size:=by rw[ì,Ο];exact Υ _
 obtain⟨wa,b8⟩:=Xq ((w1.alloc (Β Ψ 84)).setRow w1.heap.size T0);rw[b8] at b6 bq b7;simp only[b8];clear b8 dg dh dk;rw[<-fu.o] at bq;have dm:ϟ (wa.heap[w1.heap.size]? = I (Β (Ak (idC 0) 256 (U J 0 0) (U J 0 0)) 84 (0,0))):=Z (by rw[bq,Ho (c:=λ_=>0) (c':=idC 0) (λb hb=>by simp[idC])])
 clear bq;go_wp2_with (fail);go_loopw [16] (λi W=>∃ k:Nat,k<=256/\i=.int Χ k/\Ext w1 W/\w1.heap.size+1<=W.heap.size/\ϟ (W.heap[w1.heap.size]? = I (Β (Ak (idC k) 256 (U J 0 0) (U J 0 0)) 84 (0,0)))) (λi _=>256-(intOf i).toNat)
 case atStart=>exact⟨0,by omega,rfl,b6,b7,dm⟩
 clear b6 b7 dm;obtain⟨k,hk,rfl,hE,ar,G⟩:=hrel;by_cases b9:k<256
 ·have hv:(k:Int)<256:=by omega
  have ck:=(Τ wr w1.heap.size k _ _ _ G.o).trans (Ol _ _ _ _ k b9);have fk:=Â wr w1.heap.size k _ _ G.o;have fy:=hE.setRow (Υ _) (Ak (idC (k+1)) 256 (U J 0 0) (U J 0 0));have fz:=Z (Φ wr w1.heap.size _ (Ak (idC (k+1)) 256 (U J 0 0) (U J 0 0)) _ _ G.o);have ca:ϟ (wr.setCell ⟨w1.heap.size,k,J⟩ (iv k)=wr.setRow w1.heap.size (Ak (idC (k+1)) 256 (U J 0 0) (U J 0 0))):=Z (by rw[ϧ wr _ _ _ _ _ _ G.o,OX _ b9]);go_wp2_with (fail);go_roundw
  case rel=>exact⟨k+1,by omega,by go_num,by rw[show wr.setCell ⟨w1.heap.size,k,J⟩ (.int Χ (k:Int))=_ from ca.o];exact fy,by rw[show wr.setCell ⟨w1.heap.size,k,J⟩ (.int Χ (k:Int))=_ from ca.o,ì];exact ar,by rw[show wr.setCell ⟨w1.heap.size,k,J⟩ (.int Χ (k:Int))=_ from ca.o];exact fz⟩
  simp[intOf];omega
 obtain rfl:k=256:=by omega
 have bc:((256:Nat):Int)=256:=rfl;simp only[bc];clear bc;go_wp2_with (fail);have dn:=ϰ wr (w1.heap.size+1) 54 1;have dp:=ϰ wr (w1.heap.size+1) 4 1;have dq:RowsO wr (w1.heap.size+1) [] ((π 0).map (Da l)) (λ_=>False):=⟨rfl,λj hj=>by simp at hj⟩;go_loopw [26] (λi W=>∃ (s:Nat) (vs:List Δ) (vnx H:Δ),s<=l.length+2/\i=.int Χ s/\Ext w1 W/\w1.heap.size+1<=W.heap.size/\ϟ (W.heap[w1.heap.size]? = I (Β (Ak (idC 256) 256 vnx H) 84 (0,0)))/\W.ownsRow (w1.heap.size+1) 54 1 vnx vs.length vs/\OwnB W (w1.heap.size+1) H ((π s).map λq=>q==l.length)/\RowsO W (w1.heap.size+1) vs ((π s).map (Da l)) (λ_=>False)/\ϟ (vs.length=s))
  (λi _=>l.length+2-(intOf i).toNat)
 case atStart=>exact⟨0,[],_,_,by omega,rfl,hE,ar,G,dn,dp,dq,Z rfl⟩
 clear hE ar G dn dp dq;obtain⟨s,vs,vnx,H,hs,rfl,hE,ar,G,hN,hA,hV,dr⟩:=hrel;by_cases b9:s<l.length+2
 ·obtain⟨wo,ga⟩:∃ W,W=wr:=⟨_,rfl⟩;subst ga;go_upto_region 14 with (at_make;refine wpList_make_full _ rfl _ _ 54 rfl (w1.heap.size+1) 3 i0 (.int Χ 0) 1 ϝ hi e9 fa Χ Χ _ _ 256 rfl rfl rfl rfl (by rw[fb];omega) (by unfold ϐ;omega) (by omega) ?_;intro w5 dt aw)
  have aj:=hE.grown aw (λk e=>by cases e);have E:w5.ownsRow (w1.heap.size+1) 3 1 (U (I ⟨wo.heap.size,0,J⟩) 256 256) 256 ((Ew (l.length+1) 0).map iv):=by rw[QY,<-B7];exact dt
  have ag:=Z ((aw.block w1.heap.size (Al G.o) (by simp)).trans G.o);have ah:=Bz hN aw;have ai:=Bz hA aw;have ak:=(hV.av (av':=λo=>o=I wo.heap.size) (λv l ho bd e=>by have:=(ho.lt _ e).2;omega)).kept aw (λv l ho bd=>by cases v.ownBlock<;>simp)
  have ax:=μ ar aw.size;have h3:=(E.lt wo.heap.size rfl).1;generalize wo.heap.size=gr at *;clear dt aw G hN hA hV hE ar;go_wp2_with (fail);go_loopw [32] (λi W=>∃ k:Nat,k<=256/\i=.int Χ k/\Ext w1 W/\w1.heap.size+1<=W.heap.size/\ϟ (W.heap[w1.heap.size]? = I (Β (Ak (idC 256) 256 vnx H) 84 (0,0)))/\W.ownsRow (w1.heap.size+1) 54 1 vnx vs.length vs/\OwnB W (w1.heap.size+1) H ((π s).map λq=>q==l.length)/\RowsO W (w1.heap.size+1) vs ((π s).map (Da l)) (λo=>o=I gr)/\W.ownsRow (w1.heap.size+1) 3 1 (U (I ⟨gr,0,J⟩) 256 256) 256 ((Ew (l.length+1) k).map iv))
   (λi _=>256-(intOf i).toNat)
  case atStart=>exact⟨0,by omega,rfl,aj,ax,ag,ah,ai,ak,E⟩
  clear aj ax ag ah ai ak E;obtain⟨k,hk,rfl,aj,ax,ag,ah,ai,ak,E⟩:=hrel;by_cases du:k<256
  ·have cq:=Aq 0 E (Jn _ _).symm k (by rw[Jn];exact du);have fq:=E.frozenAt k;obtain⟨be,T⟩:=Ba E k (l.length+1);rw[QZ _ _ du] at be;have cd:=aj.grown T (λk e=>by cases e;omega);have cf:=ah.kept T (Aj ah E (by decide));have ay:=ai.kept T (Aj ai E (by decide));have cg:=ak.kept T (λv l ho bd=>.inr (λe=>bd e));have cj:=Z ((T.block w1.heap.size (Al ag.o) (λe=>by have:=ϓ e;omega)).trans ag.o);have cl:=μ ax T.size;clear T aj ah ai ak ag E;go_wp2_with (fail);go_roundw
   case rel=>exact⟨k+1,by omega,by go_num,cd,cl,cj,cf,ay,cg,be⟩
   simp[intOf];omega
  obtain rfl:k=256:=by omega
  have bc:((256:Nat):Int)=256:=rfl;simp only[bc];clear bc;go_upto_if 43 with (fail)
  go_cut [] (λW=>Ext w1 W/\w1.heap.size+1<=W.heap.size/\ϟ (W.heap[w1.heap.size]? = I (Β (Ak (idC 256) 256 vnx H) 84 (0,0)))/\W.ownsRow (w1.heap.size+1) 54 1 vnx vs.length vs/\OwnB W (w1.heap.size+1) H ((π s).map λq=>q==l.length)/\RowsO W (w1.heap.size+1) vs ((π s).map (Da l)) (λo=>o=I gr)/\W.ownsRow (w1.heap.size+1) 3 1 (U (I ⟨gr,0,J⟩) 256 256) 256 ((Da l s).map iv))
  case first=>
   by_cases cm:s<l.length
   ·have e:=fs.o (by omega);subst e;have cx:=(b4.t aj).cell (ft.o s cm);have dv:=Z (CA l s cm);obtain⟨x,dw⟩:=Xq (l.getD s 0);rw[dw] at cx dv;have hx:=x.toNat_lt;clear dw;have cq:=Aq 0 E (Jn _ _).symm x.toNat (by rw[Jn];omega);have fq:=E.frozenAt x.toNat;obtain⟨be,T⟩:=Ba E x.toNat (s+1);rw[dv.o] at be;have cd:=aj.grown T (λk e=>by cases e;omega);have cf:=ah.kept T (Aj ah E (by decide));have ay:=ai.kept T (Aj ai E (by decide));have cg:=ak.kept T (λv l ho bd=>.inr (λe=>bd e));have cj:=Z ((T.block w1.heap.size (Al ag.o) (λe=>by have:=ϓ e;omega)).trans ag.o);have cl:=μ ax T.size;clear T aj ah ai ak ag E;go_wp2_with (fail);go_meet
    exact⟨cd,cl,cj,cf,ay,cg,be⟩
   rw[BZ l s cm] at E;go_wp2_with (fail);go_meet
   exact⟨aj,ax,ag,ah,ai,ak,E⟩
  case rest=>
   clear aj ax ag ah ai ak E;obtain⟨hE,ar,G,az,cn,hV,hQ⟩:=hcut;have c1:=(Τ wc w1.heap.size 257 _ _ _ G.o).trans (Kf _ _ _ _);have h4:vs.length<=64:=by rw[dr.o];omega
   go_upto_region 22 with (at_builtin;refine ϕ _ rfl _ _ 37 rfl (w1.heap.size+1) 54 i6 (U J 0 0) 1 24 Tryz.underlying37 fl fm fo fp rfl (by decide) vnx vs.length vs rfl (az.alloc _) _ 1 1 [U (I ⟨gr,0,J⟩) 256 256] rfl rfl (Õ _ _ _) (by simp[ξ]) (by decide) (by unfold ϐ;omega) (by omega) (by simp;omega) _ rfl ?_;intro g7 c7 X a1 a6 _ _;have bf:ϟ (X.heap[w1.heap.size]? = _):=Z ((a6.block w1.heap.size (Ξ (Al G.o) (by rw[Ο];omega)) (λe=>by have:=(az.lt _ e.symm).1;omega)).trans (Ag G.o _));have gi:=(Τ X w1.heap.size 257 _ _ _ bf.o).trans (Kf _ _ _ _);have f17:=Â X w1.heap.size 257 _ _ bf.o)
   clear c1 gi f17;have bw:=(hQ.alloc (Β #[U (I ⟨gr,0,J⟩) 256 256] 54)).kept a6 (Aj hQ az (by decide));have ct:=(cn.alloc (Β #[U (I ⟨gr,0,J⟩) 256 256] 54)).kept a6 (Aj cn az (by decide));have dz:=(hV.alloc (Β #[U (I ⟨gr,0,J⟩) 256 256] 54)).kept a6 (λv l ho _=>Aj ho (az.alloc (Β #[U (I ⟨gr,0,J⟩) 256 256] 54)) (by decide));have ea:=(hE.alloc (Β #[U (I ⟨gr,0,J⟩) 256 256] 54)).grown a6 (λk e=>by have:=(az.lt k e).1;omega);have eb:w1.heap.size+1<=X.heap.size:=by have:=a6.size;rw[Ο] at this;omega
   clear a6 hQ cn hV hE az G;have a1:X.ownsRow (w1.heap.size+1) 54 1 (U (I ⟨g7,0,J⟩) (vs.length+1) c7) (vs++[ό (I ⟨gr,0,J⟩) 256 256]).length (vs++[ό (I ⟨gr,0,J⟩) 256 256]):=by rw[Ν];exact a1
   obtain⟨row,ec⟩:=Xq (ό (I ⟨gr,0,J⟩) 256 256);rw[ec] at a1 bw;clear ec;obtain⟨aa,ed⟩:=Xq (ό (I ⟨g7,0,J⟩) (vs.length+1) c7);rw[ed] at a1;have bg:=Ca X w1.heap.size (Ak (idC 256) 256 aa H);have bh:X.setCell ⟨w1.heap.size,257,J⟩ aa=X.setRow w1.heap.size (Ak (idC 256) 256 aa H):=by rw[ϧ X _ _ _ _ _ _ bf.o,Th]
   have cu:=ea.setRow (Υ _) (Ak (idC 256) 256 aa H);have bz:=bw.kept bg (Az bw (by omega));have b0:=a1.kept bg (Az a1 (by omega));have an:=ct.kept bg (Az ct (by omega));have cv:=dz.kept bg (λv l ho _=>Az ho (by omega));have bj:=Z (Φ X w1.heap.size _ (Ak (idC 256) 256 aa H) _ _ bf.o);have ee:w1.heap.size+1<=(X.setRow w1.heap.size (Ak (idC 256) 256 aa H)).heap.size:=by rw[ì];exact eb
   rw[ed,bh];clear bg bw a1 ct dz ea eb bf bh;obtain⟨w8,cw⟩:=Xq (X.setRow w1.heap.size (Ak (idC 256) 256 aa H));rw[cw] at bz b0 an cv bj cu ee;rw[cw];clear cw;have k2:=(Τ w8 w1.heap.size 258 _ _ _ bj.o).trans (Hq _ _ _ _);obtain⟨bx,cy⟩:=Xq ((s==l.length));have h5:((s:Int)==(l.length:Int))=bx:=by
    rw[<-cy,ϴ];simp
    omega
   have gl:=Z cy;clear cy;have gm:((π s).map λq=>q==l.length).length<=64:=by simp;omega
   obtain⟨Ac,cz⟩:=Xq (((π s).map λq=>q==l.length));have gn:=Z cz;rw[cz] at an gm;clear cz;go_upto_region 23 with (at_builtin;refine ϕ _ rfl _ _ 38 rfl (w1.heap.size+1) 4 i4 (.bool Ε) 1 1 Tryz.underlying38 fe ff fg fh rfl (by decide) H Ac.length (Ac.map Δ.bool) rfl (an.alloc _) _ 1 1 [.bool bx] rfl rfl (Õ _ _ _) (by simp[ξ]) (by decide) (by unfold ϐ;omega) (by omega) (by simp;omega) _ rfl ?_;intro g9 c9 w9 ba a7 _ _;have bl:ϟ (w9.heap[w1.heap.size]? = _):=Z ((a7.block w1.heap.size (Ξ (Al bj.o) (by rw[Ο];omega)) (λe=>by have:=(an.lt _ e.symm).1;omega)).trans (Ag bj.o _));have gp:=(Τ w9 w1.heap.size 258 _ _ _ bl.o).trans (Hq _ _ _ _);have f29:=Â w9 w1.heap.size 258 _ _ bl.o)
   clear k2 gp f29;have c3:=(bz.alloc (Β #[.bool bx] 4)).kept a7 (Aj bz an (by decide));have c4:=(b0.alloc (Β #[.bool bx] 4)).kept a7 (Aj b0 an (by decide));have eh:=(cv.alloc (Β #[.bool bx] 4)).kept a7 (λv l ho _=>Aj ho (an.alloc (Β #[.bool bx] 4)) (by decide));have bm:=(cu.alloc (Β #[.bool bx] 4)).grown a7 (λk e=>by have:=(an.lt k e).1;omega);have ei:w1.heap.size+1<=w9.heap.size:=by have:=a7.size;rw[Ο] at this;omega
   have ba:OwnB w9 (w1.heap.size+1) (U (I ⟨g9,0,J⟩) (Ac.length+1) c9) (Ac++[bx]):=by show ϣ _ _ _ _ _ _ _;rw[Ν,ϥ];exact ba
   clear a7 bz b0 an cv bj cu ee;obtain⟨ao,ej⟩:=Xq (ό (I ⟨g9,0,J⟩) (Ac.length+1) c9);rw[ej] at ba;have bn:=Ca w9 w1.heap.size (Ak (idC 256) 256 aa ao);have bh:w9.setCell ⟨w1.heap.size,258,J⟩ ao=w9.setRow w1.heap.size (Ak (idC 256) 256 aa ao):=by rw[ϧ w9 _ _ _ _ _ _ bl.o,Ok]
   have ek:=bm.setRow (Υ _) (Ak (idC 256) 256 aa ao);have c5:=c3.kept bn (Az c3 (by omega));have en:=c4.kept bn (Az c4 (by omega));have c6:=ba.kept bn (Az ba (by omega));have c8:=eh.kept bn (λv l ho _=>Az ho (by omega));have eo:=Z (Φ w9 w1.heap.size _ (Ak (idC 256) 256 aa ao) _ _ bl.o);have ep:w1.heap.size+1<=(w9.setRow w1.heap.size (Ak (idC 256) 256 aa ao)).heap.size:=by rw[ì];exact ei
   rw[ej,bh];clear bn c3 c4 ba eh bm ei bl bh;obtain⟨da,db⟩:=Xq (w9.setRow w1.heap.size (Ak (idC 256) 256 aa ao));rw[db] at c5 en c6 c8 eo ek ep;rw[db];clear db;have er:OwnI da (w1.heap.size+1) row (Da l s):=by show ϣ _ _ _ _ _ _ _;rw[show (Da l s).length=256 by simp[Da]];exact c5
   have et:=(c8.av (av':=λ_=>False) (λv l _ _ e=>e)).snoc er (λe=>e);have gq:ϟ (RowsO da (w1.heap.size+1) (vs++[row]) ((π (s+1)).map (Da l)) (λ_=>False)):=Z (by rw[List.range_succ,ϥ];exact et)
   have gu:ϟ (OwnB da (w1.heap.size+1) ao ((π (s+1)).map λq=>q==l.length)):=Z (by rw[List.range_succ,ϥ,gn.o,List.map_singleton,gl.o];exact c6)
   have gv:ϟ ((vs++[row]).length=s+1):=Z (by rw[Ν,dr.o];rfl);clear c5 c8 er et c6;go_wp2;go_roundw
   case rel=>exact⟨s+1,vs++[row],aa,ao,by omega,by go_num,ek,ep,eo,en,gu.o,gq.o,gv⟩
   simp[intOf];omega
 obtain rfl:s=l.length+2:=by omega
 have eu:IsT wr (Ak (idC 256) 256 vnx H) (C1 l):=by refine⟨vnx,H,Ho (λb hb=>by show idC 256 b=b;simp[idC,hb]) _ _ _,?_,OwnB.bools (l:=(π (l.length+2)).map λq=>q==l.length) hA (by simp;omega)⟩;exact hV.rows hN (by simp;omega) (λj hj=>by rw[Eu _ _ _ _ (by simpa using hj)];simp[Da])
 have hC:=Z (Ly (C1 l) (CL l) (by rw[Ka];omega) _ wr eu);obtain⟨A6,ay⟩:=Xq (Ak (idC 256) 256 vnx H);have hiB:(Ι.info? 84).map (·.size)=I A6.size:=by rw[<-ay,Es];exact Ce
 rw[ay] at G hC;clear ay eu hN hA hV;have bo:=Z (hE.heap fv.o);have gx:=Z (b4.t hE);go_wp2_with (first
  | (refine Lr 84 (ε 5) G.o Tryz.underlying84 hiB ?_)
  | (go_at_call 39;(with_reducible refine hC.o.mono ?_);rintro e X ⟨v,r,rfl,hr,ew,ey,bm⟩;have HR:=Z hr;have ez:=Z ew;have HH:=Z ey;clear ew ey;obtain⟨e0,e1,e2,e3,e4,e5,e6,e7,rfl⟩:=hr.agg;clear hr;have bo:=Z (bm.heap bo.o))
  | (refine Sr 40 (ε 2) (ε 68) rfl bo.o Ae rfl (Aw _ _ _ rfl rfl rfl) ?_))
 refine ω (v:=ϙ #[.agg (dA (U e0 e1 e2) (U e3 r.n.length e4) (U e5 e6 e7)),.int Χ 0]) (Bi rfl _ _ _ _ _ _ _ rfl _ rfl (Φ X _ _ (dA (U e0 e1 e2) (U e3 r.n.length e4) (U e5 e6 e7)) 40 (0,0) bo.o) Ρ rfl Ae) rfl ?_;exact⟨r,⟨_,rfl,HR.o.setRow ez.o.val bo.o _⟩,ez.o,λu=>by rw[HH.o];exact CN l u,(gx.o.t bm).setRow (Υ _) _⟩
theorem ResOf.some_inv {W:Γ} {A:Array Δ} {k:Int} {q:Dfa} (h:ResOf W (Ω (ϙ #[.agg A,.int Χ k])) (I q)):k=0/\IsD W (.agg A) q:=by
 obtain⟨T,E,H⟩:=h;injection E with E
 injection E with E
 injection E with E
 injection E with h1 E
 injection E with G _
 injection G with _ G
 rw[<-h1] at H;exact⟨G,H⟩
theorem ResOf.none_inv {W:Γ} {A:Array Δ} {k:Int} (h:ResOf W (Ω (ϙ #[.agg A,.int Χ k])) J):k=2/\Δ.agg A=zD:=by
 unfold ResOf at h;injection h with h
 injection h with h
 injection h with h
 injection h with h1 h
 injection h with E _
 injection E with _ E
 exact⟨E,h1⟩
theorem EL {a:Dfa} {r:Option Dfa} (h:Hi a r) (d:Dfa) (hd:r=I d):Val d/\d.n.length<=64:=by subst hd;obtain⟨h1,E⟩:=Ts h (λ_=>Iff.rfl);exact⟨h1.1.val,E⟩
theorem Ks {d:Dfa}:∀ (n:Nat) (p q:Dfa),Val p->p.n.length<=64->Dn p d n (I q)->Val q/\q.n.length<=64
 | 0,p,q,H,T,h=>by
  injection (show I q=I p from h) with h
  subst h;exact⟨H,T⟩
 | n+1,p,q,_,_,⟨o,h1,E⟩=>by
  cases o with
  | none=>cases (show I q=J from E)
  | some G=>obtain⟨X,h4⟩:=Im h1 G rfl;exact Ks n G q X h4 E
theorem Z9 (w:Γ):By w (U J 0 0) []:=Sl.nil w _ _
theorem Fm (W:Γ) (A:Array Δ):Ext W ((W.alloc (Β #[U J 0 0,U J 0 0,U J 0 0] 40)).setRow W.heap.size A)/\((W.alloc (Β #[U J 0 0,U J 0 0,U J 0 0] 40)).setRow W.heap.size A).heap[W.heap.size]? = I (Β A 40 (0,0)):=
 ⟨((Κ W).alloc _).setRow (Υ _) A,Φ _ _ _ A _ _ (Ad W _)⟩
theorem GM (d:Dfa) (hd:Val d) (cb:d.n.length<=64) (G:Nat) (fp:G<=16) (hi:Int) (fq:hi=-1\/(G:Int)<=hi) (fs:hi<=16) (vd:Δ) (w:Γ) (hT:Tab w) (a6:0<w.heap.size) (cc:IsD w vd d) :
  Ϟ Ι 76 #[vd,iv G,.int Χ hi] w λe w'=>∃ r,ResOf w' e r/\E3 d G hi r/\Ext w w':=by
 have bd:=Z (λW (hW:Ext w W)=>hT.below hW.below a6);have cd:=Z cc;have cf:=Z hd;obtain⟨ek,en,eo,ep,er,et,eu,ev,rfl⟩:=cc.agg;obtain⟨Vd,b4⟩:=Xq (dA (U ek en eo) (U ep d.n.length er) (U et eu ev));have cg:(Ι.info? 40).map (·.size)=I Vd.size:=by rw[<-b4];exact Ae
 rw[b4] at cd;rw[b4];have cj:=((Κ w).alloc (Β Vd 40)).alloc (Β #[U J 0 0,U J 0 0,U J 0 0] 40);have H3:=Ag (Ad w (Β Vd 40)) (Β #[U J 0 0,U J 0 0,U J 0 0] 40);have E:=ύ w (Β Vd 40) (Β #[U J 0 0,U J 0 0,U J 0 0] 40);have f45:=λW (hW:Ext w W)=>Z (Ma [] (by simp) _ W (Z9 W))
 clear cc hd hT b4;go_enter Tryz.func76,Tryz.ntmps76;go_upto_region 1 with (fail)
 obtain⟨w1,ck⟩:=Xq ((w.alloc (Β Vd 40)).alloc (Β #[U J 0 0,U J 0 0,U J 0 0] 40));rw[ck] at cj H3 E;simp only[ck];clear ck;have H3:=Z H3;have E:=Z E;have cl:=Z cj;clear cj;go_upto_region 2 with (first
  | (go_at_call 16;(with_reducible refine (f45 _ cl.o).o.mono ?_);rintro e w2 ⟨re,H,dm,dn,b5⟩;obtain⟨ew,ey,ez,e0,e1,e2,e3,e4,e5,k1,rfl⟩:=H.form;obtain⟨rfl,dp⟩:=H.some_inv;have ar:=Z dp;have a7:=Z (show Fit re (λu=>u=[]) from⟨dm,dn⟩);have dq:=Z (cl.o.t b5);have H3:=Z (b5.heap H3.o);have E:=Z (b5.heap E.o);clear H dm dn b5 dp)
  | (refine Sr 40 (ε 8) (ε 16) rfl (Ad w2 (Β #[U J 0 0,U J 0 0,U J 0 0] 40)) Ae rfl (Aw _ _ _ rfl rfl rfl) ?_))
 obtain⟨VE,b6⟩:=Xq (dA (U ew ey ez) (U e0 e1 e2) (U e3 e4 e5));have dr:(Ι.info? 40).map (·.size)=I VE.size:=by rw[<-b6];exact Ae
 rw[b6] at ar;simp only[b6];clear b6;obtain⟨T,ab⟩:=Fm w2 VE;obtain⟨w3,cn⟩:=Xq ((w2.alloc (Β #[U J 0 0,U J 0 0,U J 0 0] 40)).setRow w2.heap.size VE);rw[cn] at T ab;simp only[cn];clear cn;have bg:=Z (dq.o.t T);have H3:=Z (T.heap H3.o);have E:=Z (T.heap E.o);have H8:=Z ab;have ar:=Z (ar.o.ext T);generalize w2.heap.size=g8 at *;clear T ab f45 cl dq;have fu:=Ia a7.o;have f146:=λW (hW:Ext w3 W)=>Z (Vh re d a7.o.1.val cf.o (by omega) cb G (by omega) _ _ W (bd.o W (bg.o.t hW)) (Ξ a6 (bg.o.t hW).size) (ar.o.ext hW) (cd.o.ext (bg.o.t hW)))
 have du:ϟ (∀ q r,Dn re d G q->Ek q (λp r=>if hi=G then r=I p else
  if hi<0 then ∃ s,Hi d s/\Ek s (λs r=>Cx p s r) r else ∃ o,Lim (λw=>d.has w=Α\/re.has w=Α) o/\Ek o (λo r=>Dn p o (hi-G).toNat r) r) r->E3 d G hi r):=
  Z λq r h1 h2=>⟨re,⟨a7.o.1,a7.o.2⟩,q,h1,h2⟩
 go_upto_region 5 with (first
  | (refine Lr 40 (ε 8) H8.o Ρ dr ?_)
  | (refine Lr 40 (ε 3) H3.o Ρ cg ?_)
  | (go_at_call 101;(with_reducible refine (f146 _ (Κ w3)).o.mono ?_);rintro e w4 ⟨q,H,ak,dv⟩;obtain⟨e7,e8,e9,fa,fb,fc,fe,ff,fg,k2,rfl⟩:=H.form;have X:=Z H;have HPow:=Z ak;have dw:=Z dv;clear H ak dv)
  | (refine Sr 40 (ε 10) (ε 27) rfl (Ad w4 (Β #[U J 0 0,U J 0 0,U J 0 0] 40)) Ae rfl (Aw _ _ _ rfl rfl rfl) ?_))
 obtain⟨VP,a8⟩:=Xq (dA (U e7 e8 e9) (U fa fb fc) (U fe ff fg));have an:(Ι.info? 40).map (·.size)=I VP.size:=by rw[<-a8];exact Ae
 have dx:VP.all (·.oneCell')=Α:=by rw[<-a8];exact Aw _ _ _ rfl rfl rfl
 have dy:ϟ ((3:Nat)=VP.size):=Z (by rw[<-a8];rfl);rw[a8] at X;simp only[a8];clear a8;obtain⟨T,ab⟩:=Fm w4 VP;obtain⟨w5,cp⟩:=Xq ((w4.alloc (Β #[U J 0 0,U J 0 0,U J 0 0] 40)).setRow w4.heap.size VP);rw[cp] at T ab;simp only[cp];clear cp;have bb:=dw.o.t T;have ah:=Z (bg.o.t bb);have H3:=Z (bb.heap H3.o);have E:=Z (bb.heap E.o);have H8:=Z (bb.heap H8.o);have ao:=Z ab;have X:=Z (X.o.ext T);have ar:=Z (ar.o.ext bb);have dz:=Z (cd.o.ext ah.o);generalize w4.heap.size=fw at *;clear T ab f146 bb bg dw;cases q with
 | none=>
  obtain⟨rfl,hz⟩:=X.o.none_inv;have HR:=Z (du.o J J HPow.o rfl);have HZ:=Z hz;clear hz;go_wp2_with (first
   | (refine Lr 40 (ε 10) ao.o Ρ an ?_)
   | (refine Sr 40 (ε 6) (ε 36) rfl E.o an dy.o dx ?_))
  refine ω (v:=ϙ #[.agg VP,.int Χ 2]) (Bi rfl _ _ _ _ _ _ _ rfl _ rfl (Φ w5 _ _ VP 40 (0,0) E.o) Ρ rfl an) rfl ?_;exact⟨J,by rw[HZ.o];rfl,HR.o,ah.o.setRow (by omega) _⟩
 | some p=>
  obtain⟨rfl,ea⟩:=X.o.some_inv;obtain⟨eb,cq⟩:=Ks G re p a7.o.1.val (by omega) HPow.o;have aw:=Z ea;have b8:=Z eb;have bj:=Z (λr h=>du.o (I p) r HPow.o h);clear ea eb;obtain⟨b1,fj⟩:=Xq ((hi==(G:Int)));have ec:b1=Α↔hi=G:=by rw[<-fj];simp
  have ed:=Z ec;clear ec;cases b1
  ·have ee:¬ hi=G:=λh=>by have:=ed.o.2 h;cases this
   have b9:=Z ee;clear ee;obtain⟨b2,fk⟩:=Xq (decide (hi<0));have ef:b2=Α↔hi<0:=by rw[<-fk];simp
   have eg:=Z ef;clear ef;cases b2
   ·have ct:¬ hi<0:=λh=>by have:=eg.o.2 h;cases this
    have fx:(G:Int)<=hi:=by omega
    obtain⟨m,hm⟩:∃ m:Nat,hi-G=(m:Int):=⟨(hi-G).toNat,by omega⟩;have HM:=Z hm;have fy:IntKind.i64.wrap (hi-(G:Int))=(m:Int):=by rw[hm];exact IntWalk.i64_in _ ⟨by omega,by omega⟩
    have fm:m<=1000:=by omega
    have f33:=λW (hW:Ext w5 W)=>Z (Pp d re cf.o a7.o.1.val cb (by omega) _ _ W (bd.o W (ah.o.t hW)) (Ξ a6 (ah.o.t hW).size) (dz.o.ext hW) (ar.o.ext hW))
    clear hm;go_upto_region 13 with (first
     | (refine Lr 40 (ε 3) H3.o Ρ cg ?_)
     | (refine Lr 40 (ε 8) H8.o Ρ dr ?_)
     | (go_at_call 74;(with_reducible refine (f33 _ (Κ w5)).o.mono ?_);rintro e w6 ⟨o,H,eh,bk⟩;obtain⟨cu,cv,cw,cy,cz,c3,c4,c5,c6,k3,rfl⟩:=H.form;have X:=Z H;have ca:=Z eh;have c7:=Z bk;clear H eh bk)
     | (refine Sr 40 (ε 13) (ε 58) rfl (Ad w6 (Β #[U J 0 0,U J 0 0,U J 0 0] 40)) Ae rfl (Aw _ _ _ rfl rfl rfl) ?_))
    obtain⟨VO,ai⟩:=Xq (dA (U cu cv cw) (U cy cz c3) (U c4 c5 c6));have c8:(Ι.info? 40).map (·.size)=I VO.size:=by rw[<-ai];exact Ae
    rw[ai] at X;simp only[ai];clear ai;obtain⟨T,ab⟩:=Fm w6 VO;obtain⟨w7,az⟩:=Xq ((w6.alloc (Β #[U J 0 0,U J 0 0,U J 0 0] 40)).setRow w6.heap.size VO);rw[az] at T ab;simp only[az];clear az;have af:=c7.o.t T;have aj:=Z (ah.o.t af);have E:=Z (af.heap E.o);have ao:=Z (af.heap ao.o);have c9:=Z ab;have X:=Z (X.o.ext T);have aw:=Z (aw.o.ext af);generalize w6.heap.size=fo at *;clear T ab f33 af;cases o with
    | none=>
     obtain⟨rfl,hz⟩:=X.o.none_inv;have da:=Z F1;have HR:=Z (bj.o J (by show if hi=G then _ else if hi<0 then _ else _;rw[if_neg b9.o,if_neg (show ¬ hi<0 by omega)];exact⟨J,ca.o,rfl⟩));clear hz;go_wp2_with (first
      | (refine Bj rfl 40 _ rfl #[U J 0 0,U J 0 0,U J 0 0] ?_ ?_;(simp;with_reducible exact da.o))
      | (refine Sr 40 (ε 6) (ε 62) rfl E.o Ae rfl Fa ?_))
     refine ω (v:=ϙ #[zD,.int Χ 2]) (Bi rfl _ _ _ _ _ _ _ rfl _ rfl (Φ w7 _ _ #[U J 0 0,U J 0 0,U J 0 0] 40 (0,0) E.o) Ρ rfl Ae) rfl ?_;exact⟨J,rfl,HR.o,aj.o.setRow (by omega) _⟩
    | some o=>
     obtain⟨rfl,bl⟩:=X.o.some_inv;have bm:=ca.o.1.val;have db:=ca.o.2.2;have f146:=Z (Vh p o b8.o bm cq db m fm _ _ w7 (bd.o w7 aj.o) (Ξ a6 aj.o.size) aw.o bl);clear bl bm;go_wp2_with (first
      | (refine Lr 40 (ε 10) ao.o Ρ an ?_)
      | (refine Lr 40 (ε 13) c9.o Ρ c8 ?_)
      | (go_at_call 101;(with_reducible refine f146.o.mono ?_);rintro e w8 ⟨r,H,ak,a1⟩;obtain⟨bn,bo,bp,bq,br,bt,bu,bw,bz,k4,rfl⟩:=H.form;have dd:=Z H;have b0:=Z ak;have E:=Z (a1.heap E.o);have de:=Z a1;clear H ak a1)
      | (refine Sr 40 (ε 6) (ε 70) rfl E.o Ae rfl (Aw _ _ _ rfl rfl rfl) ?_))
     refine ω (v:=ϙ #[.agg (dA (U bn bo bp) (U bq br bt) (U bu bw bz)),.int Χ k4]) (Bi rfl _ _ _ _ _ _ _ rfl _ rfl (Φ w8 _ _ (dA (U bn bo bp) (U bq br bt) (U bu bw bz)) 40 (0,0) E.o) Ρ rfl Ae) rfl ?_;refine⟨r,dd.o.setRow (λd' h=>by subst h;exact (Ks m p d' b8.o cq b0.o).1) E.o _,?_,(aj.o.t de.o).setRow (by omega) _⟩;refine bj.o r ?_;show if hi=G then _ else if hi<0 then _ else _
     rw[if_neg b9.o,if_neg (show ¬ hi<0 by omega)];exact⟨I o,ca.o,by show Dn p o (hi-G).toNat r;rw[HM.o,Int.toNat_natCast];exact b0.o⟩
   have ct:hi<0:=eg.o.1 rfl;have f147:=λW (hW:Ext w5 W)=>Z (EI d cf.o cb _ W (bd.o W (ah.o.t hW)) (Ξ a6 (ah.o.t hW).size) (dz.o.ext hW))
   have ei:=Z ct;clear ct;go_upto_region 9 with (first
    | (refine Lr 40 (ε 3) H3.o Ρ cg ?_)
    | (go_at_call 102;(with_reducible refine (f147 _ (Κ w5)).o.mono ?_);rintro e w6 ⟨o,H,ej,bk⟩;obtain⟨cu,cv,cw,cy,cz,c3,c4,c5,c6,k3,rfl⟩:=H.form;have X:=Z H;have dg:=Z ej;have c7:=Z bk;clear H ej bk)
    | (refine Sr 40 (ε 11) (ε 43) rfl (Ad w6 (Β #[U J 0 0,U J 0 0,U J 0 0] 40)) Ae rfl (Aw _ _ _ rfl rfl rfl) ?_))
   obtain⟨VO,ai⟩:=Xq (dA (U cu cv cw) (U cy cz c3) (U c4 c5 c6));have c8:(Ι.info? 40).map (·.size)=I VO.size:=by rw[<-ai];exact Ae
   rw[ai] at X;simp only[ai];clear ai;obtain⟨T,ab⟩:=Fm w6 VO;obtain⟨w7,az⟩:=Xq ((w6.alloc (Β #[U J 0 0,U J 0 0,U J 0 0] 40)).setRow w6.heap.size VO);rw[az] at T ab;simp only[az];clear az;have af:=c7.o.t T;have aj:=Z (ah.o.t af);have E:=Z (af.heap E.o);have ao:=Z (af.heap ao.o);have c9:=Z ab;have X:=Z (X.o.ext T);have aw:=Z (aw.o.ext af);generalize w6.heap.size=fo at *;clear T ab f147 af;cases o with
   | none=>
    obtain⟨rfl,hz⟩:=X.o.none_inv;have da:=Z F1;have HR:=Z (bj.o J (by show if hi=G then _ else if hi<0 then _ else _;rw[if_neg b9.o,if_pos ei.o];exact⟨J,dg.o,rfl⟩));clear hz;go_wp2_with (first
     | (refine Bj rfl 40 _ rfl #[U J 0 0,U J 0 0,U J 0 0] ?_ ?_;(simp;with_reducible exact da.o))
     | (refine Sr 40 (ε 6) (ε 47) rfl E.o Ae rfl Fa ?_))
    refine ω (v:=ϙ #[zD,.int Χ 2]) (Bi rfl _ _ _ _ _ _ _ rfl _ rfl (Φ w7 _ _ #[U J 0 0,U J 0 0,U J 0 0] 40 (0,0) E.o) Ρ rfl Ae) rfl ?_;exact⟨J,rfl,HR.o,aj.o.setRow (by omega) _⟩
   | some o=>
    obtain⟨rfl,bl⟩:=X.o.some_inv;obtain⟨bm,db⟩:=EL dg.o o rfl;have f31:=Z (Lp p o b8.o bm cq db _ _ w7 (bd.o w7 aj.o) (Ξ a6 aj.o.size) aw.o bl);clear bl bm;go_wp2_with (first
     | (refine Lr 40 (ε 10) ao.o Ρ an ?_)
     | (refine Lr 40 (ε 11) c9.o Ρ c8 ?_)
     | (go_at_call 18;(with_reducible refine f31.o.mono ?_);rintro e w8 ⟨r,H,ak,a1⟩;obtain⟨bn,bo,bp,bq,br,bt,bu,bw,bz,k4,rfl⟩:=H.form;have dd:=Z H;have b0:=Z ak;have E:=Z (a1.heap E.o);have de:=Z a1;clear H ak a1)
     | (refine Sr 40 (ε 6) (ε 52) rfl E.o Ae rfl (Aw _ _ _ rfl rfl rfl) ?_))
    refine ω (v:=ϙ #[.agg (dA (U bn bo bp) (U bq br bt) (U bu bw bz)),.int Χ k4]) (Bi rfl _ _ _ _ _ _ _ rfl _ rfl (Φ w8 _ _ (dA (U bn bo bp) (U bq br bt) (U bu bw bz)) 40 (0,0) E.o) Ρ rfl Ae) rfl ?_;refine⟨r,dd.o.setRow (λd' h=>(Im b0.o d' h).1) E.o _,?_,(aj.o.t de.o).setRow (by omega) _⟩;refine bj.o r ?_;show if hi=G then _ else if hi<0 then _ else _
    rw[if_neg b9.o,if_pos ei.o];exact⟨I o,dg.o,b0.o⟩
  have HR:=Z (bj.o (I p) (by show if hi=G then _ else _;rw[if_pos (ed.o.1 rfl)]));go_wp2_with (first
   | (refine Lr 40 (ε 10) ao.o Ρ an ?_)
   | (refine Sr 40 (ε 6) (ε 36) rfl E.o an dy.o dx ?_))
  refine ω (v:=ϙ #[.agg VP,.int Χ 0]) (Bi rfl _ _ _ _ _ _ _ rfl _ rfl (Φ w5 _ _ VP 40 (0,0) E.o) Ρ rfl an) rfl ?_;exact⟨I p,⟨_,rfl,IsD.setRow b8.o aw.o E.o _⟩,HR.o,ah.o.setRow (by omega) _⟩
open Go
section
variable {P:Program} {ops:Array Oper} {Q:Exit->Act->World->Prop}
def Cz (o:Ϭ) (a:ë):Δ:=match o.dst with|some d=>a.tmps.getD d δ|none=>δ
structure FInvP (ops:Array Ϭ) (R:Γ->Γ->Prop) (F:Nat->Δ->Γ->Prop) (Ne:Nat->Nat->Δ->Δ->Prop) (a0:ë) (w1:Γ) (listed:Array Bool) (a:ë) (w:Γ):Prop where
 ext:R w1 w
 defers:a.defers=a0.defers
 size:a.tmps.size=a0.tmps.size
 done:∀ i o,ops[i]? = I o->listed.getD i Ε=Α->F i (Cz o a) w
 rest:∀ d,(∀ i o,ops[i]? = I o->listed.getD i Ε=Α->o.dst≠I d)->a.tmps.getD d δ=a0.tmps.getD d δ
 ne:∀ i j oi oj,i≠j->ops[i]? = I oi->ops[j]? = I oj->listed.getD i Ε=Α->listed.getD j Ε=Α->Ne i j (Cz oi a) (Cz oj a)
def POp (P:Program) (ops:Array Ϭ) (Q:Exit->ë->Γ->Prop) (R:Γ->Γ->Prop) (F:Nat->Δ->Γ->Prop) (Ne:Nat->Nat->Δ->Δ->Prop) (a0:ë) (w1:Γ) (i:Nat):Prop:=
 ∀ o,ops[i]? = I o->∀ a w,R w1 w->(∀ j oj,ops[j]? = I oj->(∃ e∈o.after,Region.binds .any e=Α/\e.on=j)->F j (Cz oj a) w)->(∀ e,(∀ (j:Nat) (oj:Ϭ),ops[j]? = I oj->oj.dst≠I e)->a.tmps.getD e δ=a0.tmps.getD e δ)->Ϡ o (yielded ops a.tmps)=Α/\o.wp P a w (λE w'=>∃ v,(o.dst=J->v=δ)/\E=a.put o.dst v/\R w w'/\F i v w'/\∀ j u,j≠i->F j u w->(∀ k ok,ops[k]? = I ok->(∃ e∈o.after,Region.binds .any e=Α/\e.on=k)->k≠j->Ne k j (Cz ok a) u)->Ne i j v u) Q
def Fh (ops:Array Ϭ) (sz:Nat):Bool:=(π ops.size).all λi=>match ops[i]? with
 | none=>Ε
 | some o=>match o.dst with
  | none=>Α
  | some d=>decide (d<sz)&&(π ops.size).all λj=>decide (j=i)||match ops[j]? with|none=>Ε|some oj=>decide (oj.dst≠I d)
theorem Ik {sz:Nat} (h:Fh ops sz=Α) (i:Nat) (o:Ϭ) (G:ops[i]? = I o):∀ d,o.dst=I d->d<sz/\∀ j oj,j≠i->ops[j]? = I oj->oj.dst≠I d:=by
 unfold Fh at h;rw[Þ] at h;have hi:=(Ϙ.1 G).1;have h1:=h i (ώ.2 hi);rw[G] at h1;simp only at h1;intro d hd;rw[hd] at h1;simp only[ς,decide_eq_true_eq,Þ,Bool.or_eq_true,ώ] at h1;refine⟨h1.1,λj oj T H=>?_⟩;rcases h1.2 j (Ϙ.1 H).1 with E|E
 ·exact absurd E T
 rw[H] at E
 simpa using E
theorem I5 (a:ë) (d:Option Tmp) (v:Δ):(a.put d v).tmps.size=a.tmps.size/\(a.put d v).defers=a.defers:=by
 cases d with
 | none=>exact⟨rfl,rfl⟩
 | some d=>exact⟨Ms a d v,rfl⟩
theorem Md {sz:Nat} (hd:Fh ops sz=Α) {i:Nat} {o:Ϭ} (H:ops[i]? = I o) {a:ë} (T:a.tmps.size=sz) {v:Δ} (X:o.dst=J->v=δ) {j:Nat} {oj:Ϭ} (E:ops[j]? = I oj) :
  Cz oj (a.put o.dst v)=if j=i then v else Cz oj a:=by
 by_cases e:j=i
 ·subst e;rw[H] at E;injection E with E
  subst E;rw[if_pos rfl];unfold Cz;cases G:o.dst with
  | none=>exact (X G).symm
  | some d=>simp only;rw[D0 _ _ _ _ (by rw[T];exact (Ik hd j o H d G).1),if_pos rfl]
 rw[if_neg e];unfold Cz;cases aa:oj.dst with
 | none=>rfl
 | some dj=>
  simp only;cases G:o.dst with
  | none=>rfl
  | some d=>rw[D0 _ _ _ _ (by rw[T];exact (Ik hd i o H d G).1)];rw[if_neg (λh=>(Ik hd i o H d G).2 j oj e E (by rw[aa,h]))]
theorem QW {R:Γ->Γ->Prop} (a1:∀ x y z,R x y->R y z->R x z) {F:Nat->Δ->Γ->Prop} {Ne:Nat->Nat->Δ->Δ->Prop} (a6:∀ i j v u,Ne i j v u->Ne j i u v) (hF:∀ i v w w',F i v w->R w w'->F i v w') {a0:ë} {w1:Γ} {sz:Nat} (a8:a0.tmps.size=sz) (hd:Fh ops sz=Α) {listed:Array Bool} {a:ë} {w:Γ} (E:FInvP ops R F Ne a0 w1 listed a w)
  {i:Nat} (hi:i∈Region.ready .any ops listed) (H:POp P ops Q R F Ne a0 w1 i):wpOp P ops Q i (λa' w'=>FInvP ops R F Ne a0 w1 (listed.setIfInBounds i Α) a' w') a w:=by
 obtain⟨ba,o,X,ae⟩:=ý.1 hi;have ao:i<listed.size:=by
  rcases Nat.lt_or_ge i listed.size with h|h
  ·exact h
  simp[õ h] at ba
 have hg:∀ j,(listed.setIfInBounds i Α).getD j Ε=Α->j=i\/listed.getD j Ε=Α:=λj hj=>by
  by_cases e:i=j
  ·exact .inl e.symm
  rw[getD_set_ne Ε e] at hj;exact .inr hj
 obtain⟨hw,bc⟩:=H o X a w E.ext (λj oj G ⟨e,he,hb,bd⟩=>E.done j oj G (by rw[<-bd];exact ae e he hb)) (λe he=>E.rest e λj oj G _=>he j oj G);unfold wpOp;rw[X];simp only[hw,if_true];refine .inl (Ϭ.wp_mono (λa' w' h=>?_) bc);obtain⟨v,af,rfl,hE,hv,au⟩:=h;have has:a.tmps.size=sz:=by rw[E.size,a8]
 refine⟨a1 _ _ _ E.ext hE,by rw[(I5 a o.dst v).2];exact E.defers,by rw[(I5 a o.dst v).1];exact E.size,λj oj G ab=>?_,λe he=>?_,λj k oj ok aw G ad ab ax=>?_⟩
 ·rw[Md hd X has af G];by_cases e:j=i
  ·rw[if_pos e,e];exact hv
  rw[if_neg e];rcases hg j ab with h|h
  ·exact absurd h e
  exact hF _ _ _ _ (E.done j oj G h) hE
 ·have h1:(a.put o.dst v).tmps.getD e δ=a.tmps.getD e δ:=by
   cases ay:o.dst with
   | none=>rfl
   | some d=>rw[D0 _ _ _ _ (by rw[has];exact (Ik hd i o X d ay).1),if_neg];exact λh=>he i o X (by simp[ao]) (by rw[ay,h])
  rw[h1];refine E.rest e λj oj G ab=>he j oj G ?_
  by_cases e':i=j
  ·subst e';simp[ao]
  rw[getD_set_ne Ε e'];exact ab
 rw[Md hd X has af G,Md hd X has af ad];by_cases e1:j=i
 ·have T:k≠i:=λh=>aw (by rw[e1,h])
  rw[if_pos e1,if_neg T,e1];rcases hg k ax with h|h
  ·exact absurd h T
  exact au k _ T (E.done k ok ad h) (λq oq ah ⟨e,he,hb,ai⟩ aj=>E.ne q k oq ok aj ah ad (by rw[<-ai];exact ae e he hb) h)
 rw[if_neg e1];rcases hg j ab with h|ak
 ·exact absurd h e1
 by_cases T:k=i
 ·rw[if_pos T,T];exact a6 _ _ _ _ (au j _ e1 (E.done j oj G ak) (λq oq ah ⟨e,he,hb,ai⟩ aj=>E.ne q j oq oj aj ah G (by rw[<-ai];exact ae e he hb) ak))
 rw[if_neg T];rcases hg k ax with h|bf
 ·exact absurd h T
 exact E.ne j k oj ok aw G ad ak bf
theorem U7 {sz:Nat} (hd:Fh ops sz=Α) (a a0:ë) (X:a0.tmps.size=sz) (vs:Nat->Δ) (aa:∀ i o,ops[i]? = I o->vs i=Cz o a) (e:Nat):∀ k,k<=ops.size->((∃ i o,i<k/\ops[i]? = I o/\o.dst=I e)->(Bm ops vs k a0).tmps.getD e δ=a.tmps.getD e δ)/\((∀ i o,i<k->ops[i]? = I o->o.dst≠I e)->(Bm ops vs k a0).tmps.getD e δ=a0.tmps.getD e δ)
 | 0,_=>⟨fun⟨i,o,h,_⟩=>by omega,λ_=>rfl⟩
 | k+1,hk=>by
  obtain⟨h1,h2⟩:=U7 hd a a0 X vs aa e k (by omega);obtain⟨o,G⟩:∃ o,ops[k]? = I o:=⟨_,ϗ (by omega)⟩;have af:Bm ops vs (k+1) a0=(Bm ops vs k a0).put o.dst (vs k):=by show (Bm ops vs k a0).put ((ops[k]?).bind (·.dst)) (vs k)=_;rw[G];rfl
  have hg:(Bm ops vs (k+1) a0).tmps.getD e δ=if o.dst=I e then a.tmps.getD e δ else (Bm ops vs k a0).tmps.getD e δ:=by
   rw[af];cases ab:o.dst with
   | none=>simp[θ]
   | some d=>
    rw[D0 _ _ _ _ (by rw[(Kr vs a0 k).1,X];exact (Ik hd k o G d ab).1)];by_cases E:e=d
    ·subst E;rw[if_pos rfl,if_pos rfl,aa k o G];unfold Cz;rw[ab]
    rw[if_neg E,if_neg (λh=>E (ϓ h).symm)]
  rw[hg];constructor
  ·rintro⟨i,T,hi,H,ad⟩;by_cases E:o.dst=I e
   ·rw[if_pos E]
   rw[if_neg E];refine h1 ⟨i,T,?_,H,ad⟩;by_cases ag:i=k
   ·subst ag;rw[G] at H;injection H with H
    subst H;exact absurd ad E
   omega
  intro h;rw[if_neg (h k o (by omega) G)];exact h2 λi T hi=>h i T (by omega)
theorem QX {R:Γ->Γ->Prop} {F:Nat->Δ->Γ->Prop} {Ne:Nat->Nat->Δ->Δ->Prop} {a0:ë} {w1:Γ} {sz:Nat} (ah:a0.tmps.size=sz) (hd:Fh ops sz=Α) {listed:Array Bool} {a:ë} {w:Γ} (G:FInvP ops R F Ne a0 w1 listed a w) (T:∀ i,i<ops.size->listed.getD i Ε=Α) :
  ∃ vs:Nat->Δ,a=Bm ops vs ops.size a0/\(∀ i,i<ops.size->F i (vs i) w)/\∀ i j,i<ops.size->j<ops.size->i≠j->Ne i j (vs i) (vs j):=by
 obtain⟨vs,H⟩:∃ vs:Nat->Δ,∀ i o,ops[i]? = I o->vs i=Cz o a:=⟨λi=>match ops[i]? with|some o=>Cz o a|none=>δ,λi o E=>by simp only[E]⟩;have get:∀ i,i<ops.size->∃ o,ops[i]? = I o:=λi hi=>⟨_,ϗ hi⟩
 refine⟨vs,?_,λi hi=>?_,λi j hi hj ai=>?_⟩
 ·have hg:=λe=>U7 hd a a0 ah vs H e ops.size (Υ _)
  obtain⟨s1,s2⟩:=Kr (ops:=ops) vs a0 ops.size;have ht:a.tmps=(Bm ops vs ops.size a0).tmps:=by
   apply Array.ext
   ·rw[s1,G.size]
   intro e h1 h2;have he:a.tmps.getD e δ=(Bm ops vs ops.size a0).tmps.getD e δ:=by
    obtain⟨g1,g2⟩:=hg e;by_cases ad:∃ i o,i<ops.size/\ops[i]? = I o/\o.dst=I e
    ·exact (g1 ad).symm
    have ae:∀ i o,i<ops.size->ops[i]? = I o->o.dst≠I e:=λi o hi E ar=>ad ⟨i,o,hi,E,ar⟩
    rw[g2 ae];exact G.rest e λi o E _=>ae i o (Ϙ.1 E).1 E
   rw[Ϗ,Ϗ,ϗ h1,ϗ h2] at he;exact he
  have X:=G.defers;rw[<-s2] at X;generalize Bm ops vs ops.size a0=b at *;cases a;cases b
  simp only at ht X;rw[ht,X]
 ·obtain⟨o,E⟩:=get i hi;rw[H i o E];exact G.done i o E (T i hi)
 obtain⟨o,E⟩:=get i hi;obtain⟨o',ag⟩:=get j hj;rw[H i o E,H j o' ag];exact G.ne i j o o' ai E ag (T i hi) (T j hj)
theorem Vf {R:Γ->Γ->Prop} (ab:∀ x y z,R x y->R y z->R x z) {F:Nat->Δ->Γ->Prop} {Ne:Nat->Nat->Δ->Δ->Prop} (ad:∀ i j v u,Ne i j v u->Ne j i u v) (hF:∀ i v w w',F i v w->R w w'->F i v w') {a0:ë} {w1:Γ} {sz:Nat} (T:a0.tmps.size=sz) (hd:Fh ops sz=Α) (hE:Fg ops ops.size=Α)
  (ag:∀ i,i<ops.size->POp P ops Q R F Ne a0 w1 i) (ah:∀ (vs:Nat->Δ) (w':Γ),R w1 w'->(∀ i,i<ops.size->F i (vs i) w')->(∀ i j,i<ops.size->j<ops.size->i≠j->Ne i j (vs i) (vs j))->Q .normal (Bm ops vs ops.size a0) w') :
  ∀ (f:Nat) (listed:Array Bool) (a:ë) (w:Γ),listed.size=ops.size->FInvP ops R F Ne a0 w1 listed a w->unl ops.size listed=f->wpAny P .any ops Q f listed a w
 | 0,listed,a,w,X,E,hu=>by
  have ai:=Hl _ listed hu;obtain⟨vs,rfl,h1,h2⟩:=QX T hd E ai;refine⟨?_,ah vs w E.ext h1 h2⟩;refine List.eq_nil_iff_forall_not_mem.2 λi hi=>?_
  obtain⟨G,o,ho,_⟩:=ý.1 hi;have aq:=(Ϙ.1 ho).1;have:=ai i aq;have H:i<listed.size:=by omega
  rw[Ϗ,ϗ H] at G this;rw[Option.getD_some] at G this;rw[this] at G;cases G
 | f+1,listed,a,w,X,E,hu=>by
  obtain⟨k,hk,au,aw⟩:=Jg ops.size listed (by omega);have aj:=La hE X (Υ _) k hk aw au;refine⟨λh0=>(by rw[h0] at aj;cases aj),λi hi=>?_⟩;obtain⟨ak,o,ho,_⟩:=ý.1 hi;have an:=(Ϙ.1 ho).1;have H:i<listed.size:=by omega
  have ax:listed.getD i Ε=Ε:=by rw[Ϗ,ϗ H] at ak ⊢;exact ak
  refine wpOp_mono (λa' w' h=>Vf ab ad hF T hd hE ag ah f _ a' w' (by rw[Array.size_setIfInBounds];exact X) h ?_) (QW ab ad hF T hd E hi (ag i an));have:=Iu _ listed i an H ax;show unl ops.size (listed.setIfInBounds i Α)=f;omega
def I6 (ops:Array Ϭ) (sz:Nat):Bool:=Fh ops sz&&Fg ops ops.size
theorem CF {id:Nat} {a0:ë} {w:Γ} (n sz:Nat) (H:ops.size=n) (hm:P.follows .mixedOrders=Α) (G:I6 ops sz=Α) (T:a0.tmps.size=sz) (R:Γ->Γ->Prop) (X:∀ x,R x x) (aa:∀ x y z,R x y->R y z->R x z) (F:Nat->Δ->Γ->Prop) (Ne:Nat->Nat->Δ->Δ->Prop) (ab:∀ i j v u,Ne i j v u->Ne j i u v) (hF:∀ i v w w',F i v w->R w w'->F i v w')
  (ae:∀ i,i<n->POp P ops Q R F Ne a0 w.drew i) (af:∀ (vs:Nat->Δ) (w':Γ),R w.drew w'->(∀ i,i<n->F i (vs i) w')->(∀ i j,i<n->j<n->i≠j->Ne i j (vs i) (vs j))->Q .normal (Bm ops vs n a0) w'):(Code.region id ops Α).wp P Q a0 w:=by
 subst H;simp only[I6,ς] at G;refine wp_region_any hm (Vf aa ab hF T G.1 G.2 ae af _ _ a0 w.drew (by simp) ⟨X _,rfl,rfl,λi o _ E=>(by rw[ϛ] at E;cases E),λd _=>rfl,λi j _ _ _ _ _ E=>(by rw[ϛ] at E;cases E)⟩ ?_);have hu:∀ m,unl m (Array.replicate ops.size Ε)=m:=λm=>by
  induction m with
  | zero=>rfl
  | succ m ih=>rw[Fj,ih,ϛ];simp
 exact hu _
def Hf (ops:Array Ϭ) (i j dj:Nat):Bool:=(match ops[j]? with|some oj=>decide (oj.dst=I dj)|none=>Ε)&&ñ .any ops i j
def Np (ops:Array Ϭ) (i j:Nat):Bool:=(match ops[j]? with|some oj=>decide (oj.dst=J)|none=>Ε)&&ñ .any ops i j
def Mz (ops:Array Ϭ) (e:Nat):Bool:=(π ops.size).all λj=>match ops[j]? with|none=>Α|some oj=>decide (oj.dst≠I e)
theorem Vk {R:Γ->Γ->Prop} {F:Nat->Δ->Γ->Prop} {Ne:Nat->Nat->Δ->Δ->Prop} {a0:ë} {w1:Γ} {i:Nat} (o:Ϭ) (h0:ops.toList[i]? = I o) (hg:o.guard=J)
  (H:∀ a w,R w1 w->(∀ j dj,Hf ops i j dj=Α->F j (a.tmps.getD dj δ) w)->(∀ j,Np ops i j=Α->F j δ w)->(∀ e,Mz ops e=Α->a.tmps.getD e δ=a0.tmps.getD e δ)->
   o.wp P a w (λa' w'=>∃ v,(o.dst=J->v=δ)/\a'=a.put o.dst v/\R w w'/\F i v w'/\∀ j u,j≠i->F j u w->(∀ k X,Hf ops i k X=Α->k≠j->Ne k j (a.tmps.getD X δ) u)->Ne i j v u) Q):POp P ops Q R F Ne a0 w1 i:=by
 intro o' aa a w hE ae ag;rw[<-Ϲ,h0] at aa;injection aa with aa
 subst aa;have ho:ops[i]? = I o:=by rw[<-Ϲ];exact h0
 have ab:∀ j,ñ .any ops i j=Α->∃ e∈o.after,Region.binds .any e=Α/\e.on=j:=λj h=>by obtain⟨oi,ai,e,he,hb,aj⟩:=Region.waitsFor_spec h;have:oi=o:=ϓ (ai.symm.trans ho);subst this;exact⟨e,he,hb,aj⟩
 have ak:∀ j dj,Hf ops i j dj=Α->∃ oj,ops[j]? = I oj/\(∃ e∈o.after,Region.binds .any e=Α/\e.on=j)/\Cz oj a=a.tmps.getD dj δ:=λj dj h=>by
  unfold Hf at h;simp only[ς] at h;obtain⟨h1,G⟩:=h;cases E:ops[j]? with
  | none=>rw[E] at h1;cases h1
  | some oj=>rw[E] at h1;have T:oj.dst=I dj:=of_decide_eq_true h1;exact⟨oj,rfl,ab j G,by unfold Cz;rw[T]⟩
 refine⟨by simp[Ϡ,hg],Ϭ.wp_mono (λa' w' ⟨v,h1,G,h3,h4,h5⟩=>⟨v,h1,G,h3,h4,λj u ar hF hd=>h5 j u ar hF λk X hk ax=>by obtain⟨oj,e1,e2,e3⟩:=ak k X hk;have:=hd k oj e1 e2 ax;rw[e3] at this;exact this⟩) (H a w hE (λj dj h=>?_) (λj h=>?_) (λe h=>ag e λj oj E=>?_))⟩
 ·unfold Hf at h;simp only[ς] at h;obtain⟨h1,G⟩:=h;cases E:ops[j]? with
  | none=>rw[E] at h1;cases h1
  | some oj=>rw[E] at h1;have T:oj.dst=I dj:=of_decide_eq_true h1;have:=ae j oj E (ab j G);unfold Cz at this;rw[T] at this;exact this
 ·unfold Np at h;simp only[ς] at h;obtain⟨h1,G⟩:=h;cases E:ops[j]? with
  | none=>rw[E] at h1;cases h1
  | some oj=>rw[E] at h1;have T:oj.dst=J:=of_decide_eq_true h1;have:=ae j oj E (ab j G);unfold Cz at this;rw[T] at this;exact this
 unfold Mz at h;rw[Þ] at h;have:=h j (ώ.2 (Ϙ.1 E).1);rw[E] at this;exact of_decide_eq_true this
theorem I7 {R:Γ->Γ->Prop} {F:Nat->Δ->Γ->Prop} {Ne:Nat->Nat->Δ->Δ->Prop} {a0:ë} {w1:Γ} {i:Nat} (o:Ϭ) (d:Tmp) (h0:ops.toList[i]? = I o) (hd:o.dst=I d) (hg:o.guard=J)
  (H:∀ a w,R w1 w->(∀ j dj,Hf ops i j dj=Α->F j (a.tmps.getD dj δ) w)->(∀ j,Np ops i j=Α->F j δ w)->(∀ e,Mz ops e=Α->a.tmps.getD e δ=a0.tmps.getD e δ)->o.wp P a w (λE w'=>∃ v,E=a.put (I d) v/\R w w'/\F i v w'/\∀ j u,j≠i->F j u w->Ne i j v u) Q):POp P ops Q R F Ne a0 w1 i:=
 Vk o h0 hg λa w h1 T X h4=>Ϭ.wp_mono (λE w' ⟨v,e,h⟩=>⟨v,λG=>(by rw[hd] at G;cases G),by rw[hd];exact e,h.1,h.2.1,λj u a b _=>h.2.2 j u a b⟩) (H a w h1 T X h4)
theorem Vj {R:Γ->Γ->Prop} {F:Nat->Δ->Γ->Prop} {Ne:Nat->Nat->Δ->Δ->Prop} {a0:ë} {w1:Γ} {i:Nat} (o:Ϭ) (d:Tmp) (h0:ops.toList[i]? = I o) (hd:o.dst=I d) (hg:o.guard=J)
  (H:∀ a w,R w1 w->(∀ j dj,Hf ops i j dj=Α->F j (a.tmps.getD dj δ) w)->(∀ j,Np ops i j=Α->F j δ w)->(∀ e,Mz ops e=Α->a.tmps.getD e δ=a0.tmps.getD e δ)->o.wp P a w (λE w'=>∃ v,E=a.put (I d) v/\R w w'/\F i v w'/\∀ j u,j≠i->F j u w->(∀ k G,Hf ops i k G=Α->k≠j->Ne k j (a.tmps.getD G δ) u)->Ne i j v u) Q):POp P ops Q R F Ne a0 w1 i:=
 Vk o h0 hg λa w h1 X h3 h4=>Ϭ.wp_mono (λE w' ⟨v,e,h⟩=>⟨v,λT=>(by rw[hd] at T;cases T),by rw[hd];exact e,h⟩) (H a w h1 X h3 h4)
end
open Go Go.RowKit
theorem Eg {W:Γ} {base e g n E:Nat} {xs:List Δ} (h:W.ownsRow base e 1 (U (I ⟨g,0,J⟩) n E) n xs):∃ C,W.heap[g]? = I (Β C e (0,0))/\n<=C.size:=by
 obtain⟨_,⟨h1,_⟩|⟨T,X,cur,G,_,hg,hn,_,hs,_⟩⟩:=h
 ·cases h1
 injection G with h1 h2 H
 injection h1 with h1
 injection h1 with h1
 subst h1;subst H;exact⟨cur,hg,by omega⟩
theorem B2 {W:Γ} {base e size:Nat} {v:Δ} {n:Nat} {xs:List Δ} (h:W.ownsRow base e size v n xs) {g:Nat} {cs:Array Δ} {t:ϫ} {fr:Nat × Nat} (hg:W.heap[g]? = I (Β cs t fr)) (E:t≠e):v.ownBlock=J\/v.ownBlock≠I g:=by
 obtain⟨_,⟨rfl,_⟩|⟨G,aa,cur,rfl,_,H,_⟩⟩:=h
 ·exact .inl rfl
 refine .inr λT=>?_
 have:G=g:=ϓ T;subst this;rw[H] at hg;injection hg with hg
 injection hg with _ X _
 exact E X.symm
def Cp (f:Nat->Nat) (m k:Nat):List Nat:=(π m).map λq=>if q<k then f q else 0
theorem Ev (f:Nat->Nat) (m k:Nat):(Cp f m k).length=m:=by simp[Cp]
theorem Ll (f:Nat->Nat) (m:Nat):Cp f m 0=ζ m 0:=by
 apply Ϩ;intro i;simp only[Cp,υ,Ì,Nat.not_lt_zero,if_false];by_cases h:i<m
 ·simp[h]
 simp[h]
theorem Nl (f:Nat->Nat) (m:Nat):Cp f m m=(π m).map f:=by unfold Cp;exact List.map_congr_left λq E=>if_pos (ώ.1 E)
theorem Jm (f:Nat->Nat) (m k:Nat) (G:k<m):(Cp f m k).set k (f k)=Cp f m (k+1):=by
 apply Ϩ;intro i;rw[Ó,Ev];simp only[Cp,υ];by_cases e:k=i
 ·subst e;simp[G]
 by_cases hi:i<m
 ·simp only[ü hi,Option.map_some,e,if_false];by_cases E:i<k
  ·simp[E,Nat.lt_succ_of_lt E]
  have:¬ i<k+1:=by omega
  simp[E,this]
 simp[e,hi]
theorem Gq {P:Program} (w:Γ) {o:Ϭ} {a:ë} {K:ë->Γ->Prop} {Q:Exit->ë->Γ->Prop}
  (l c:Operand) (t:ϫ) (H:o.op=Op.makeSlice t l c)
  (base:Nat) (e:ϫ) (i:TypeInfo) (z:Δ) (size:Nat) (h1:P.underlying t=I (.slice e)) (T:P.info? e=I i) (X:i.zero=I z) (h4:i.size=size)
  (E G:IntKind) (L C:Int) (n:Nat) (hl:a.eval l=.int E L) (hc:a.eval c=.int G C) (hL:L=(n:Int)) (hC:C=(n:Int)) (b2:i.bytes*n<=281474976710656) (b3:n<=ϐ) (b4:base<=w.heap.size)
  (hK:∀ w',w'.ownsRow base e size (U (I ⟨w.heap.size,0,J⟩) n n) n (madeCells z.cells (n*size)).toList->w.grownBy w' J->K (a.put o.dst (U (I ⟨w.heap.size,0,J⟩) n n)) w') :
  o.wp P a w K Q:=by
 obtain⟨w',ag,r1,r2⟩:=run_make_full (P:=P) w base t e i z size h1 T X h4 E G n b2 b3 b4;subst hL;subst hC;unfold Ϭ.wp;simp[execOp,H,hl,hc,ag,Result.andThen];exact hK w' r1 r2
theorem UI (a E G:Option Addr) (n H T c X aa:Nat):Ι.built 40 [(0,U a n c),(1,U E H X),(2,U G T aa)]=I (dA (U a n c) (U E H X) (U G T aa)):=by kernel_rfl
theorem Lf:(Ι.info? 54).map (λi=>(i.zero,i.size,i.bytes))=I (I (U J 0 0),1,24):=by kernel_rfl
theorem Zs {w:Γ} {p:Addr} {v:Δ} (h:w.cell? p=I v):p.block<w.heap.size:=by
 rcases Nat.lt_or_ge p.block w.heap.size with h1|h1
 ·exact h1
 unfold Γ.cell? at h;rw[õ h1] at h;simp at h
theorem E9 {W:Γ} {base E e size:Nat} {v:Δ} {n:Nat} {xs:List Δ} (h:W.ownsRow base e size v n xs) (hb:E<=base):W.ownsRow E e size v n xs:=by
 obtain⟨h1,G|⟨g,H,cur,T,hg,rest⟩⟩:=h
 ·exact⟨h1,.inl G⟩
 exact⟨h1,.inr ⟨g,H,cur,T,μ hb hg,rest⟩⟩
def Hz (_ _:Nat) (_ _:Δ):Prop:=True
theorem Kv (i j:Nat) (v u:Δ) (_:Hz i j v u):Hz j i u v:=trivial
theorem Vm {l L:List Cls} (h:IsCells l L):Parts L:=⟨h.nz,h.dis,h.cover⟩
theorem TF {L:List Cls} (h:IsCells [] L):∃ c,L=[c]/\∀ b,b<256->c.getLsbD b=Α:=by
 have E:∀ c∈L,∀ b,b<256->c.getLsbD b=Α:=λc hc b hb=>by obtain⟨i,hi,G⟩:=N5 (h.nz c hc);exact (h.cls c hc i hi G b hb).2 (λx hx=>by cases hx)
 obtain⟨c,hc,_⟩:=h.cover 0 (by omega);cases L with
 | nil=>cases hc
 | cons a L=>
  cases L with
  | nil=>exact⟨a,rfl,E a (by simp)⟩
  | cons b L=>
   exfalso
   have hd:=(List.pairwise_cons.1 h.dis).1 b (by simp);exact hd 0 ⟨E a (by simp) 0 (by omega),E b (by simp) 0 (by omega)⟩
theorem JO (w:Γ) (vc:Δ) (c:Cls) (a:Bool) (X:Cs w vc [c]) :
  IsD (((w.alloc (Β #[.int Χ 0] 3)).alloc (Β #[U (I ⟨w.heap.size,0,J⟩) 1 1] 54)).alloc (Β #[.bool a] 4)) (.agg #[vc,U (I ⟨w.heap.size+1,0,J⟩) 1 1,U (I ⟨w.heap.size+1+1,0,J⟩) 1 1]) (D4 c a):=by
 have e1:=(Κ w).alloc (Β #[.int Χ 0] 3);have G:=Ag (Ag (Ad w (Β #[.int Χ 0] 3)) (Β #[U (I ⟨w.heap.size,0,J⟩) 1 1] 54)) (Β #[.bool a] 4);have H:=Ag (ύ w (Β #[.int Χ 0] 3) (Β #[U (I ⟨w.heap.size,0,J⟩) 1 1] 54)) (Β #[.bool a] 4);have E:=Ad ((w.alloc (Β #[.int Χ 0] 3)).alloc (Β #[U (I ⟨w.heap.size,0,J⟩) 1 1] 54)) (Β #[.bool a] 4);rw[Ο,Ο] at E;have T:=((e1.alloc (Β #[U (I ⟨w.heap.size,0,J⟩) 1 1] 54)).alloc (Β #[.bool a] 4));obtain⟨W,hW⟩:=Xq (((w.alloc (Β #[.int Χ 0] 3)).alloc (Β #[U (I ⟨w.heap.size,0,J⟩) 1 1] 54)).alloc (Β #[.bool a] 4));rw[hW] at G H E T ⊢;refine⟨vc,_,_,rfl,X.ext T,⟨[U (I ⟨w.heap.size,0,J⟩) 1 1],rfl,?_,λi hi=>?_⟩,?_⟩
 ·refine⟨by show (1:Nat)<=_;omega,.inr ⟨by show 0<1;omega,_,0,1,rfl,Al H,λi hi=>?_⟩⟩;obtain rfl:i=0:=by have:i<1*1:=hi;omega
  exact (Τ W _ 0 _ _ _ H).trans rfl
 ·obtain rfl:i=0:=by have:i<1:=hi;omega
  refine⟨by show (1:Nat)<=_;omega,.inr ⟨by show 0<1;omega,_,0,1,rfl,Al G,λi hi=>?_⟩⟩;obtain rfl:i=0:=by have:i<1*1:=hi;omega
  exact (Τ W _ 0 _ _ _ G).trans rfl
 refine⟨by show (1:Nat)<=_;omega,.inr ⟨by show 0<1;omega,_,0,1,rfl,Al E,λi hi=>?_⟩⟩;obtain rfl:i=0:=by have:i<1*1:=hi;omega
 exact (Τ W _ 0 _ _ _ E).trans rfl
theorem SI (w:Γ):Cs w (U J 0 0) []:=Sl.nil w _ _
theorem V7 (w:Γ) (hT:Tab w) (T:0<w.heap.size) :
  Ϟ Ι 72 #[] w λe w'=>∃ r,ResOf w' e (I r)/\Cano r/\(∀ u,r.has u=Ε)/\Ext w w':=by
 have aj:=Z (λW (G:Ext w W)=>hT.below G.below T);have X:=(Κ w).alloc (Β #[U J 0 0,U J 0 0,U J 0 0] 40);have H0:=Ad w (Β #[U J 0 0,U J 0 0,U J 0 0] 40);have f143:=λW (G:Ext w W)=>Z (Zq [] _ W (aj.o W G) (Ξ T G.size) (SI W))
 clear hT;go_enter Tryz.func72,Tryz.ntmps72;go_upto_region 1 with (fail)
 obtain⟨w1,ab⟩:=Xq (w.alloc (Β #[U J 0 0,U J 0 0,U J 0 0] 40));rw[ab] at X H0;simp only[ab];clear ab;have E:=Z H0;have ak:=Z X;clear H0 X;go_wp2_with (first
  | (go_at_call 95;(with_reducible refine (f143 _ ak.o).o.mono ?_);rintro e w2 ⟨vc,L,rfl,H,hP,-,ae⟩;obtain⟨c,ao,af⟩:=TF ((Xw []).perm hP);rw[ao] at H;obtain⟨ac,cc,be⟩:∃ ac cc,vc=U ac 1 cc:=Sl.len H;have hI:=JO w2 vc c Ε H;have ag:=Z ((((ak.o.t ae).alloc (Β #[.int Χ 0] 3)).alloc (Β #[U (I ⟨w2.heap.size,0,J⟩) 1 1] 54)).alloc (Β #[.bool Ε] 4));have HC:=Z af;have bg:=Z (Ry (D4 c Ε) (JQ c af Ε).val (by show (1:Nat)<=64;omega) _ _ (aj.o _ ag.o) (Ξ T ag.o.size) hI);subst be;have E:=Z (Ag (Ag (Ag (ae.heap E.o) (Β #[.int Χ 0] 3)) (Β #[U (I ⟨w2.heap.size,0,J⟩) 1 1] 54)) (Β #[.bool Ε] 4));clear hI ae H hP af ao L)
  | (go_at_call 80;(with_reducible refine bg.o.mono ?_);rintro e w9 ⟨r,ah,au,aw,ax⟩;obtain⟨ay,az,a1,a6,a7,a8,ba,bb,bc,k2,rfl⟩:=ah.form;have bk:=Z ah;have bd:=Z au;have bl:=Z aw;clear ah au aw;have E:=Z (ax.heap E.o))
  | (refine Sr 40 (ε 0) (ε 8) rfl E.o Ae rfl (Aw _ _ _ rfl rfl rfl) ?_))
 refine ω (v:=ϙ #[.agg (dA (U ay az a1) (U a6 a7 a8) (U ba bb bc)),.int Χ k2]) (Bi rfl _ _ _ _ _ _ _ rfl _ rfl (Φ w9 _ _ (dA (U ay az a1) (U a6 a7 a8) (U ba bb bc)) 40 (0,0) E.o) Ρ rfl Ae) rfl ?_;exact⟨r,bk.o.setRow (λd' h=>by injection h with h;subst h;exact bd.o.val) E.o _,bd.o,λx=>by rw[bl.o,JP c HC.o],(ag.o.t ax).setRow (by omega) _⟩
theorem TC (r:List Nat) (h0:0<r.length) (h1:r.length<=65536) (b o c:Nat) (w:Γ) (h:∀ s,s<r.length->w.cell? ⟨b,o+s,J⟩=I (iv (r.getD s 0))) :
  Ϟ Ι 99 #[U (I ⟨b,o,J⟩) r.length c] w λe w'=>∃ g G,e=Ω (U (I ⟨g,0,J⟩) r.length G)/\OwnI w' w.heap.size (U (I ⟨g,0,J⟩) r.length G) r/\Ext w w':=by
 obtain⟨j0,E,ae,af,ag⟩:=ϑ Ds;have H:=Γ.ownsRow_lit (base:=w.heap.size) (e:=3) (size:=1) w #[] 0 (Υ _) (by unfold ϐ;omega) rfl;have T:=(Κ w).alloc (Β #[] 3);have X:∀ j u,(r.map iv)[j]? = I u->(w.alloc (Β #[] 3)).cell? ((⟨b,o,J⟩:Addr).add j)=I u:=λj u E=>by
  obtain⟨ah,ai⟩:=List.getElem?_eq_some_iff.1 E;have aa:j<r.length:=by rwa [ι] at ah
  have e:(⟨b,o,J⟩:Addr).add j=⟨b,o+j,J⟩:=by
   unfold Addr.add;by_cases h0:j=0
   ·subst h0;rfl
   simp[h0]
  rw[e,T.cell (h j aa),<-ai,List.getElem_map,Ζ,Θ aa];rfl
 have HN:=Z X;clear X h;have au:∀ W,(binOp .eql 54 (U (I ⟨b,o,J⟩) r.length c) (U J 0 0)).run Ι W=.ok (.bool Ε) W:=λW=>Lib.run_eql_slice_nil W 54 3 _ _ _ _ _ ϝ
 go_enter Tryz.func99,Tryz.ntmps99;go_wp2_with (at_builtin;refine ϕ _ rfl _ _ 54 rfl w.heap.size 3 j0 (.int Χ 0) 1 8 ϝ E ae af ag rfl (by decide) _ 0 [] rfl H ⟨b,o,J⟩ r.length _ (r.map iv) rfl (by simp) HN.o (λu hu=>by obtain⟨b',_,rfl⟩:=List.mem_map.1 hu;rfl) h0 (by unfold ϐ;omega) (by omega) (by rw[Ο];omega) _ rfl ?_);intro g7 c7 w7 aq ab _ aw;have ar:Ext w w7:=T.grown ab (λk e=>by have:w.heap.size=k:=ϓ e;omega);clear H ab;go_wp2;go_ret;exact⟨g7,c7,rfl,aq,ar⟩
theorem SH (w:Γ) (c:Cls):Cs (w.alloc (Β (Ab c) 91)) (U (I ⟨w.heap.size,0,J⟩) 1 1) [c]:=by
 refine⟨by show (1:Nat)<=_;omega,.inr ⟨by show 0<1;omega,_,0,1,rfl,by rw[Ο];omega,λi hi=>?_⟩⟩;have hi:i<4:=by have:i<1*4:=hi;omega
 rw[Τ _ w.heap.size (0+i) _ _ _ (Ad w (Β (Ab c) 91)),Ϣ,Ij c i hi];have E:i / 4=0:=by omega
 have G:i % 4=i:=by omega
 show _=I (ϲ .u64 (wd ([c].getD (i / 4) 0#256) (i % 4)));rw[E,G];rfl
theorem Wo {α:Type} (L:List Cls) (F:Cls->α):(π L.length).map (λq=>F (L.getD q 0#256))=L.map F:=by
 apply Ϩ;intro i;simp only[υ];by_cases h:i<L.length
 ·simp[ü h,Ζ,Θ h]
 rw[û (by simp;omega),û (by omega)];rfl
def Dh (c k:Cls):Bool:=Fn c (Bx (Au k 256))
theorem PM {c:Cls} {L:List Cls} (h:IsCells [c] L) (b:Nat) (hb:b<256):Dh c (L.getD (Am L b) 0#256)=Α↔c.getLsbD b=Α:=by
 have E:=Vm h;have G:=cell_lt E hb;have X:=Gn E hb;have hm:L.getD (Am L b) 0#256∈L:=by rw[Ζ,Θ G];exact ϯ G
 generalize L.getD (Am L b) 0#256=k at *;obtain⟨h1,h2,H⟩:=Jf k (h.nz k hm);obtain⟨z,T⟩:∃ z:Nat,Bx (Au k 256)=z:=⟨(Bx (Au k 256)).toNat,by omega⟩;rw[T,Int.toNat_natCast] at H;have aa:z<256:=by omega
 have:=(h.cls k hm b hb X z aa).1 H;have ab:=this c (by simp);unfold Dh Fn;rw[T,Int.toNat_natCast,<-ab]
def Qd (E m:Nat) (vc:Δ):Nat->Δ->Γ->Prop
 | 0,v,_=>v=vc
 | 1,v,_=>v=iv m
 | 2,v,W=>∃ g,v=U (I ⟨g,0,J⟩) m m/\W.ownsRow E 3 1 v m ((ζ m 0).map iv)
 | 3,v,_=>v=vc
 | 4,v,_=>v=iv m
 | 5,v,W=>∃ g,v=U (I ⟨g,0,J⟩) m m/\W.ownsRow E 3 1 v m ((ζ m 0).map iv)
 | 6,v,W=>∃ g,v=U (I ⟨g,0,J⟩) m m/\W.ownsRow E 3 1 v m ((ζ m 0).map iv)
 | _,v,W=>∃ g,v=U (I ⟨g,0,J⟩) m m/\W.ownsRow E 3 1 v m ((ζ m 0).map iv)
def Qc (i j:Nat) (v u:Δ):Prop:=((i=2\/i=6)/\(j=5\/j=7)\/(j=2\/j=6)/\(i=5\/i=7))->v≠u
theorem MW (i j:Nat) (v u:Δ) (h:Qc i j v u):Qc j i u v:=λE=>(h (by omega)).symm
theorem MX (H m:Nat) (vc:Δ):∀ (i:Nat) (v:Δ) (w w':Γ),Qd H m vc i v w->Ext w w'->Qd H m vc i v w'
 | 0,_,_,_,h,_=>h
 | 1,_,_,_,h,_=>h
 | 2,_,_,_,⟨g,h1,E⟩,G=>⟨g,h1,Aa E G⟩
 | 3,_,_,_,h,_=>h
 | 4,_,_,_,h,_=>h
 | 5,_,_,_,⟨g,h1,E⟩,G=>⟨g,h1,Aa E G⟩
 | 6,_,_,_,⟨g,h1,E⟩,G=>⟨g,h1,Aa E G⟩
 | _+7,_,_,_,⟨g,h1,E⟩,G=>⟨g,h1,Aa E G⟩
theorem lt8 (i:Nat) (h:i<8):i=0\/i=1\/i=2\/i=3\/i=4\/i=5\/i=6\/i=7:=by omega
theorem Mw {W:Γ} {base m g:Nat} {u:Δ} {xs:List Δ} (hu:u=U (I ⟨g,0,J⟩) m m) (G:W.ownsRow base 3 1 u m xs) (n c:Nat):ό (I ⟨W.heap.size,0,J⟩) n c≠u:=by
 intro e;rw[hu] at e G;injection e with E _ _
 injection E with E
 injection E with E _ _
 have:=(G.lt g rfl).2;omega
theorem MV (c:Cls) (w:Γ) (hT:Tab w) (bp:0<w.heap.size) :
  Ϟ Ι 73 #[.agg (Ab c)] w λe w'=>∃ r,ResOf w' e (I r)/\Cano r/\(∀ u,r.has u=Α↔∃ x:UInt8,u=[x]/\c.getLsbD x.toNat=Α)/\Ext w w':=by
 have cu:=Z (λW (hW:Ext w W)=>hT.below hW.below bp);have de:=((Κ w).alloc (Β (Ab c) 91)).alloc (Β #[U J 0 0,U J 0 0,U J 0 0] 40);have H1:=Ag (Ad w (Β (Ab c) 91)) (Β #[U J 0 0,U J 0 0,U J 0 0] 40);have H2:=ύ w (Β (Ab c) 91) (Β #[U J 0 0,U J 0 0,U J 0 0] 40);have f105:=λW=>Z (FL c W)
 have e0:=Tn c;clear hT;go_enter Tryz.func73,Tryz.ntmps73;go_upto_region 1 with (fail)
 obtain⟨w1,dh⟩:=Xq ((w.alloc (Β (Ab c) 91)).alloc (Β #[U J 0 0,U J 0 0,U J 0 0] 40));rw[dh] at de H1 H2;simp only[dh];clear dh;have ay:=Z H1;have ae:=Z H2;have dk:=Z de;clear H1 H2 de;obtain⟨bz,gn⟩:=Xq (((sz c:Int)==0));have e3:bz=Α↔c=0#256:=by rw[<-gn,<-e0];simp
 have gp:=Z e3;clear e3 e0;cases bz
 ·go_upto_region 4 with (first
   | (refine Lr 91 (ε 1) ay.o ϋ Bg ?_)
   | (go_at_call 96;(with_reducible refine (f105 _).o.mono ?_);rintro e w2 ⟨rfl,ba⟩;have bg:=Z (dk.o.t ba);have ay:=Z (ba.heap ay.o);have ae:=Z (ba.heap ae.o);clear ba)
   | (go_at_call 95;(with_reducible refine (Zq [c] _ _ (cu.o _ (bg.o.alloc (Β (Ab c) 91))) (Ξ bp (bg.o.alloc (Β (Ab c) 91)).size) (SH w2 c)).mono ?_);rintro e E ⟨vc,L,rfl,e4,hP,-,bo⟩;have e6:=Z ((Xw [c]).perm hP);have cv:=Z e4;have ao:=((Κ w2).alloc (Β (Ab c) 91)).trans bo;have e7:=Z (bg.o.t ao);have ay:=Z (ao.heap ay.o);have ae:=Z (ao.heap ae.o);clear bo ao e4 hP))
  have cw:=Vm e6.o;have e8:=cw.pos;have ik:=cw.le;obtain⟨X,oc,cc,rfl,e9⟩:=Ü cv.o e8;have dn:=Z e9;have dp:=Z cw;have fa:=Ad (E.alloc (Β #[.bool Ε,.bool Α,.bool Ε] 4)) (Β #[U J 0 0,U J 0 0,U J 0 0] 40);clear e9 cw;generalize hm:L.length=m at *;have HM:=Z hm;clear hm;go_upto_region 5 with (first
   | (refine Sr 40 (ε 5) (ε 21) rfl fa Ae rfl (Aw _ _ _ rfl rfl rfl) ?_))
  clear fa;have ao:=((Κ E).alloc (Β #[.bool Ε,.bool Α,.bool Ε] 4)).alloc (Β #[U (I ⟨X,oc,J⟩) m cc,U J 0 0,U (I ⟨E.heap.size,0,J⟩) 3 3] 40);have HA:=Ag (Ad E (Β #[.bool Ε,.bool Α,.bool Ε] 4)) (Β #[U (I ⟨X,oc,J⟩) m cc,U J 0 0,U (I ⟨E.heap.size,0,J⟩) 3 3] 40);have H5:=ύ E (Β #[.bool Ε,.bool Α,.bool Ε] 4) (Β #[U (I ⟨X,oc,J⟩) m cc,U J 0 0,U (I ⟨E.heap.size,0,J⟩) 3 3] 40);obtain⟨w4,c3⟩:=Xq ((E.alloc (Β #[.bool Ε,.bool Α,.bool Ε] 4)).alloc (Β #[U (I ⟨X,oc,J⟩) m cc,U J 0 0,U (I ⟨E.heap.size,0,J⟩) 3 3] 40));have il:w4.heap.size=E.heap.size+1+1:=by rw[<-c3,Ο,Ο]
  rw[c3] at ao HA H5;simp only[c3];clear c3;have HA:=Z HA;have H5:=Z H5;have gq:=Z (e7.o.t ao);have gu:=cv;have gv:=ae;have gw:=Z ao;have dn:=Z (λi hi=>ao.cell (dn.o i hi));have cv:=Z (cv.o.ext ao);have ay:=Z (ao.heap ay.o);have ae:=Z (ao.heap ae.o);clear ao f105 bg dk;obtain⟨i0,hi,fc,fe,ff⟩:=ϑ Ds;refine CF 8 60 rfl (by kernel_rfl) (by kernel_rfl) rfl Ext Κ (λ_ _ _ h k=>h.trans k) (Qd w4.heap.size m (U (I ⟨X,oc,J⟩) m cc)) Qc MW (MX _ _ _) (λi gx=>?_) (λvs w5 fg hF hN=>?_)
  ·have fj:=(Κ w4).drew;rcases lt8 i gx with rfl|rfl|rfl|rfl|rfl|rfl|rfl|rfl
   ·refine I7 _ _ rfl rfl rfl λc W hW aq bh a6=>?_
    have h3:c.tmps.getD 4 δ=U (I ⟨X,oc,J⟩) m cc:=a6 4 (by kernel_rfl);go_simp;exact⟨_,rfl,Κ W,rfl,λj u _ _ h=>by omega⟩
   ·refine I7 _ _ rfl rfl rfl λc W hW aq bh a6=>?_
    have h3:c.tmps.getD 22 δ=U (I ⟨X,oc,J⟩) m cc:=aq 0 22 (by kernel_rfl);go_simp;exact⟨_,rfl,Κ W,rfl,λj u _ _ h=>by omega⟩
   ·refine I7 _ _ rfl rfl rfl λc W hW aq bh a6=>?_
    have h3:c.tmps.getD 23 δ=iv m:=aq 1 23 (by kernel_rfl);refine Gq W _ _ 54 rfl w4.heap.size 3 i0 (.int Χ 0) 1 ϝ hi fc fe Χ Χ _ _ m h3 h3 rfl rfl (by rw[ff];omega) (by unfold ϐ;omega) (fj.t hW).size ?_;intro W' dq bd;refine⟨_,rfl,(Κ W).grown bd (λk e=>by cases e),⟨_,rfl,by rw[<-B7];exact dq⟩,λj u _ hu hj=>?_⟩;have dt:j=5\/j=7:=by omega
    rcases dt with rfl|rfl
    ·obtain⟨g',bj,bk⟩:=hu;exact Mw bj bk _ _
    obtain⟨g',bj,bk⟩:=hu;exact Mw bj bk _ _
   ·refine I7 _ _ rfl rfl rfl λc W hW aq bh a6=>?_
    have h3:c.tmps.getD 4 δ=U (I ⟨X,oc,J⟩) m cc:=a6 4 (by kernel_rfl);go_simp;exact⟨_,rfl,Κ W,rfl,λj u _ _ h=>by omega⟩
   ·refine I7 _ _ rfl rfl rfl λc W hW aq bh a6=>?_
    have h3:c.tmps.getD 25 δ=U (I ⟨X,oc,J⟩) m cc:=aq 3 25 (by kernel_rfl);go_simp;exact⟨_,rfl,Κ W,rfl,λj u _ _ h=>by omega⟩
   ·refine I7 _ _ rfl rfl rfl λc W hW aq bh a6=>?_
    have h3:c.tmps.getD 26 δ=iv m:=aq 4 26 (by kernel_rfl);refine Gq W _ _ 54 rfl w4.heap.size 3 i0 (.int Χ 0) 1 ϝ hi fc fe Χ Χ _ _ m h3 h3 rfl rfl (by rw[ff];omega) (by unfold ϐ;omega) (fj.t hW).size ?_;intro W' dq bd;refine⟨_,rfl,(Κ W).grown bd (λk e=>by cases e),⟨_,rfl,by rw[<-B7];exact dq⟩,λj u _ hu hj=>?_⟩;have dt:j=2\/j=6:=by omega
    rcases dt with rfl|rfl
    ·obtain⟨g',bj,bk⟩:=hu;exact Mw bj bk _ _
    obtain⟨g',bj,bk⟩:=hu;exact Mw bj bk _ _
   ·refine Vj _ _ rfl rfl rfl λc W hW aq bh a6=>?_
    obtain⟨g,h3,h4⟩:∃ g,c.tmps.getD 24 δ=U (I ⟨g,0,J⟩) m m/\W.ownsRow w4.heap.size 3 1 (c.tmps.getD 24 δ) m ((ζ m 0).map iv):=aq 2 24 (by kernel_rfl);rw[h3] at h4;refine Cy (v:=U (I ⟨g,0,J⟩) m m) (w':=W) ?_ ?_
    ·simp only[execOp,ß,h3];rfl
    exact⟨_,rfl,Κ W,⟨g,rfl,h4⟩,λj u gy _ hd hj=>by have:=hd 2 24 (by kernel_rfl) (by omega) (by omega);rw[h3] at this;exact this⟩
   refine Vj _ _ rfl rfl rfl λc W hW aq bh a6=>?_
   obtain⟨g,h3,h4⟩:∃ g,c.tmps.getD 27 δ=U (I ⟨g,0,J⟩) m m/\W.ownsRow w4.heap.size 3 1 (c.tmps.getD 27 δ) m ((ζ m 0).map iv):=aq 5 27 (by kernel_rfl);rw[h3] at h4;refine Cy (v:=U (I ⟨g,0,J⟩) m m) (w':=W) ?_ ?_
   ·simp only[execOp,ß,h3];rfl
   exact⟨_,rfl,Κ W,⟨g,rfl,h4⟩,λj u gy _ hd hj=>by have:=hd 5 27 (by kernel_rfl) (by omega) (by omega);rw[h3] at this;exact this⟩
  have v0:vs 0=U (I ⟨X,oc,J⟩) m cc:=hF 0 (by omega);have v1:vs 1=iv m:=hF 1 (by omega);obtain⟨g2,v2,-⟩:∃ g,vs 2=U (I ⟨g,0,J⟩) m m/\_:=hF 2 (by omega);have v3:vs 3=U (I ⟨X,oc,J⟩) m cc:=hF 3 (by omega);have v4:vs 4=iv m:=hF 4 (by omega);obtain⟨g5,v5,-⟩:∃ g,vs 5=U (I ⟨g,0,J⟩) m m/\_:=hF 5 (by omega);obtain⟨g6,v6,G⟩:∃ g,vs 6=U (I ⟨g,0,J⟩) m m/\_:=hF 6 (by omega);obtain⟨T,v7,H⟩:∃ g,vs 7=U (I ⟨g,0,J⟩) m m/\_:=hF 7 (by omega);have dv:g6≠T:=λe=>hN 6 7 (by omega) (by omega) (by omega) (by omega) (by rw[v6,v7,e])
  rw[v6] at G;rw[v7] at H;have dw:=(Κ w4).drew.t fg;simp only[Bm,v0,v1,v2,v3,v4,v5,v6,v7,List.getElem?_toArray,List.getElem?_cons_zero,List.getElem?_cons_succ,Option.bind_some,θ,Η,Μ,Λ];clear hF hN v0 v1 v2 v3 v4 v5 v6 v7 fg;have fq:=dw.size;have hA:Cp (λq=>if Dh c (L.getD q 0#256) then 1 else 2) m 0=ζ m 0:=Ll _ _;have hB:Cp (λ_=>2) m 0=ζ m 0:=Ll _ _;rw[<-hA] at G;rw[<-hB] at H;clear hA hB;go_wp2_with (fail);go_loopw [30] (λvk W=>∃ k:Nat,k<=m/\vk=.int Χ k/\Ext w4 W/\w4.heap.size<=W.heap.size/\W.ownsRow w4.heap.size 3 1 (U (I ⟨g6,0,J⟩) m m) m ((Cp (λq=>if Dh c (L.getD q 0#256) then 1 else 2) m k).map iv)/\W.ownsRow w4.heap.size 3 1 (U (I ⟨T,0,J⟩) m m) m ((Cp (λ_=>2) m k).map iv))
   (λvk _=>m-(intOf vk).toNat)
  case atStart=>exact⟨0,by omega,rfl,dw,fq,G,H⟩
  clear dw fq G H;obtain⟨k,hk,rfl,hE,gz,G,H⟩:=hrel;by_cases be:k<m
  ·obtain⟨a0,a1,a2,a3⟩:=Jr (W:=wr) (λi hi=>hE.cell (dn.o i (by rw[<-HM.o];exact hi))) k (by rw[HM.o];exact be);obtain⟨K,hK⟩:=Xq (L.getD k 0#256);rw[hK] at a0 a1 a2 a3;have fx:K≠0#256:=by rw[<-hK];exact dp.o.nz _ (by rw[Ζ,Θ (by rw[HM.o];exact be)];exact ϯ _)
   obtain⟨ix,iy,-⟩:=Jf K fx;obtain⟨z,hz⟩:∃ z:Nat,Bx (Au K 256)=z:=⟨(Bx (Au K 256)).toNat,by omega⟩;have ha:=Z hK;clear hK fx;go_upto_region 9 with (fail)
   obtain⟨wz,c8⟩:=Xq (wr.alloc (Β (Ab K) 91));have c9:Ext wr wz:=c8▸(Κ wr).alloc _;have H9:=show wz.heap[wr.heap.size]? = I (Β (Ab K) 91 (0,0)) from c8▸Ad wr _;simp only[c8];clear c8 a0 a1 a2 a3;have iz:w4.heap.size<=wr.heap.size:=gz;generalize wr.heap.size=g9 at *;have G:=Aa G c9;have H:=Aa H c9;have hE:=hE.t c9;have c6:=Aq 0 G (Ev _ _ _).symm k (by rw[Ev];exact be);have r6:=G.frozenAt k;obtain⟨ea,ax⟩:=Ba G k 2;rw[show iv 2=ϲ Χ 2 from rfl] at ea ax;have da:=H.kept ax (.inr λe=>dv (ϓ e).symm);have c7:=Aq 0 da (Ev _ _ _).symm k (by rw[Ev];exact be);have r7:=da.frozenAt k;obtain⟨bt,bu⟩:=Ba da k 2;rw[show iv 2=ϲ Χ 2 from rfl] at bt bu;rw[Jm (λ_=>2) _ _ be] at bt;have eb:=ea.kept bu (.inr λe=>dv (ϓ e));have ga:w4.heap.size<=g6:=(G.lt g6 rfl).1;have hn:w4.heap.size<=T:=(H.lt T rfl).1;have ho:g9≠g6:=λe=>by
    obtain⟨C,hC,-⟩:=Eg G;rw[<-e,H9] at hC;injection hC with h1
    injection h1 with _ h2 _
    exact absurd h2 (by decide)
   have hp:g9≠T:=λe=>by
    obtain⟨C,hC,-⟩:=Eg H;rw[<-e,H9] at hC;injection hC with h1
    injection h1 with _ h2 _
    exact absurd h2 (by decide)
   have H9:=(ax.block g9 (Al H9) (by simp[ho])).trans H9;have H9:=(bu.block g9 (Al H9) (by simp[hp])).trans H9;have hE:=(hE.grown ax (λk e=>by cases e;exact ga)).grown bu (λk e=>by cases e;exact hn);clear ax bu G H ea da c9;go_upto_region 10 with (fail)
   clear c6 r6 c7 r7;obtain⟨wy,ec⟩:=Xq ((wz.setCell ⟨g6,k,J⟩ (.int Χ 2)).setCell ⟨T,k,J⟩ (.int Χ 2));rw[ec] at eb bt H9 hE;rw[ec];clear ec;have H9:=Z H9;have ed:=gq.o.t hE;have f144:=λW (hW:Ext wy W)=>Z ((Qe K W (cu.o W (ed.t hW)) (Ξ bp (ed.t hW).size)).mono (R':=λe w'=>e=Ω (.int Χ (z:Int))/\Ext W w') λe w' ⟨h1,h2,_⟩=>⟨by rw[h1,hz],h2⟩)
   have f131:=λW=>Z (Yc c (z:Int) (by omega) (by omega) W)
   have gb:(if Dh c (L.getD k 0#256) then 1 else 2:Nat)=if Fn c (z:Int) then 1 else 2:=by rw[ha.o];unfold Dh;rw[hz]
   have gd:=Z gb;have hq:IntKind.u8.wrap (z:Int)=(z:Int):=IntWalk.u8_in _ ⟨by omega,by omega⟩;obtain⟨bx,ee⟩:=Xq (Fn c (z:Int));rw[ee] at f131;have gf:=Z ee;have hr:=Z (hE.heap ay.o);clear gb ee hz ed;refine Bq 4 [(0,Α),(1,Α),(2,Ε),(3,Α),(4,Ε)] (by kernel_rfl) (by kernel_rfl) (λ_ _ _ _ h=>h) (λV=>Ext wy V) (Κ wy).drew ?_;have b4:=(Κ wy).drew;obtain⟨wx,ef⟩:=Xq (wy.drew);rw[ef] at b4;rw[ef];clear ef;refine Ai (v:=.agg (Ab c)) rfl rfl (λV hV=>?_) ?_
   ·exact Ei 91 (ε 1) rfl w.heap.size rfl _ _ _ _ (hV.heap hr.o) ϋ rfl Bg
   simp only[θ,Η,Μ,Λ];refine Ai (v:=.agg (Ab K)) rfl rfl (λV hV=>?_) ?_
   ·exact Ei 91 (ε 9) rfl g9 rfl _ _ _ _ (hV.heap H9.o) ϋ rfl Bg
   simp only[θ,Η,Μ,Λ];refine Ao rfl (λKk hK=>?_);go_simp
   (with_reducible refine (f144 wx b4).o.mono ?_)
   rintro e w7 ⟨rfl,bo⟩;refine hK _ _ (λ_=>b4.t bo) ?_;clear hK Kk;refine Ai (v:=.int .u8 (z:Int)) rfl rfl (λV _=>?_) ?_
   ·go_simp
   simp only[θ,Η,Μ,Λ];refine Ao rfl (λKk hK=>?_);go_simp
   (with_reducible refine (f131 w7).o.mono ?_)
   rintro e w8 ⟨rfl,gg⟩;refine hK _ _ (λh=>absurd h (by omega)) ?_;clear hK Kk;refine Bn ?_;have db:=(b4.t bo).trans gg;have bf:=Aa eb db;have b5:=Aa bt db;have a7:=hE.t db;have gi:=a7.size;clear eb bt hE b4 bo gg db f131 f144 hq;cases bx
   ·have e2:(Cp (λq=>if Dh c (L.getD q 0#256) then 1 else 2) m k).set k 2=Cp (λq=>if Dh c (L.getD q 0#256) then 1 else 2) m (k+1):=by
     rw[<-Jm _ _ _ be]
     congr 1
     show 2=if Dh c (L.getD k 0#256) then 1 else 2
     rw[gd.o,gf.o];rfl
    rw[e2] at bf;clear e2;go_wp2;go_roundw
    case rel=>exact⟨k+1,by omega,by go_num,a7,gi,bf,b5⟩
    simp[intOf];omega
   have c6:=Aq 0 bf (by rw[ο,Ev]) k (by rw[ο,Ev];exact be);have r6:=bf.frozenAt k;obtain⟨ei,ax⟩:=Ba bf k 1;have e2:((Cp (λq=>if Dh c (L.getD q 0#256) then 1 else 2) m k).set k 2).set k 1=Cp (λq=>if Dh c (L.getD q 0#256) then 1 else 2) m (k+1):=by
    rw[List.set_set,<-Jm _ _ _ be]
    congr 1
    show 1=if Dh c (L.getD k 0#256) then 1 else 2
    rw[gd.o,gf.o];rfl
   rw[e2] at ei;rw[show iv 1=ϲ Χ 1 from rfl] at ei ax;have hy:=b5.kept ax (.inr λe=>dv (ϓ e).symm);have gj:=a7.grown ax (λk e=>by cases e;exact ga);have h5:=gj.size;clear e2 ax bf b5 a7 gi;go_wp2;go_roundw
   case rel=>exact⟨k+1,by omega,by go_num,gj,h5,ei,hy⟩
   simp[intOf];omega
  obtain rfl:m=k:=by omega
  rw[Nl] at G H;have b7:((π m).map λ_=>2).length=m:=by simp
  have f145:=TC ((π m).map λ_=>2) (by rw[b7];exact e8) (by rw[b7];omega) T 0 m wr (λs hs=>by rw[Ϣ];exact Aq 0 H b7.symm s hs);rw[b7] at f145;have f145:=Z f145;clear b7;go_upto_region 14 with (go_at_call 99;(with_reducible refine f145.o.mono ?_);rintro e w9 ⟨gc,ak,rfl,au,dc⟩;have G:=Aa G dc;have H:=Aa H dc;have hE:=hE.t dc;have b8:=hE.heap H5.o;have cF:=(Τ (w9.alloc (Β #[U (I ⟨g6,0,J⟩) m m,U (I ⟨T,0,J⟩) m m,U (I ⟨gc,0,J⟩) m ak] 54)) _ 1 _ _ _ (Ag b8 (Β #[U (I ⟨g6,0,J⟩) m m,U (I ⟨T,0,J⟩) m m,U (I ⟨gc,0,J⟩) m ak] 54))).trans (show (#[U (I ⟨X,oc,J⟩) m cc,U J 0 0,U (I ⟨E.heap.size,0,J⟩) 3 3]:Array Δ)[1]? = I (U J 0 0) from rfl);have fF:=Â (w9.alloc (Β #[U (I ⟨g6,0,J⟩) m m,U (I ⟨T,0,J⟩) m m,U (I ⟨gc,0,J⟩) m ak] 54)) _ 1 _ _ (Ag b8 (Β #[U (I ⟨g6,0,J⟩) m m,U (I ⟨T,0,J⟩) m m,U (I ⟨gc,0,J⟩) m ak] 54)))
  have ej:=ϧ (w9.alloc (Β #[U (I ⟨g6,0,J⟩) m m,U (I ⟨T,0,J⟩) m m,U (I ⟨gc,0,J⟩) m ak] 54)) (E.heap.size+1) 1 _ 40 (0,0) (U (I ⟨w9.heap.size,0,J⟩) 3 3) (Ag b8 (Β #[U (I ⟨g6,0,J⟩) m m,U (I ⟨T,0,J⟩) m m,U (I ⟨gc,0,J⟩) m ak] 54));have gk:(#[U (I ⟨X,oc,J⟩) m cc,U J 0 0,U (I ⟨E.heap.size,0,J⟩) 3 3]:Array Δ).setIfInBounds 1 (U (I ⟨w9.heap.size,0,J⟩) 3 3)=dA (U (I ⟨X,oc,J⟩) m cc) (U (I ⟨w9.heap.size,0,J⟩) 3 3) (U (I ⟨E.heap.size,0,J⟩) 3 3):=rfl;rw[gk] at ej;rw[ej];clear cF fF ej gk;have bm:=Ag b8 (Β #[U (I ⟨g6,0,J⟩) m m,U (I ⟨T,0,J⟩) m m,U (I ⟨gc,0,J⟩) m ak] 54);have a8:=Ad w9 (Β #[U (I ⟨g6,0,J⟩) m m,U (I ⟨T,0,J⟩) m m,U (I ⟨gc,0,J⟩) m ak] 54);have ek:=(gw.o.t hE).alloc (Β #[U (I ⟨g6,0,J⟩) m m,U (I ⟨T,0,J⟩) m m,U (I ⟨gc,0,J⟩) m ak] 54);have en:=Ag (hE.heap HA.o) (Β #[U (I ⟨g6,0,J⟩) m m,U (I ⟨T,0,J⟩) m m,U (I ⟨gc,0,J⟩) m ak] 54);have G:=G.alloc (Β #[U (I ⟨g6,0,J⟩) m m,U (I ⟨T,0,J⟩) m m,U (I ⟨gc,0,J⟩) m ak] 54);have H:=H.alloc (Β #[U (I ⟨g6,0,J⟩) m m,U (I ⟨T,0,J⟩) m m,U (I ⟨gc,0,J⟩) m ak] 54);have au:w9.ownsRow wr.heap.size 3 1 (U (I ⟨gc,0,J⟩) m ak) m (((π m).map λ_=>2).map iv):=by have:=au;unfold OwnI at this;rw[show ((π m).map λ_=>2).length=m by simp] at this;exact this
  have au:=au.alloc (Β #[U (I ⟨g6,0,J⟩) m m,U (I ⟨T,0,J⟩) m m,U (I ⟨gc,0,J⟩) m ak] 54);obtain⟨eo,ep⟩:=Xq (w9.alloc (Β #[U (I ⟨g6,0,J⟩) m m,U (I ⟨T,0,J⟩) m m,U (I ⟨gc,0,J⟩) m ak] 54));rw[ep] at bm a8 ek en G H au;simp only[ep];clear ep b8;have bd:=Ca eo (E.heap.size+1) (dA (U (I ⟨X,oc,J⟩) m cc) (U (I ⟨w9.heap.size,0,J⟩) 3 3) (U (I ⟨E.heap.size,0,J⟩) 3 3));have G:=G.kept bd (B2 G bm (by decide));have H:=H.kept bd (B2 H bm (by decide));have au:=au.kept bd (B2 au bm (by decide));have h9:w9.heap.size≠E.heap.size+1:=λe=>by
   rw[e,bm] at a8;injection a8 with h1
   injection h1 with _ h2 _
   exact absurd h2 (by decide)
  have a8:=Bk a8 h9 (dA (U (I ⟨X,oc,J⟩) m cc) (U (I ⟨w9.heap.size,0,J⟩) 3 3) (U (I ⟨E.heap.size,0,J⟩) 3 3));have dd:=Bk en (show E.heap.size≠E.heap.size+1 by omega) (dA (U (I ⟨X,oc,J⟩) m cc) (U (I ⟨w9.heap.size,0,J⟩) 3 3) (U (I ⟨E.heap.size,0,J⟩) 3 3));have er:=Φ eo _ _ (dA (U (I ⟨X,oc,J⟩) m cc) (U (I ⟨w9.heap.size,0,J⟩) 3 3) (U (I ⟨E.heap.size,0,J⟩) 3 3)) _ _ bm;have b9:=ek.setRow (show E.heap.size<=E.heap.size+1 by omega) (dA (U (I ⟨X,oc,J⟩) m cc) (U (I ⟨w9.heap.size,0,J⟩) 3 3) (U (I ⟨E.heap.size,0,J⟩) 3 3));generalize w9.heap.size=gl at *;obtain⟨aw,et⟩:=Xq (eo.setRow (E.heap.size+1) (dA (U (I ⟨X,oc,J⟩) m cc) (U (I ⟨gl,0,J⟩) 3 3) (U (I ⟨E.heap.size,0,J⟩) 3 3)));rw[et] at G H au a8 dd er b9;simp only[et];clear et bm ek en bd;have gm:IsD aw (.agg (dA (U (I ⟨X,oc,J⟩) m cc) (U (I ⟨gl,0,J⟩) 3 3) (U (I ⟨E.heap.size,0,J⟩) 3 3))) (Cv L (Dh c)):=by
   have bf:(π m).map (λq=>if Dh c (L.getD q 0#256) then 1 else 2)=L.map λk=>if Dh c k then 1 else 2:=by rw[<-HM.o];exact Wo L (λk=>if Dh c k then 1 else 2)
   have b5:(π m).map (λ_=>2)=L.map λ_=>2:=by rw[<-HM.o];exact Wo L (λ_=>2)
   rw[bf] at G;rw[b5] at H au;have ints:∀ {base:Nat} {v:Δ} {r:List Nat},aw.ownsRow base 3 1 v m (r.map iv)->r.length=m->Ints aw v r:=λ{base v r} h hl=>by
    have:OwnI aw base v r:=by unfold OwnI;rw[hl];exact h
    exact this.ints (by omega)
   refine⟨_,_,_,rfl,gu.o.ext b9,⟨[U (I ⟨g6,0,J⟩) m m,U (I ⟨T,0,J⟩) m m,U (I ⟨gc,0,J⟩) m ak],rfl,?_,λi hi=>?_⟩,?_⟩
   ·refine⟨by show (3:Nat)<=_;omega,.inr ⟨by show 0<3;omega,_,0,3,rfl,Al a8,λi hi=>?_⟩⟩;have hi:i<3:=by have:i<3*1:=hi;omega
    rw[Ϣ,Τ aw _ i _ _ _ a8]
    match i,hi with
    | 0,_=>rfl
    | 1,_=>rfl
    | 2,_=>rfl
   ·have hi:i<3:=hi
    match i,hi with
    | 0,_=>exact (show Ints aw _ (L.map λk=>if Dh c k then 1 else 2) from ints G (by rw[ι];exact HM.o))
    | 1,_=>exact (show Ints aw _ (L.map λ_=>2) from ints H (by rw[ι];exact HM.o))
    | 2,_=>exact (show Ints aw _ (L.map λ_=>2) from ints au (by rw[ι];exact HM.o))
   refine⟨by show (3:Nat)<=_;omega,.inr ⟨by show 0<3;omega,_,0,3,rfl,Al dd,λi hi=>?_⟩⟩;have hi:i<3:=by have:i<3*1:=hi;omega
   rw[Ϣ,Τ aw _ i _ _ _ dd]
   match i,hi with
   | 0,_=>rfl
   | 1,_=>rfl
   | 2,_=>rfl
  have a7:=e7.o.t b9;have ib:=Z (Ry (Cv L (Dh c)) (MY dp.o _) (by show (3:Nat)<=64;omega) _ aw (cu.o aw a7) (Ξ bp a7.size) gm);have ae:=Z (b9.heap gv.o);have HX:=Z er;have ie:=Z a7;have ig:=Z (λu=>MZ dp.o (Dh c) c (λb hb=>PM e6.o b hb) u);clear gm a7 er dd a8 G H au hE dc f145 b9;go_wp2_with (first
   | (refine Lr 40 (ε 5) HX.o Ρ Ae ?_)
   | (go_at_call 80;(with_reducible refine ib.o.mono ?_);rintro e eu ⟨r,bn,ca,cb,cd⟩;obtain⟨cf,cg,cj,ck,cl,cm,cn,cp,cq,k2,rfl⟩:=bn.form;have ew:=Z bn;have ct:=Z ca;have ey:=Z cb;clear bn ca cb;have ae:=Z (cd.heap ae.o))
   | (refine Sr 40 (ε 2) (ε 58) rfl ae.o Ae rfl (Aw _ _ _ rfl rfl rfl) ?_))
  refine ω (v:=ϙ #[.agg (dA (U cf cg cj) (U ck cl cm) (U cn cp cq)),.int Χ k2]) (Bi rfl _ _ _ _ _ _ _ rfl _ rfl (Φ eu _ _ (dA (U cf cg cj) (U ck cl cm) (U cn cp cq)) 40 (0,0) ae.o) Ρ rfl Ae) rfl ?_;exact⟨r,ew.o.setRow (λd' h=>by injection h with h;subst h;exact ct.o.val) ae.o _,ct.o,λu=>by rw[ey.o];exact ig.o u,(ie.o.t cd).setRow (by omega) _⟩
 have f117:=λW (hW:Ext w W)=>Z (V7 W (cu.o W hW) (Ξ bp hW.size))
 go_wp2_with (first
  | (refine Lr 91 (ε 1) ay.o ϋ Bg ?_)
  | (go_at_call 96;(with_reducible refine (f105 _).o.mono ?_);rintro e w2 ⟨rfl,ba⟩;have bg:=Z (dk.o.t ba);have ae:=Z (ba.heap ae.o);clear ba)
  | (go_at_call 72;(with_reducible refine (f117 _ bg.o).o.mono ?_);rintro e eu ⟨r,bn,ca,cb,cd⟩;obtain⟨cf,cg,cj,ck,cl,cm,cn,cp,cq,k2,rfl⟩:=bn.form;have ew:=Z bn;have ct:=Z ca;have ey:=Z cb;clear bn ca cb;have ae:=Z (cd.heap ae.o))
  | (refine Sr 40 (ε 2) (ε 14) rfl ae.o Ae rfl (Aw _ _ _ rfl rfl rfl) ?_))
 refine ω (v:=ϙ #[.agg (dA (U cf cg cj) (U ck cl cm) (U cn cp cq)),.int Χ k2]) (Bi rfl _ _ _ _ _ _ _ rfl _ rfl (Φ eu _ _ (dA (U cf cg cj) (U ck cl cm) (U cn cp cq)) 40 (0,0) ae.o) Ρ rfl Ae) rfl ?_;refine⟨r,ew.o.setRow (λd' h=>by injection h with h;subst h;exact ct.o.val) ae.o _,ct.o,λu=>?_,(bg.o.t cd).setRow (by omega) _⟩;rw[ey.o];have ij:=gp.o.1 (by simp);constructor
 ·intro h;cases h
 rintro⟨x,_,hx⟩;rw[ij] at hx;simp at hx
end Go.Proofs.YtilncahcpjlfnaaGreatDoor
