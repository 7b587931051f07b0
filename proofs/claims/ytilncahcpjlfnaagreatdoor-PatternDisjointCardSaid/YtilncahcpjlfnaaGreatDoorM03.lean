import Derived.Test.YtilncahcpjlfnaaGreatDoorM02
import Derived.Deep.AppendLies
import Derived.OrdersHeld
import Derived.Test.YtilncahcpjlfnaaGreatDoorM01
import Derived.Deep.DeepCutAuto
set_option linter.unusedVariables false
set_option linter.unusedSimpArgs false
set_option maxRecDepth 100000
set_option maxHeartbeats 4000000
open And renaming intro → ï
open Array renaming replicate → í
open Bool renaming true → Α, false → Ε, or_eq_true → Û, and_eq_true → ψ
open Go renaming Value → Δ, maxLen → ϐ, World → Γ, info_parts → ϓ, cell_of_row → Τ, wpList_make_full → Ϟ, wpList_append_lies → Ϙ, cell_one_new → Ý, Oper → ϳ, Act → ø, getD_replicate_false → Ϡ, yielded → ü
open Go.Ending renaming returned → Ψ
open Go.IntKind renaming i64 → Φ, u8 → é, u64 → ζ
open Go.Lib renaming hid → Z
open Go.Obj renaming cells → Β
open Go.Proofs.Tryz renaming prog → Η, underlying54 → Ϥ, underlying22 → ύ
open Go.Region renaming ready → ϻ, wanted → ϧ
open Go.RowKit renaming Hid → ϟ
open Go.Value renaming slice → U, oneCell' → ξ, bool → ϊ
open Go.World renaming size_alloc → Ρ, ownsRow_nil → À, ownsRow → ϥ
open List renaming length_append → Ν, getD_eq_getElem?_getD → Ζ, getElem?_set → Ú, getElem?_eq_getElem → Ι, replicate → θ, getElem?_replicate → Ò, mem_append → Ê, length_set → υ, nodup_iff_pairwise_ne → à, pairwise_iff_getElem → Ϫ, range → π, mem_range → ϔ, map_append → ϩ, length_map → ι, ext_getElem? → Ϯ, getElem?_map → ν, getElem?_eq_some_iff → ο, mem_singleton → ϙ, mem_map → ϴ
open List.cons renaming injEq → ì
open Nat renaming le_refl → Υ, le_of_eq → Ô, lt_of_lt_of_le → Ξ
open Option renaming some → J, none → I, getD_some → ϱ, isSome → ñ
open UInt8 renaming ofNat → ώ
namespace Go.Proofs.YtilncahcpjlfnaaGreatDoor
def Bt (x:Nat):List UInt8:=[ώ x,ώ (x / 256)]
theorem Yd {x y:Nat} (hx:x<65536) (G:y<65536) (h:Bt x=Bt y):x=y:=by simp only[Bt,ì,and_true] at h;have h1:=congrArg UInt8.toNat h.1;have E:=congrArg UInt8.toNat h.2;simp only[UInt8.toNat_ofNat'] at h1 E;omega
theorem Q6 (x:Nat):(Bt x).length=2:=rfl
def Bn (g:Nat->Nat):Nat->List UInt8
 | 0=>[]
 | n+1=>Bn g n++Bt (g n)
theorem Ke (g:Nat->Nat):∀ n,(Bn g n).length=2*n
 | 0=>rfl
 | n+1=>by rw[Bn,Ν,Ke g n,Q6];omega
theorem Ow (g E:Nat->Nat):∀ n,(∀ k,k<n->g k<65536)->(∀ k,k<n->E k<65536)->(Bn g n=Bn E n↔∀ k,k<n->g k=E k)
 | 0,_,_=>by simp[Bn]
 | n+1,hg,H=>by
  have T:=Ow g E n (λk G=>hg k (by omega)) (λk G=>H k (by omega));simp only[Bn];constructor
  ·intro h;obtain⟨h1,X⟩:=List.append_inj h (by rw[Ke,Ke]);intro k G;by_cases e:k=n
   ·subst e;exact Yd (hg k (by omega)) (H k (by omega)) X
   exact T.1 h1 k (by omega)
  intro h;rw[T.2 λk G=>h k (by omega),h n (by omega)]
def Fu (t:Tbl) (B:Nat->Nat) (s:Nat):List UInt8:=Bt (B s)++Bn (λk=>B (t.ent2 s k)) t.cells
theorem QP (t:Tbl) (B:Nat->Nat) (s s':Nat) (h1:B s<65536) (X:B s'<65536) (H:∀ k,k<t.cells->B (t.ent2 s k)<65536) (T:∀ k,k<t.cells->B (t.ent2 s' k)<65536) :
  Fu t B s=Fu t B s'↔B s=B s'/\∀ k,k<t.cells->B (t.ent2 s k)=B (t.ent2 s' k):=by
 unfold Fu;constructor
 ·intro h;obtain⟨E,G⟩:=List.append_inj h rfl;exact⟨Yd h1 X E,(Ow _ _ _ H T).1 G⟩
 rintro⟨E,G⟩;rw[E,(Ow _ _ _ H T).2 G]
theorem Cf {α:Type} (l:List α) (i j:Nat) (x d:α) (h:i<l.length):(l.set i x).getD j d=if j=i then x else l.getD j d:=by
 rw[Ζ,Ζ,Ú];by_cases e:j=i
 ·subst e;simp[h]
 rw[if_neg (Ne.symm e),if_neg e]
theorem Xm {l:List Nat} (h:l.Nodup) {i j:Nat} (hi:i<l.length) (E:j<l.length) (G:i≠j):l.getD i 0≠l.getD j 0:=by rw[Ζ,Ζ,Ι hi,Ι E];intro e;exact G ((List.getElem_inj h).1 e)
theorem Iq {l:List Nat} {s:Nat} (h:s∈l):∃ j,j<l.length/\l.getD j 0=s:=Ls (d:=0) h
structure NInv (l:List Nat) (key:Nat->List UInt8) (j:Nat) (N R:List Nat) (f:List UInt8->Option Nat):Prop where
 le:R.length<=j
 has:∀ q,q<j->f (key (l.getD q 0))=J (N.getD (l.getD q 0) 0)
 lt:∀ q,q<j->N.getD (l.getD q 0) 0<R.length
 rep:∀ i,i<R.length->(∃ q,q<j/\R.getD i 0=l.getD q 0)/\N.getD (R.getD i 0) 0=i
 from_:∀ k i,f k=J i->∃ q,q<j/\k=key (l.getD q 0)/\i=N.getD (l.getD q 0) 0
 same:∀ q q',q<j->q'<j->(N.getD (l.getD q 0) 0=N.getD (l.getD q' 0) 0↔key (l.getD q 0)=key (l.getD q' 0))
theorem Xo (l:List Nat) (key:Nat->List UInt8) (N:List Nat):NInv l key 0 N [] (λ_=>I) where
 le:=by simp
 has:=λq E=>by omega
 lt:=λq E=>by omega
 rep:=λi hi=>by simp at hi
 from_:=λk i h=>by simp at h
 same:=λq q' E=>by omega
section
variable {l:List Nat} {key:Nat->List UInt8} {j:Nat} {N R:List Nat} {f:List UInt8->Option Nat}
theorem Xp (h:NInv l key j N R f) (hn:l.Nodup) (hj:j<l.length) (hs:l.getD j 0<N.length) (i:Nat) (hi:f (key (l.getD j 0))=J i):NInv l key (j+1) (N.set (l.getD j 0) i) R f:=by
 obtain⟨z,T,hk,X⟩:=h.from_ _ _ hi;have ne:∀ q,q<j->l.getD q 0≠l.getD j 0:=λq E=>Xm hn (by omega) hj (by omega)
 have G:∀ q,q<j->(N.set (l.getD j 0) i).getD (l.getD q 0) 0=N.getD (l.getD q 0) 0:=λq E=>by rw[Cf _ _ _ _ _ hs,if_neg (ne q E)]
 have H:(N.set (l.getD j 0) i).getD (l.getD j 0) 0=i:=by rw[Cf _ _ _ _ _ hs,if_pos rfl]
 refine⟨by have:=h.le;omega,λq E=>?_,λq E=>?_,λr hr=>?_,λk i' aj=>?_,λq q' E an=>?_⟩
 ·by_cases e:q=j
  ·subst e;rw[H];exact hi
  rw[G q (by omega)];exact h.has q (by omega)
 ·by_cases e:q=j
  ·subst e;rw[H,X];exact h.lt z T
  rw[G q (by omega)];exact h.lt q (by omega)
 ·obtain⟨⟨q,E,e⟩,e2⟩:=h.rep r hr;refine⟨⟨q,by omega,e⟩,?_⟩;rw[e,G q E,<-e];exact e2
 ·obtain⟨q,E,e1,e2⟩:=h.from_ k i' aj;exact⟨q,by omega,e1,by rw[G q E];exact e2⟩
 by_cases e:q=j<;>by_cases e':q'=j
 ·subst e;subst e';simp
 ·subst e;rw[H,G q' (by omega),X,h.same z q' T (by omega),hk]
 ·subst e';rw[H,G q (by omega),X,h.same q z (by omega) T,hk]
 rw[G q (by omega),G q' (by omega)];exact h.same q q' (by omega) (by omega)
theorem Xr (h:NInv l key j N R f) (hn:l.Nodup) (hj:j<l.length) (hs:l.getD j 0<N.length) (hi:f (key (l.getD j 0))=I) :
  NInv l key (j+1) (N.set (l.getD j 0) R.length) (R++[l.getD j 0]) (λk=>if k=key (l.getD j 0) then J R.length else f k):=by
 have ne:∀ q,q<j->l.getD q 0≠l.getD j 0:=λq E=>Xm hn (by omega) hj (by omega)
 have nk:∀ q,q<j->key (l.getD q 0)≠key (l.getD j 0):=λq E e=>by have:=h.has q E;rw[e,hi] at this;cases this
 have G:∀ q,q<j->(N.set (l.getD j 0) R.length).getD (l.getD q 0) 0=N.getD (l.getD q 0) 0:=λq E=>by rw[Cf _ _ _ _ _ hs,if_neg (ne q E)]
 have T:(N.set (l.getD j 0) R.length).getD (l.getD j 0) 0=R.length:=by rw[Cf _ _ _ _ _ hs,if_pos rfl]
 have hl:(R++[l.getD j 0]).length=R.length+1:=by simp
 refine⟨by have:=h.le;omega,λq E=>?_,λq E=>?_,λr hr=>?_,λk i' X=>?_,λq q' E an=>?_⟩
 ·by_cases e:q=j
  ·subst e;rw[T];simp
  rw[G q (by omega),if_neg (nk q (by omega))];exact h.has q (by omega)
 ·rw[hl];by_cases e:q=j
  ·subst e;rw[T];omega
  rw[G q (by omega)];have:=h.lt q (by omega);omega
 ·rw[hl] at hr;by_cases e:r=R.length
  ·have H:(R++[l.getD j 0]).getD r 0=l.getD j 0:=by rw[e];simp[Ζ]
   rw[H,T];exact⟨⟨j,by omega,rfl⟩,e.symm⟩
  have af:r<R.length:=by omega
  obtain⟨⟨q,E,H⟩,e2⟩:=h.rep r af;rw[Ca _ _ _ _ af];refine⟨⟨q,by omega,H⟩,?_⟩;rw[H,G q E,<-H];exact e2
 ·by_cases e:k=key (l.getD j 0)
  ·simp only[e,if_true] at X;cases X
   exact⟨j,by omega,e,T.symm⟩
  simp only[e,if_false] at X;obtain⟨q,E,H,e2⟩:=h.from_ k i' X;exact⟨q,by omega,H,by rw[G q E];exact e2⟩
 by_cases e:q=j<;>by_cases e':q'=j
 ·subst e;subst e';simp
 ·subst e;have h1:=h.lt q' (by omega);rw[T,G q' (by omega)];exact⟨λe=>by omega,λe=>absurd e.symm (nk q' (by omega))⟩
 ·subst e';have h1:=h.lt q (by omega);rw[T,G q (by omega)];exact⟨λe=>by omega,λe=>absurd e (nk q (by omega))⟩
 rw[G q (by omega),G q' (by omega)];exact h.same q q' (by omega) (by omega)
theorem Xs (h:NInv l key l.length N R f):Blk l (λs=>N.getD s 0) R/\∀ s∈l,∀ s'∈l,(N.getD s 0=N.getD s' 0↔key s=key s'):=by
 refine⟨⟨λs G=>?_,λi hi=>?_,λi hi=>(h.rep i hi).2⟩,λs G s' H=>?_⟩
 ·obtain⟨q,E,rfl⟩:=Iq G;exact h.lt q E
 ·obtain⟨⟨q,E,e⟩,_⟩:=h.rep i hi;rw[e];exact Dm l q 0 E
 obtain⟨q,E,rfl⟩:=Iq G;obtain⟨q',T,rfl⟩:=Iq H;exact h.same q q' E T
end
theorem Vz {t:Tbl} {l:List Nat} (X:Reached t l) {B N:Nat->Nat} (E:∀ s∈l,B s<65536) (h:∀ s∈l,∀ s'∈l,(N s=N s'↔Fu t B s=Fu t B s')):Kr t l B N:=λs G s' H=>by rw[h s G s' H,QP t B s s' (E s G) (E s' H) (λk T=>E _ (X.closed s G k T)) (λk T=>E _ (X.closed s' H k T))]
structure AInv (t:Tbl) (l:List Nat) (j:Nat) (B:List Nat):Prop where
 len:B.length=t.n.length
 at_:∀ s,B.getD s 0=if s∈l.take j/\t.ok s=Α then 1 else 0
theorem DF (t:Tbl) (l:List Nat):AInv t l 0 (θ t.n.length 0) where
 len:=by simp
 at_:=λs=>by simp[Ζ,Ò];split<;>rfl
theorem Uv {l:List Nat} {j:Nat} (E:j<l.length) (s:Nat):s∈l.take (j+1)↔s∈l.take j\/s=l.getD j 0:=by rw[List.take_add_one,Ê,Ι E,Ζ,Ι E];simp
theorem DE {t:Tbl} {l:List Nat} {j:Nat} {B:List Nat} (h:AInv t l j B) (G:j<l.length) (H:l.getD j 0<t.n.length) (T:t.ok (l.getD j 0)=Α):AInv t l (j+1) (B.set (l.getD j 0) 1) where
 len:=by rw[υ];exact h.len
 at_:=λs=>by
  rw[Cf _ _ _ _ _ (by rw[h.len];exact H),h.at_ s];have E:=Uv G s;generalize l.getD j 0=x at *;by_cases e:s=x
  ·subst e;simp[E,T]
  simp[E,e]
theorem DG {t:Tbl} {l:List Nat} {j:Nat} {B:List Nat} (h:AInv t l j B) (E:j<l.length) (G:t.ok (l.getD j 0)=Ε):AInv t l (j+1) B where
 len:=h.len
 at_:=λs=>by
  rw[h.at_ s];have H:=Uv E s;generalize l.getD j 0=x at *;by_cases e:s=x
  ·subst e;simp[G]
  simp[H,e]
theorem DH {t:Tbl} {l:List Nat} {B:List Nat} (h:AInv t l l.length B):Refi t l (λs=>B.getD s 0) 0/\∀ s,B.getD s 0<65536:=by
 refine⟨Wc t l _ λs E=>?_,λs=>?_⟩
 ·show B.getD s 0=_;rw[h.at_ s,List.take_length];simp[E]
 rw[h.at_ s];split<;>omega
structure OInv (t:Tbl) (l:List Nat) (B:List Nat) (n:Nat):Prop where
 len:B.length=t.n.length
 refi:Refi t l (λs=>B.getD s 0) n
 lt:∀ s∈l,B.getD s 0<65536
 le:n<=l.length
theorem LZ {t:Tbl} {l:List Nat} {B:List Nat} (h:AInv t l l.length B):OInv t l B 0:=
 ⟨h.len,(DH h).1,λs _=>(DH h).2 s,by omega⟩
theorem CJ {l:List Nat} {B:Nat->Nat} {R:List Nat} (h:Blk l B R):R.length<=l.length:=by
 have:=D8 (R.map λs=>s) l (by rw[List.map_id'];rw[à,Ϫ];intro i j hi G T e;have h1:=h.rep i hi;have E:=h.rep j G;rw[Ζ,Ι hi] at h1;rw[Ζ,Ι G] at E;simp only[ϱ] at h1 E;rw[e,E] at h1;omega) λs H=>by rw[List.map_id'] at H;obtain⟨i,hi,rfl⟩:=Iq H;exact h.mem i hi
 simpa using this
theorem Xd {t:Tbl} (T:TVal t) {l:List Nat} (E:Reached t l) {B N R:List Nat} {f:List UInt8->Option Nat} {n:Nat} (h:OInv t l B n) (hm:l.length<=65536) (X:N.length=t.n.length)
  (hi:NInv l (Fu t λs=>B.getD s 0) l.length N R f) (ab:R.length≠n):OInv t l N R.length/\n<R.length:=by
 obtain⟨hb,G⟩:=Xs hi;have H:Kr t l (λs=>B.getD s 0) (λs=>N.getD s 0):=Vz E h.lt G;have aa:=CJ hb;refine⟨⟨X,We T E h.refi H hb,λs G=>?_,aa⟩,?_⟩
 ·have:=hb.lt s G;show N.getD s 0<65536;omega
 have:=(Wf h.refi H hb E.ne).1;omega
theorem Xe {t:Tbl} (G:TVal t) {l:List Nat} (E:Reached t l) {B N R:List Nat} {f:List UInt8->Option Nat} {n:Nat} (h:OInv t l B n)
  (hi:NInv l (Fu t λs=>B.getD s 0) l.length N R f) (he:R.length=n):Blocks t l (λs=>N.getD s 0) R:=by
 obtain⟨hb,H⟩:=Xs hi;have T:Kr t l (λs=>B.getD s 0) (λs=>N.getD s 0):=Vz E h.lt H;exact⟨hb,JT G E h.refi T hb he⟩
open Go.RowKit Go.Shelf
def Cu (l:List UInt8):Δ:=.string ⟨l.toArray⟩
theorem Ps (x y:List UInt8) (h:Cu x=Cu y):x=y:=by simpa [Cu] using h
theorem Pq (l:List UInt8) (E:l.length<=ϐ):∃ k,keyOf Η 9 (Cu l)=J k:=
 ⟨_,Go.WideMaps.keyOf_string_mk Tryz.underlying9 (by simpa [ByteArray.size] using E)⟩
theorem Hs (w:Γ) (a b:Δ) (t:TypeId):∀ j u,[a,b][j]? = J u->(w.alloc (Β #[a,b] t)).cell? ((⟨w.heap.size,0,I⟩:Addr).add j)=J u:=λj u hu=>Γ.news_of_block (Ad w (Β #[a,b] t)) j u hu
theorem JS (t:Tbl) (hv:TVal t) (hn:t.n.length<=65536) (l:List Nat) (hl:Reached t l) (A:Array Δ) (vl:Δ) (w:Γ) (h:IsT w A t) (dz:Ints w vl l) :
  Calls Η 67 #[.agg A,vl] w λe w'=>∃ vN vR N R,e=Ψ (.tuple #[vN,vR])/\N.length=t.n.length/\Blocks t l (λs=>N.getD s 0) R/\Ints w' vN N/\Ints w' vR R/\Ext w w':=by
 obtain⟨bn,on,cn,ba,oa,ca,fp,fq,_,_,ed,ee,hR,eg⟩:=h.opened hv;obtain⟨bl,ol,cl,rfl,eh⟩:=â dz hl.ne;have im:=hv.pos;have ir:=hv.cpos;have iu:=hv.cle;have iw:=hl.ne;have ix:l.length<=t.n.length:=by
  have:=D8 l (π t.n.length) hl.nodup λs hs=>ϔ.2 (hl.lt s hs)
  simpa using this
 have HR:=Z hR;have HV:=Z hv;have HL:=Z hl;have ei:=Z (λk (hk:k<l.length)=>eh k (by omega));have fu:=Z eg;obtain⟨i0,hi,cu,cv,cw⟩:=ϓ Dw;obtain⟨i5,c4,c5,c8,c9⟩:=ϓ (show (Η.info? 5).map (λi=>(i.zero,i.size,i.bytes))=J (J (.int .u8 0),1,1) by kernel_rfl);have cb:=(Κ w).alloc (Β A 84);have H0:=Ad w (Β A 84);have HK:=Z (λ(W:Γ) (G:Ext (w.alloc (Β A 84)) W)=>(Τ W w.heap.size 257 _ _ _ (G.heap H0)).trans ed);have ej:=Z (λ(W:Γ) (G:Ext (w.alloc (Β A 84)) W)=>(Τ W w.heap.size 258 _ _ _ (G.heap H0)).trans ee);clear hR hv h H0 ed ee fq fp eh dz eg hl;go_enter Tryz.func67,Tryz.ntmps67;go_upto_region 1 with (fail)
 obtain⟨w1,dc⟩:=Xq (w.alloc (Β A 84));rw[dc] at cb HK ej;simp only[dc];clear dc;have k1:=HK.o w1 (Κ w1);go_upto_region 2 with (at_make;refine Ϟ _ rfl _ _ 54 rfl w1.heap.size 3 i0 (.int Φ 0) 1 Ϥ hi cu cv Φ Φ _ _ t.n.length rfl rfl rfl rfl (by rw[cw];omega) (by unfold ϐ;omega) (Υ _) ?_;intro w2 en eo)
 have fv:Ext w1 w2:=(Κ w1).grown eo (λk e=>by cases e);have fw:w2.ownsRow w1.heap.size 3 1 (U (J ⟨w1.heap.size,0,I⟩) t.n.length t.n.length) t.n.length ((θ t.n.length 0).map iv):=by rw[<-B8];exact en
 clear en eo k1;generalize ep:w1.heap.size=gb at *;have fx:=Z ep;clear ep;go_wp2_with (fail);go_loopw [26] (λi W=>∃ (j:Nat) (B:List Nat),j<=l.length/\i=.int Φ j/\Ext w1 W/\W.ownsRow gb 3 1 (U (J ⟨gb,0,I⟩) t.n.length t.n.length) t.n.length (B.map iv)/\ϟ (AInv t l j B))
  (λi _=>l.length-(intOf i).toNat)
 case atStart=>exact⟨0,_,by omega,rfl,fv,fw,Z (DF t l)⟩
 obtain⟨j,B,hj,rfl,hE,hB,HI⟩:=hrel;by_cases aw:j<l.length
 ·have cl:=(cb.t hE).cell (ei.o j aw);have af:=HL.o.lt _ (Dm l j 0 aw);obtain⟨s,bh⟩:=Xq (l.getD j 0);rw[bh] at cl af;have ax:=Z bh;clear bh;have k8:=ej.o wr hE;have er:=(cb.t hE).cell (fu.o s af);have et:=Z HI.o.len;have fz:w1.heap.size<=gb:=Ô fx.o;have HY:=Z (λho=>DE HI.o aw (by rw[ax.o];exact af) ho);have T:=Z (λho=>DG HI.o aw ho);rw[ax.o] at HY T;cases bo:t.ok s
  ·rw[bo] at er;have an:=Z (T.o bo);clear bo;go_wp2_with (fail);go_roundw
   case rel=>exact⟨j+1,B,by omega,by go_num,hE,hB,an⟩
   simp[intOf];omega
  rw[bo] at er;have ga:=Z (HY.o bo);clear bo;obtain⟨gd,gg⟩:=Ba hB s 1;have cs:=Au 0 hB et.o.symm s (by rw[et.o];exact af);have fs:=hB.frozenAt s;go_wp2_with (fail);go_roundw
  case rel=>exact⟨j+1,B.set s 1,by omega,by go_num,hE.grown gg (λk e=>by cases e;exact fz),gd,ga⟩
  simp[intOf];omega
 obtain rfl:j=l.length:=by omega
 have HO:=Z (LZ HI.o);clear HI;go_upto_region 8 with (fail)
 obtain⟨w3,cc⟩:∃ W,W=wr:=⟨_,rfl⟩;subst cc;have ev:ϟ (∀ s,s<t.n.length->w3.cell? ⟨gb,s,I⟩=J (iv (B.getD s 0))):=Z λs hs=>Au 0 hB HO.o.len.symm s (by rw[HO.o.len];exact hs)
 have ew:gb<w3.heap.size:=(hB.lt gb rfl).2;clear hB;go_wp2_with (fail);go_loopw [6,9] (λv c W=>∃ (B:List Nat) (n g cp:Nat),v=U (J ⟨g,0,I⟩) t.n.length cp/\c=.int Φ n/\Ext w1 W/\g<W.heap.size/\ϟ (∀ s,s<t.n.length->W.cell? ⟨g,s,I⟩=J (iv (B.getD s 0)))/\ϟ (OInv t l B n))
  (λ_ c _=>l.length-(intOf c).toNat)
 case atStart=>exact⟨B,0,gb,_,rfl,rfl,hE,ew,ev,HO⟩
 clear ev HO ew hE;clear B;obtain⟨B,n,g,cp,rfl,rfl,hE,iz,HC,HO⟩:=hrel;have ja:=HO.o.le;obtain⟨E,gi⟩:∃ W,W=wr:=⟨_,rfl⟩;subst gi;have df:=cb.t hE;have ez:=Z (λ(W:Γ) (G:Ext E W)=>HK.o W (hE.t G));have gj:=Z (λ(W:Γ) (G:Ext E W)=>HR.o.ext (df.t G));have gl:=Z (λ(W:Γ) (G:Ext E W) k (hk:k<l.length)=>(df.t G).cell (ei.o k hk));have jb:=Z (λ(W:Γ) (G:Ext E W) s (hs:s<t.n.length)=>G.cell (HC.o s hs));have gm:=@run_makeMap Η;go_upto_region 10 with (fail)
 clear gm;have e0:=(Κ E).alloc (.map #[] 0);have e1:=It E 9 Cu;have e2:(E.alloc (.map #[] 0)).heap.size=E.heap.size+1:=Ρ _ _;obtain⟨w3,cc⟩:=Xq (E.alloc (.map #[] 0));simp only[cc] at *;clear cc;go_upto_region 11 with (at_make;refine Ϟ _ rfl _ _ 54 rfl w3.heap.size 3 i0 (.int Φ 0) 1 Ϥ hi cu cv Φ Φ _ _ t.n.length rfl rfl rfl rfl (by rw[cw];omega) (by unfold ϐ;omega) (Υ _) ?_;intro w4 e3 dg)
 have ay:=e0.grown dg (λk e=>by cases e);have az:w4.ownsRow w3.heap.size 3 1 (U (J ⟨w3.heap.size,0,I⟩) t.n.length t.n.length) t.n.length ((θ t.n.length 0).map iv):=by rw[<-B8];exact e3
 have b0:=e1.kept dg (by simp);have b4:E.heap.size+1<w4.heap.size:=by have:w3.heap.size<w4.heap.size:=(az.lt _ rfl).2;omega
 rw[e2] at az;clear e3 dg e1 e0;have bp:=À w4 (E.heap.size+1+1) 3 1;generalize jc:w3.heap.size=gn at *;obtain rfl:gn=E.heap.size+1:=e2;go_wp2_with (fail);go_loopw [12,45] (λv i W=>∃ (j:Nat) (N R:List Nat) (f:List UInt8->Option Nat) (a:Option Addr) (cd:Nat),j<=l.length/\i=.int Φ j/\v=U a R.length cd/\Ext E W/\E.heap.size+1<W.heap.size/\W.ownsRow (E.heap.size+1) 3 1 (U (J ⟨E.heap.size+1,0,I⟩) t.n.length t.n.length) t.n.length (N.map iv)/\OwnI W (E.heap.size+1+1) v R/\IsMp W 9 Cu E.heap.size R.length f/\ϟ (NInv l (Fu t λs=>B.getD s 0) j N R f/\N.length=t.n.length))
  (λ_ i _=>l.length-(intOf i).toNat)
 case atStart=>exact⟨0,_,[],_,I,0,by omega,rfl,rfl,ay,b4,az,bp,b0,Z ⟨Xo l _ _,by simp⟩⟩
 clear az bp b0 ay b4;obtain⟨j,N,R,f,a,cd,hj,rfl,rfl,ay,b4,az,bp,b0,T⟩:=hrel;have jd:=T.o.1.le;obtain⟨w4,gq⟩:∃ W,W=wr:=⟨_,rfl⟩;subst gq;by_cases aw:j<l.length
 ·have cl:=gl.o w4 ay j aw;have cf:=Dm l j 0 aw;have af:=HL.o.lt _ cf;have hx:=HO.o.lt _ cf;have e4:=Z (λk (hk:k<t.cells)=>HO.o.lt _ (HL.o.closed _ cf k hk));obtain⟨s,bh⟩:=Xq (l.getD j 0);rw[bh] at cl af hx e4;have ax:=Z bh;clear bh cf;obtain⟨br,or',cr,e5,e6⟩:=gj.o E (Κ E) s af;have e7:=Z (λ(W:Γ) (G:Ext E W)=>G.cell e5);have gu:=Z (λ(W:Γ) (G:Ext E W) k (hk:k<t.cells)=>G.cell (e6 k hk));have gv:=Z (λk (hk:k<t.cells)=>HV.o.tgt s af k hk);clear e5 e6;obtain⟨x,cg⟩:=Xq (B.getD s 0);rw[cg] at hx;have HX:=Z (λ(W:Γ) (G:Ext E W)=>(G.cell (HC.o s af)).trans (by rw[cg]));have gw:=Z cg;clear cg;have k1:=ez.o w4 ay;have k2:=e7.o w4 ay;go_upto_region 15 with (fail)
  go_upto_region 16 with (at_make;refine wpList_make_own _ rfl _ _ 22 rfl (E.heap.size+1+1) 5 i5 (.int .u8 0) 1 ύ c4 c5 c8 Φ Φ _ (2+2*t.cells) rfl rfl (by push_cast;rfl) (by rw[c9];omega) (by unfold ϐ;omega) (by omega) ?_;intro X aa bq)
  have ab:=ay.grown bq (λk e=>by cases e);have ad:=Bz az bq;have ag:=Bz bp bq;have ae:=b0.kept bq (by simp);have bj:E.heap.size+1<X.heap.size:=Ξ b4 bq.size;have a1:∀ W,Ext E W->Ext E W/\W.cell? ⟨g,s,I⟩=J (iv x):=λW G=>⟨G,HX.o W G⟩
  have cx:=HX.o X ab;clear k1 k2 cl bq az bp b0;go_region_held_law (λW=>Ext E W/\W.cell? ⟨g,s,I⟩=J (iv x))
   (first|exact a1 _ ah|exact a1 _ (ab.drew.alloc _)|exact a1 _ ab.drew)
   ((refine step_append_lies _ rfl _ _ 22 rfl (E.heap.size+1+1) 5 i5 (.int .u8 0) 1 1 ύ c4 c5 c8 c9 rfl (by decide) _ _ _ rfl ((Aa aa (Κ X).drew).alloc _) _ 2 2 ((Bt x).map bv) rfl rfl (Hs _ _ _ _) (by simp[Bt,ξ]) (by decide) (by unfold ϐ;omega) (by omega) (by simp;omega) _ rfl ?_
     intro g6 c6 w6 bb H dk dm;have ah:Ext E w6:=(ab.drew.alloc _).grown H (λk e=>by have:=(aa.lt k e).1;omega)))
  have a6:=((Aa ad (Κ X).drew).alloc _).kept H (Aj ad aa (by decide));have aj:=((Aa ag (Κ X).drew).alloc _).kept H (Aj ag aa (by decide));have a7:=((ae.ext (Κ X).drew).alloc _).kept H (ae.ne_row aa);have bc:E.heap.size+1<w6.heap.size:=by have h1:(X.drew.alloc (Β _ 5)).heap.size<=w6.heap.size:=H.size;rw[Ρ] at h1;have h2:X.heap.size<=X.drew.heap.size:=(Κ X).drew.size;omega
  obtain⟨gf,e9⟩:=Xq ((λk=>B.getD (t.ent2 s k) 0):Nat->Nat);have fa:=Z e9;have bb:w6.ownsRow (E.heap.size+1+1) 5 1 (U (J ⟨g6,0,I⟩) (2+2*0) c6) (2+2*0) ((Bt x++Bn gf 0).map bv):=by rw[show Bt x++Bn gf 0=Bt x by simp[Bn]];exact bb
  have k1:=ez.o w6 ah;have k2:=e7.o w6 ah;clear e9 ad ag ae aa H dk dm cx a1 ab bj;go_wp2_with (fail);clear k1 k2;go_loopw [15,78] (λv i W=>∃ (k gk ck:Nat),k<=t.cells/\i=.int Φ k/\v=U (J ⟨gk,0,I⟩) (2+2*k) ck/\Ext E W/\E.heap.size+1<W.heap.size/\W.ownsRow (E.heap.size+1) 3 1 (U (J ⟨E.heap.size+1,0,I⟩) t.n.length t.n.length) t.n.length (N.map iv)/\OwnI W (E.heap.size+1+1) (U a R.length cd) R/\IsMp W 9 Cu E.heap.size R.length f/\W.ownsRow (E.heap.size+1+1) 5 1 v (2+2*k) ((Bt x++Bn gf k).map bv))
   (λ_ i _=>t.cells-(intOf i).toNat)
  case atStart=>exact⟨0,g6,c6,by omega,rfl,rfl,ah,bc,a6,aj,a7,bb⟩
  clear ah bc a6 aj a7 bb;obtain⟨k,gk,ck,hk,rfl,rfl,ab,bj,ad,ag,ae,aa⟩:=hrel;obtain⟨X,gy⟩:∃ W,W=wr:=⟨_,rfl⟩;subst gy;by_cases dq:k<t.cells
  ·have fb:=gv.o k dq;have hz:=e4.o k dq;have cy:=gu.o X ab k dq;obtain⟨y,dr⟩:=Xq (t.ent2 s k);have ff:ϟ (gf k=B.getD y 0):=Z (by rw[<-fa.o,<-dr]);rw[dr] at cy fb hz;clear dr;obtain⟨z,dt⟩:=Xq (B.getD y 0);rw[dt] at hz ff;have HZ:=Z (λ(W:Γ) (G:Ext E W)=>(G.cell (HC.o y fb)).trans (by rw[dt]));clear dt;have a1:∀ W,Ext E W->Ext E W/\W.cell? ⟨g,y,I⟩=J (iv z):=λW G=>⟨G,HZ.o W G⟩
   have cz:=HZ.o X ab;go_upto_region 20 with (fail)
   clear cy;go_region_held_law (λW=>Ext E W/\W.cell? ⟨g,y,I⟩=J (iv z))
    (first|exact a1 _ ah|exact a1 _ (ab.drew.alloc _)|exact a1 _ ab.drew)
    ((refine step_append_lies _ rfl _ _ 22 rfl (E.heap.size+1+1) 5 i5 (.int .u8 0) 1 1 ύ c4 c5 c8 c9 rfl (by decide) _ _ _ rfl ((Aa aa (Κ X).drew).alloc _) _ 2 2 ((Bt z).map bv) rfl rfl (Hs _ _ _ _) (by simp[Bt,ξ]) (by decide) (by unfold ϐ;omega) (by omega) (by simp;omega) _ rfl ?_
      intro g6 c6 w6 bb H dk dm;have ah:Ext E w6:=(ab.drew.alloc _).grown H (λk e=>by have:=(aa.lt k e).1;omega)))
   have a6:=((Aa ad (Κ X).drew).alloc _).kept H (Aj ad aa (by decide));have aj:=((Aa ag (Κ X).drew).alloc _).kept H (Aj ag aa (by decide));have a7:=((ae.ext (Κ X).drew).alloc _).kept H (ae.ne_row aa);have bc:E.heap.size+1<w6.heap.size:=by have h1:(X.drew.alloc (Β _ 5)).heap.size<=w6.heap.size:=H.size;rw[Ρ] at h1;have h2:X.heap.size<=X.drew.heap.size:=(Κ X).drew.size;omega
   have bb:w6.ownsRow (E.heap.size+1+1) 5 1 (U (J ⟨g6,0,I⟩) (2+2*(k+1)) c6) (2+2*(k+1)) ((Bt x++Bn gf (k+1)).map bv):=by rw[show Bt x++Bn gf (k+1)=(Bt x++Bn gf k)++Bt z by rw[Bn,ff.o,List.append_assoc],ϩ];exact bb
   clear ad ag ae aa H dk dm cz a1 ab bj;go_wp2;go_roundw
   case rel=>exact⟨k+1,g6,c6,by omega,by go_num,rfl,ah,bc,a6,aj,a7,bb⟩
   simp[intOf];omega
  obtain rfl:k=t.cells:=by omega
  have bt:(Bt x++Bn gf t.cells).length=2+2*t.cells:=by rw[Ν,Ke,Q6]
  have du:Fu t (λs=>B.getD s 0) s=Bt x++Bn gf t.cells:=by show Bt (B.getD s 0)++Bn (λk=>B.getD (t.ent2 s k) 0) t.cells=_;rw[gw.o,fa.o]
  obtain⟨ky,fh⟩:=Xq (Bt x++Bn gf t.cells);rw[fh] at bt du aa;have dv:=Z du;clear fh du;have ha:(convert 22 9 (U (J ⟨gk,0,I⟩) (2+2*t.cells) ck)).run Η X=.ok (Cu ky) X:=K9 _ _ _ (By.of_owns (by rw[bt];exact aa) (by rw[bt];omega));have dw:=Pq ky (by rw[bt];unfold ϐ;omega);have jf:=Z bt;clear bt;cases hf:f ky with
  | some i=>
   have an:=Xp T.o.1 HL.o.nodup aw (by rw[ax.o,T.o.2];exact af) i (by rw[ax.o,dv.o];exact hf);rw[ax.o] at an;have an:=Z (ï an (show (N.set s i).length=t.n.length by rw[υ];exact T.o.2));have cn:=Au 0 ad T.o.2.symm s (by rw[T.o.2];exact af);have fn:=ad.frozenAt s;obtain⟨a6,H⟩:=Ba ad s i;have ah:=ab.grown H (λk e=>by cases e;omega);have aj:=ag.kept H (A3 ag (by omega));have a7:=ae.kept H (by simp);have bc:=Ξ bj H.size;clear H ag ad ab bj;go_wp2_with (at_lookup;refine D0 rfl _ _ 168 rfl Gn Tryz.underlying168 rfl ae ky rfl dw ?_;rw[hf];dsimp only [ñ,Option.getD]);go_roundw
   case rel=>exact⟨j+1,N.set s i,R,f,a,cd,by omega,by go_num,rfl,ah,bc,a6,aj,a7,an⟩
   simp[intOf];omega
  | none=>
   have an:=Xr T.o.1 HL.o.nodup aw (by rw[ax.o,T.o.2];exact af) (by rw[ax.o,dv.o];exact hf);rw[ax.o,dv.o] at an;have an:=Z (ï an (show (N.set s R.length).length=t.n.length by rw[υ];exact T.o.2));have hh:=aa;go_upto_region 25 with (at_lookup;refine D0 rfl _ _ 168 rfl Gn Tryz.underlying168 rfl ae ky rfl dw ?_;rw[hf];dsimp only [ñ,Option.getD])
   go_upto_region 26 with (at_mapUpdate;refine G0 rfl _ _ _ 168 rfl Gn Tryz.underlying168 rfl ae (by unfold ϐ;omega) Ps ky rfl dw R.length rfl (by omega) ?_;intro w6 a7 H)
   clear ha;have a6:=ad.kept H (ae.far ad);have aj:=ag.kept H (ae.far ag);have ah:=ab.grown H (λk e=>by cases e;omega);have bc:=Ξ bj H.size;clear H ag ad ab bj ae aa hh;go_upto_region 27 with (at_builtin;refine Ϙ _ rfl _ _ 54 rfl (E.heap.size+1+1) 3 i0 (.int Φ 0) 1 8 Ϥ hi cu cv cw rfl (by decide) _ _ _ rfl (aj.alloc _) _ 1 1 [iv s] rfl rfl (Ý _ _ _) (by simp[ξ]) (by decide) (by unfold ϐ;omega) (by omega) (by simp;omega) _ rfl ?_;intro g7 c7 w7 b7 b8 _ _)
   have cm:=(a6.alloc (Β #[iv s] 3)).kept b8 (.inr (λe=>by have:=(aj.lt (E.heap.size+1) e.symm).1;omega));have fl:=(a7.alloc (Β #[iv s] 3)).kept b8 (λe=>by have:=(aj.lt E.heap.size e.symm).1;omega);have fm:=(ah.alloc (Β #[iv s] 3)).grown b8 (λk e=>by have:=(aj.lt k e).1;omega);have fo:E.heap.size+1<w7.heap.size:=by have:=b8.size;rw[Ρ] at this;omega
   have b7:OwnI w7 (E.heap.size+1+1) (U (J ⟨g7,0,I⟩) (R.length+1) c7) (R++[s]):=by show ϥ _ _ _ _ _ _ _;rw[Ν,ϩ];exact b7
   clear b8 aj a6 ah bc a7;have cn:=Au 0 cm T.o.2.symm s (by rw[T.o.2];exact af);have fn:=cm.frozenAt s;obtain⟨hq,b9⟩:=Ba cm s R.length;have hr:=fm.grown b9 (λk e=>by cases e;omega);have ht:=b7.kept b9 (A3 b7 (by omega));have hy:=fl.kept b9 (by simp);have h3:=Ξ fo b9.size;clear b9 b7 cm fm fo fl;go_wp2;go_roundw
   case rel=>exact⟨j+1,N.set s R.length,R++[s],_,_,c7,by omega,by go_num,by rw[Ν];rfl,hr,h3,hq,ht,by rw[Ν];exact hy,an⟩
   simp[intOf];omega
 obtain rfl:j=l.length:=by omega
 by_cases he:R.length=n
 ·have h4:((R.length:Int)==(n:Int))=Α:=by simp[he]
  have HB:=Z (Xe HV.o HL.o HO.o T.o.1 he);have h6:R.length<=4611686018427387904:=by omega
  have h7:Ints w4 (U (J ⟨E.heap.size+1,0,I⟩) t.n.length t.n.length) N:=OwnI.ints (base:=E.heap.size+1) (by show ϥ _ _ _ _ _ _ _;rw[T.o.2];exact az) (by rw[T.o.2];omega)
  have h8:=bp.ints h6;have h9:=Z T.o.2;clear he HO T;go_wp2;go_ret2;exact⟨_,_,N,R,rfl,h9.o,HB.o,h7,h8,df.t ay⟩
 have h4:((R.length:Int)==(n:Int))=Ε:=by simp;omega
 obtain⟨dx,jg⟩:=Xd HV.o HL.o HO.o (by omega) T.o.2 T.o.1 he;have dx:=Z dx;have ia:ϟ (∀ s,s<t.n.length->w4.cell? ⟨E.heap.size+1,s,I⟩=J (iv (N.getD s 0))):=Z λs hs=>Au 0 az T.o.2.symm s (by rw[T.o.2];exact hs)
 clear he;go_wp2;go_roundw
 case rel=>exact⟨N,R.length,E.heap.size+1,_,rfl,rfl,hE.t ay,b4,ia,dx⟩
 simp[intOf];omega
structure FInv {κ:Type} (key:Nat->κ) (x:Nat) (c:Nat->Nat) (bs:List Nat) (f:κ->Option Nat):Prop where
 le:bs.length<=x
 lt:∀ y,y<x->c y<bs.length
 byte:∀ k,k<bs.length->bs.getD k 0<x/\c (bs.getD k 0)=k
 same:∀ y z,y<x->z<x->(c y=c z↔key y=key z)
 has:∀ y,y<x->f (key y)=J (c y)
 from_:∀ p i,f p=J i->∃ y,y<x/\p=key y/\i=c y
 first:∀ y,y<x->bs.getD (c y) 0<=y
 inc:∀ i j,i<j->j<bs.length->bs.getD i 0<bs.getD j 0
section
variable {κ:Type} {key:Nat->κ} {x:Nat} {c:Nat->Nat} {bs:List Nat} {f:κ->Option Nat}
theorem TK (key:Nat->κ) (c:Nat->Nat):FInv key 0 c [] (λ_=>I) where
 le:=by simp
 lt:=λy E=>by omega
 byte:=λk G=>by simp at G
 same:=λy z E=>by omega
 has:=λy E=>by omega
 from_:=λp i h=>by simp at h
 first:=λy E=>by omega
 inc:=λi j h1 H=>by simp at H
theorem Z1 (h:FInv key x c bs f) (i:Nat) (hi:f (key x)=J i):FInv key (x+1) (λy=>if y=x then i else c y) bs f:=by
 obtain⟨z,E,G,rfl⟩:=h.from_ _ _ hi;refine⟨by have:=h.le;omega,λy H=>?_,λk hk=>?_,λy X H ad=>?_,λy H=>?_,λp i G=>?_,λy H=>?_,h.inc⟩
 ·split
  ·exact h.lt z E
  exact h.lt y (by omega)
 ·obtain⟨h1,h2⟩:=h.byte k hk;rw[if_neg (by omega)];exact⟨by omega,h2⟩
 ·by_cases e:y=x<;>by_cases T:X=x
  ·subst e;subst T;simp
  ·subst e;rw[if_pos rfl,if_neg T,h.same z X E (by omega),G]
  ·subst T;rw[if_neg e,if_pos rfl,h.same y z (by omega) E,G]
  rw[if_neg e,if_neg T];exact h.same y X (by omega) (by omega)
 ·by_cases e:y=x
  ·subst e;rw[if_pos rfl];exact hi
  rw[if_neg e];exact h.has y (by omega)
 ·obtain⟨y,H,h1,h2⟩:=h.from_ p i G;exact⟨y,by omega,h1,by rw[if_neg (by omega)];exact h2⟩
 by_cases e:y=x
 ·rw[if_pos e];have:=h.first z E;omega
 rw[if_neg e];exact h.first y (by omega)
theorem TL [DecidableEq κ] (h:FInv key x c bs f) (hi:f (key x)=I) :
  FInv key (x+1) (λy=>if y=x then bs.length else c y) (bs++[x]) (λp=>if p=key x then J bs.length else f p):=by
 have aa:∀ y,y<x->key y≠key x:=λy G he=>by have:=h.has y G;rw[he,hi] at this;cases this
 have hl:(bs++[x]).length=bs.length+1:=by simp
 have ad:(bs++[x]).getD bs.length 0=x:=by simp[Ζ]
 refine⟨by have:=h.le;omega,λy G=>?_,λk hk=>?_,λy H G ai=>?_,λy G=>?_,λp i T=>?_,λy G=>?_,λi j ae hj=>?_⟩
 ·rw[hl];split
  ·omega
  have:=h.lt y (by omega);omega
 ·rw[hl] at hk;by_cases e:k=bs.length
  ·subst e;rw[ad,if_pos rfl];exact⟨by omega,rfl⟩
  have af:k<bs.length:=by omega
  obtain⟨h1,E⟩:=h.byte k af;rw[Ca _ _ _ _ af,if_neg (by omega)];exact⟨by omega,E⟩
 ·by_cases e:y=x<;>by_cases X:H=x
  ·subst e;subst X;simp
  ·subst e;have h1:=h.lt H (by omega);rw[if_pos rfl,if_neg X];exact⟨λE=>by omega,λE=>absurd E.symm (aa H (by omega))⟩
  ·subst X;have h1:=h.lt y (by omega);rw[if_neg e,if_pos rfl];exact⟨λE=>by omega,λE=>absurd E (aa y (by omega))⟩
  rw[if_neg e,if_neg X];exact h.same y H (by omega) (by omega)
 ·by_cases e:y=x
  ·subst e;simp
  have h1:=aa y (by omega);rw[if_neg e,if_neg h1];exact h.has y (by omega)
 ·by_cases e:p=key x
  ·simp only[e,if_true] at T;cases T
   exact⟨x,by omega,e,by rw[if_pos rfl]⟩
  simp only[e,if_false] at T;obtain⟨y,G,h1,E⟩:=h.from_ p i T;exact⟨y,by omega,h1,by rw[if_neg (by omega)];exact E⟩
 ·by_cases e:y=x
  ·rw[if_pos e,ad];omega
  rw[if_neg e,Ca _ _ _ _ (h.lt y (by omega))];exact h.first y (by omega)
 rw[hl] at hj;by_cases e:j=bs.length
 ·subst e;rw[ad,Ca _ _ _ _ ae];exact (h.byte i ae).1
 rw[Ca _ _ _ _ (by omega),Ca _ _ _ _ (by omega)];exact h.inc i j ae (by omega)
end
structure MInv {κ:Type} (cell:Nat->Nat) (n:Nat) (key:Nat->κ) (b b':Nat) (c:Nat->Nat) (bs:List Nat) (f:κ->Option Nat) (O:List (Option Nat)) (C:List Cls):Prop where
 fi:FInv (λy=>key (cell y)) b c bs f
 lenO:O.length=n
 lenC:C.length=bs.length
 at_:∀ y,y<b->O.getD (cell y) I=J (c y)
 from_:∀ k i,O.getD k I=J i->∃ y,y<b/\cell y=k/\i=c y
 cls:∀ i,i<bs.length->∀ y,y<256->((C.getD i 0#256).getLsbD y=Α↔y<b'/\c y=i)
section
variable {κ:Type} {cell:Nat->Nat} {n:Nat} {key:Nat->κ} {b:Nat} {c:Nat->Nat} {bs:List Nat} {f:κ->Option Nat} {O:List (Option Nat)} {C:List Cls}
theorem NF (cell:Nat->Nat) (n:Nat) (key:Nat->κ) (c:Nat->Nat):MInv cell n key 0 0 c [] (λ_=>I) (θ n I) [] where
 fi:=TK _ c
 lenO:=by simp
 lenC:=rfl
 at_:=λy E=>by omega
 from_:=λk i h=>by rw[Ζ,Ò] at h;split at h<;>simp at h
 cls:=λi hi=>by simp at hi
theorem NG (h:MInv cell n key b b c bs f O C) (i:Nat) (hi:O.getD (cell b) I=J i):MInv cell n key (b+1) b (λy=>if y=b then i else c y) bs f O C:=by
 obtain⟨z,H,T,rfl⟩:=h.from_ _ _ hi;refine⟨Z1 h.fi _ ?_,h.lenO,h.lenC,λy G=>?_,λk i X=>?_,λi hi y G=>?_⟩
 ·show f (key (cell b))=_;rw[<-T];exact h.fi.has z H
 ·by_cases e:y=b
  ·subst e;rw[if_pos rfl];exact hi
  rw[if_neg e];exact h.at_ y (by omega)
 ·obtain⟨y,G,h1,E⟩:=h.from_ k i X;exact⟨y,by omega,h1,by rw[if_neg (by omega)];exact E⟩
 rw[h.cls i hi y G];constructor
 ·rintro⟨h1,E⟩;exact⟨h1,by rw[if_neg (by omega)];exact E⟩
 rintro⟨h1,E⟩;rw[if_neg (by omega)] at E;exact⟨h1,E⟩
theorem NI (h:MInv cell n key b b c bs f O C) (hc:cell b<n) (hn:O.getD (cell b) I=I) (i:Nat) (hi:f (key (cell b))=J i) :
  MInv cell n key (b+1) b (λy=>if y=b then i else c y) bs f (O.set (cell b) (J i)) C:=by
 have ne:∀ y,y<b->cell y≠cell b:=λy G e=>by have:=h.at_ y G;rw[e,hn] at this;cases this
 have T:cell b<O.length:=by rw[h.lenO];exact hc
 refine⟨Z1 h.fi i hi,by rw[υ];exact h.lenO,h.lenC,λy G=>?_,λk X H=>?_,λX ab y G=>?_⟩
 ·by_cases e:y=b
  ·subst e;rw[if_pos rfl,Cf _ _ _ _ _ T,if_pos rfl]
  rw[if_neg e,Cf _ _ _ _ _ T,if_neg (ne y (by omega))];exact h.at_ y (by omega)
 ·rw[Cf _ _ _ _ _ T] at H;by_cases e:k=cell b
  ·rw[if_pos e] at H;cases H
   exact⟨b,by omega,e.symm,by rw[if_pos rfl]⟩
  rw[if_neg e] at H;obtain⟨y,G,h1,E⟩:=h.from_ k X H;exact⟨y,by omega,h1,by rw[if_neg (by omega)];exact E⟩
 rw[h.cls X ab y G];constructor
 ·rintro⟨h1,E⟩;exact⟨h1,by rw[if_neg (by omega)];exact E⟩
 rintro⟨h1,E⟩;rw[if_neg (by omega)] at E;exact⟨h1,E⟩
theorem NJ [DecidableEq κ] (h:MInv cell n key b b c bs f O C) (hc:cell b<n) (hn:O.getD (cell b) I=I) (hi:f (key (cell b))=I) :
  MInv cell n key (b+1) b (λy=>if y=b then bs.length else c y) (bs++[b]) (λp=>if p=key (cell b) then J bs.length else f p) (O.set (cell b) (J bs.length)) (C++[0#256]):=by
 have ne:∀ y,y<b->cell y≠cell b:=λy G e=>by have:=h.at_ y G;rw[e,hn] at this;cases this
 have X:cell b<O.length:=by rw[h.lenO];exact hc
 refine⟨TL h.fi hi,by rw[υ];exact h.lenO,by rw[Ν,Ν,h.lenC];rfl,λy G=>?_,λk H T=>?_,λH ab y G=>?_⟩
 ·by_cases e:y=b
  ·subst e;rw[if_pos rfl,Cf _ _ _ _ _ X,if_pos rfl]
  rw[if_neg e,Cf _ _ _ _ _ X,if_neg (ne y (by omega))];exact h.at_ y (by omega)
 ·rw[Cf _ _ _ _ _ X] at T;by_cases e:k=cell b
  ·rw[if_pos e] at T;cases T
   exact⟨b,by omega,e.symm,by rw[if_pos rfl]⟩
  rw[if_neg e] at T;obtain⟨y,G,h1,E⟩:=h.from_ k H T;exact⟨y,by omega,h1,by rw[if_neg (by omega)];exact E⟩
 rw[Ν,List.length_singleton] at ab;by_cases e:H=bs.length
 ·have e1:(C++[0#256]).getD H 0#256=0#256:=by rw[e,<-h.lenC];exact Dx _ _ _
  rw[e1];constructor
  ·intro h1;simp at h1
  rintro⟨h1,E⟩;rw[if_neg (by omega)] at E;have:=h.fi.lt y h1;omega
 rw[Ca _ _ _ _ (by rw[h.lenC];omega),h.cls H (by omega) y G];constructor
 ·rintro⟨h1,E⟩;exact⟨h1,by rw[if_neg (by omega)];exact E⟩
 rintro⟨h1,E⟩;rw[if_neg (by omega)] at E;exact⟨h1,E⟩
theorem NH (h:MInv cell n key (b+1) b c bs f O C) (u:Cls) (hu:∀ y,y<256->(u.getLsbD y=Α↔y=b)) :
  MInv cell n key (b+1) (b+1) c bs f O (C.set (c b) (C.getD (c b) 0#256 ||| u)):=by
 refine⟨h.fi,h.lenO,by rw[υ];exact h.lenC,h.at_,h.from_,λi hi y G=>?_⟩;have H:=h.fi.lt b (by omega);rw[Cf _ _ _ _ _ (by rw[h.lenC];exact H)];by_cases e:i=c b
 ·subst e;rw[if_pos rfl,BitVec.getLsbD_or,Û,h.cls _ hi y G,hu y G];constructor
  ·rintro (⟨h1,E⟩|rfl)
   ·exact⟨by omega,E⟩
   exact⟨by omega,rfl⟩
  rintro⟨h1,E⟩;by_cases e:y=b
  ·exact .inr e
  exact .inl ⟨by omega,E⟩
 rw[if_neg e,h.cls i hi y G];constructor
 ·rintro⟨h1,E⟩;exact⟨by omega,E⟩
 rintro⟨h1,E⟩;refine⟨?_,E⟩;by_cases T:y=b
 ·subst T;exact absurd E.symm e
 omega
end
def Kd (t:Tbl) (B:Nat->Nat) (R:List Nat) (c:Nat):List UInt8:=Bn (λi=>B (t.ent2 (R.getD i 0) c)) R.length
theorem NQ {t:Tbl} (hv:TVal t) {B:Nat->Nat} {R:List Nat} (hB:∀ i,i<R.length->∀ k,k<t.cells->B (t.ent2 (R.getD i 0) k)<65536) {c:Nat->Nat} {bs:List Nat} {f:List UInt8->Option Nat} {O:List (Option Nat)} {C:List Cls}
  (h:MInv t.cell t.cells (Kd t B R) 256 256 c bs f O C):Merged t B R (bs.map t.cell) C:=by
 have bit:∀ y,y<256->(C.getD (c y) 0#256).getLsbD y=Α:=λy E=>(h.cls _ (h.fi.lt y E) y E).2 ⟨E,rfl⟩
 have ah:∀ i,i<bs.length->key (C.getD i 0#256)=bs.getD i 0:=λi hi=>by
  obtain⟨h1,G⟩:=h.fi.byte i hi;refine QN _ _ h1 ?_ λj T=>?_
  ·have:=bit _ h1;rwa [G] at this
  rw[<-Bool.not_eq_true];intro hb;obtain⟨_,X⟩:=(h.cls i hi j (by omega)).1 hb;have:=h.fi.first j (by omega);rw[X] at this;omega
 have parts:Parts C:=by
  refine⟨λx hx=>?_,?_,λi hi=>⟨_,Dm _ _ _ (by rw[h.lenC];exact h.fi.lt i hi),bit i hi⟩⟩
  ·obtain⟨i,hi,rfl⟩:=Ls (d:=0#256) hx;rw[h.lenC] at hi;obtain⟨h1,G⟩:=h.fi.byte i hi;have:=bit _ h1;rw[G] at this;exact Ln this
  rw[Ϫ];intro i j hi T ai y ⟨h1,G⟩;by_cases E:y<256
  ·have e1:=(h.cls i (by rw[<-h.lenC];exact hi) y E).1 (by rw[Ζ,Ι hi];exact h1);have e2:=(h.cls j (by rw[<-h.lenC];exact T) y E).1 (by rw[Ζ,Ι T];exact G);omega
  rw[BitVec.getLsbD_of_ge _ _ (by omega)] at h1;cases h1
 have place:∀ y,y<256->Am C y=c y:=λy E=>Gw parts E (by rw[h.lenC];exact h.fi.lt y E) (bit y E)
 have ad:∀ k,k<bs.length->(bs.map t.cell).getD k 0=t.cell (bs.getD k 0):=λk H=>by simp[Ζ,H]
 have aj:∀ y z,y<256->z<256->(Kd t B R (t.cell y)=Kd t B R (t.cell z)↔∀ i,i<R.length->B (t.ent2 (R.getD i 0) (t.cell y))=B (t.ent2 (R.getD i 0) (t.cell z))):=λy z E hz=>Ow _ _ _ (λi hi=>hB i hi _ (hv.cell_lt y E)) (λi hi=>hB i hi _ (hv.cell_lt z hz))
 refine⟨parts,?_,by rw[ι,h.lenC],λk H=>?_,λb hb i hi=>?_,λk k' H af he=>?_⟩
 ·rw[Ϫ];intro i j hi T ai;have e1:=ah i (by rw[<-h.lenC];exact hi);have e2:=ah j (by rw[<-h.lenC];exact T);rw[Ζ,Ι hi] at e1;rw[Ζ,Ι T] at e2;simp only[ϱ] at e1 e2;have:=h.fi.inc i j ai (by rw[<-h.lenC];exact T);rw[e1,e2];omega
 ·rw[ι] at H;rw[ad k H];exact hv.cell_lt _ (h.fi.byte k H).1
 ·have ak:=h.fi.lt b hb;rw[place b hb,ad _ ak];obtain⟨h1,G⟩:=h.fi.byte _ ak;exact (aj _ _ h1 hb).1 ((h.fi.same _ _ h1 hb).1 G) i hi
 rw[ι] at H af;obtain⟨h1,G⟩:=h.fi.byte _ H;obtain⟨X,h4⟩:=h.fi.byte _ af;rw[<-G,<-h4];refine (h.fi.same _ _ h1 X).2 ((aj _ _ h1 X).2 λi hi=>?_);have:=he i hi
 rwa [ad k H,ad k' af] at this
open Go
section
variable {P:Program} {md:Region.Mode} {ops:Array Oper} {Q:Exit->Act->World->Prop} {C:World->Prop} {n:Nat}
def Ki (P:Program) (md:Region.Mode) (ops:Array ϳ) (Q:Exit->ø->Γ->Prop) (C:Γ->Prop) (n:Nat):Nat->Array Bool->ø->Γ->Prop
 | 0,listed,a,w=>ϻ md ops listed=[]/\Q .normal a w
 | f+1,listed,a,w=>(ϻ md ops listed=[]->Q .normal a w)/\∀ i∈ϻ md ops listed,wpOp P ops Q i (λE w'=>(i<n->C w')/\Ki P md ops Q C n f (listed.setIfInBounds i Α) E w') a w
theorem Tz:∀ (f:Nat) (listed:Array Bool) (a:ø) (w:Γ),Ki P md ops Q C n f listed a w->wpAny P md ops Q f listed a w
 | 0,_,_,_,h=>h
 | f+1,_,_,_,h=>⟨h.1,λi hi=>wpOp_mono (λ_ _ E=>Tz f _ _ _ E.2) (h.2 i hi)⟩
theorem CZ {i:Nat} {oi:ϳ} {v:Δ} (hi:ops[i]? = J oi) (af:∀ (j:Nat) (o:ϳ) cs b,ops[j]? = J o->o.op≠.select cs b)
  (hs:Region.sinkB md ops n=Α) (hc:Region.chainB md ops n=Α) (hn:n<ops.size) (ar:i<n)
  (hQ:∀ c a w,Q (.panic c) (a.put oi.dst v) w->Q (.panic c) a w) :
  ∀ (f:Nat) (listed:Array Bool) (a:ø) (w:Γ),HeadInv md ops n listed->(∀ j oj,ops[j]? = J oj->j≠i->listed.getD j Α=Ε->(∀ e∈oj.after,Region.binds md e=Α->e.on≠i)->oi.apart ops oj=Α)->i∈ϻ md ops listed->YieldsIf P ops C oi v a->C w->
   Ki P md ops Q C n f (listed.setIfInBounds i Α) (a.put oi.dst v) w->Ki P md ops Q C n (f+1) listed a w:=by
 intro f;induction f with
 | zero=>
  intro listed a w _ _ G hy X H;refine⟨λh=>(by rw[h] at G;cases G),λj T=>?_⟩;by_cases E:j=i
  ·subst E;exact hy.wpOp hi X ⟨λ_=>X,H⟩
  have:=ready_mono T E;rw[H.1] at this;cases this
 | succ f ih=>
  intro listed a w ag ah G hy X H;have ai:=(mem_ready.1 G).1;refine⟨λh=>(by rw[h] at G;cases G),λj T=>?_⟩;by_cases E:j=i
  ·subst E;exact hy.wpOp hi X ⟨λ_=>X,H⟩
  have ad:j<n:=Nat.lt_of_not_le λh=>tail_waits hs hc hn ag _ i rfl ar ai j h T
  have h1:=H.2 j (ready_mono T E);obtain⟨aj,oj,ae,ax⟩:=mem_ready.1 T;have ay:∀ e∈oj.after,Region.binds md e=Α->e.on≠i:=λe he hb az=>by have h1:=ax e he hb;rw[az,getD_both ai] at h1;cases h1
  have h2:=wpOp_putIf ae (ah j oj ae E aj ay) (λcs b=>af i oi cs b hi) (λcs b=>af j oj cs b ae) hQ hy h1;have a6:∀ k ok,ops[k]? = J ok->k≠i->(listed.setIfInBounds j Α).getD k Α=Ε->
    (∀ e∈ok.after,Region.binds md e=Α->e.on≠i)->oi.apart ops ok=Α:=λk ok hk a8 ak ba=>by
   refine ah k ok hk a8 ?_ ba;by_cases an:j=k
   ·subst an;exact aj
   rw[getD_set_ne Α an] at ak;exact ak
  refine wpOp_mono (λa' w' h3=>⟨λ_=>h3.2.1 ad,ih (listed.setIfInBounds j Α) a' w' (ag.set T ad) a6 (ready_mono G (Ne.symm E)) h3.1 (h3.2.1 ad) ?_⟩) h2;rw[Array.setIfInBounds_comm _ _ E];exact h3.2.2
def Df (P:Program) (ops:Array ϳ) (Q:Exit->ø->Γ->Prop) (C:Γ->Prop) (n:Nat):List (Nat × Bool)->ø->Γ->Prop
 | [],a,w=>Q .normal a w
 | (i,Α)::is,a,w=>∃ o v,ops[i]? = J o/\YieldsIf P ops C o v a/\Df P ops Q C n is (a.put o.dst v) w
 | (i,Ε)::is,a,w=>wpOp P ops Q i (λE w'=>(i<n->C w')/\Df P ops Q C n is E w') a w
def Ij (md:Region.Mode) (ops:Array ϳ) (n:Nat):List (Nat × Bool)->Array Bool->Bool
 | [],listed=>(ϻ md ops listed).isEmpty
 | (i,Α)::is,listed=>(ϻ md ops listed).contains i&&decide (i<n)&&Region.free md ops listed i&&Ij md ops n is (listed.setIfInBounds i Α)
 | (i,Ε)::is,listed=>decide (ϻ md ops listed=[i])&&(is.isEmpty||decide (i<n))&&Ij md ops n is (listed.setIfInBounds i Α)
theorem T1 (ad:Region.noSelect ops=Α) (hs:Region.sinkB md ops n=Α) (hc:Region.chainB md ops n=Α) (hn:n<ops.size)
  (hQ:∀ c a tm w,Q (.panic c) { tmps:=tm,defers:=a.defers } w->Q (.panic c) a w):∀ (is:List (Nat × Bool)) (listed:Array Bool) (a:ø) (w:Γ),(is≠[]->HeadInv md ops n listed)->Ij md ops n is listed=Α->(is≠[]->C w)->Df P ops Q C n is a w->Ki P md ops Q C n is.length listed a w
 | [],listed,a,w,_,E,_,h=>⟨by simpa [Ij] using E,h⟩
 | (i,Α)::is,listed,a,w,G,E,H,⟨o,v,ho,hy,h⟩=>by
  simp only[Ij,ψ,decide_eq_true_eq] at E;obtain⟨⟨⟨T,X⟩,hf⟩,ah⟩:=E;have aa:i∈ϻ md ops listed:=by simpa using T
  have G:=G (by simp);have H:=H (by simp);exact CZ ho (Region.noSelect_spec ad) hs hc hn X (λc a w hp=>by
    cases hd:o.dst with
    | none=>rw[hd] at hp;exact hp
    | some t=>rw[hd] at hp;exact hQ c a _ w hp) _ listed a w G (Region.free_spec ho hf) aa hy H
   (T1 ad hs hc hn hQ is _ _ w (λ_=>G.set aa X) ah (λ_=>H) h)
 | (i,Ε)::is,listed,a,w,G,E,H,h=>by
  simp only[Ij,ψ,decide_eq_true_eq,Û,List.isEmpty_iff] at E;obtain⟨⟨T,X⟩,ah⟩:=E;have aa:i∈ϻ md ops listed:=by rw[T];simp
  refine⟨λh1=>(by rw[T] at h1;cases h1),λj hj=>?_⟩;rw[T] at hj;have:j=i:=by simpa using hj
  subst this;refine wpOp_mono (λa' w' h'=>⟨h'.1,T1 ad hs hc hn hQ is _ a' w' (λaj=>?_) ah (λaj=>?_) h'.2⟩) h
  ·rcases X with h0|h0
   ·exact absurd h0 aj
   exact (G (by simp)).set aa h0
  rcases X with h0|h0
  ·exact absurd h0 aj
  exact h'.1 h0
def Wb (md:Region.Mode) (ops:Array ϳ) (n:Nat) (is:List (Nat × Bool)):Bool:=
 Region.noSelect ops&&Region.sinkB md ops n&&Region.chainB md ops n&&decide (n<ops.size)&&decide (is.length=ops.size)&&Ij md ops n is (í ops.size Ε)
theorem Bl {id:Nat} {a:ø} {w:Γ} (n:Nat) (is:List (Nat × Bool)) (hm:P.follows .mixedOrders=Α) (E:Wb .any ops n is=Α) (T:∀ c a X w,Q (.panic c) { tmps:=X,defers:=a.defers } w->Q (.panic c) a w)
  (C:Γ->Prop) (hC:C w.drew) (h:Df P ops Q C n is a w.drew):(Code.region id ops Α).wp P Q a w:=by
 simp only[Wb,ψ,decide_eq_true_eq] at E;obtain⟨⟨⟨⟨⟨ab,hs⟩,hc⟩,hn⟩,G⟩,E⟩:=E;refine wp_region_any hm (Tz (C:=C) (n:=n) _ _ _ _ ?_);rw[<-G];have af:HeadInv .any ops n (í is.length Ε):=by rw[G];exact⟨by simp,λj oj _ H=>(by rw[Ϡ] at H;cases H),λt _ ht=>getD_in (by simpa using ht) (Ϡ _ _)⟩
 exact T1 ab hs hc hn T is _ a _ (λ_=>af) (by rw[G];exact E) (λ_=>hC) h
theorem Bj {a:ø} {w:Γ} (h:Q .normal a w):Df P ops Q C n [] a w:=h
theorem G5 {i:Nat} {is:List (Nat × Bool)} {o:ϳ} {v:Δ} {a:ø} {w:Γ} (h0:ops[i]? = J o) (E:ϧ o (ü ops a.tmps)=Α) (G:∀ W,C W->(execOp a.eval o).run P W=.ok (.value v) W)
  (h:Df P ops Q C n is (a.put o.dst v) w):Df P ops Q C n ((i,Α)::is) a w:=⟨o,v,h0,.inl ⟨E,G⟩,h⟩
theorem D5 {i:Nat} {is:List (Nat × Bool)} {o:ϳ} {a:ø} {w:Γ} (h0:ops[i]? = J o)
  (h:∀ K:ø->Γ->Prop,(∀ E w',(i<n->C w')->Df P ops Q C n is E w'->K E w')->if ϧ o (ü ops a.tmps)=Α then ϳ.wp P o a w K Q else K (a.put o.dst undef) w):Df P ops Q C n ((i,Ε)::is) a w:=by
 show wpOp P ops Q i _ a w;unfold wpOp;rw[h0];have:=h _ (λE w' hc H=>ï hc H);show if _ then _ else _
 by_cases G:ϧ o (ü ops a.tmps)=Α
 ·rw[if_pos G] at this ⊢;exact .inl this
 rw[if_neg G] at this ⊢;exact this
end
def ov:Option Nat->Δ
 | none=>.int Φ (-1)
 | some i=>iv i
theorem LF (o:Option Nat):∃ z:Int,ov o=.int Φ z/\(o=I->z=-1)/\∀ i,o=J i->z=(i:Int):=by
 cases o with
 | none=>exact⟨-1,rfl,λ_=>rfl,λi h=>by cases h⟩
 | some i=>exact⟨i,rfl,(by intro h;cases h),λj h=>by cases h;rfl⟩
def El (n k:Nat):List (Option Nat):=(π n).map λq=>if q<k then I else J 0
theorem Iv (n k:Nat):(El n k).length=n:=by simp[El]
theorem R8 (n:Nat):El n 0=θ n (J 0):=by
 apply Ϯ;intro i;simp only[El,ν,Ò,Nat.not_lt_zero,if_false];by_cases h:i<n
 ·simp[h]
 simp[h]
theorem Sa (n:Nat):El n n=θ n I:=by
 apply Ϯ;intro i;simp only[El,ν,Ò];by_cases h:i<n
 ·simp[h]
 simp[h]
theorem R9 (n k:Nat) (E:k<n):(El n k).set k I=El n (k+1):=by
 apply Ϯ;intro i;rw[Ú,Iv];simp only[El,ν];by_cases h:i<n
 ·rw[List.getElem?_range h];by_cases e:k=i
  ·subst e;simp[E]
  simp only[e,if_false,Option.map_some];by_cases h1:i<k
  ·rw[if_pos h1,if_pos (by omega)]
  rw[if_neg h1,if_neg (by omega)]
 rw[if_neg (by omega)];simp[h]
theorem MC (x:UInt8) (y:Nat) (E:y<256):(ofL [x]).getLsbD y=Α↔y=x.toNat:=by show (Ay 0#256 (x.toNat:Int)).getLsbD y=Α↔_;rw[J4 _ _ _ x.toNat_lt];simp
theorem OU (z:Nat) (E:z<65536):(Bt z).map bv=[.int .u8 ((z:Int) % 256),.int .u8 ((z:Int) / 256)]:=by simp only[Bt,List.map_cons,List.map_nil,bv,UInt8.toNat_ofNat'];rw[show z / 256 % 2 ^ 8=z / 256 by omega];simp
theorem WX (w:Γ) (x:UInt8):By (w.alloc (Β #[bv x] 5)) (U (J ⟨w.heap.size,0,I⟩) 1 1) [x]:=by
 refine⟨by simp,.inr ⟨by simp,w.heap.size,0,1,rfl,by rw[Ρ];omega,λi hi=>?_⟩⟩;have:i<1:=by simpa using hi
 obtain rfl:i=0:=by omega
 exact Τ _ w.heap.size 0 _ _ _ (Ad w _)
theorem WW (w:Γ) (b:Nat):By (w.alloc (Β #[.int .u8 (é.wrap (b:Int))] 5)) (U (J ⟨w.heap.size,0,I⟩) 1 1) [ώ b]:=
 WX w (ώ b)
theorem NR (t:Tbl) (hv:TVal t) (hn:t.n.length<=65536) (N R:List Nat) (hN:N.length=t.n.length) (ht:0<R.length) (jn:R.length<=65536) (ep:∀ i,i<R.length->R.getD i 0<t.n.length)
  (hB:∀ i,i<R.length->∀ k,k<t.cells->N.getD (t.ent2 (R.getD i 0) k) 0<65536) (A:Array Δ) (vN vR:Δ) (w:Γ) (h:IsT w A t) (eu:Ints w vN N) (ev:Ints w vR R) :
  Calls Η 69 #[.agg A,vN,vR] w λe w'=>∃ vK vC K C,e=Ψ (.tuple #[vK,vC])/\Merged t (λs=>N.getD s 0) R K C/\Ints w' vK K/\Cs w' vC C/\Ext w w':=by
 obtain⟨bn,on,cn,ba,oa,ca,h2,h3,ez,e0,e1,_,hR,_⟩:=h.opened hv;have e3:Sl w vN 1 t.n.length (λi=>iv (N.getD i 0)):=by rw[<-hN];exact eu
 obtain⟨bN,oN,cN,rfl,e4⟩:=â e3 hv.pos;obtain⟨bR,oR,cR,rfl,e5⟩:=â ev ht;have jz:=hv.pos;have j0:=hv.cpos;have j1:=hv.cle;have HR:=Z hR;have HV:=Z hv;have e6:=Z hB;have h5:=Z ep;have h6:=Z (λk (hk:k<t.n.length)=>e4 k (by omega));have h7:=Z (λk (hk:k<R.length)=>e5 k (by omega));obtain⟨i0,hi,e8,e9,fa⟩:=ϓ Dw;obtain⟨i5,fc,fe,ff,fg⟩:=ϓ (show (Η.info? 5).map (λi=>(i.zero,i.size,i.bytes))=J (J (.int .u8 0),1,1) by kernel_rfl);obtain⟨i6,ia,ib,ic,ie⟩:=ϓ (show (Η.info? 91).map (λi=>(i.zero,i.size,i.bytes))=J (J (.agg zA),4,32) by kernel_rfl);have b7:=(Κ w).alloc (Β A 84);have H0:=Ad w (Β A 84);have HK:=Z (λ(W:Γ) (E:Ext (w.alloc (Β A 84)) W)=>(Τ W w.heap.size 257 _ _ _ (E.heap H0)).trans e1);have fj:=Z (λ(W:Γ) (E:Ext (w.alloc (Β A 84)) W)=>(Τ W w.heap.size 256 _ _ _ (E.heap H0)).trans e0);have fk:=Z (λ(W:Γ) (E:Ext (w.alloc (Β A 84)) W) (b:Nat) (hb:b<256)=>(Τ W w.heap.size b _ _ _ (E.heap H0)).trans (ez b hb));clear hR hv h H0 e0 e1 ez h3 h2 e4 e5 eu e3 ev ep hB hN;have ig:=@run_makeMap Η;go_enter Tryz.func69,Tryz.ntmps69;go_upto_region 1 with (fail)
 obtain⟨w1,dg⟩:=Xq (w.alloc (Β A 84));rw[dg] at b7 HK fj fk;simp only[dg];clear dg;go_upto_region 2 with (fail)
 clear ig;have dh:=(Κ w1).alloc (.map #[] 0);have fl:=It w1 9 Cu;have fm:(w1.alloc (.map #[] 0)).heap.size=w1.heap.size+1:=Ρ _ _;obtain⟨w3,fp⟩:=Xq (w1.alloc (.map #[] 0));simp only[fp] at *;clear fp;have k6:=fj.o w3 dh;go_upto_region 5 with (at_make;refine Ϟ _ rfl _ _ 54 rfl w3.heap.size 3 i0 (.int Φ 0) 1 Ϥ hi e8 e9 Φ Φ _ _ t.cells rfl rfl rfl rfl (by rw[fa];omega) (by unfold ϐ;omega) (Υ _) ?_;intro w4 fq dk)
 have ae:=dh.grown dk (λk e=>by cases e);have G:w4.ownsRow w3.heap.size 3 1 (U (J ⟨w3.heap.size,0,I⟩) t.cells t.cells) t.cells ((El t.cells 0).map ov):=by rw[R8,<-B8];exact fq
 have af:=fl.kept dk (by simp);have ah:w1.heap.size+1<w4.heap.size:=by have:w3.heap.size<w4.heap.size:=(G.lt _ rfl).2;omega
 rw[fm] at G;clear fq dk fl dh k6;generalize j2:w3.heap.size=gn at *;obtain rfl:gn=w1.heap.size+1:=fm;go_wp2_with (fail);go_loopw [27] (λi W=>∃ k:Nat,k<=t.cells/\i=.int Φ k/\Ext w1 W/\w1.heap.size+1<W.heap.size/\W.ownsRow (w1.heap.size+1) 3 1 (U (J ⟨w1.heap.size+1,0,I⟩) t.cells t.cells) t.cells ((El t.cells k).map ov)/\IsMp W 9 Cu w1.heap.size 0 (λ_=>I))
  (λi _=>t.cells-(intOf i).toNat)
 case atStart=>exact⟨0,by omega,rfl,ae,ah,G,af⟩
 clear ae ah G af;obtain⟨k,hk,rfl,ae,ah,G,af⟩:=hrel;by_cases bk:k<t.cells
 ·have co:=Au I G (Iv _ _).symm k (by rw[Iv];exact bk);have fo:=G.frozenAt k;obtain⟨aa,ai⟩:=Ba G k I;rw[R9 _ _ bk] at aa;have T:=ae.grown ai (λk e=>by cases e;omega);have ab:=af.kept ai (by simp);have ao:=Ξ ah ai.size;clear ai G ae af;go_wp2_with (fail);go_roundw
  case rel=>exact⟨k+1,by omega,by go_num,T,ao,aa,ab⟩
  simp[intOf];omega
 obtain rfl:k=t.cells:=by omega
 rw[Sa] at G;have aq:=À wr (w1.heap.size+1+1) 3 1;have ad:=À wr (w1.heap.size+1+1) 91 4;go_wp2_with (fail);go_loopw [9,10,34] (λvk vc i W=>∃ (b:Nat) (bs:List Nat) (c:Nat->Nat) (f:List UInt8->Option Nat) (O:List (Option Nat)) (C:List Cls) (ak ac:Option Addr) (ck cc:Nat),b<=256/\i=.int Φ b/\vk=U ak bs.length ck/\vc=U ac C.length cc/\Ext w1 W/\w1.heap.size+1<W.heap.size/\W.ownsRow (w1.heap.size+1) 3 1 (U (J ⟨w1.heap.size+1,0,I⟩) t.cells t.cells) t.cells (O.map ov)/\IsMp W 9 Cu w1.heap.size bs.length f/\W.ownsRow (w1.heap.size+1+1) 3 1 vk bs.length ((bs.map t.cell).map iv)/\Row W (w1.heap.size+1+1) vc C/\ϟ (MInv t.cell t.cells (Kd t (λs=>N.getD s 0) R) b b c bs f O C))
  (λ_ _ i _=>256-(intOf i).toNat)
 case atStart=>exact⟨0,[],_,_,_,[],I,I,0,0,by omega,rfl,rfl,rfl,ae,ah,G,af,aq,ad,Z (NF _ _ _ λ_=>0)⟩
 clear ae ah G af aq ad;obtain⟨b,bs,c,f,O,C,ak,ac,ck,cc,hb,rfl,rfl,rfl,ae,ah,G,af,aq,ad,X⟩:=hrel;have ik:=X.o.fi.le;have cq:=Z X.o.lenC;have il:C.length<=256:=by rw[cq.o];omega
 by_cases bk:b<256
 ·obtain⟨w4,im⟩:∃ W,W=wr:=⟨_,rfl⟩;subst im;have kb:=fk.o w4 ae b bk;have ax:=HV.o.cell_lt b bk;have co:=Au I G X.o.lenO.symm (t.cell b) (by rw[X.o.lenO];exact ax);have HS:=Z (NG X.o);have bl:=Z (NI X.o ax);have bm:=Z (NJ X.o ax);obtain⟨q,hq⟩:=Xq (t.cell b);have a7:ϟ (O.length=t.cells):=Z X.o.lenO;rw[hq] at kb ax co HS bl bm;have HQ:=Z hq;clear hq;obtain⟨o,ho⟩:=Xq (O.getD q I);rw[ho] at co HS bl bm;have HO:=Z ho;clear ho;obtain⟨z,hz,fu,fv⟩:=LF o;rw[hz] at co;have fw:=Z fu;have fx:=Z fv;clear hz fu fv;go_upto_if 45 with (fail)
  go_cut [9,10] (λvk vc W=>∃ (bs:List Nat) (c:Nat->Nat) (f:List UInt8->Option Nat) (O:List (Option Nat)) (C:List Cls) (ak ac:Option Addr) (ck cc:Nat),vk=U ak bs.length ck/\vc=U ac C.length cc/\Ext w1 W/\w1.heap.size+1<W.heap.size/\W.ownsRow (w1.heap.size+1) 3 1 (U (J ⟨w1.heap.size+1,0,I⟩) t.cells t.cells) t.cells (O.map ov)/\IsMp W 9 Cu w1.heap.size bs.length f/\W.ownsRow (w1.heap.size+1+1) 3 1 vk bs.length ((bs.map t.cell).map iv)/\Row W (w1.heap.size+1+1) vc C/\ϟ (MInv t.cell t.cells (Kd t (λs=>N.getD s 0) R) (b+1) b c bs f O C))
  case first=>
   cases o with
   | some i=>
    have iu:=Z (HS.o i rfl);obtain rfl:=fx.o i rfl;go_wp2_with (fail);go_meet
    exact⟨bs,_,f,O,C,ak,ac,ck,cc,rfl,rfl,ae,ah,G,af,aq,ad,iu⟩
   | none=>
    obtain rfl:=fw.o rfl;go_upto_region 15 with (fail)
    go_upto_region 16 with (at_make;refine wpList_make_own _ rfl _ _ 22 rfl (w1.heap.size+1+1) 5 i5 (.int .u8 0) 1 ύ fc fe ff Φ Φ _ (2*R.length) rfl rfl (by push_cast;rfl) (by rw[fg];omega) (by unfold ϐ;omega) (by omega) ?_;intro w5 fy ai)
    have T:=ae.grown ai (λk e=>by cases e);have aa:=Bz G ai;have aj:=Bz aq ai;have an:=Bz ad ai;have ab:=af.kept ai (by simp);have ao:w1.heap.size+1<w5.heap.size:=Ξ ah ai.size;obtain⟨gf,fz⟩:=Xq ((λk=>N.getD (t.ent2 (R.getD k 0) q) 0):Nat->Nat);have ga:=Z fz;have ag:w5.ownsRow (w1.heap.size+1+1) 5 1 (U (J ⟨w4.heap.size,0,I⟩) (2*0) (2*R.length)) (2*0) ((Bn gf 0).map bv):=fy;clear fz fy ai kb co;go_wp2_with (fail);go_loopw [15,52] (λv i W=>∃ (k gk dr:Nat),k<=R.length/\i=.int Φ k/\v=U (J ⟨gk,0,I⟩) (2*k) dr/\Ext w1 W/\w1.heap.size+1<W.heap.size/\W.ownsRow (w1.heap.size+1) 3 1 (U (J ⟨w1.heap.size+1,0,I⟩) t.cells t.cells) t.cells (O.map ov)/\IsMp W 9 Cu w1.heap.size bs.length f/\W.ownsRow (w1.heap.size+1+1) 3 1 (U ak bs.length ck) bs.length ((bs.map t.cell).map iv)/\Row W (w1.heap.size+1+1) (U ac C.length cc) C/\W.ownsRow (w1.heap.size+1+1) 5 1 v (2*k) ((Bn gf k).map bv))
     (λ_ i _=>R.length-(intOf i).toNat)
    case atStart=>exact⟨0,w4.heap.size,_,by omega,rfl,rfl,T,ao,aa,ab,aj,an,ag⟩
    clear T ao aa ab aj an ag;obtain⟨k,gk,dr,hk,rfl,rfl,T,ao,aa,ab,aj,an,ag⟩:=hrel;obtain⟨w5,b9⟩:∃ W,W=wr:=⟨_,rfl⟩;subst b9;by_cases dt:k<R.length
    ·have cr:=(b7.t T).cell (h7.o k dt);have du:=h5.o k dt;have hz:=e6.o k dt q ax;obtain⟨s,dv⟩:=Xq (R.getD k 0);have dw:ϟ (gf k=N.getD (t.ent2 s q) 0):=Z (by rw[<-ga.o,<-dv]);rw[dv] at cr du hz;clear dv;have gb:=HV.o.tgt s du q ax;obtain⟨br,or',j4,iw,gd⟩:=(HR.o.ext (b7.t T)) s du;have cy:=gd q ax;have k7:=HK.o w5 T;obtain⟨y,gi⟩:=Xq (t.ent2 s q);rw[gi] at cy gb hz dw;clear gi gd;have cz:=(b7.t T).cell (h6.o y gb);obtain⟨z,gl⟩:=Xq (N.getD y 0);rw[gl] at hz dw cz;clear gl;go_upto_region 20 with (fail)
     clear cr cy cz iw k7;go_upto_region 21 with (at_builtin;refine Ϙ _ rfl _ _ 22 rfl (w1.heap.size+1+1) 5 i5 (.int .u8 0) 1 1 ύ fc fe ff fg rfl (by decide) _ _ _ rfl (ag.alloc _) _ 2 2 [.int .u8 ((z:Int) % 256),.int .u8 ((z:Int) / 256)] rfl rfl (Hs _ _ _ _) (by simp[ξ]) (by decide) (by unfold ϐ;omega) (by omega) (by simp;omega) _ rfl ?_;intro g6 c6 w6 dx H _ _)
     have bb:Ext w1 w6:=(T.alloc _).grown H (λk e=>by have:=(ag.lt k e).1;omega);have bo:=(aa.alloc _).kept H (Aj aa ag (by decide));have ay:=(aj.alloc _).kept H (Aj aj ag (by decide));have bg:=(an.alloc _).kept H (Aj an ag (by decide));have bp:=(ab.alloc _).kept H (ab.ne_row ag);have cf:w1.heap.size+1<w6.heap.size:=by have h1:=H.size;rw[Ρ] at h1;omega
     have dx:w6.ownsRow (w1.heap.size+1+1) 5 1 (U (J ⟨g6,0,I⟩) (2*(k+1)) c6) (2*(k+1)) ((Bn gf (k+1)).map bv):=by rw[show Bn gf (k+1)=Bn gf k++Bt z by rw[Bn,dw.o],ϩ,OU z hz];exact dx
     clear aa aj an ab ag H T ao;go_wp2;go_roundw
     case rel=>exact⟨k+1,g6,c6,by omega,by go_num,rfl,bb,cf,bo,bp,ay,bg,dx⟩
     simp[intOf];omega
    obtain rfl:k=R.length:=by omega
    have bq:(Bn gf R.length).length=2*R.length:=Ke _ _;have dy:Kd t (λs=>N.getD s 0) R q=Bn gf R.length:=by show Bn (λk=>N.getD (t.ent2 (R.getD k 0) q) 0) R.length=_;rw[ga.o]
    obtain⟨ky,gp⟩:=Xq (Bn gf R.length);rw[gp] at bq dy ag;have dz:=Z dy;clear gp dy;have iy:(convert 22 9 (U (J ⟨gk,0,I⟩) (2*R.length) dr)).run Η w5=.ok (Cu ky) w5:=K9 _ _ _ (By.of_owns (by rw[bq];exact ag) (by rw[bq];omega));have ea:=Pq ky (by rw[bq];unfold ϐ;omega);have j5:=Z bq;clear bq;have bl:=Z (bl.o (by simp));have bm:=Z (bm.o (by simp));cases hf:f ky with
    | some i=>
     have bu:=Z (bl.o i (by rw[dz.o];exact hf));have co:=Au I aa a7.o.symm q (by rw[a7.o];exact ax);have fo:=aa.frozenAt q;obtain⟨bo,H⟩:=Ba aa q (J i);have bb:=T.grown H (λk e=>by cases e;omega);have ay:=aj.kept H (A3 aj (by omega));have bg:=an.kept H (A3 an (by omega));have bp:=ab.kept H (by simp);have cf:=Ξ ao H.size;clear H aj aa an T ao;go_wp2_with (at_lookup;refine D0 rfl _ _ 168 rfl Gn Tryz.underlying168 rfl ab ky rfl ea ?_;rw[hf];dsimp only [ñ,Option.getD]);go_meet
     exact⟨bs,_,f,_,C,ak,ac,ck,cc,rfl,rfl,bb,cf,bo,bp,ay,bg,bu⟩
    | none=>
     have bu:=bm.o (by rw[dz.o];exact hf);rw[dz.o] at bu;have bu:=Z bu;go_upto_region 25 with (at_lookup;refine D0 rfl _ _ 168 rfl Gn Tryz.underlying168 rfl ab ky rfl ea ?_;rw[hf];dsimp only [ñ,Option.getD])
     go_upto_region 26 with (at_mapUpdate;refine G0 rfl _ _ _ 168 rfl Gn Tryz.underlying168 rfl ab (by unfold ϐ;omega) Ps ky rfl ea bs.length rfl (by omega) ?_;intro w6 bp H)
     clear iy;have bo:=aa.kept H (ab.far aa);have ay:=aj.kept H (ab.far aj);have bg:=an.kept H (ab.far an);have bb:=T.grown H (λk e=>by cases e;omega);have cf:=Ξ ao H.size;clear H aj aa an T ao ab ag;go_upto_region 27 with (at_builtin;refine Ϙ _ rfl _ _ 54 rfl (w1.heap.size+1+1) 3 i0 (.int Φ 0) 1 8 Ϥ hi e8 e9 fa rfl (by decide) _ _ _ rfl (ay.alloc _) _ 1 1 [iv q] rfl rfl (Ý _ _ _) (by simp[ξ]) (by decide) (by unfold ϐ;omega) (by omega) (by simp;omega) _ rfl ?_;intro g7 c7 w7 gq bz _ _)
     have ec:=(bo.alloc (Β #[iv q] 3)).kept bz (.inr (λe=>by have:=(ay.lt (w1.heap.size+1) e.symm).1;omega));have a6:=(bg.alloc (Β #[iv q] 3)).kept bz (Aj bg ay (by decide));have gu:=(bp.alloc (Β #[iv q] 3)).kept bz (λe=>by have:=(ay.lt w1.heap.size e.symm).1;omega);have cv:=(bb.alloc (Β #[iv q] 3)).grown bz (λk e=>by have:=(ay.lt k e).1;omega);have iz:w1.heap.size+1<w7.heap.size:=by have:=bz.size;rw[Ρ] at this;omega
     have ed:ϟ (w7.ownsRow (w1.heap.size+1+1) 3 1 (U (J ⟨g7,0,I⟩) (bs++[b]).length c7) (bs++[b]).length (((bs++[b]).map t.cell).map iv)):=Z (by rw[Ν,ϩ,ϩ,List.map_singleton,List.map_singleton,HQ.o];exact gq)
     clear bz ay bo bg bb cf bp;have ee:=P9 w7 0#256;rw[encA_zero] at ee;have gv:=Z ee;clear ee;go_upto_region 28 with (at_builtin;refine Ϙ _ rfl _ _ 36 rfl (w1.heap.size+1+1) 91 i6 (.agg zA) 4 32 Tryz.underlying36 ia ib ic ie rfl (by decide) _ _ _ rfl (a6.alloc _) _ 1 1 (Cq 0#256) rfl rfl gv.o (by simp[Cq,ξ]) (by decide) (by unfold ϐ;omega) (by omega) (by simp;omega) _ rfl ?_;intro g8 c8 w8 cl b0 _ _)
     have b4:=(ec.alloc (Β zA 91)).kept b0 (Aj ec a6 (by decide));have eg:ϟ (w8.ownsRow (w1.heap.size+1+1) 3 1 (U (J ⟨g7,0,I⟩) (bs++[b]).length c7) (bs++[b]).length (((bs++[b]).map t.cell).map iv)):=Z ((ed.o.alloc (Β zA 91)).kept b0 (Aj ed.o a6 (by decide)));have cw:=(gu.alloc (Β zA 91)).kept b0 (λe=>by have:=(a6.lt w1.heap.size e.symm).1;omega);have c9:=(cv.alloc (Β zA 91)).grown b0 (λk e=>by have:=(a6.lt k e).1;omega);have da:w1.heap.size+1<w8.heap.size:=by have:=b0.size;rw[Ρ] at this;omega
     have eh:ϟ (Row w8 (w1.heap.size+1+1) (U (J ⟨g8,0,I⟩) (C++[0#256]).length c8) (C++[0#256])):=Z (by show ϥ _ _ _ _ _ _ _;rw[Oj,Oi,Ν];exact cl)
     clear b0 ec a6 cv iz gu ed gv cl gq;have co:=Au I b4 a7.o.symm q (by rw[a7.o];exact ax);have fo:=b4.frozenAt q;obtain⟨ja,b5⟩:=Ba b4 q (J bs.length);have jb:=c9.grown b5 (λk e=>by cases e;omega);have jc:=Z (eg.o.kept b5 (A3 eg.o (by omega)));have jd:=Z (eh.o.kept b5 (A3 eh.o (by omega)));have je:=cw.kept b5 (by simp);have jf:=Ξ da b5.size;clear b5 b4 c9 da cw eg eh;go_wp2;go_meet
     refine⟨bs++[b],_,_,_,C++[0#256],J ⟨g7,0,I⟩,J ⟨g8,0,I⟩,c7,c8,?_,?_,jb,jf,ja,?_,?_,?_,bu⟩
     ·rw[Ν];rfl
     ·rw[Ν];rfl
     ·rw[Ν];exact je
     ·have:=jc.o;rw[show (bs++[b]).length=bs.length+1 by simp] at this ⊢;exact this
     have h9:=jd.o;show ϥ _ _ _ _ _ _ _;have h9:ϥ _ _ _ _ _ _ _:=h9;rw[show (C++[0#256]).length=C.length+1 by simp] at h9 ⊢;exact h9
  case rest=>
   clear ae ah G af aq ad X HS bl bm HO a7 fw fx co kb ik cq il;obtain⟨bs,c,f,O,C,ak,ac,ck,cc,rfl,rfl,ae,ah,G,af,aq,ad,X⟩:=hcut;have gx:=X.o.fi.lt b (by omega);have dc:=X.o.at_ b (by omega);rw[HQ.o] at dc;have cq:=Z X.o.lenC;have HP:=Z (NH X.o (ofL [ώ b]) λy hy=>by rw[MC _ _ hy,u8n b bk]);have a7:ϟ (O.length=t.cells):=Z X.o.lenO;obtain⟨i,hid⟩:=Xq (c b);rw[hid] at gx dc HP;have gy:i<C.length:=by rw[cq.o];exact gx
   have co:=Au I G a7.o.symm q (by rw[a7.o];exact ax);rw[dc] at co;replace co:wc.cell? ⟨w1.heap.size+1,q,I⟩=J (iv i):=co;clear hid dc X;obtain⟨g,rfl⟩:=LB ad (by omega);obtain⟨a0,a1,a2,a3⟩:=UE ad i gy;have cm:∀ W,Ext wc W->∀ j,W.frozen? ⟨g,j,I⟩=Ε:=λW E j=>(Aa ad E).frozenAt j
   obtain⟨D,hD⟩:=Xq (C.getD i 0#256);rw[hD] at a0 a1 a2 a3 HP;clear hD;have b6:∀ W,Ext wc W->Ext wc W/\W.cell? ⟨w1.heap.size+1,q,I⟩=J (iv i)/\W.cell? ⟨g,i*4,I⟩=J (.int ζ (wd D 0))/\W.cell? ⟨g,i*4+1,I⟩=J (.int ζ (wd D 1))/\W.cell? ⟨g,i*4+2,I⟩=J (.int ζ (wd D 2))/\W.cell? ⟨g,i*4+3,I⟩=J (.int ζ (wd D 3))/\W.frozen? ⟨g,i*4,I⟩=Ε/\W.frozen? ⟨g,i*4+1,I⟩=Ε/\W.frozen? ⟨g,i*4+2,I⟩=Ε/\W.frozen? ⟨g,i*4+3,I⟩=Ε:=
    λW E=>⟨E,E.cell co,E.cell a0,E.cell a1,E.cell a2,E.cell a3,cm W E _,cm W E _,cm W E _,cm W E _⟩
   have jh:=b6 wc (Κ wc);have E:=λW=>Z (Uo D (ofL [ώ b]) W)
   clear cm co a0 a1 a2 a3;go_upto_region 29 with (fail)
   refine Bl 18 [(0,Α),(1,Α),(2,Α),(3,Α),(4,Α),(5,Α),(6,Α),(7,Α),(8,Α),(9,Α),(10,Α),(11,Α),(12,Α),(13,Α),(14,Ε),(15,Ε),(16,Ε),(17,Ε),(18,Ε)] (by kernel_rfl) (by kernel_rfl) (λ_ _ _ _ h=>h)
    (λW=>Ext wc W/\W.cell? ⟨w1.heap.size+1,q,I⟩=J (iv i)/\W.cell? ⟨g,i*4,I⟩=J (.int ζ (wd D 0))/\W.cell? ⟨g,i*4+1,I⟩=J (.int ζ (wd D 1))/\W.cell? ⟨g,i*4+2,I⟩=J (.int ζ (wd D 2))/\W.cell? ⟨g,i*4+3,I⟩=J (.int ζ (wd D 3))/\W.frozen? ⟨g,i*4,I⟩=Ε/\W.frozen? ⟨g,i*4+1,I⟩=Ε/\W.frozen? ⟨g,i*4+2,I⟩=Ε/\W.frozen? ⟨g,i*4+3,I⟩=Ε) (b6 _ (Κ wc).drew) ?_
   have T:=(Κ wc).drew;obtain⟨w5,b9⟩:=Xq (wc.drew);rw[b9] at T;rw[b9];clear b9 jh;iterate 14
    refine G5 (v:=?_) rfl rfl (λW E=>?_) ?_
    rotate_left
    ·obtain⟨_,c0,c1,c2,c3,c4,c5,c6,c7,c8⟩:=E;go_simp;first|done|with_reducible rfl
    simp only[ø.put,List.setIfInBounds_toArray,List.set_cons_zero,List.set_cons_succ]
   refine D5 rfl (λK hK=>?_);go_simp;refine hK _ _ (λ_=>b6 _ (T.alloc _)) ?_;clear hK K;refine D5 rfl (λK hK=>?_);go_simp;with_reducible refine (MA [ώ b] _ _ (WW w5 b)).mono ?_
   rintro e w6 ⟨rfl,bb⟩;have hl:=(T.alloc (Β #[.int .u8 (é.wrap (b:Int))] 5)).trans bb;refine hK _ _ (λ_=>b6 _ hl) ?_;clear hK K;refine D5 rfl (λK hK=>?_);go_simp;with_reducible refine (E _).o.mono ?_
   rintro e w7 ⟨rfl,cv⟩;have bc:=hl.t cv;have hp:=b6 _ bc;refine hK _ _ (λ_=>hp) ?_;clear hK K;obtain⟨_,c0,c1,c2,c3,c4,c5,c6,c7,c8⟩:=hp;refine D5 rfl (λK hK=>?_);go_simp;refine hK _ _ (λ_=>b6 _ bc) ?_;clear hK K;refine D5 rfl (λK hK=>?_);go_simp;refine hK _ _ (λh=>absurd h (by omega)) ?_;clear hK K c0 c1 c2 c3 c4 c5 c6 c7 c8;refine Bj ?_;have a6:=Aa ad bc;have hr:=JF a6 i gy (D ||| ofL [ώ b]);have c9:=(ae.t bc).grown hr.2 (λk e=>by cases e;have:=(ad.lt g rfl).1;omega);have b4:=(Aa G bc).kept hr.2 (Aj G ad (by decide));have ji:=(Aa aq bc).kept hr.2 (Aj aq ad (by decide));have cw:=(af.ext bc).kept hr.2 (af.ne_row ad);have da:=Ξ (Ξ ah bc.size) hr.2.size;have cl:Row (w7.setCells g (i*4) (Ab (D ||| ofL [ώ b])).toList) (w1.heap.size+1+1) (U (J ⟨g,0,I⟩) (C.set i (D ||| ofL [ώ b])).length cc) (C.set i (D ||| ofL [ώ b])):=by have:=hr.1;show ϥ _ _ _ _ _ _ _;rw[show Row _ _ _ _=ϥ _ _ _ _ _ _ _ from rfl,υ] at this;rw[υ];exact this
   have hs:(C.set i (D ||| ofL [ώ b])).length=C.length:=υ;rw[hs] at cl;clear hr a6;go_wp2;go_roundw
   case rel=>exact⟨b+1,bs,c,f,O,C.set i (D ||| ofL [ώ b]),ak,J ⟨g,0,I⟩,ck,cc,by omega,by go_num,rfl,by rw[hs],c9,da,b4,cw,ji,cl,HP⟩
   simp[intOf];omega
 obtain rfl:b=256:=by omega
 have jj:=Z (NQ HV.o e6.o X.o);have jk:Ints wr (U ak bs.length ck) (bs.map t.cell):=OwnI.ints (base:=w1.heap.size+1+1) (by show ϥ _ _ _ _ _ _ _;rw[ι];exact aq) (by rw[ι];omega)
 have jl:=ad.toCs (by omega);clear X;go_wp2;go_ret2;exact⟨_,_,bs.map t.cell,C,rfl,jj.o,jk,jl,b7.t ae⟩
theorem JU (t:Tbl) (X:TVal t) (hn:t.n.length<=65536) (A:Array Δ) (w:Γ) (h:IsT w A t) :
  Calls Η 68 #[.agg A] w λe w'=>∃ v l,e=Ψ v/\Reached t l/\Ints w' v l/\Ext w w':=by
 obtain⟨bn,on,cn,ba,oa,ca,b7,b8,_,_,bd,_,hR,_⟩:=h.opened X;have b9:=X.pos;have dt:=X.cpos;have du:=X.cle;have HR:=Z hR;have HV:=Z X;obtain⟨i0,hi,cd,cf,cg⟩:=ϓ Dw;obtain⟨j0,hj,cm,cp,ct⟩:=ϓ Fi;have au:=(Κ w).alloc (Β A 84);have H0:=Ad w (Β A 84);have HK:=Z (λ(W:Γ) (hW:Ext (w.alloc (Β A 84)) W)=>(Τ W w.heap.size 257 _ _ _ (hW.heap H0)).trans bd);clear hR X h H0 bd b8 b7;go_enter Tryz.func68,Tryz.ntmps68;go_upto_region 1 with (fail)
 generalize w.alloc (Β A 84)=w1 at *;have k1:=HK.o w1 (Κ w1);go_upto_region 2 with (at_make;refine Ϟ _ rfl _ _ 38 rfl w1.heap.size 4 j0 (.bool Ε) 1 Tryz.underlying38 hj cm cp Φ Φ _ _ t.n.length rfl rfl rfl rfl (by rw[ct];omega) (by unfold ϐ;omega) (Υ _) ?_;intro w2 bh bj)
 have cv:Ext w1 w2:=(Κ w1).grown bj (λk e=>by cases e);have af:w2.ownsRow w1.heap.size 4 1 (U (J ⟨w1.heap.size,0,I⟩) t.n.length t.n.length) t.n.length ((Ei t.n.length []).map ϊ):=by rw[Vq,<-B8];exact bh
 have cs:=Au Ε af (Hc _ _).symm 0 (by rw[Hc];exact b9);have fs:=af.frozenAt 0;obtain⟨bk,bl⟩:=Ba af 0 Α;rw[Na,List.nil_append] at bk;have bm:=cv.grown bl (λk e=>by cases e;exact Υ _);clear bh bj k1 af bl;go_upto_region 3 with (fail)
 clear cs fs;obtain⟨w3,bp⟩:=Xq (w2.setCell ⟨w1.heap.size,0,I⟩ (.bool Α));simp only[bp] at *;clear bp;have cy:=bm.alloc (Β #[.int Φ 0] 3);have cz:=bk.alloc (Β #[.int Φ 0] 3);have c3:=Γ.ownsRow_lit (base:=w1.heap.size) (e:=3) (size:=1) w3 #[.int Φ 0] 1 bm.size (by unfold ϐ;omega) rfl;generalize bq:w1.heap.size=G at *;have bt:=Z bq;clear bq;go_wp2_with (fail);go_loopw [4,5] (λv i W=>∃ (l:List Nat) (k g c:Nat),k<=l.length/\i=.int Φ k/\v=U (J ⟨g,0,I⟩) l.length c/\Ext w1 W/\OwnI W G v l/\W.ownsRow G 4 1 (U (J ⟨G,0,I⟩) t.n.length t.n.length) t.n.length ((Ei t.n.length l).map ϊ)/\ϟ (BInv t l k 0))
  (λ_ i _=>t.n.length-(intOf i).toNat)
 case atStart=>exact⟨[0],0,w3.heap.size,1,by omega,rfl,rfl,cy,c3,cz,Z (CO HV.o)⟩
 obtain⟨l,k,g,c,hk,rfl,rfl,hE,hI,hS,HI⟩:=hrel;have dw:=HI.o.le;by_cases ay:k<l.length
 ·have cl:=Aw (Au 0 hI rfl k ay);have az:=HI.o.lt _ (Dm l k 0 ay);obtain⟨s,a1⟩:=Xq (l.getD k 0);rw[a1] at cl az;have c4:=Z a1;clear a1;obtain⟨br,or',cr,bw,bz⟩:=HR.o s az;have c5:=Aw ((au.t hE).cell bw);have k1:=Aw (HK.o wr hE);have c6:=Z bz;clear bw bz;go_upto_region 7 with (fail)
  refine B2 (by kernel_rfl) (by kernel_rfl) ?_;iterate 10 (with_reducible refine wpQuiet_step (λK hK=>?_);go_simp;(refine hK _ ?_;clear hK K))
  refine wpQuiet_nil ?_;rintro _ ⟨e,rfl⟩;clear cl c5 k1;have c8:=hE.t e.ext;have hI:=Aa hI e.ext;have hS:=Aa hS e.ext;generalize e.W=w5 at *;have c9:w1.heap.size<=G:=Ô bt.o;have dz:G<=w1.heap.size:=Ô bt.o.symm;go_wp2_with (fail);go_loopw [4,30] (λv i W=>∃ (E:List Nat) (q g' c':Nat),q<=t.cells/\i=.int Φ q/\v=U (J ⟨g',0,I⟩) E.length c'/\Ext w1 W/\OwnI W G v E/\W.ownsRow G 4 1 (U (J ⟨G,0,I⟩) t.n.length t.n.length) t.n.length ((Ei t.n.length E).map ϊ)/\ϟ (BInv t E k q)/\ϟ (k<E.length/\E.getD k 0=s))
   (λ_ i _=>t.cells-(intOf i).toNat)
  case atStart=>exact⟨l,0,g,c,by omega,rfl,rfl,c8,hI,hS,HI,Z ⟨ay,c4.o⟩⟩
  obtain⟨E,q,g',c',hq,rfl,rfl,ad,ae,T,ak,H⟩:=hrel;have eb:=ak.o.le;by_cases a6:q<t.cells
  ·have cq:=(au.t ad).cell (c6.o q a6);have a7:=HV.o.tgt s az q a6;obtain⟨x,a8⟩:=Xq (t.ent2 s q);rw[a8] at cq a7;have bb:=Z a8;clear a8;have an:=Au Ε T (Hc _ _).symm x (by rw[Hc];exact a7);rw[Vr _ _ _ a7] at an;have da:=T.frozenAt x;have ec:=ad.size;by_cases hx:x∈E
   ·rw[decide_eq_true hx] at an;have HN:=Z (CP ak.o (by rw[H.o.2,bb.o];exact hx));clear hx;go_wp2;go_roundw
    case rel=>exact⟨E,q+1,g',c',by omega,by go_num,rfl,ad,ae,T,HN,H⟩
    simp[intOf];omega
   rw[decide_eq_false hx] at an;have HN:=Z (CR HV.o ak.o H.o.1 a6 (by rw[H.o.2,bb.o];exact hx));rw[H.o.2,bb.o] at HN;clear hx;obtain⟨ao,b4⟩:=Ba T x Α;rw[Na] at ao;have aq:=ae.kept b4 (Aj ae T (by decide));have b5:=ad.grown b4 (λk e=>by cases e;exact c9);go_upto_region 12 with (fail)
   obtain⟨w6,b6⟩:=Xq (wr.setCell ⟨G,x,I⟩ (.bool Α));simp only[b6] at *;clear b6 an da T ae cq;have ee:=b5.size;go_wp2_with (at_builtin;refine Ϙ _ rfl _ _ 54 rfl G 3 i0 (.int Φ 0) 1 8 Ϥ hi cd cf cg rfl (by decide) _ _ _ rfl (aq.alloc _) _ 1 1 [iv x] rfl rfl (Ý _ _ _) (by simp[ξ]) (by decide) (by unfold ϐ;omega) (by omega) (by simp;omega) _ rfl ?_);intro g7 c7 w7 dd bc _ _;have de:=(ao.alloc (Β #[iv x] 3)).kept bc (Aj ao aq (by decide));have df:=(b5.alloc (Β #[iv x] 3)).grown bc (λk e=>by have:=(aq.lt k e).1;omega);clear bc aq ao;go_wp2;go_roundw
   case rel=>refine⟨E++[x],q+1,g7,c7,by omega,by go_num,by rw[Ν];rfl,df,?_,de,HN,Z ⟨by rw[Ν];have:=H.o.1;omega,by rw[Ca _ _ _ _ H.o.1];exact H.o.2⟩⟩;show ϥ _ _ _ _ _ _ _;rw[Ν,ϩ];exact dd
   case measure=>simp[intOf];omega
  obtain rfl:q=t.cells:=by omega
  have HN:=Z (CQ ak.o);go_wp2;go_roundw
  case rel=>exact⟨E,k+1,g',c',by have:=H.o.1;omega,by go_num,rfl,ad,ae,T,HN⟩
  simp[intOf];omega
 obtain rfl:k=l.length:=by omega
 have dg:=Z (CS HI.o);go_wp2;go_ret;exact⟨_,l,rfl,dg.o,hI.ints (by omega),au.t hE⟩
def evN (N:List (List Nat)) (r:List Nat) (m p:Nat):Nat:=if p / m<N.length then (N.getD (p / m) []).getD (p % m) 0 else r.getD (p % m) 0
theorem Mf {m k:Nat} (E:k<m) (i:Nat):(i*m+k) / m=i/\(i*m+k) % m=k:=by
 have h0:0<m:=by omega
 constructor
 ·rw[Nat.mul_comm,Nat.mul_add_div h0,Nat.div_eq_of_lt E,Nat.add_zero]
 rw[Nat.mul_comm,Nat.mul_add_mod,Nat.mod_eq_of_lt E]
theorem Sv {m k i p:Nat} (h0:0<m) (E:k<=m) (G:p<i*m+k):p / m<i\/(p / m=i/\p % m<k):=by
 have h1:=Nat.div_add_mod p m;have H:=Nat.mod_lt p h0;rcases Nat.lt_trichotomy (p / m) i with h|h|h
 ·exact .inl h
 ·refine .inr ⟨h,?_⟩;rw[h,Nat.mul_comm] at h1;omega
 exfalso
 have:(i+1)*m<=p / m*m:=Nat.mul_le_mul_right _ h;rw[Nat.succ_mul,Nat.mul_comm (p / m)] at this;omega
structure LInv (t:Tbl) (B:Nat->Nat) (R K:List Nat) (i k:Nat) (O:List Nat) (P:List (Option Nat)) (N:List (List Nat)) (r:List Nat):Prop where
 lenP:P.length=R.length
 place:∀ x v,P.getD x I=J v↔x<R.length/\v<O.length/\O.getD v 0=x
 lt:∀ v,v<O.length->O.getD v 0<R.length
 pos:0<O.length
 zero:O.getD 0 0=B 0
 lenN:N.length=i
 rows:∀ j,j<i->(N.getD j []).length=K.length
 lenr:r.length=K.length
 le:i<=O.length
 ent:∀ p,p<i*K.length+k->evN N r K.length p<O.length/\O.getD (evN N r K.length p) 0=B (t.ent2 (R.getD (O.getD (p / K.length) 0) 0) (K.getD (p % K.length) 0))
 mx:mxf (evN N r K.length) (i*K.length+k)+1=O.length
 rgf:∀ p,p<i*K.length+k->evN N r K.length p<=mxf (evN N r K.length) p+1
 rch:∀ x,0<x->x<O.length->∃ p,p<i*K.length+k/\p / K.length<x/\evN N r K.length p=x
section
variable {t:Tbl} {B:Nat->Nat} {R K:List Nat} {i k:Nat} {O:List Nat} {P:List (Option Nat)} {N:List (List Nat)} {r:List Nat}
theorem OY (h0:B 0<R.length) (n:Nat) (G:n=R.length) (r:List Nat) (H:r.length=K.length):LInv t B R K 0 0 [B 0] ((θ n I).set (B 0) (J 0)) [] r where
 lenP:=by rw[υ,List.length_replicate,G]
 place:=λx v=>by
  subst G;rw[Cf _ _ _ _ _ (by rw[List.length_replicate];exact h0)];by_cases e:x=B 0
  ·subst e;rw[if_pos rfl];constructor
   ·intro h;cases h;exact⟨h0,by simp,rfl⟩
   rintro⟨_,h1,_⟩;have:v=0:=by simpa using h1
   rw[this]
  rw[if_neg e];constructor
  ·intro h;rw[Ζ,Ò] at h;split at h<;>simp at h
  rintro⟨_,h1,E⟩;have:v=0:=by simpa using h1
  subst this;exact absurd E.symm e
 lt:=λv T=>by
  have:v=0:=by simpa using T
  subst this;exact h0
 pos:=by simp
 zero:=rfl
 lenN:=rfl
 rows:=λj hj=>by omega
 lenr:=H
 le:=by simp
 ent:=λp X=>by omega
 mx:=by simp[mxf]
 rgf:=λp X=>by omega
 rch:=λx h1 E=>by
  have:x=0:=by simpa using E
  omega
theorem Z8 (G:N.length=i) (H:k<K.length) (X:r.length=K.length) (v:Nat):(∀ p,p<i*K.length+k->evN N (r.set k v) K.length p=evN N r K.length p)/\evN N (r.set k v) K.length (i*K.length+k)=v:=by
 refine⟨λp T=>?_,?_⟩
 ·unfold evN;rw[G];rcases Sv (by omega) (by omega) T with h|⟨h1,E⟩
  ·rw[if_pos h,if_pos h]
  rw[if_neg (by omega),if_neg (by omega),Cf _ _ _ _ _ (by omega),if_neg (by omega)]
 obtain⟨h1,E⟩:=Mf H i;unfold evN;rw[h1,E,if_neg (by omega),Cf _ _ _ _ _ (by omega),if_pos rfl]
theorem PA (h:LInv t B R K i k O P N r) (T:k<K.length) (v:Nat) (hv:P.getD (B (t.ent2 (R.getD (O.getD i 0) 0) (K.getD k 0))) I=J v):LInv t B R K i (k+1) O P N (r.set k v):=by
 obtain⟨_,ad,ae⟩:=(h.place _ _).1 hv;obtain⟨E,G⟩:=Z8 h.lenN T h.lenr v;obtain⟨d1,d2⟩:=Mf T i;have X:mxf (evN N (r.set k v) K.length) (i*K.length+k)=mxf (evN N r K.length) (i*K.length+k):=Hl _ _ _ λq hq=>E q hq
 refine⟨h.lenP,h.place,h.lt,h.pos,h.zero,h.lenN,h.rows,by rw[υ];exact h.lenr,h.le,λp H=>?_,?_,λp H=>?_,λx hx af=>?_⟩
 ·by_cases e:p=i*K.length+k
  ·rw[e,G,d1,d2];exact⟨ad,ae⟩
  rw[E p (by omega)];exact h.ent p (by omega)
 ·have:=h.mx;rw[<-Nat.add_assoc];simp only[mxf];rw[G,X];omega
 ·by_cases e:p=i*K.length+k
  ·rw[e,G,X];have:=h.mx;omega
  rw[E p (by omega),Hl _ (evN N r K.length) p λq hq=>E q (by omega)];exact h.rgf p (by omega)
 obtain⟨p,H,h1,h2⟩:=h.rch x hx af;exact⟨p,by omega,h1,by rw[E p H];exact h2⟩
theorem PB (h:LInv t B R K i k O P N r) (hk:k<K.length) (hi:i<O.length) (ae:B (t.ent2 (R.getD (O.getD i 0) 0) (K.getD k 0))<R.length) (X:P.getD (B (t.ent2 (R.getD (O.getD i 0) 0) (K.getD k 0))) I=I) :
  LInv t B R K i (k+1) (O++[B (t.ent2 (R.getD (O.getD i 0) 0) (K.getD k 0))]) (P.set (B (t.ent2 (R.getD (O.getD i 0) 0) (K.getD k 0))) (J O.length)) N (r.set k O.length):=by
 obtain⟨e1,e2⟩:=Z8 h.lenN hk h.lenr O.length;obtain⟨d1,d2⟩:=Mf hk i;have T:∀ x,x=B (t.ent2 (R.getD (O.getD i 0) 0) (K.getD k 0))->(O++[x]).getD O.length 0=B (t.ent2 (R.getD (O.getD i 0) 0) (K.getD k 0)):=λx e=>by rw[Dx,e]
 have ah:mxf (evN N (r.set k O.length) K.length) (i*K.length+k)=mxf (evN N r K.length) (i*K.length+k):=Hl _ _ _ λq hq=>e1 q hq
 have hg:∀ x v,v<O.length->(O++[x]).getD v 0=O.getD v 0:=λx v X=>Ca _ _ _ _ X
 have G:∀ x,(O++[x]).length=O.length+1:=λx=>by simp
 have T:=T _ rfl;have ao:=h.mx;refine⟨by rw[υ];exact h.lenP,λx v=>?_,λv X=>?_,by rw[G];omega,by rw[hg _ _ h.pos];exact h.zero,h.lenN,h.rows,by rw[υ];exact h.lenr,by rw[G];omega,λp hp=>?_,?_,λp hp=>?_,λx hx aj=>?_⟩
 ·rw[Cf _ _ _ _ _ (by rw[h.lenP];exact ae),G];by_cases e:x=B (t.ent2 (R.getD (O.getD i 0) 0) (K.getD k 0))
  ·rw[if_pos e];constructor
   ·intro h1;cases h1
    exact⟨by rw[e];exact ae,by omega,by rw[T,e]⟩
   rintro⟨h1,H,E⟩;by_cases ev:v=O.length
   ·rw[ev]
   rw[hg _ v (by omega)] at E;have:=(h.place x v).2 ⟨h1,by omega,E⟩;rw[e,X] at this;cases this
  rw[if_neg e,h.place x v];constructor
  ·rintro⟨h1,H,E⟩;exact⟨h1,by omega,by rw[hg _ v H];exact E⟩
  rintro⟨h1,H,E⟩;by_cases ev:v=O.length
  ·rw[ev,T] at E;exact absurd E.symm e
  rw[hg _ v (by omega)] at E;exact⟨h1,by omega,E⟩
 ·rw[G] at X;by_cases ev:v=O.length
  ·rw[ev,T];exact ae
  rw[hg _ v (by omega)];exact h.lt v (by omega)
 ·rw[G];by_cases e:p=i*K.length+k
  ·rw[e,e2,d1,d2,hg _ i hi,T];exact⟨by omega,rfl⟩
  obtain⟨h1,H⟩:=h.ent p (by omega);have ak:p / K.length<O.length:=by rcases Sv (by omega) (by omega) (show p<i*K.length+k by omega) with h|⟨h,_⟩<;>omega
  rw[e1 p (by omega),hg _ _ h1,hg _ _ ak];exact⟨by omega,H⟩
 ·rw[G,<-Nat.add_assoc];simp only[mxf];rw[e2,ah];omega
 ·by_cases e:p=i*K.length+k
  ·rw[e,e2,ah];omega
  rw[e1 p (by omega),Hl _ (evN N r K.length) p λq hq=>e1 q (by omega)];exact h.rgf p (by omega)
 rw[G] at aj;by_cases ex:x=O.length
 ·exact⟨i*K.length+k,by omega,by rw[d1];omega,by rw[e2,ex]⟩
 obtain⟨p,hp,h1,H⟩:=h.rch x hx (by omega);exact⟨p,by omega,h1,by rw[e1 p hp];exact H⟩
theorem OZ (h:LInv t B R K i K.length O P N r) (hi:i<O.length) (T:List Nat) (aa:T.length=K.length):LInv t B R K (i+1) 0 O P (N++[r]) T:=by
 by_cases h0:0<K.length
 ·have hl:(N++[r]).length=i+1:=by simp[h.lenN]
  have G:∀ p,p<i*K.length+K.length->evN (N++[r]) T K.length p=evN N r K.length p:=λp E=>by
   unfold evN;rw[hl,h.lenN];rcases Sv h0 (Υ _) E with h1|⟨h1,h2⟩
   ·rw[if_pos (by omega),if_pos h1,Ca _ _ _ _ (by rw[h.lenN];exact h1)]
   rw[if_pos (by omega),if_neg (by omega),h1,<-h.lenN,Dx]
  have eq:(i+1)*K.length+0=i*K.length+K.length:=by rw[Nat.succ_mul];rfl
  refine⟨h.lenP,h.place,h.lt,h.pos,h.zero,hl,λj hj=>?_,aa,by omega,λp E=>?_,?_,λp E=>?_,λx hx X=>?_⟩
  ·by_cases e:j=i
   ·subst e;rw[<-h.lenN,Dx];exact h.lenr
   rw[Ca _ _ _ _ (by rw[h.lenN];omega)];exact h.rows j (by omega)
  ·rw[eq] at E;rw[G p E];exact h.ent p E
  ·rw[eq,Hl _ (evN N r K.length) _ λq hq=>G q hq];exact h.mx
  ·rw[eq] at E;rw[G p E,Hl _ (evN N r K.length) p λq hq=>G q (by omega)];exact h.rgf p E
  obtain⟨p,E,h1,h2⟩:=h.rch x hx X;exact⟨p,by rw[eq];exact E,h1,by rw[G p E];exact h2⟩
 have H:K.length=0:=by omega
 refine⟨h.lenP,h.place,h.lt,h.pos,h.zero,by simp[h.lenN],λj hj=>?_,aa,by omega,λp E=>by rw[H] at E;simp at E,?_,λp E=>by rw[H] at E;simp at E,λx hx X=>?_⟩
 ·by_cases e:j=i
  ·subst e;rw[<-h.lenN,Dx];exact h.lenr
  rw[Ca _ _ _ _ (by rw[h.lenN];omega)];exact h.rows j (by omega)
 ·have:=h.mx;rw[H] at this ⊢
  simpa [mxf] using this
 obtain⟨p,E,_⟩:=h.rch x hx X;rw[H] at E;simp at E
theorem LInv.nodup (h:LInv t B R K i k O P N r):O.Nodup:=by
 rw[à,Ϫ];intro a b E hb T e;have h1:=(h.place (O.getD a 0) a).2 ⟨h.lt a E,E,rfl⟩;have G:=(h.place (O.getD b 0) b).2 ⟨h.lt b hb,hb,rfl⟩;have H:O.getD a 0=O.getD b 0:=by rw[Ζ,Ζ,Ι E,Ι hb,e]
 rw[H,G] at h1;cases h1
 omega
theorem LInv.len_le (h:LInv t B R K i k O P N r):O.length<=R.length:=by
 have:=D8 O (π R.length) h.nodup λs E=>by obtain⟨j,G,rfl⟩:=Iq E;exact ϔ.2 (h.lt j G)
 simpa using this
theorem PC {L:List Cls} (hK:K.length=L.length) (h0:0<K.length) {A:List Bool} (h:LInv t B R K i 0 O P N r) (hi:i=O.length) (X:A.length=i) (aa:∀ j,j<i->A.getD j Ε=t.ok (R.getD (O.getD j 0) 0)) :
  Laid t B R K L O ⟨L,N,A⟩:=by
 subst hi;have ev:∀ j q,j<O.length->q<K.length->evN N r K.length (j*K.length+q)=(N.getD j []).getD q 0:=λj q E G=>by obtain⟨h1,H⟩:=Mf G j;unfold evN;rw[h1,H,h.lenN,if_pos E]
 have pos:∀ j q,j<O.length->q<K.length->j*K.length+q<O.length*K.length+0:=λj q E G=>by have:(j+1)*K.length<=O.length*K.length:=Nat.mul_le_mul_right _ E;rw[Nat.succ_mul] at this;omega
 have ent:∀ p,p<O.length*K.length->(Dfa.mk L N A).ent p=evN N r K.length p:=λp T=>by have h1:=Nat.div_add_mod p K.length;have H:=Nat.mod_lt p h0;have h3:p / K.length<O.length:=Nat.div_lt_of_lt_mul (by rw[Nat.mul_comm];exact T);show (N.getD (p / L.length) []).getD (p % L.length) 0=_;unfold evN;rw[<-hK,h.lenN,if_pos h3]
 refine⟨rfl,h.lenN,X,h.zero,h.pos,h.nodup,h.lt,h.rows,λj E q G=>?_,λj E=>aa j E,λp T=>?_,λx hx ae=>?_⟩
 ·obtain⟨h1,H⟩:=Mf G j;have:=h.ent _ (pos j q E G);rw[ev j q E G,h1,H] at this;exact this
 ·have af:p<O.length*K.length:=by
   have e:(Dfa.mk L N A).n.length*(Dfa.mk L N A).cls.length=O.length*K.length:=by show N.length*L.length=_;rw[h.lenN,hK]
   rw[e] at T;exact T
  rw[ent p af,Hl _ (evN N r K.length) p λq G=>ent q (by omega)];exact h.rgf p (by omega)
 obtain⟨p,T,h1,H⟩:=h.rch x hx ae;refine⟨p / K.length,p % K.length,h1,Nat.mod_lt _ h0,?_⟩;rw[<-H,<-ent p (by omega)];show _=(N.getD (p / L.length) []).getD (p % L.length) 0;rw[<-hK];rfl
end
section
variable {σ:Type}
def evR (N:List (List Nat)) (r:List Nat) (j q:Nat):Nat:=if j<N.length then (N.getD j []).getD q 0 else r.getD q 0
structure EInv (bs:List Nat) (st:σ) (nx:σ->Nat->σ) (i k:Nat) (l:List σ) (f:σ->Option Nat) (N:List (List Nat)) (r:List Nat):Prop where
 zero:l[0]? = J st
 num:∀ x v,f x=J v↔l[v]? = J x
 le:i<=l.length
 lenN:N.length=i
 rows:∀ j,j<i->(N.getD j []).length=bs.length
 lenr:r.length=bs.length
 ent:∀ j s q,l[j]? = J s->(j<i/\q<bs.length)\/(j=i/\q<k)->l[evR N r j q]? = J (nx s (bs.getD q 0))
 reach:∀ s,s∈l->∃ w,Aq nx st w=s
variable {bs:List Nat} {st:σ} {nx:σ->Nat->σ} {i k:Nat} {l:List σ} {f:σ->Option Nat} {N:List (List Nat)} {r:List Nat}
theorem EInv.pos (h:EInv bs st nx i k l f N r):0<l.length:=by have:=h.zero;rw[ο] at this;exact this.1
theorem EInv.nodup (h:EInv bs st nx i k l f N r):l.Nodup:=by
 rw[à,Ϫ];intro a b E hb H e;have h1:=(h.num _ a).2 (Ι E);have G:=(h.num _ b).2 (Ι hb);rw[e,G] at h1;cases h1
 omega
theorem AE [DecidableEq σ] (bs:List Nat) (st:σ) (nx:σ->Nat->σ) (r:List Nat) (G:r.length=bs.length):EInv bs st nx 0 0 [st] (λx=>if x=st then J 0 else I) [] r where
 zero:=rfl
 num:=λx v=>by
  by_cases e:x=st
  ·subst e;rw[if_pos rfl];constructor
   ·intro h;cases h;rfl
   intro h;rw[ο] at h;obtain⟨h1,_⟩:=h;have:v=0:=by simpa using h1
   rw[this]
  rw[if_neg e];constructor
  ·intro h;cases h
  intro h;rw[ο] at h;obtain⟨h1,H⟩:=h;have:v=0:=by simpa using h1
  subst this;exact absurd H.symm e
 le:=by omega
 lenN:=rfl
 rows:=λj T=>by omega
 lenr:=G
 ent:=λj s q _ h=>by omega
 reach:=λs E=>by rw[ϙ] at E;subst E;exact⟨[],rfl⟩
theorem Z9 (E:N.length=i) (G:r.length=bs.length) (H:k<bs.length) (v:Nat):evR N (r.set k v) i k=v/\∀ j q,(j<i/\q<bs.length)\/(j=i/\q<k)->evR N (r.set k v) j q=evR N r j q:=by
 unfold evR;rw[E];refine⟨by rw[if_neg (by omega),Cf _ _ _ _ _ (by omega),if_pos rfl],λj q h=>?_⟩;rcases h with⟨h1,_⟩|⟨h1,T⟩
 ·rw[if_pos h1,if_pos h1]
 rw[if_neg (by omega),if_neg (by omega),Cf _ _ _ _ _ (by omega),if_neg (by omega)]
theorem So (h:EInv bs st nx i k l f N r) (G:k<bs.length) {s:σ} (H:l[i]? = J s) (v:Nat) (T:f (nx s (bs.getD k 0))=J v):EInv bs st nx i (k+1) l f N (r.set k v):=by
 obtain⟨X,e2⟩:=Z9 (bs:=bs) h.lenN h.lenr G v;refine⟨h.zero,h.num,h.le,h.lenN,h.rows,by rw[υ];exact h.lenr,λj s' q E hq=>?_,h.reach⟩;by_cases e:j=i/\q=k
 ·obtain⟨rfl,rfl⟩:=e;rw[H] at E;cases E
  rw[X];exact (h.num _ _).1 T
 rw[e2 j q (by omega)];exact h.ent j s' q E (by omega)
theorem Ss [DecidableEq σ] (h:EInv bs st nx i k l f N r) (hk:k<bs.length) (hb:∀ q,q<bs.length->bs.getD q 0<256) {s:σ} (H:l[i]? = J s) (X:f (nx s (bs.getD k 0))=I) :
  EInv bs st nx i (k+1) (l++[nx s (bs.getD k 0)]) (λx=>if x=nx s (bs.getD k 0) then J l.length else f x) N (r.set k l.length):=by
 obtain⟨e1,e2⟩:=Z9 (bs:=bs) h.lenN h.lenr hk l.length;have G:∀ v,v<l.length->(l++[nx s (bs.getD k 0)])[v]? = l[v]? := λv X=>List.getElem?_append_left X
 have new:(l++[nx s (bs.getD k 0)])[l.length]? = J (nx s (bs.getD k 0)):=by simp
 have hi:i<l.length:=by rw[ο] at H;exact H.1
 refine⟨by rw[G _ h.pos];exact h.zero,λx v=>?_,by simp;omega,h.lenN,h.rows,by rw[υ];exact h.lenr,λj s' q T hq=>?_,λx hx=>?_⟩
 ·by_cases e:x=nx s (bs.getD k 0)
  ·rw[if_pos e];constructor
   ·intro h1;cases h1;rw[new,e]
   intro h1;by_cases hl:v<l.length
   ·rw[G v hl] at h1;have:=(h.num x v).2 h1;rw[e,X] at this;cases this
   have E:=h1;rw[ο] at E;obtain⟨E,_⟩:=E;simp at E;have:v=l.length:=by omega
   rw[this]
  rw[if_neg e,h.num x v];constructor
  ·intro h1;have E:=h1;rw[ο] at E;rw[G v E.1];exact h1
  intro h1;by_cases hl:v<l.length
  ·rw[G v hl] at h1;exact h1
  have E:=h1;rw[ο] at E;obtain⟨E,_⟩:=E;simp at E;have:v=l.length:=by omega
  rw[this,new] at h1;cases h1
  exact absurd rfl e
 ·by_cases e:j=i/\q=k
  ·obtain⟨rfl,rfl⟩:=e;rw[G _ hi,H] at T;cases T
   rw[e1,new]
  have af:j<l.length:=by omega
  rw[G j af] at T;rw[e2 j q (by omega)];have h1:=h.ent j s' q T (by omega);have E:=h1;rw[ο] at E;rw[G _ E.1];exact h1
 rw[Ê,ϙ] at hx;rcases hx with hx|rfl
 ·exact h.reach x hx
 obtain⟨w,hw⟩:=h.reach s (List.mem_of_getElem? H);refine⟨w++[ώ (bs.getD k 0)],?_⟩;rw[E9,hw,u8n _ (hb k hk)]
theorem AF (h:EInv bs st nx i bs.length l f N r) (hi:i<l.length) (E:List Nat) (T:E.length=bs.length):EInv bs st nx (i+1) 0 l f (N++[r]) E:=by
 have G:(N++[r]).length=i+1:=by simp[h.lenN]
 refine⟨h.zero,h.num,by omega,G,λj H=>?_,T,λj s q H hq=>?_,h.reach⟩
 ·by_cases e:j=i
  ·subst e;rw[<-h.lenN,Dx];exact h.lenr
  rw[Ca _ _ _ _ (by rw[h.lenN];omega)];exact h.rows j (by omega)
 have X:j<i+1:=by omega
 have ab:q<bs.length:=by omega
 have e:evR (N++[r]) E j q=evR N r j q:=by
  unfold evR;rw[G,h.lenN,if_pos X];by_cases e:j=i
  ·subst e;rw[if_neg (by omega),<-h.lenN,Dx]
  rw[if_pos (by omega),Ca _ _ _ _ (by rw[h.lenN];omega)]
 rw[e];exact h.ent j s q H (by omega)
theorem AG {c:Nat->Nat} {ac:σ->Bool} {A:List Bool} (h:EInv bs st nx i 0 l f N r) (hi:i=l.length) (T:A.length=i) (X:∀ (j:Nat) s,l[j]? = J s->A.getD j Ε=ac s) :
  Expl c bs st nx ac l ⟨c,bs.length,N,A⟩:=by
 subst hi;refine⟨rfl,rfl,h.lenN,T,h.pos,h.nodup,h.zero,h.rows,λj s E q hq=>?_,λj s E=>X j s E,λj s E=>h.reach s (List.mem_of_getElem? E)⟩;have G:j<l.length:=by rw[ο] at E;exact E.1
 have h1:=h.ent j s q E (.inl ⟨G,hq⟩);have e:evR N r j q=(Tbl.mk c bs.length N A).ent2 j q:=by unfold evR;rw[h.lenN,if_pos G];rfl
 rw[e] at h1;have H:=h1;rw[ο] at H;exact⟨H.1,h1⟩
end
def rk (w:List UInt8):Nat:=w.foldl (λa x=>256*a+x.toNat+1) 0
theorem Qd (w:List UInt8) (x:UInt8):rk (w++[x])=256*rk w+x.toNat+1:=by simp[rk,List.foldl_append]
structure FB (t:Tbl) (i b:Nat) (l:List Nat) (W:Nat->List UInt8) (F:List (Option Nat)) (Y:List UInt8):Prop where
 pos:0<l.length
 head:l.getD 0 0=0
 nodup:l.Nodup
 lt:∀ s∈l,s<t.n.length
 run:∀ s∈l,t.run 0 (W s)=s
 w0:W 0=[]
 inc:∀ j k,j<k->k<l.length->rk (W (l.getD j 0))<rk (W (l.getD k 0))
 bound:i<l.length->∀ s∈l,rk (W s)<=256*rk (W (l.getD i 0))+b
 done:∀ j,j<i->∀ x,x<256->t.stp (l.getD j 0) x∈l/\rk (W (t.stp (l.getD j 0) x))<=256*rk (W (l.getD j 0))+x+1
 cur:∀ x,x<b->t.stp (l.getD i 0) x∈l/\rk (W (t.stp (l.getD i 0) x))<=256*rk (W (l.getD i 0))+x+1
 no:∀ j,j<i->t.ok (l.getD j 0)=Ε
 lenF:F.length=t.n.length
 lenY:Y.length=t.n.length
 seen:∀ s,s<t.n.length->((F.getD s I).isSome↔s∈l)
 from_:∀ s p,F.getD s I=J p->s≠0->p∈l/\W s=W p++[Y.getD s 0]
section
variable {t:Tbl} {i b:Nat} {l:List Nat} {W:Nat->List UInt8} {F:List (Option Nat)} {Y:List UInt8}
theorem TS (H:TVal t) (n:Nat) (G:n=t.n.length):FB t 0 0 [0] (λ_=>[]) ((θ n I).set 0 (J 0)) (θ n 0) where
 pos:=by simp
 head:=rfl
 nodup:=by simp
 lt:=λs E=>by rw[ϙ] at E;subst E;exact H.pos
 run:=λs E=>by rw[ϙ] at E;subst E;rfl
 w0:=rfl
 inc:=λj k h1 T=>by simp at T;omega
 bound:=λ_ s _=>by show rk []<=_;exact Nat.zero_le _
 done:=λj X=>by omega
 cur:=λx hx=>by omega
 no:=λj X=>by omega
 lenF:=by simp[G]
 lenY:=by simp[G]
 seen:=λs E=>by
  rw[Cf _ _ _ _ _ (by rw[List.length_replicate];omega)];by_cases e:s=0
  ·simp[e]
  rw[if_neg e];have:(θ n (I:Option Nat)).getD s I=I:=by rw[Ζ,Ò];split<;>rfl
  rw[this];simp[e]
 from_:=λs p h E=>by
  by_cases hl:0<n
  ·rw[Cf _ _ _ _ _ (by rw[List.length_replicate];omega),if_neg E] at h;rw[Ζ,Ò] at h;split at h<;>cases h
  have:n=0:=by omega
  subst this;simp at h
theorem TV (h:FB t i b l W F Y) (hi:i<l.length) (E:t.stp (l.getD i 0) b<t.n.length) (hm:F.getD (t.stp (l.getD i 0) b) I≠I):FB t i (b+1) l W F Y:=by
 have G:t.stp (l.getD i 0) b∈l:=(h.seen _ E).1 (by cases H:F.getD (t.stp (l.getD i 0) b) I<;>simp_all);refine { h with bound:=λhi s E=>?_,cur:=λx hx=>?_ }
 ·have:=h.bound hi s E;omega
 by_cases e:x=b
 ·subst e;exact⟨G,by have:=h.bound hi _ G;omega⟩
 exact h.cur x (by omega)
theorem TY (hv:TVal t) (h:FB t i b l W F Y) (hi:i<l.length) (hb:b<256) (hm:F.getD (t.stp (l.getD i 0) b) I=I) :
  FB t i (b+1) (l++[t.stp (l.getD i 0) b]) (λs=>if s=t.stp (l.getD i 0) b then W (l.getD i 0)++[ώ b] else W s) (F.set (t.stp (l.getD i 0) b) (J (l.getD i 0))) (Y.set (t.stp (l.getD i 0) b) (ώ b)):=by
 have T:=Dm l i 0 hi;have aa:t.stp (l.getD i 0) b<t.n.length:=hv.stp_lt (h.lt _ T) hb;have af:t.stp (l.getD i 0) b∉l:=λhc=>by have:=(h.seen _ aa).2 hc;rw[hm] at this;cases this
 have an:t.run 0 (W (l.getD i 0)++[ώ b])=t.stp (l.getD i 0) b:=by rw[Gf,h.run _ T,u8n b hb]
 have ag:rk (W (l.getD i 0)++[ώ b])=256*rk (W (l.getD i 0))+b+1:=by rw[Qd,u8n b hb]
 have ah:=h.bound hi;have ao:=h.cur;have aq:=h.seen;have ar:=h.from_;generalize hs:l.getD i 0=s at *;generalize au:t.stp s b=x at *;have G:∀ q,q∈l->(if q=x then W s++[ώ b] else W q)=W q:=λq E=>if_neg (λe:q=x=>af (e▸E))
 have aw:x≠0:=λe=>af (by have:=Dm l 0 0 h.pos;rw[h.head] at this;rw[e];exact this)
 have H:∀ j,j<l.length->(l++[x]).getD j 0=l.getD j 0:=λj hj=>Ca _ _ _ _ hj
 have hl:(l++[x]).length=l.length+1:=by simp
 refine⟨by omega,by rw[H 0 h.pos];exact h.head,?_,λq E=>?_,λq E=>?_,?_,λj k ay hk=>?_,λ_ q E=>?_,λj hj y hy=>?_,λy hy=>?_,λj hj=>?_,by rw[υ];exact h.lenF,by rw[υ];exact h.lenY,λq E=>?_,λq p hp E=>?_⟩
 ·rw[List.nodup_append];exact⟨h.nodup,by simp,λa ha b hb=>by rw[ϙ] at hb;subst hb;rintro rfl;exact af ha⟩
 ·rw[Ê,ϙ] at E;rcases E with E|rfl
  ·exact h.lt q E
  exact aa
 ·rw[Ê,ϙ] at E;rcases E with E|rfl
  ·show t.run 0 (if q=x then _ else _)=q;rw[G q E];exact h.run q E
  show t.run 0 (if q=q then _ else _)=q;rw[if_pos rfl];exact an
 ·show (if 0=x then _ else _)=_;rw[if_neg (Ne.symm aw)];exact h.w0
 ·rw[hl] at hk;have X:j<l.length:=by omega
  show rk (if (l++[x]).getD j 0=x then _ else _)<rk (if (l++[x]).getD k 0=x then _ else _);rw[H j X,G _ (Dm l j 0 X)];by_cases e:k=l.length
  ·rw[e,Dx,if_pos rfl,ag];have:=ah _ (Dm l j 0 X);omega
  rw[H k (by omega),G _ (Dm l k 0 (by omega))];exact h.inc j k ay (by omega)
 ·show rk (if q=x then _ else _)<=256*rk (if (l++[x]).getD i 0=x then _ else _)+(b+1);rw[H i hi,hs,G s T];rw[Ê,ϙ] at E;rcases E with E|rfl
  ·rw[G q E];have:=ah q E;omega
  rw[if_pos rfl,ag];omega
 ·have X:j<l.length:=by omega
  rw[H j X];obtain⟨h1,h2⟩:=h.done j hj y hy;show _/\rk (if t.stp (l.getD j 0) y=x then _ else _)<=256*rk (if l.getD j 0=x then _ else _)+y+1;rw[G _ h1,G _ (Dm l j 0 X)];exact⟨List.mem_append_left _ h1,h2⟩
 ·rw[H i hi,hs];show _/\rk (if t.stp s y=x then _ else _)<=256*rk (if s=x then _ else _)+y+1;rw[G s T];by_cases e:y=b
  ·subst e;rw[au,if_pos rfl,ag];exact⟨by simp,Υ _⟩
  obtain⟨h1,h2⟩:=ao y (by omega);rw[G _ h1];exact⟨List.mem_append_left _ h1,h2⟩
 ·rw[H j (by omega)];exact h.no j hj
 ·rw[Cf _ _ _ _ _ (by rw[h.lenF];exact aa),Ê,ϙ];by_cases e:q=x
  ·rw[if_pos e];simp[e]
  rw[if_neg e,aq q E];simp[e]
 rw[Cf _ _ _ _ _ (by rw[h.lenF];exact aa)] at hp;rw[Cf _ _ _ _ _ (by rw[h.lenY];exact aa)];by_cases e:q=x
 ·rw[if_pos e] at hp ⊢;cases hp
  refine⟨List.mem_append_left _ T,?_⟩;rw[G s T,if_pos e]
 rw[if_neg e] at hp ⊢;obtain⟨h1,h2⟩:=ar q p hp E;refine⟨List.mem_append_left _ h1,?_⟩;rw[G p h1,if_neg e];exact h2
theorem TX (h:FB t i 256 l W F Y) (hi:i<l.length) (E:t.ok (l.getD i 0)=Ε):FB t (i+1) 0 l W F Y:=
 { h with
  bound:=λG s H=>by have h1:=h.bound hi s H;have X:=h.inc i (i+1) (by omega) G;omega
  done:=λj T x hx=>by
   by_cases e:j=i
   ·subst e;exact h.cur x hx
   exact h.done j (by omega) x hx
  cur:=λx hx=>by omega
  no:=λj T=>by
   by_cases e:j=i
   ·subst e;exact E
   exact h.no j (by omega) }
theorem FB.len_le (h:FB t i b l W F Y):l.length<=t.n.length:=by
 have:=D8 l (π t.n.length) h.nodup λs E=>ϔ.2 (h.lt s E)
 simpa using this
theorem Z3 (h:FB t i b l W F Y) (u:List UInt8):(∃ j,j<i/\j<l.length/\t.run 0 u=l.getD j 0/\rk (W (l.getD j 0))<=rk u)\/(i<l.length/\rk (W (l.getD i 0))<=rk u)\/(i<l.length/\False):=by
 have key:∀ k s,s∈l->rk (W s)<=k->(∃ j,j<i/\j<l.length/\s=l.getD j 0/\rk (W (l.getD j 0))<=k)\/(i<l.length/\rk (W (l.getD i 0))<=k):=λk s T H=>by
  obtain⟨j,E,rfl⟩:=Iq T;rcases Nat.lt_trichotomy j i with G|rfl|G
  ·exact .inl ⟨j,G,E,rfl,H⟩
  ·exact .inr ⟨E,H⟩
  have:=h.inc i j G E;exact .inr ⟨by omega,by omega⟩
 have:(∃ j,j<i/\j<l.length/\t.run 0 u=l.getD j 0/\rk (W (l.getD j 0))<=rk u)\/(i<l.length/\rk (W (l.getD i 0))<=rk u):=by
  induction u using Hb with
  | h0=>
   refine key _ 0 ?_ (by rw[h.w0];exact Υ _);have:=Dm l 0 0 h.pos
   rwa [h.head] at this
  | h1 u x X=>
   rw[Gf,Qd];rcases X with⟨j,E,ab,e,aa⟩|⟨hi,aa⟩
   ·obtain⟨h1,h2⟩:=h.done j E x.toNat x.toNat_lt;rw[e];exact key _ _ h1 (by omega)
   exact .inr ⟨hi,by omega⟩
 rcases this with h1|h1
 ·exact .inl h1
 exact .inr (.inl h1)
theorem TW (h:FB t i b l W F Y) (hi:l.length<=i) (u:List UInt8):t.has u=Ε:=by
 rcases Z3 h u with⟨j,E,G,e,_⟩|⟨h1,_⟩|⟨_,h1⟩
 ·show t.ok (t.run 0 u)=Ε;rw[e];exact h.no j E
 ·omega
 exact h1.elim
theorem TU (h:FB t i b l W F Y) (hi:i<l.length) (E:t.ok (l.getD i 0)=Α):t.has (W (l.getD i 0))=Α/\∀ u,t.has u=Α->rk (W (l.getD i 0))<=rk u:=by
 refine⟨?_,λu hu=>?_⟩
 ·show t.ok (t.run 0 _)=Α;rw[h.run _ (Dm l i 0 hi)];exact E
 rcases Z3 h u with⟨j,G,H,e,_⟩|⟨_,h1⟩|⟨_,h1⟩
 ·have:t.ok (t.run 0 u)=Α:=hu;rw[e,h.no j G] at this;cases this
 ·exact h1
 exact h1.elim
end
theorem Kg {d:Dfa} (hd:Cano d) {α:Type} [DecidableEq α] (g:List UInt8->α) (hg:∀ w w',g w=g w'->∀ u,d.has (w++u)=d.has (w'++u)) (l:List α) (H:∀ w,g w∈l):d.n.length<=l.length:=by
 classical
 have G:∀ s:Nat,∃ w,s<d.n.length->d.run 0 w=s:=λs=>by
  by_cases E:s<d.n.length
  ·obtain⟨w,T⟩:=hd.reach s E;exact⟨w,λ_=>T⟩
  exact⟨[],λh=>absurd h E⟩
 have key:∀ w w',g w=g w'->d.run 0 w=d.run 0 w':=λw w' h=>by
  refine hd.red _ _ (hd.val.run_lt _ hd.val.pos) (hd.val.run_lt _ hd.val.pos) λu=>?_
  rw[<-Bf,<-Bf];exact hg w w' h u
 let f:Nat->α:=λs=>g (G s).choose
 have X:∀ s s',s<d.n.length->s'<d.n.length->f s=f s'->s=s':=λs s' E aa h=>by have:=key _ _ h;rw[(G s).choose_spec E,(G s').choose_spec aa] at this;exact this
 have hn:((π d.n.length).map f).Nodup:=by rw[à,List.pairwise_map];refine List.Pairwise.imp_of_mem (λ{a b} ha hb ae e=>ae (X a b (ϔ.1 ha) (ϔ.1 hb) e)) (à.1 List.nodup_range)
 have:=D8 _ l hn λx hx=>by obtain⟨s,_,rfl⟩:=ϴ.1 hx;exact H _
 simpa using this
theorem WP {d:Dfa} (G:Val d) (E:List (List UInt8)) (H:E.Pairwise λu v=>∃ x,d.has (u++x)≠d.has (v++x)):E.length<=d.n.length:=by
 have T:(E.map λu=>d.run 0 u).Nodup:=by
  rw[à,List.pairwise_map];refine H.imp λ{u v} ⟨x,hx⟩ e=>hx ?_
  unfold Dfa.has;rw[Bf,Bf,e]
 have:=D8 _ (π d.n.length) T λs X=>by obtain⟨u,_,rfl⟩:=ϴ.1 X;exact ϔ.2 (G.run_lt _ G.pos)
 simpa using this
theorem O0 {d e:Dfa} (hd:Cano d) (he:Val e) (h:∀ w,d.has w=e.has w):d.n.length<=e.n.length:=by
 have:=Kg hd (λw=>e.run 0 w) (λw w' E u=>by rw[h,h];unfold Dfa.has;rw[Bf,Bf,E]) (π e.n.length) λw=>ϔ.2 (he.run_lt _ he.pos)
 simpa using this
theorem WO {d:Dfa} (hd:Cano d) {t:Tbl} (E:TVal t) (h:∀ w,d.has w=t.has w):d.n.length<=t.n.length:=by
 have:=Kg hd (λw=>t.run 0 w) (λw w' G u=>by rw[h,h];unfold Tbl.has;rw[K0,K0,G]) (π t.n.length) λw=>ϔ.2 (E.run_lt _ E.pos)
 simpa using this
def swp (a s:Nat):Nat:=if s=0 then a else if s=a then 0 else s
theorem M5 (a s:Nat):swp a (swp a s)=s:=by unfold swp;split<;>split<;>(try split)<;>omega
theorem Ih {a s n:Nat} (E:a<n) (G:s<n):swp a s<n:=by unfold swp;split<;>(try split)<;>omega
structure Quot (d q:Dfa) (a:Nat):Prop where
 cls:q.cls=d.cls
 len:q.n.length=d.n.length
 acl:q.acc.length=d.n.length
 row:∀ s,s<d.n.length->(q.n.getD (swp a s) []).length=d.cls.length
 ent:∀ s,s<d.n.length->∀ k,k<d.cls.length->q.ent2 (swp a s) k=swp a (d.ent2 s k)
 acc:∀ s,s<d.n.length->q.ok (swp a s)=d.ok s
theorem Quot.val {d q:Dfa} {a:Nat} (h:Quot d q a) (hd:Val d) (G:a<d.n.length):Val q where
 pos:=by rw[h.len];exact hd.pos
 accL:=by rw[h.acl,h.len]
 row:=λs E=>by rw[h.len] at E;have:=h.row (swp a s) (Ih G E);rw[M5] at this;rw[this,h.cls]
 tgt:=λs E k H=>by rw[h.len] at E;rw[h.cls] at H;have:=h.ent (swp a s) (Ih G E) k H;rw[M5] at this;rw[this,h.len];exact Ih G (hd.tgt _ (Ih G E) k H)
 parts:=by rw[h.cls];exact hd.parts
theorem Quot.run {d q:Dfa} {a:Nat} (h:Quot d q a) (hd:Val d):∀ (w:List UInt8) s,s<d.n.length->q.run (swp a s) w=swp a (d.run s w)
 | [],_,_=>rfl
 | x::w,s,E=>by
  show q.run (q.stp (swp a s) x.toNat) w=swp a (d.run (d.stp s x.toNat) w);have h1:q.stp (swp a s) x.toNat=swp a (d.stp s x.toNat):=by unfold Dfa.stp;rw[h.cls];exact h.ent s E _ (cell_lt hd.parts x.toNat_lt)
  rw[h1];exact Quot.run h hd w _ (hd.stp_lt E x.toNat_lt)
section
variable {t:Tbl} {n:Nat} {B N R:List Nat} {f:List UInt8->Option Nat} {m:Nat}
end
theorem Uz {α:Type} (k:Nat):∀ l:List α,(l.map λ_=>k).sum=l.length*k
 | []=>by simp
 | a::l=>by simp only[List.map_cons,List.sum_cons,Uz k l,List.length_cons,Nat.add_mul];omega
end Go.Proofs.YtilncahcpjlfnaaGreatDoor
