import Derived.Test.YtaiogolidlamiaaGreatDoorN03
import Derived.Deep.AppendLies
import Derived.OrdersHeld
import Derived.Test.YtaiogolidlamiaaGreatDoorN01
import Derived.Deep.DeepCutAuto
set_option linter.unusedVariables false
set_option linter.unusedSimpArgs false
open And renaming intro → ß
open Bool renaming true → Ξ, false → Τ, or_eq_true → Å, and_eq_true → Ϝ
open Go renaming Value → Ν, maxLen → ϛ, World → Λ, info_parts → Ϟ, cell_of_row → γ, wpList_make_full → ϩ, wpList_append_lies → Ϙ, cell_one_new → ϭ, Oper → ϳ, Act → ú, getD_replicate_false → ϫ
open Go.Ending renaming returned → θ
open Go.IntKind renaming i64 → ε, u64 → π
open Go.Lib renaming hid → Α
open Go.Obj renaming cells → Ε
open Go.Proofs.Tryz renaming prog → Ζ, underlying68 → ϔ, underlying22 → ϻ, underlying155 → ñ
open Go.Region renaming ready → É, wanted → Ë
open Go.RowKit renaming Hid → À
open Go.Value renaming slice → Β, oneCell' → ό, bool → ο
open Go.World renaming size_alloc → Ρ, ownsRow_nil → Ô, ownsRow → Ϡ
open List renaming length_append → Υ, getD_eq_getElem?_getD → Η, getElem?_set → Ï, getElem?_eq_getElem → Μ, replicate → ζ, getElem?_replicate → Ϭ, length_set → ϒ, pairwise_iff_getElem → Ϯ, range → ι, map_append → ϝ, length_map → ϋ, ext_getElem? → ϥ, getElem?_map → ϕ
open Nat renaming le_refl → ν, le_of_eq → à, lt_of_lt_of_le → δ
open Option renaming some → Δ, none → Γ, getD_some → ì
open UInt8 renaming ofNat → χ
namespace Go.Proofs.YtaiogolidlamiaaGreatDoor
set_option maxRecDepth 100000
set_option maxHeartbeats 4000000
def Bm (x:Nat):List UInt8:=[χ x,χ (x / 256)]
theorem Vw {x y:Nat} (G:x<65536) (I:y<65536) (h:Bm x=Bm y):x=y:=by
 simp only[Bm,List.cons.injEq,and_true] at h;have D:=congrArg UInt8.toNat h.1;have E:=congrArg UInt8.toNat h.2;simp only[UInt8.toNat_ofNat'] at D E;omega
theorem Pr (x:Nat):(Bm x).length=2:=rfl
def Bg (g:Nat->Nat):Nat->List UInt8
 | 0=>[]
 | n+1=>Bg g n++Bm (g n)
theorem Jj (g:Nat->Nat):∀ n,(Bg g n).length=2*n
 | 0=>rfl
 | n+1=>by rw[Bg,Υ,Jj g n,Pr];omega
theorem K1 (g D:Nat->Nat):∀ n,(∀ k,k<n->g k<65536)->(∀ k,k<n->D k<65536)->(Bg g n=Bg D n↔∀ k,k<n->g k=D k)
 | 0,_,_=>by simp[Bg]
 | n+1,hg,G=>by
  have I:=K1 g D n (λk E=>hg k (by omega)) (λk E=>G k (by omega));simp only[Bg];constructor
  ·intro h;obtain⟨J,M⟩:=List.append_inj h (by rw[Jj,Jj]);intro k E;by_cases e:k=n
   ·subst e;exact Vw (hg k (by omega)) (G k (by omega)) M
   ·exact I.1 J k (by omega)
  ·intro h;rw[I.2 λk E=>h k (by omega),h n (by omega)]
def Bu (t:Tbl) (B:Nat->Nat) (s:Nat):List UInt8:=Bm (B s)++Bg (λk=>B (t.ent2 s k)) t.cells
theorem Wg (t:Tbl) (B:Nat->Nat) (s s':Nat) (J:B s<65536) (M:B s'<65536) (G:∀ k,k<t.cells->B (t.ent2 s k)<65536) (I:∀ k,k<t.cells->B (t.ent2 s' k)<65536) :
  Bu t B s=Bu t B s'↔B s=B s'/\∀ k,k<t.cells->B (t.ent2 s k)=B (t.ent2 s' k):=by
 unfold Bu;constructor
 ·intro h;obtain⟨D,E⟩:=List.append_inj h rfl;exact⟨Vw J M D,(K1 _ _ _ G I).1 E⟩
 ·rintro⟨D,E⟩;rw[D,(K1 _ _ _ G I).2 E]
theorem Bb {α:Type} (l:List α) (i j:Nat) (x d:α) (h:i<l.length):(l.set i x).getD j d=if j=i then x else l.getD j d:=by
 rw[Η,Η,Ï];by_cases e:j=i
 ·subst e;simp[h]
 ·rw[if_neg (Ne.symm e),if_neg e]
theorem Vh {l:List Nat} (h:l.Nodup) {i j:Nat} (hi:i<l.length) (D:j<l.length) (E:i≠j):l.getD i 0≠l.getD j 0:=by
 rw[Η,Η,Μ hi,Μ D];intro e;exact E ((List.getElem_inj h).1 e)
theorem Kj {l:List Nat} {s:Nat} (h:s∈l):∃ j,j<l.length/\l.getD j 0=s:=Gm (d:=0) h
structure NInv (l:List Nat) (key:Nat->List UInt8) (j:Nat) (N R:List Nat) (f:List UInt8->Option Nat):Prop where
 le:R.length<=j
 has:∀ q,q<j->f (key (l.getD q 0))=Δ (N.getD (l.getD q 0) 0)
 lt:∀ q,q<j->N.getD (l.getD q 0) 0<R.length
 rep:∀ i,i<R.length->(∃ q,q<j/\R.getD i 0=l.getD q 0)/\N.getD (R.getD i 0) 0=i
 from_:∀ k i,f k=Δ i->∃ q,q<j/\k=key (l.getD q 0)/\i=N.getD (l.getD q 0) 0
 same:∀ q q',q<j->q'<j->(N.getD (l.getD q 0) 0=N.getD (l.getD q' 0) 0↔key (l.getD q 0)=key (l.getD q' 0))
theorem Vk (l:List Nat) (key:Nat->List UInt8) (N:List Nat):NInv l key 0 N [] (λ_=>Γ) where
 le:=by simp
 has:=λq D=>by omega
 lt:=λq D=>by omega
 rep:=λi hi=>by simp at hi
 from_:=λk i h=>by simp at h
 same:=λq q' D=>by omega
section
variable {l:List Nat} {key:Nat->List UInt8} {j:Nat} {N R:List Nat} {f:List UInt8->Option Nat}
theorem Vm (h:NInv l key j N R f) (hn:l.Nodup) (hj:j<l.length) (hs:l.getD j 0<N.length) (i:Nat) (hi:f (key (l.getD j 0))=Δ i):NInv l key (j+1) (N.set (l.getD j 0) i) R f:=by
 obtain⟨z,I,T,J⟩:=h.from_ _ _ hi;have ne:∀ q,q<j->l.getD q 0≠l.getD j 0:=λq D=>Vh hn (by omega) hj (by omega)
 have E:∀ q,q<j->(N.set (l.getD j 0) i).getD (l.getD q 0) 0=N.getD (l.getD q 0) 0:=λq D=>by rw[Bb _ _ _ _ _ hs,if_neg (ne q D)]
 have G:(N.set (l.getD j 0) i).getD (l.getD j 0) 0=i:=by rw[Bb _ _ _ _ _ hs,if_pos rfl]
 refine⟨by have:=h.le;omega,λq D=>?_,λq D=>?_,λr hr=>?_,λk i' ae=>?_,λq q' D ag=>?_⟩
 ·by_cases e:q=j
  ·subst e;rw[G];exact hi
  ·rw[E q (by omega)];exact h.has q (by omega)
 ·by_cases e:q=j
  ·subst e;rw[G,J];exact h.lt z I
  ·rw[E q (by omega)];exact h.lt q (by omega)
 ·obtain⟨⟨q,D,e⟩,M⟩:=h.rep r hr;refine⟨⟨q,by omega,e⟩,?_⟩;rw[e,E q D,<-e];exact M
 ·obtain⟨q,D,e1,M⟩:=h.from_ k i' ae;exact⟨q,by omega,e1,by rw[E q D];exact M⟩
 ·by_cases e:q=j<;>by_cases U:q'=j
  ·subst e;subst U;simp
  ·subst e;rw[G,E q' (by omega),J,h.same z q' I (by omega),T]
  ·subst U;rw[G,E q (by omega),J,h.same q z (by omega) I,T]
  ·rw[E q (by omega),E q' (by omega)];exact h.same q q' (by omega) (by omega)
theorem Vn (h:NInv l key j N R f) (hn:l.Nodup) (hj:j<l.length) (hs:l.getD j 0<N.length) (hi:f (key (l.getD j 0))=Γ) :
  NInv l key (j+1) (N.set (l.getD j 0) R.length) (R++[l.getD j 0]) (λk=>if k=key (l.getD j 0) then Δ R.length else f k):=by
 have ne:∀ q,q<j->l.getD q 0≠l.getD j 0:=λq D=>Vh hn (by omega) hj (by omega)
 have M:∀ q,q<j->key (l.getD q 0)≠key (l.getD j 0):=λq D e=>by
  have:=h.has q D;rw[e,hi] at this;cases this
 have E:∀ q,q<j->(N.set (l.getD j 0) R.length).getD (l.getD q 0) 0=N.getD (l.getD q 0) 0:=λq D=>by rw[Bb _ _ _ _ _ hs,if_neg (ne q D)]
 have I:(N.set (l.getD j 0) R.length).getD (l.getD j 0) 0=R.length:=by rw[Bb _ _ _ _ _ hs,if_pos rfl]
 have U:(R++[l.getD j 0]).length=R.length+1:=by simp
 refine⟨by have:=h.le;omega,λq D=>?_,λq D=>?_,λr hr=>?_,λk i' J=>?_,λq q' D ah=>?_⟩
 ·by_cases e:q=j
  ·subst e;rw[I];simp
  ·rw[E q (by omega),if_neg (M q (by omega))];exact h.has q (by omega)
 ·rw[U];by_cases e:q=j
  ·subst e;rw[I];omega
  ·rw[E q (by omega)];have:=h.lt q (by omega);omega
 ·rw[U] at hr;by_cases e:r=R.length
  ·have G:(R++[l.getD j 0]).getD r 0=l.getD j 0:=by rw[e];simp[Η]
   rw[G,I];exact⟨⟨j,by omega,rfl⟩,e.symm⟩
  ·have aa:r<R.length:=by omega
   obtain⟨⟨q,D,G⟩,T⟩:=h.rep r aa;rw[Bt _ _ _ _ aa];refine⟨⟨q,by omega,G⟩,?_⟩;rw[G,E q D,<-G];exact T
 ·by_cases e:k=key (l.getD j 0)
  ·simp only[e,if_true] at J;cases J
   exact⟨j,by omega,e,I.symm⟩
  ·simp only[e,if_false] at J;obtain⟨q,D,G,T⟩:=h.from_ k i' J;exact⟨q,by omega,G,by rw[E q D];exact T⟩
 ·by_cases e:q=j<;>by_cases e':q'=j
  ·subst e;subst e';simp
  ·subst e;have h1:=h.lt q' (by omega);rw[I,E q' (by omega)];exact⟨λe=>by omega,λe=>absurd e.symm (M q' (by omega))⟩
  ·subst e';have h1:=h.lt q (by omega);rw[I,E q (by omega)];exact⟨λe=>by omega,λe=>absurd e (M q (by omega))⟩
  ·rw[E q (by omega),E q' (by omega)];exact h.same q q' (by omega) (by omega)
theorem Iu (h:NInv l key l.length N R f):Blk l (λs=>N.getD s 0) R/\∀ s∈l,∀ s'∈l,(N.getD s 0=N.getD s' 0↔key s=key s'):=by
 refine⟨⟨λs hs=>?_,λi hi=>?_,λi hi=>(h.rep i hi).2⟩,λs hs s' E=>?_⟩
 ·obtain⟨q,D,rfl⟩:=Kj hs;exact h.lt q D
 ·obtain⟨⟨q,D,e⟩,_⟩:=h.rep i hi;rw[e];exact D9 l q 0 D
 ·obtain⟨q,D,rfl⟩:=Kj hs;obtain⟨q',G,rfl⟩:=Kj E;exact h.same q q' D G
end
theorem Kb {t:Tbl} {l:List Nat} (I:Reached t l) {B N:Nat->Nat} (D:∀ s∈l,B s<65536) (h:∀ s∈l,∀ s'∈l,(N s=N s'↔Bu t B s=Bu t B s')):Fp t l B N:=λs hs s' E=>by
 rw[h s hs s' E,Wg t B s s' (D s hs) (D s' E) (λk G=>D _ (I.closed s hs k G)) (λk G=>D _ (I.closed s' E k G))]
structure AInv (t:Tbl) (l:List Nat) (j:Nat) (B:List Nat):Prop where
 len:B.length=t.n.length
 at_:∀ s,B.getD s 0=if s∈l.take j/\t.ok s=Ξ then 1 else 0
theorem Zk (t:Tbl) (l:List Nat):AInv t l 0 (ζ t.n.length 0) where
 len:=by simp
 at_:=λs=>by
  simp[Η,Ϭ];split<;>rfl
theorem Sy {l:List Nat} {j:Nat} (D:j<l.length) (s:Nat):s∈l.take (j+1)↔s∈l.take j\/s=l.getD j 0:=by
 rw[List.take_add_one,List.mem_append,Μ D,Η,Μ D];simp
theorem Zj {t:Tbl} {l:List Nat} {j:Nat} {B:List Nat} (h:AInv t l j B) (E:j<l.length) (hs:l.getD j 0<t.n.length) (G:t.ok (l.getD j 0)=Ξ):AInv t l (j+1) (B.set (l.getD j 0) 1) where
 len:=by rw[ϒ];exact h.len
 at_:=λs=>by
  rw[Bb _ _ _ _ _ (by rw[h.len];exact hs),h.at_ s];have D:=Sy E s;generalize l.getD j 0=x at *;by_cases e:s=x
  ·subst e;simp[D,G]
  ·simp[D,e]
theorem Zl {t:Tbl} {l:List Nat} {j:Nat} {B:List Nat} (h:AInv t l j B) (D:j<l.length) (E:t.ok (l.getD j 0)=Τ):AInv t l (j+1) B where
 len:=h.len
 at_:=λs=>by
  rw[h.at_ s];have G:=Sy D s;generalize l.getD j 0=x at *;by_cases e:s=x
  ·subst e;simp[E]
  ·simp[G,e]
theorem Zm {t:Tbl} {l:List Nat} {B:List Nat} (h:AInv t l l.length B):Refi t l (λs=>B.getD s 0) 0/\∀ s,B.getD s 0<65536:=by
 refine⟨Ua t l _ λs hs=>?_,λs=>?_⟩
 ·show B.getD s 0=_;rw[h.at_ s,List.take_length];simp[hs]
 ·rw[h.at_ s];split<;>omega
structure OInv (t:Tbl) (l:List Nat) (B:List Nat) (n:Nat):Prop where
 len:B.length=t.n.length
 refi:Refi t l (λs=>B.getD s 0) n
 lt:∀ s∈l,B.getD s 0<65536
 le:n<=l.length
theorem U3 {t:Tbl} {l:List Nat} {B:List Nat} (h:AInv t l l.length B):OInv t l B 0:=
 ⟨h.len,(Zm h).1,λs _=>(Zm h).2 s,by omega⟩
theorem Jq {l:List Nat} {B:Nat->Nat} {R:List Nat} (h:Blk l B R):R.length<=l.length:=by
 have:=Dy (R.map λs=>s) l (by
  rw[List.map_id'];rw[List.nodup_iff_pairwise_ne,Ϯ];intro i j hi G I e;have D:=h.rep i hi;have E:=h.rep j G;rw[Η,Μ hi] at D;rw[Η,Μ G] at E;simp only[ì] at D E;rw[e,E] at D;omega) λs hs=>by
   rw[List.map_id'] at hs;obtain⟨i,hi,rfl⟩:=Kj hs;exact h.mem i hi
 simpa using this
theorem Ph {t:Tbl} (hv:TVal t) {l:List Nat} (E:Reached t l) {B N R:List Nat} {f:List UInt8->Option Nat} {n:Nat} (h:OInv t l B n) (hm:l.length<=65536) (I:N.length=t.n.length)
  (hi:NInv l (Bu t λs=>B.getD s 0) l.length N R f) (M:R.length≠n):OInv t l N R.length/\n<R.length:=by
 obtain⟨D,hs⟩:=Iu hi;have G:Fp t l (λs=>B.getD s 0) (λs=>N.getD s 0):=Kb E h.lt hs;have J:=Jq D;refine⟨⟨I,Ow hv E h.refi G D,λs hs=>?_,J⟩,?_⟩
 ·have:=D.lt s hs;show N.getD s 0<65536;omega
 ·have:=(Md h.refi G D E.ne).1;omega
theorem Agc {t:Tbl} (hv:TVal t) {l:List Nat} (D:Reached t l) {B N R:List Nat} {f:List UInt8->Option Nat} {n:Nat} (h:OInv t l B n)
  (hi:NInv l (Bu t λs=>B.getD s 0) l.length N R f) (he:R.length=n):Blocks t l (λs=>N.getD s 0) R:=by
 obtain⟨E,hs⟩:=Iu hi;have G:Fp t l (λs=>B.getD s 0) (λs=>N.getD s 0):=Kb D h.lt hs;exact⟨E,Ox hv D h.refi G E he⟩
open Go.RowKit Go.Shelf
def Dj (l:List UInt8):Ν:=.string ⟨l.toArray⟩
theorem Of (x y:List UInt8) (h:Dj x=Dj y):x=y:=by simpa [Dj] using h
theorem Oe (l:List UInt8) (D:l.length<=ϛ):∃ k,keyOf Ζ 9 (Dj l)=Δ k:=
 ⟨_,Go.WideMaps.keyOf_string_mk Tryz.underlying9 (by simpa [ByteArray.size] using D)⟩
theorem Jk (w:Λ) (a b:Ν) (t:TypeId):∀ j u,[a,b][j]? = Δ u->(w.alloc (Ε #[a,b] t)).cell? ((⟨w.heap.size,0,Γ⟩:Addr).add j)=Δ u:=λj u hu=>
 Λ.news_of_block (Aa w (Ε #[a,b] t)) j u hu
theorem Ad6 (t:Tbl) (hv:TVal t) (hn:t.n.length<=65536) (l:List Nat) (hl:Reached t l) (A:Array Ν) (vl:Ν) (w:Λ) (h:IsT w A t) (dq:Ints w vl l) :
  Calls Ζ 110 #[.agg A,vl] w λe w'=>∃ vN vR N R,e=θ (.tuple #[vN,vR])/\N.length=t.n.length/\Blocks t l (λs=>N.getD s 0) R/\Ints w' vN N/\Ints w' vR R/\Ext w w':=by
 obtain⟨bn,on,cn,ba,oa,ca,fh,fj,_,_,dv,dw,hR,dy⟩:=h.opened hv;obtain⟨bl,ol,cl,rfl,ea⟩:=Û dq hl.ne;have h9:=hv.pos;have ia:=hv.cpos;have ib:=hv.cle;have ic:=hl.ne;have ie:l.length<=t.n.length:=by
  have:=Dy l (ι t.n.length) hl.nodup λs hs=>List.mem_range.2 (hl.lt s hs)
  simpa using this
 have HR:=Α hR;have HV:=Α hv;have HL:=Α hl;have eb:=Α (λk (hk:k<l.length)=>ea k (by omega));have fl:=Α dy;obtain⟨i0,hi,cf,cg,ch⟩:=Ϟ Cp;obtain⟨i5,cm,cq,ct,cu⟩:=Ϟ (show (Ζ.info? 5).map (λi=>(i.zero,i.size,i.bytes))=Δ (Δ (.int .u8 0),1,1) by kernel_rfl);have b0:=(Θ w).alloc (Ε A 108);have H0:=Aa w (Ε A 108);have HK:=Α (λ(W:Λ) (E:Ext (w.alloc (Ε A 108)) W)=>(γ W w.heap.size 257 _ _ _ (E.heap H0)).trans dv);have ec:=Α (λ(W:Λ) (E:Ext (w.alloc (Ε A 108)) W)=>(γ W w.heap.size 258 _ _ _ (E.heap H0)).trans dw);clear hR hv h H0 dv dw fj fh ea dq dy hl;go_enter Tryz.func110,Tryz.ntmps110;go_upto_region 1 with (fail)
 obtain⟨w1,c1⟩:∃ W,w.alloc (Ε A 108)=W:=⟨_,rfl⟩;rw[c1] at b0 HK ec;simp only[c1];clear c1;have k1:=HK.out w1 (Θ w1);go_upto_region 2 with (at_make;refine ϩ _ rfl _ _ 68 rfl w1.heap.size 3 i0 (.int ε 0) 1 ϔ hi cf cg ε ε _ _ t.n.length rfl rfl rfl rfl (by rw[ch];omega) (by unfold ϛ;omega) (ν _) ?_;intro w2 ee ef)
 have fm:Ext w1 w2:=(Θ w1).grown ef (λk e=>by cases e);have fo:w2.ownsRow w1.heap.size 3 1 (Β (Δ ⟨w1.heap.size,0,Γ⟩) t.n.length t.n.length) t.n.length ((ζ t.n.length 0).map iv):=by rw[<-B6];exact ee
 clear ee ef k1;generalize eg:w1.heap.size=gb at *;have fp:=Α eg;clear eg;go_wp2_with (fail);go_loopw [26] (λi W=>∃ (j:Nat) (B:List Nat),j<=l.length/\i=.int ε j/\Ext w1 W/\
   W.ownsRow gb 3 1 (Β (Δ ⟨gb,0,Γ⟩) t.n.length t.n.length) t.n.length (B.map iv)/\À (AInv t l j B))
  (λi _=>l.length-(intOf i).toNat)
 case atStart=>exact⟨0,_,by omega,rfl,fm,fo,Α (Zk t l)⟩
 case round=>
  obtain⟨j,B,hj,rfl,hE,hB,HI⟩:=hrel;by_cases ao:j<l.length
  ·have cl:=(b0.trans hE).cell (eb.out j ao);have ab:=HL.out.lt _ (D9 l j 0 ao);obtain⟨s,bd⟩:∃ s,l.getD j 0=s:=⟨_,rfl⟩;rw[bd] at cl ab;have aq:=Α bd;clear bd;have k8:=ec.out wr hE;have eh:=(b0.trans hE).cell (fl.out s ab);have ei:=Α HI.out.len;have ft:w1.heap.size<=gb:=à fp.out;have HY:=Α (λho=>Zj HI.out ao (by rw[aq.out];exact ab) ho);have I:=Α (λho=>Zl HI.out ao ho);rw[aq.out] at HY I;cases bg:t.ok s
   ·rw[bg] at eh;have aj:=Α (I.out bg);clear bg;go_wp2_with (fail);go_roundw
    case rel=>exact⟨j+1,B,by omega,by go_num,hE,hB,aj⟩
    case measure=>simp[intOf];omega
   ·rw[bg] at eh;have fu:=Α (HY.out bg);clear bg;obtain⟨fv,fw⟩:=Bk hB s 1;have cs:=Am 0 hB ei.out.symm s (by rw[ei.out];exact ab);have fs:=hB.frozenAt s;go_wp2_with (fail);go_roundw
    case rel=>exact⟨j+1,B.set s 1,by omega,by go_num,hE.grown fw (λk e=>by cases e;exact ft),fv,fu⟩
    case measure=>simp[intOf];omega
  ·obtain rfl:j=l.length:=by omega
   have HO:=Α (U3 HI.out);clear HI;go_upto_region 8 with (fail)
   obtain⟨w3,b4⟩:∃ W,W=wr:=⟨_,rfl⟩;subst b4;have ek:À (∀ s,s<t.n.length->w3.cell? ⟨gb,s,Γ⟩=Δ (iv (B.getD s 0))):=Α λs hs=>Am 0 hB HO.out.len.symm s (by rw[HO.out.len];exact hs)
   have en:gb<w3.heap.size:=(hB.lt gb rfl).2;clear hB;go_wp2_with (fail);go_loopw [6,9] (λv c W=>∃ (B:List Nat) (n g cp:Nat),v=Β (Δ ⟨g,0,Γ⟩) t.n.length cp/\c=.int ε n/\Ext w1 W/\g<W.heap.size/\
     À (∀ s,s<t.n.length->W.cell? ⟨g,s,Γ⟩=Δ (iv (B.getD s 0)))/\À (OInv t l B n))
    (λ_ c _=>l.length-(intOf c).toNat)
   case atStart=>exact⟨B,0,gb,_,rfl,rfl,hE,en,ek,HO⟩
   case round=>
    clear ek HO en hE;clear B;obtain⟨B,n,g,cp,rfl,rfl,hE,ih,HC,HO⟩:=hrel;have ij:=HO.out.le;obtain⟨D,fx⟩:∃ W,W=wr:=⟨_,rfl⟩;subst fx;have c4:=b0.trans hE;have ep:=Α (λ(W:Λ) (E:Ext D W)=>HK.out W (hE.trans E));have fy:=Α (λ(W:Λ) (E:Ext D W)=>HR.out.ext (c4.trans E));have fz:=Α (λ(W:Λ) (E:Ext D W) k (hk:k<l.length)=>(c4.trans E).cell (eb.out k hk));have ik:=Α (λ(W:Λ) (E:Ext D W) s (hs:s<t.n.length)=>E.cell (HC.out s hs));have ga:=@run_makeMap Ζ;go_upto_region 10 with (fail)
    clear ga;have er:=(Θ D).alloc (.map #[] 0);have et:=Kt D 9 Dj;have eu:(D.alloc (.map #[] 0)).heap.size=D.heap.size+1:=Ρ _ _;obtain⟨w3,b4⟩:∃ W,D.alloc (.map #[] 0)=W:=⟨_,rfl⟩;simp only[b4] at *;clear b4;go_upto_region 11 with (at_make;refine ϩ _ rfl _ _ 68 rfl w3.heap.size 3 i0 (.int ε 0) 1 ϔ hi cf cg ε ε _ _ t.n.length rfl rfl rfl rfl (by rw[ch];omega) (by unfold ϛ;omega) (ν _) ?_;intro w4 ev c5)
    have ar:=er.grown c5 (λk e=>by cases e);have au:w4.ownsRow w3.heap.size 3 1 (Β (Δ ⟨w3.heap.size,0,Γ⟩) t.n.length t.n.length) t.n.length ((ζ t.n.length 0).map iv):=by rw[<-B6];exact ev
    have bp:=et.kept c5 (by simp);have bq:D.heap.size+1<w4.heap.size:=by have:w3.heap.size<w4.heap.size:=(au.lt _ rfl).2;omega
    rw[eu] at au;clear ev c5 et er;have bh:=Ô w4 (D.heap.size+1+1) 3 1;generalize il:w3.heap.size=gn at *;obtain rfl:gn=D.heap.size+1:=eu;go_wp2_with (fail);go_loopw [12,45] (λv i W=>∃ (j:Nat) (N R:List Nat) (f:List UInt8->Option Nat) (a:Option Addr) (b5:Nat),j<=l.length/\i=.int ε j/\v=Β a R.length b5/\Ext D W/\D.heap.size+1<W.heap.size/\
      W.ownsRow (D.heap.size+1) 3 1 (Β (Δ ⟨D.heap.size+1,0,Γ⟩) t.n.length t.n.length) t.n.length (N.map iv)/\OwnI W (D.heap.size+1+1) v R/\IsMp W 9 Dj D.heap.size R.length f/\
      À (NInv l (Bu t λs=>B.getD s 0) j N R f/\N.length=t.n.length))
     (λ_ i _=>l.length-(intOf i).toNat)
    case atStart=>exact⟨0,_,[],_,Γ,0,by omega,rfl,rfl,ar,bq,au,bh,bp,Α ⟨Vk l _ _,by simp⟩⟩
    case round=>
     clear au bh bp ar bq;obtain⟨j,N,R,f,a,b5,hj,rfl,rfl,ar,bq,au,bh,bp,I⟩:=hrel;have im:=I.out.1.le;obtain⟨w4,gg⟩:∃ W,W=wr:=⟨_,rfl⟩;subst gg;by_cases ao:j<l.length
     ·have cl:=fz.out w4 ar j ao;have b6:=D9 l j 0 ao;have ab:=HL.out.lt _ b6;have hx:=HO.out.lt _ b6;have ey:=Α (λk (hk:k<t.cells)=>HO.out.lt _ (HL.out.closed _ b6 k hk));obtain⟨s,bd⟩:∃ s,l.getD j 0=s:=⟨_,rfl⟩;rw[bd] at cl ab hx ey;have aq:=Α bd;clear bd b6;obtain⟨br,or',cr,ez,e0⟩:=fy.out D (Θ D) s ab;have e1:=Α (λ(W:Λ) (E:Ext D W)=>E.cell ez);have gh:=Α (λ(W:Λ) (E:Ext D W) k (hk:k<t.cells)=>E.cell (e0 k hk));have gi:=Α (λk (hk:k<t.cells)=>HV.out.tgt s ab k hk);clear ez e0;obtain⟨x,b7⟩:∃ x,B.getD s 0=x:=⟨_,rfl⟩;rw[b7] at hx;have HX:=Α (λ(W:Λ) (E:Ext D W)=>(E.cell (HC.out s ab)).trans (by rw[b7]));have gj:=Α b7;clear b7;have k1:=ep.out w4 ar;have k2:=e1.out w4 ar;go_upto_region 15 with (fail)
      go_upto_region 16 with (at_make;refine wpList_make_own _ rfl _ _ 22 rfl (D.heap.size+1+1) 5 i5 (.int .u8 0) 1 ϻ cm cq ct ε ε _ (2+2*t.cells) rfl rfl (by push_cast;rfl) (by rw[cu];omega) (by unfold ϛ;omega) (by omega) ?_;intro J M bj)
      have T:=ar.grown bj (λk e=>by cases e);have U:=Cb au bj;have ad:=Cb bh bj;have aa:=bp.kept bj (by simp);have be:D.heap.size+1<J.heap.size:=δ bq bj.size;have aw:∀ W,Ext D W->Ext D W/\W.cell? ⟨g,s,Γ⟩=Δ (iv x):=λW E=>⟨E,HX.out W E⟩
      have cx:=HX.out J T;clear k1 k2 cl bj au bh bp;go_region_held_law (λW=>Ext D W/\W.cell? ⟨g,s,Γ⟩=Δ (iv x))
       (first|exact aw _ ae|exact aw _ (T.drew.alloc _)|exact aw _ T.drew)
       ((refine step_append_lies _ rfl _ _ 22 rfl (D.heap.size+1+1) 5 i5 (.int .u8 0) 1 1 ϻ cm cq ct cu rfl (by decide) _ _ _ rfl ((Ah M (Θ J).drew).alloc _) _ 2 2 ((Bm x).map bv) rfl rfl (Jk _ _ _ _) (by simp[Bm,ό]) (by decide) (by unfold ϛ;omega) (by omega) (by simp;omega) _ rfl ?_
         intro g6 c6 w6 a1 G c9 da;have ae:Ext D w6:=(T.drew.alloc _).grown G (λk e=>by have:=(M.lt k e).1;omega)))
      have ax:=((Ah U (Θ J).drew).alloc _).kept G (Aj U M (by decide));have ag:=((Ah ad (Θ J).drew).alloc _).kept G (Aj ad M (by decide));have ay:=((aa.ext (Θ J).drew).alloc _).kept G (aa.ne_row M);have a6:D.heap.size+1<w6.heap.size:=by
       have h1:(J.drew.alloc (Ε _ 5)).heap.size<=w6.heap.size:=G.size;rw[Ρ] at h1;have h2:J.heap.size<=J.drew.heap.size:=(Θ J).drew.size;omega
      obtain⟨gf,e3⟩:∃ gf:Nat->Nat,(λk=>B.getD (t.ent2 s k) 0)=gf:=⟨_,rfl⟩;have e4:=Α e3;have a1:w6.ownsRow (D.heap.size+1+1) 5 1 (Β (Δ ⟨g6,0,Γ⟩) (2+2*0) c6) (2+2*0) ((Bm x++Bg gf 0).map bv):=by
       rw[show Bm x++Bg gf 0=Bm x by simp[Bg]];exact a1
      have k1:=ep.out w6 ae;have k2:=e1.out w6 ae;clear e3 U ad aa M G c9 da cx aw T be;go_wp2_with (fail);clear k1 k2;go_loopw [15,78] (λv i W=>∃ (k gk ck:Nat),k<=t.cells/\i=.int ε k/\v=Β (Δ ⟨gk,0,Γ⟩) (2+2*k) ck/\Ext D W/\D.heap.size+1<W.heap.size/\
        W.ownsRow (D.heap.size+1) 3 1 (Β (Δ ⟨D.heap.size+1,0,Γ⟩) t.n.length t.n.length) t.n.length (N.map iv)/\OwnI W (D.heap.size+1+1) (Β a R.length b5) R/\IsMp W 9 Dj D.heap.size R.length f/\
        W.ownsRow (D.heap.size+1+1) 5 1 v (2+2*k) ((Bm x++Bg gf k).map bv))
       (λ_ i _=>t.cells-(intOf i).toNat)
      case atStart=>exact⟨0,g6,c6,by omega,rfl,rfl,ae,a6,ax,ag,ay,a1⟩
      case round=>
       clear ae a6 ax ag ay a1;obtain⟨k,gk,ck,hk,rfl,rfl,T,be,U,ad,aa,M⟩:=hrel;obtain⟨J,gp⟩:∃ W,W=wr:=⟨_,rfl⟩;subst gp;by_cases de:k<t.cells
       ·have e5:=gi.out k de;have hz:=ey.out k de;have cy:=gh.out J T k de;obtain⟨y,df⟩:∃ y,t.ent2 s k=y:=⟨_,rfl⟩;have e8:À (gf k=B.getD y 0):=Α (by rw[<-e4.out,<-df]);rw[df] at cy e5 hz;clear df;obtain⟨z,dg⟩:∃ z,B.getD y 0=z:=⟨_,rfl⟩;rw[dg] at hz e8;have HZ:=Α (λ(W:Λ) (E:Ext D W)=>(E.cell (HC.out y e5)).trans (by rw[dg]));clear dg;have aw:∀ W,Ext D W->Ext D W/\W.cell? ⟨g,y,Γ⟩=Δ (iv z):=λW E=>⟨E,HZ.out W E⟩
        have cz:=HZ.out J T;go_upto_region 20 with (fail)
        clear cy;go_region_held_law (λW=>Ext D W/\W.cell? ⟨g,y,Γ⟩=Δ (iv z))
         (first|exact aw _ ae|exact aw _ (T.drew.alloc _)|exact aw _ T.drew)
         ((refine step_append_lies _ rfl _ _ 22 rfl (D.heap.size+1+1) 5 i5 (.int .u8 0) 1 1 ϻ cm cq ct cu rfl (by decide) _ _ _ rfl ((Ah M (Θ J).drew).alloc _) _ 2 2 ((Bm z).map bv) rfl rfl (Jk _ _ _ _) (by simp[Bm,ό]) (by decide) (by unfold ϛ;omega) (by omega) (by simp;omega) _ rfl ?_
           intro g6 c6 w6 a1 G c9 da;have ae:Ext D w6:=(T.drew.alloc _).grown G (λk e=>by have:=(M.lt k e).1;omega)))
        have ax:=((Ah U (Θ J).drew).alloc _).kept G (Aj U M (by decide));have ag:=((Ah ad (Θ J).drew).alloc _).kept G (Aj ad M (by decide));have ay:=((aa.ext (Θ J).drew).alloc _).kept G (aa.ne_row M);have a6:D.heap.size+1<w6.heap.size:=by
         have h1:(J.drew.alloc (Ε _ 5)).heap.size<=w6.heap.size:=G.size;rw[Ρ] at h1;have h2:J.heap.size<=J.drew.heap.size:=(Θ J).drew.size;omega
        have a1:w6.ownsRow (D.heap.size+1+1) 5 1 (Β (Δ ⟨g6,0,Γ⟩) (2+2*(k+1)) c6) (2+2*(k+1)) ((Bm x++Bg gf (k+1)).map bv):=by
         rw[show Bm x++Bg gf (k+1)=(Bm x++Bg gf k)++Bm z by rw[Bg,e8.out,List.append_assoc],ϝ];exact a1
        clear U ad aa M G c9 da cz aw T be;go_wp2;go_roundw
        case rel=>exact⟨k+1,g6,c6,by omega,by go_num,rfl,ae,a6,ax,ag,ay,a1⟩
        case measure=>simp[intOf];omega
       ·obtain rfl:k=t.cells:=by omega
        have bk:(Bm x++Bg gf t.cells).length=2+2*t.cells:=by rw[Υ,Jj,Pr]
        have dh:Bu t (λs=>B.getD s 0) s=Bm x++Bg gf t.cells:=by
         show Bm (B.getD s 0)++Bg (λk=>B.getD (t.ent2 s k) 0) t.cells=_;rw[gj.out,e4.out]
        obtain⟨ky,fa⟩:∃ ky,Bm x++Bg gf t.cells=ky:=⟨_,rfl⟩;rw[fa] at bk dh M;have dk:=Α dh;clear fa dh;have gr:(convert 22 9 (Β (Δ ⟨gk,0,Γ⟩) (2+2*t.cells) ck)).run Ζ J=.ok (Dj ky) J:=Ik _ _ _ (By.of_owns (by rw[bk];exact M) (by rw[bk];omega));have dm:=Oe ky (by rw[bk];unfold ϛ;omega);have iu:=Α bk;clear bk;cases hf:f ky with
        | some i=>
         have aj:=Vm I.out.1 HL.out.nodup ao (by rw[aq.out,I.out.2];exact ab) i (by rw[aq.out,dk.out];exact hf);rw[aq.out] at aj;have aj:=Α (ß aj (show (N.set s i).length=t.n.length by rw[ϒ];exact I.out.2));have cn:=Am 0 U I.out.2.symm s (by rw[I.out.2];exact ab);have fn:=U.frozenAt s;obtain⟨ax,G⟩:=Bk U s i;have ae:=T.grown G (λk e=>by cases e;omega);have ag:=ad.kept G (Ay ad (by omega));have ay:=aa.kept G (by simp);have a6:=δ be G.size;clear G ad U T be;go_wp2_with (at_lookup;refine Er rfl _ _ 155 rfl Fz ñ rfl aa ky rfl dm ?_;rw[hf];dsimp only [Option.isSome,Option.getD]);go_roundw
         case rel=>exact⟨j+1,N.set s i,R,f,a,b5,by omega,by go_num,rfl,ae,a6,ax,ag,ay,aj⟩
         case measure=>simp[intOf];omega
        | none=>
         have aj:=Vn I.out.1 HL.out.nodup ao (by rw[aq.out,I.out.2];exact ab) (by rw[aq.out,dk.out];exact hf);rw[aq.out,dk.out] at aj;have aj:=Α (ß aj (show (N.set s R.length).length=t.n.length by rw[ϒ];exact I.out.2));have gu:=M;go_upto_region 25 with (at_lookup;refine Er rfl _ _ 155 rfl Fz ñ rfl aa ky rfl dm ?_;rw[hf];dsimp only [Option.isSome,Option.getD])
         go_upto_region 26 with (at_mapUpdate;refine Jw rfl _ _ _ 155 rfl Fz ñ rfl aa (by unfold ϛ;omega) Of ky rfl dm R.length rfl (by omega) ?_;intro w6 ay G)
         clear gr;have ax:=U.kept G (aa.far U);have ag:=ad.kept G (aa.far ad);have ae:=T.grown G (λk e=>by cases e;omega);have a6:=δ be G.size;clear G ad U T be aa M gu;go_upto_region 27 with (at_builtin;refine Ϙ _ rfl _ _ 68 rfl (D.heap.size+1+1) 3 i0 (.int ε 0) 1 8 ϔ hi cf cg ch rfl (by decide) _ _ _ rfl (ag.alloc _) _ 1 1 [iv s] rfl rfl (ϭ _ _ _) (by simp[ό]) (by decide) (by unfold ϛ;omega) (by omega) (by simp;omega) _ rfl ?_;intro g7 c7 w7 bw bx _ _)
         have b9:=(ax.alloc (Ε #[iv s] 3)).kept bx (.inr (λe=>by have:=(ag.lt (D.heap.size+1) e.symm).1;omega));have fe:=(ay.alloc (Ε #[iv s] 3)).kept bx (λe=>by have:=(ag.lt D.heap.size e.symm).1;omega);have ff:=(ae.alloc (Ε #[iv s] 3)).grown bx (λk e=>by have:=(ag.lt k e).1;omega);have fg:D.heap.size+1<w7.heap.size:=by
          have:=bx.size;rw[Ρ] at this;omega
         have bw:OwnI w7 (D.heap.size+1+1) (Β (Δ ⟨g7,0,Γ⟩) (R.length+1) c7) (R++[s]):=by
          show Ϡ _ _ _ _ _ _ _;rw[Υ,ϝ];exact bw
         clear bx ag ax ae a6 ay;have cn:=Am 0 b9 I.out.2.symm s (by rw[I.out.2];exact ab);have fn:=b9.frozenAt s;obtain⟨gw,bz⟩:=Bk b9 s R.length;have gx:=ff.grown bz (λk e=>by cases e;omega);have gy:=bw.kept bz (Ay bw (by omega));have gz:=fe.kept bz (by simp);have hb:=δ fg bz.size;clear bz bw b9 ff fg fe;go_wp2;go_roundw
         case rel=>exact⟨j+1,N.set s R.length,R++[s],_,_,c7,by omega,by go_num,by rw[Υ];rfl,gx,hb,gw,gy,by rw[Υ];exact gz,aj⟩
         case measure=>simp[intOf];omega
     ·obtain rfl:j=l.length:=by omega
      by_cases he:R.length=n
      ·have hc:((R.length:Int)==(n:Int))=Ξ:=by simp[he]
       have HB:=Α (Agc HV.out HL.out HO.out I.out.1 he);have hp:R.length<=4611686018427387904:=by omega
       have hq:Ints w4 (Β (Δ ⟨D.heap.size+1,0,Γ⟩) t.n.length t.n.length) N:=OwnI.ints (base:=D.heap.size+1) (by
        show Ϡ _ _ _ _ _ _ _;rw[I.out.2];exact au) (by rw[I.out.2];omega)
       have hr:=bh.ints hp;have ht:=Α I.out.2;clear he HO I;go_wp2;go_ret2;exact⟨_,_,N,R,rfl,ht.out,HB.out,hq,hr,c4.trans ar⟩
      ·have hc:((R.length:Int)==(n:Int))=Τ:=by simp;omega
       obtain⟨dn,iw⟩:=Ph HV.out HL.out HO.out (by omega) I.out.2 I.out.1 he;have dn:=Α dn;have hy:À (∀ s,s<t.n.length->w4.cell? ⟨D.heap.size+1,s,Γ⟩=Δ (iv (N.getD s 0))):=Α λs hs=>Am 0 au I.out.2.symm s (by rw[I.out.2];exact hs)
       clear he;go_wp2;go_roundw
       case rel=>exact⟨N,R.length,D.heap.size+1,_,rfl,rfl,hE.trans ar,bq,hy,dn⟩
       case measure=>simp[intOf];omega
structure FInv {κ:Type} (key:Nat->κ) (x:Nat) (c:Nat->Nat) (bs:List Nat) (f:κ->Option Nat):Prop where
 le:bs.length<=x
 lt:∀ y,y<x->c y<bs.length
 byte:∀ k,k<bs.length->bs.getD k 0<x/\c (bs.getD k 0)=k
 same:∀ y z,y<x->z<x->(c y=c z↔key y=key z)
 has:∀ y,y<x->f (key y)=Δ (c y)
 from_:∀ p i,f p=Δ i->∃ y,y<x/\p=key y/\i=c y
 first:∀ y,y<x->bs.getD (c y) 0<=y
 inc:∀ i j,i<j->j<bs.length->bs.getD i 0<bs.getD j 0
section
variable {κ:Type} {key:Nat->κ} {x:Nat} {c:Nat->Nat} {bs:List Nat} {f:κ->Option Nat}
theorem Qk (key:Nat->κ) (c:Nat->Nat):FInv key 0 c [] (λ_=>Γ) where
 le:=by simp
 lt:=λy D=>by omega
 byte:=λk E=>by simp at E
 same:=λy z D=>by omega
 has:=λy D=>by omega
 from_:=λp i h=>by simp at h
 first:=λy D=>by omega
 inc:=λi j I G=>by simp at G
theorem M6 (h:FInv key x c bs f) (i:Nat) (hi:f (key x)=Δ i):FInv key (x+1) (λy=>if y=x then i else c y) bs f:=by
 obtain⟨z,D,E,rfl⟩:=h.from_ _ _ hi;refine⟨by have:=h.le;omega,λy G=>?_,λk U=>?_,λy J G aa=>?_,λy G=>?_,λp i E=>?_,λy G=>?_,h.inc⟩
 ·split
  ·exact h.lt z D
  ·exact h.lt y (by omega)
 ·obtain⟨T,M⟩:=h.byte k U;rw[if_neg (by omega)];exact⟨by omega,M⟩
 ·by_cases e:y=x<;>by_cases I:J=x
  ·subst e;subst I;simp
  ·subst e;rw[if_pos rfl,if_neg I,h.same z J D (by omega),E]
  ·subst I;rw[if_neg e,if_pos rfl,h.same y z (by omega) D,E]
  ·rw[if_neg e,if_neg I];exact h.same y J (by omega) (by omega)
 ·by_cases e:y=x
  ·subst e;rw[if_pos rfl];exact hi
  ·rw[if_neg e];exact h.has y (by omega)
 ·obtain⟨y,G,T,M⟩:=h.from_ p i E;exact⟨y,by omega,T,by rw[if_neg (by omega)];exact M⟩
 ·by_cases e:y=x
  ·rw[if_pos e];have:=h.first z D;omega
  ·rw[if_neg e];exact h.first y (by omega)
theorem Ql [DecidableEq κ] (h:FInv key x c bs f) (hi:f (key x)=Γ) :
  FInv key (x+1) (λy=>if y=x then bs.length else c y) (bs++[x]) (λp=>if p=key x then Δ bs.length else f p):=by
 have T:∀ y,y<x->key y≠key x:=λy E he=>by
  have:=h.has y E;rw[he,hi] at this;cases this
 have U:(bs++[x]).length=bs.length+1:=by simp
 have aa:(bs++[x]).getD bs.length 0=x:=by simp[Η]
 refine⟨by have:=h.le;omega,λy E=>?_,λk hk=>?_,λy I E ag=>?_,λy E=>?_,λp i J=>?_,λy E=>?_,λi j ab hj=>?_⟩
 ·rw[U];split
  ·omega
  ·have:=h.lt y (by omega);omega
 ·rw[U] at hk;by_cases e:k=bs.length
  ·subst e;rw[aa,if_pos rfl];exact⟨by omega,rfl⟩
  ·have ad:k<bs.length:=by omega
   obtain⟨G,D⟩:=h.byte k ad;rw[Bt _ _ _ _ ad,if_neg (by omega)];exact⟨by omega,D⟩
 ·by_cases e:y=x<;>by_cases M:I=x
  ·subst e;subst M;simp
  ·subst e;have G:=h.lt I (by omega);rw[if_pos rfl,if_neg M];exact⟨λD=>by omega,λD=>absurd D.symm (T I (by omega))⟩
  ·subst M;have G:=h.lt y (by omega);rw[if_neg e,if_pos rfl];exact⟨λD=>by omega,λD=>absurd D (T y (by omega))⟩
  ·rw[if_neg e,if_neg M];exact h.same y I (by omega) (by omega)
 ·by_cases e:y=x
  ·subst e;simp
  ·have G:=T y (by omega);rw[if_neg e,if_neg G];exact h.has y (by omega)
 ·by_cases e:p=key x
  ·simp only[e,if_true] at J;cases J
   exact⟨x,by omega,e,by rw[if_pos rfl]⟩
  ·simp only[e,if_false] at J;obtain⟨y,E,G,D⟩:=h.from_ p i J;exact⟨y,by omega,G,by rw[if_neg (by omega)];exact D⟩
 ·by_cases e:y=x
  ·rw[if_pos e,aa];omega
  ·rw[if_neg e,Bt _ _ _ _ (h.lt y (by omega))];exact h.first y (by omega)
 ·rw[U] at hj;by_cases e:j=bs.length
  ·subst e;rw[aa,Bt _ _ _ _ ab];exact (h.byte i ab).1
  ·rw[Bt _ _ _ _ (by omega),Bt _ _ _ _ (by omega)];exact h.inc i j ab (by omega)
end
structure MInv {κ:Type} (cell:Nat->Nat) (n:Nat) (key:Nat->κ) (b b':Nat) (c:Nat->Nat) (bs:List Nat) (f:κ->Option Nat) (O:List (Option Nat)) (C:List Cls):Prop where
 fi:FInv (λy=>key (cell y)) b c bs f
 lenO:O.length=n
 lenC:C.length=bs.length
 at_:∀ y,y<b->O.getD (cell y) Γ=Δ (c y)
 from_:∀ k i,O.getD k Γ=Δ i->∃ y,y<b/\cell y=k/\i=c y
 cls:∀ i,i<bs.length->∀ y,y<256->((C.getD i 0#256).getLsbD y=Ξ↔y<b'/\c y=i)
section
variable {κ:Type} {cell:Nat->Nat} {n:Nat} {key:Nat->κ} {b:Nat} {c:Nat->Nat} {bs:List Nat} {f:κ->Option Nat} {O:List (Option Nat)} {C:List Cls}
theorem Agx (cell:Nat->Nat) (n:Nat) (key:Nat->κ) (c:Nat->Nat):MInv cell n key 0 0 c [] (λ_=>Γ) (ζ n Γ) [] where
 fi:=Qk _ c
 lenO:=by simp
 lenC:=rfl
 at_:=λy D=>by omega
 from_:=λk i h=>by
  rw[Η,Ϭ] at h;split at h<;>simp at h
 cls:=λi hi=>by simp at hi
theorem Agy (h:MInv cell n key b b c bs f O C) (i:Nat) (hi:O.getD (cell b) Γ=Δ i):MInv cell n key (b+1) b (λy=>if y=b then i else c y) bs f O C:=by
 obtain⟨z,I,J,rfl⟩:=h.from_ _ _ hi;refine⟨M6 h.fi _ ?_,h.lenO,h.lenC,λy G=>?_,λk i M=>?_,λi hi y G=>?_⟩
 ·show f (key (cell b))=_;rw[<-J];exact h.fi.has z I
 ·by_cases e:y=b
  ·subst e;rw[if_pos rfl];exact hi
  ·rw[if_neg e];exact h.at_ y (by omega)
 ·obtain⟨y,G,E,D⟩:=h.from_ k i M;exact⟨y,by omega,E,by rw[if_neg (by omega)];exact D⟩
 ·rw[h.cls i hi y G];constructor
  ·rintro⟨E,D⟩;exact⟨E,by rw[if_neg (by omega)];exact D⟩
  ·rintro⟨E,D⟩;rw[if_neg (by omega)] at D;exact⟨E,D⟩
theorem Ag0 (h:MInv cell n key b b c bs f O C) (T:cell b<n) (hn:O.getD (cell b) Γ=Γ) (i:Nat) (hi:f (key (cell b))=Δ i) :
  MInv cell n key (b+1) b (λy=>if y=b then i else c y) bs f (O.set (cell b) (Δ i)) C:=by
 have ne:∀ y,y<b->cell y≠cell b:=λy E e=>by
  have:=h.at_ y E;rw[e,hn] at this;cases this
 have J:cell b<O.length:=by rw[h.lenO];exact T
 refine⟨M6 h.fi i hi,by rw[ϒ];exact h.lenO,h.lenC,λy E=>?_,λk M G=>?_,λM U y E=>?_⟩
 ·by_cases e:y=b
  ·subst e;rw[if_pos rfl,Bb _ _ _ _ _ J,if_pos rfl]
  ·rw[if_neg e,Bb _ _ _ _ _ J,if_neg (ne y (by omega))];exact h.at_ y (by omega)
 ·rw[Bb _ _ _ _ _ J] at G;by_cases e:k=cell b
  ·rw[if_pos e] at G;cases G
   exact⟨b,by omega,e.symm,by rw[if_pos rfl]⟩
  ·rw[if_neg e] at G;obtain⟨y,E,I,D⟩:=h.from_ k M G;exact⟨y,by omega,I,by rw[if_neg (by omega)];exact D⟩
 ·rw[h.cls M U y E];constructor
  ·rintro⟨I,D⟩;exact⟨I,by rw[if_neg (by omega)];exact D⟩
  ·rintro⟨I,D⟩;rw[if_neg (by omega)] at D;exact⟨I,D⟩
theorem Ag1 [DecidableEq κ] (h:MInv cell n key b b c bs f O C) (T:cell b<n) (hn:O.getD (cell b) Γ=Γ) (hi:f (key (cell b))=Γ) :
  MInv cell n key (b+1) b (λy=>if y=b then bs.length else c y) (bs++[b]) (λp=>if p=key (cell b) then Δ bs.length else f p) (O.set (cell b) (Δ bs.length)) (C++[0#256]):=by
 have ne:∀ y,y<b->cell y≠cell b:=λy G e=>by
  have:=h.at_ y G;rw[e,hn] at this;cases this
 have M:cell b<O.length:=by rw[h.lenO];exact T
 refine⟨Ql h.fi hi,by rw[ϒ];exact h.lenO,by rw[Υ,Υ,h.lenC];rfl,λy G=>?_,λk I J=>?_,λI U y G=>?_⟩
 ·by_cases e:y=b
  ·subst e;rw[if_pos rfl,Bb _ _ _ _ _ M,if_pos rfl]
  ·rw[if_neg e,Bb _ _ _ _ _ M,if_neg (ne y (by omega))];exact h.at_ y (by omega)
 ·rw[Bb _ _ _ _ _ M] at J;by_cases e:k=cell b
  ·rw[if_pos e] at J;cases J
   exact⟨b,by omega,e.symm,by rw[if_pos rfl]⟩
  ·rw[if_neg e] at J;obtain⟨y,G,D,E⟩:=h.from_ k I J;exact⟨y,by omega,D,by rw[if_neg (by omega)];exact E⟩
 ·rw[Υ,List.length_singleton] at U;by_cases e:I=bs.length
  ·have e1:(C++[0#256]).getD I 0#256=0#256:=by rw[e,<-h.lenC];exact Cm _ _ _
   rw[e1];constructor
   ·intro D;simp at D
   ·rintro⟨D,E⟩;rw[if_neg (by omega)] at E;have:=h.fi.lt y D;omega
  ·rw[Bt _ _ _ _ (by rw[h.lenC];omega),h.cls I (by omega) y G];constructor
   ·rintro⟨D,E⟩;exact⟨D,by rw[if_neg (by omega)];exact E⟩
   ·rintro⟨D,E⟩;rw[if_neg (by omega)] at E;exact⟨D,E⟩
theorem Agz (h:MInv cell n key (b+1) b c bs f O C) (u:Cls) (hu:∀ y,y<256->(u.getLsbD y=Ξ↔y=b)) :
  MInv cell n key (b+1) (b+1) c bs f O (C.set (c b) (C.getD (c b) 0#256 ||| u)):=by
 refine⟨h.fi,h.lenO,by rw[ϒ];exact h.lenC,h.at_,h.from_,λi hi y E=>?_⟩;have I:=h.fi.lt b (by omega);rw[Bb _ _ _ _ _ (by rw[h.lenC];exact I)];by_cases e:i=c b
 ·subst e;rw[if_pos rfl,BitVec.getLsbD_or,Å,h.cls _ hi y E,hu y E];constructor
  ·rintro (⟨G,D⟩|rfl)
   ·exact⟨by omega,D⟩
   ·exact⟨by omega,rfl⟩
  ·rintro⟨G,D⟩;by_cases e:y=b
   ·exact .inr e
   ·exact .inl ⟨by omega,D⟩
 ·rw[if_neg e,h.cls i hi y E];constructor
  ·rintro⟨G,D⟩;exact⟨by omega,D⟩
  ·rintro⟨G,D⟩;refine⟨?_,D⟩;by_cases J:y=b
   ·subst J;exact absurd D.symm e
   ·omega
end
def Hq (t:Tbl) (B:Nat->Nat) (R:List Nat) (c:Nat):List UInt8:=Bg (λi=>B (t.ent2 (R.getD i 0) c)) R.length
theorem Vq {t:Tbl} (hv:TVal t) {B:Nat->Nat} {R:List Nat} (hB:∀ i,i<R.length->∀ k,k<t.cells->B (t.ent2 (R.getD i 0) k)<65536) {c:Nat->Nat} {bs:List Nat} {f:List UInt8->Option Nat} {O:List (Option Nat)} {C:List Cls}
  (h:MInv t.cell t.cells (Hq t B R) 256 256 c bs f O C):Merged t B R (bs.map t.cell) C:=by
 have bit:∀ y,y<256->(C.getD (c y) 0#256).getLsbD y=Ξ:=λy E=>(h.cls _ (h.fi.lt y E) y E).2 ⟨E,rfl⟩
 have af:∀ i,i<bs.length->key (C.getD i 0#256)=bs.getD i 0:=λi hi=>by
  obtain⟨D,G⟩:=h.fi.byte i hi;refine Wf _ _ D ?_ λj J=>?_
  ·have:=bit _ D;rwa [G] at this
  ·rw[<-Bool.not_eq_true];intro M;obtain⟨_,T⟩:=(h.cls i hi j (by omega)).1 M;have:=h.fi.first j (by omega);rw[T] at this;omega
 have parts:Parts C:=by
  refine⟨λx hx=>?_,?_,λi hi=>⟨_,D9 _ _ _ (by rw[h.lenC];exact h.fi.lt i hi),bit i hi⟩⟩
  ·obtain⟨i,hi,rfl⟩:=Gm (d:=0#256) hx;rw[h.lenC] at hi;obtain⟨D,G⟩:=h.fi.byte i hi;have:=bit _ D;rw[G] at this;exact Gj this
  ·rw[Ϯ];intro i j hi J ag y ⟨D,G⟩;by_cases E:y<256
   ·have U:=(h.cls i (by rw[<-h.lenC];exact hi) y E).1 (by rw[Η,Μ hi];exact D);have e2:=(h.cls j (by rw[<-h.lenC];exact J) y E).1 (by rw[Η,Μ J];exact G);omega
   ·rw[BitVec.getLsbD_of_ge _ _ (by omega)] at D;cases D
 have place:∀ y,y<256->Ak C y=c y:=λy E=>E6 parts E (by rw[h.lenC];exact h.fi.lt y E) (bit y E)
 have ab:∀ k,k<bs.length->(bs.map t.cell).getD k 0=t.cell (bs.getD k 0):=λk I=>by
  simp[Η,I]
 have ah:∀ y z,y<256->z<256->(Hq t B R (t.cell y)=Hq t B R (t.cell z)↔∀ i,i<R.length->B (t.ent2 (R.getD i 0) (t.cell y))=B (t.ent2 (R.getD i 0) (t.cell z))):=λy z E hz=>
  K1 _ _ _ (λi hi=>hB i hi _ (hv.cell_lt y E)) (λi hi=>hB i hi _ (hv.cell_lt z hz))
 refine⟨parts,?_,by rw[ϋ,h.lenC],λk I=>?_,λb M i hi=>?_,λk k' I ad he=>?_⟩
 ·rw[Ϯ];intro i j hi J ag;have U:=af i (by rw[<-h.lenC];exact hi);have e2:=af j (by rw[<-h.lenC];exact J);rw[Η,Μ hi] at U;rw[Η,Μ J] at e2;simp only[ì] at U e2;have:=h.fi.inc i j ag (by rw[<-h.lenC];exact J);rw[U,e2];omega
 ·rw[ϋ] at I;rw[ab k I];exact hv.cell_lt _ (h.fi.byte k I).1
 ·have ai:=h.fi.lt b M;rw[place b M,ab _ ai];obtain⟨D,G⟩:=h.fi.byte _ ai;exact (ah _ _ D M).1 ((h.fi.same _ _ D M).1 G) i hi
 ·rw[ϋ] at I ad;obtain⟨D,G⟩:=h.fi.byte _ I;obtain⟨T,h4⟩:=h.fi.byte _ ad;rw[<-G,<-h4];refine (h.fi.same _ _ D T).2 ((ah _ _ D T).2 λi hi=>?_);have:=he i hi
  rwa [ab k I,ab k' ad] at this
open Go
section
variable {P:Program} {md:Region.Mode} {ops:Array Oper} {Q:Exit->Act->World->Prop} {C:World->Prop} {n:Nat}
def Lg (P:Program) (md:Region.Mode) (ops:Array ϳ) (Q:Exit->ú->Λ->Prop) (C:Λ->Prop) (n:Nat):Nat->Array Bool->ú->Λ->Prop
 | 0,listed,a,w=>É md ops listed=[]/\Q .normal a w
 | f+1,listed,a,w=>(É md ops listed=[]->Q .normal a w)/\
  ∀ i∈É md ops listed,wpOp P ops Q i (λD w'=>(i<n->C w')/\Lg P md ops Q C n f (listed.setIfInBounds i Ξ) D w') a w
theorem Ze:∀ (f:Nat) (listed:Array Bool) (a:ú) (w:Λ),Lg P md ops Q C n f listed a w->wpAny P md ops Q f listed a w
 | 0,_,_,_,h=>h
 | f+1,_,_,_,h=>⟨h.1,λi hi=>wpOp_mono (λ_ _ D=>Ze f _ _ _ D.2) (h.2 i hi)⟩
theorem Anw {i:Nat} {oi:ϳ} {v:Ν} (hi:ops[i]? = Δ oi) (ab:∀ (j:Nat) (o:ϳ) cs b,ops[j]? = Δ o->o.op≠.select cs b)
  (hs:Region.sinkB md ops n=Ξ) (hc:Region.chainB md ops n=Ξ) (hn:n<ops.size) (ak:i<n)
  (hQ:∀ c a w,Q (.panic c) (a.put oi.dst v) w->Q (.panic c) a w) :
  ∀ (f:Nat) (listed:Array Bool) (a:ú) (w:Λ),HeadInv md ops n listed->
   (∀ j oj,ops[j]? = Δ oj->j≠i->listed.getD j Ξ=Τ->(∀ e∈oj.after,Region.binds md e=Ξ->e.on≠i)->oi.apart ops oj=Ξ)->
   i∈É md ops listed->YieldsIf P ops C oi v a->C w->
   Lg P md ops Q C n f (listed.setIfInBounds i Ξ) (a.put oi.dst v) w->Lg P md ops Q C n (f+1) listed a w:=by
 intro f;induction f with
 | zero=>
  intro listed a w _ _ E J I H;refine⟨λh=>(by rw[h] at E;cases E),λj G=>?_⟩;by_cases D:j=i
  ·subst D;exact J.wpOp hi I ⟨λ_=>I,H⟩
  ·have:=ready_mono G D;rw[H.1] at this;cases this
 | succ f ih=>
  intro listed a w ad ae E J I H;have af:=(mem_ready.1 E).1;refine⟨λh=>(by rw[h] at E;cases E),λj G=>?_⟩;by_cases D:j=i
  ·subst D;exact J.wpOp hi I ⟨λ_=>I,H⟩
  ·have U:j<n:=Nat.lt_of_not_le λh=>tail_waits hs hc hn ad _ i rfl ak af j h G
   have M:=H.2 j (ready_mono G D);obtain⟨ag,oj,aa,ao⟩:=mem_ready.1 G;have aq:∀ e∈oj.after,Region.binds md e=Ξ->e.on≠i:=λe he hb au=>by
    have M:=ao e he hb;rw[au,getD_both af] at M;cases M
   have h2:=wpOp_putIf aa (ae j oj aa D ag aq) (λcs b=>ab i oi cs b hi) (λcs b=>ab j oj cs b aa) hQ J M;have ax:∀ k ok,ops[k]? = Δ ok->k≠i->(listed.setIfInBounds j Ξ).getD k Ξ=Τ->
     (∀ e∈ok.after,Region.binds md e=Ξ->e.on≠i)->oi.apart ops ok=Ξ:=λk ok hk az ah a1=>by
    refine ae k ok hk az ?_ a1;by_cases ai:j=k
    ·subst ai;exact ag
    ·rw[getD_set_ne Ξ ai] at ah;exact ah
   refine wpOp_mono (λa' w' T=>⟨λ_=>T.2.1 U,ih (listed.setIfInBounds j Ξ) a' w' (ad.set G U) ax (ready_mono E (Ne.symm D)) T.1 (T.2.1 U) ?_⟩) h2;rw[Array.setIfInBounds_comm _ _ D];exact T.2.2
def En (P:Program) (ops:Array ϳ) (Q:Exit->ú->Λ->Prop) (C:Λ->Prop) (n:Nat):List (Nat × Bool)->ú->Λ->Prop
 | [],a,w=>Q .normal a w
 | (i,Ξ)::is,a,w=>∃ o v,ops[i]? = Δ o/\YieldsIf P ops C o v a/\En P ops Q C n is (a.put o.dst v) w
 | (i,Τ)::is,a,w=>wpOp P ops Q i (λD w'=>(i<n->C w')/\En P ops Q C n is D w') a w
def E2 (md:Region.Mode) (ops:Array ϳ) (n:Nat):List (Nat × Bool)->Array Bool->Bool
 | [],listed=>(É md ops listed).isEmpty
 | (i,Ξ)::is,listed=>(É md ops listed).contains i&&decide (i<n)&&Region.free md ops listed i&&E2 md ops n is (listed.setIfInBounds i Ξ)
 | (i,Τ)::is,listed=>decide (É md ops listed=[i])&&(is.isEmpty||decide (i<n))&&E2 md ops n is (listed.setIfInBounds i Ξ)
theorem Rf (aa:Region.noSelect ops=Ξ) (hs:Region.sinkB md ops n=Ξ) (hc:Region.chainB md ops n=Ξ) (hn:n<ops.size)
  (hQ:∀ c a tm w,Q (.panic c) { tmps:=tm,defers:=a.defers } w->Q (.panic c) a w):∀ (is:List (Nat × Bool)) (listed:Array Bool) (a:ú) (w:Λ),(is≠[]->HeadInv md ops n listed)->E2 md ops n is listed=Ξ->(is≠[]->C w)->
   En P ops Q C n is a w->Lg P md ops Q C n is.length listed a w
 | [],listed,a,w,_,D,_,h=>⟨by simpa [E2] using D,h⟩
 | (i,Ξ)::is,listed,a,w,G,D,I,⟨o,v,ho,hy,h⟩=>by
  simp only[E2,Ϝ,decide_eq_true_eq] at D;obtain⟨⟨⟨J,M⟩,hf⟩,ae⟩:=D;have T:i∈É md ops listed:=by simpa using J
  have G:=G (by simp);have I:=I (by simp);exact Anw ho (Region.noSelect_spec aa) hs hc hn M (λc a w U=>by
    cases hd:o.dst with
    | none=>rw[hd] at U;exact U
    | some t=>rw[hd] at U;exact hQ c a _ w U) _ listed a w G (Region.free_spec ho hf) T hy I
   (Rf aa hs hc hn hQ is _ _ w (λ_=>G.set T M) ae (λ_=>I) h)
 | (i,Τ)::is,listed,a,w,G,D,I,h=>by
  simp only[E2,Ϝ,decide_eq_true_eq,Å,List.isEmpty_iff] at D;obtain⟨⟨J,M⟩,ae⟩:=D;have T:i∈É md ops listed:=by rw[J];simp
  refine⟨λh1=>(by rw[J] at h1;cases h1),λj hj=>?_⟩;rw[J] at hj;have:j=i:=by simpa using hj
  subst this;refine wpOp_mono (λa' w' h'=>⟨h'.1,Rf aa hs hc hn hQ is _ a' w' (λag=>?_) ae (λag=>?_) h'.2⟩) h
  ·rcases M with E|E
   ·exact absurd E ag
   ·exact (G (by simp)).set T E
  ·rcases M with E|E
   ·exact absurd E ag
   ·exact h'.1 E
def Mb (md:Region.Mode) (ops:Array ϳ) (n:Nat) (is:List (Nat × Bool)):Bool:=
 Region.noSelect ops&&Region.sinkB md ops n&&Region.chainB md ops n&&decide (n<ops.size)&&decide (is.length=ops.size)&&E2 md ops n is (Array.replicate ops.size Τ)
theorem B2 {id:Nat} {a:ú} {w:Λ} (n:Nat) (is:List (Nat × Bool)) (hm:P.follows .mixedOrders=Ξ) (D:Mb .any ops n is=Ξ) (I:∀ c a J w,Q (.panic c) { tmps:=J,defers:=a.defers } w->Q (.panic c) a w)
  (C:Λ->Prop) (M:C w.drew) (h:En P ops Q C n is a w.drew):(Code.region id ops Ξ).wp P Q a w:=by
 simp only[Mb,Ϝ,decide_eq_true_eq] at D;obtain⟨⟨⟨⟨⟨T,hs⟩,U⟩,hn⟩,E⟩,D⟩:=D;refine wp_region_any hm (Ze (C:=C) (n:=n) _ _ _ _ ?_);rw[<-E];have aa:HeadInv .any ops n (Array.replicate is.length Τ):=by
  rw[E];exact⟨by simp,λj oj _ G=>(by rw[ϫ] at G;cases G),λt _ ht=>getD_in (by simpa using ht) (ϫ _ _)⟩
 exact Rf T hs U hn I is _ a _ (λ_=>aa) (by rw[E];exact D) (λ_=>M) h
theorem B3 {a:ú} {w:Λ} (h:Q .normal a w):En P ops Q C n [] a w:=h
theorem Ff {i:Nat} {is:List (Nat × Bool)} {o:ϳ} {v:Ν} {a:ú} {w:Λ} (D:ops[i]? = Δ o) (E:Ë o (yielded ops a.tmps)=Ξ) (G:∀ W,C W->(execOp a.eval o).run P W=.ok (.value v) W)
  (h:En P ops Q C n is (a.put o.dst v) w):En P ops Q C n ((i,Ξ)::is) a w:=⟨o,v,D,.inl ⟨E,G⟩,h⟩
theorem Dc {i:Nat} {is:List (Nat × Bool)} {o:ϳ} {a:ú} {w:Λ} (G:ops[i]? = Δ o)
  (h:∀ K:ú->Λ->Prop,(∀ D w',(i<n->C w')->En P ops Q C n is D w'->K D w')->if Ë o (yielded ops a.tmps)=Ξ then ϳ.wp P o a w K Q else K (a.put o.dst undef) w):En P ops Q C n ((i,Τ)::is) a w:=by
 show wpOp P ops Q i _ a w;unfold wpOp;rw[G];have:=h _ (λD w' I J=>ß I J);show if _ then _ else _
 by_cases E:Ë o (yielded ops a.tmps)=Ξ
 ·rw[if_pos E] at this ⊢;exact .inl this
 ·rw[if_neg E] at this ⊢;exact this
end
def ov:Option Nat->Ν
 | none=>.int ε (-1)
 | some i=>iv i
theorem Afz (o:Option Nat):∃ z:Int,ov o=.int ε z/\(o=Γ->z=-1)/\∀ i,o=Δ i->z=(i:Int):=by
 cases o with
 | none=>exact⟨-1,rfl,λ_=>rfl,λi h=>by cases h⟩
 | some i=>exact⟨i,rfl,(by intro h;cases h),λj h=>by cases h;rfl⟩
def Ea (n k:Nat):List (Option Nat):=(ι n).map λq=>if q<k then Γ else Δ 0
theorem Hk (n k:Nat):(Ea n k).length=n:=by simp[Ea]
theorem Qn (n:Nat):Ea n 0=ζ n (Δ 0):=by
 apply ϥ;intro i;simp only[Ea,ϕ,Ϭ,Nat.not_lt_zero,if_false];by_cases h:i<n
 ·simp[h]
 ·simp[h]
theorem Qp (n:Nat):Ea n n=ζ n Γ:=by
 apply ϥ;intro i;simp only[Ea,ϕ,Ϭ];by_cases h:i<n
 ·simp[h]
 ·simp[h]
theorem Qo (n k:Nat) (E:k<n):(Ea n k).set k Γ=Ea n (k+1):=by
 apply ϥ;intro i;rw[Ï,Hk];simp only[Ea,ϕ];by_cases h:i<n
 ·rw[List.getElem?_range h];by_cases e:k=i
  ·subst e;simp[E]
  ·simp only[e,if_false,Option.map_some];by_cases D:i<k
   ·rw[if_pos D,if_pos (by omega)]
   ·rw[if_neg D,if_neg (by omega)]
 ·rw[if_neg (by omega)];simp[h]
theorem Age (x:UInt8) (y:Nat) (D:y<256):(ofL [x]).getLsbD y=Ξ↔y=x.toNat:=by
 show (Bp 0#256 (x.toNat:Int)).getLsbD y=Ξ↔_;rw[I6 _ _ _ x.toNat_lt];simp
theorem Ahx (z:Nat) (D:z<65536):(Bm z).map bv=[.int .u8 ((z:Int) % 256),.int .u8 ((z:Int) / 256)]:=by
 simp only[Bm,List.map_cons,List.map_nil,bv,UInt8.toNat_ofNat'];rw[show z / 256 % 2 ^ 8=z / 256 by omega];simp
theorem Amw (w:Λ) (x:UInt8):By (w.alloc (Ε #[bv x] 5)) (Β (Δ ⟨w.heap.size,0,Γ⟩) 1 1) [x]:=by
 refine⟨by simp,.inr ⟨by simp,w.heap.size,0,1,rfl,by rw[Ρ];omega,λi hi=>?_⟩⟩;have:i<1:=by simpa using hi
 obtain rfl:i=0:=by omega
 exact γ _ w.heap.size 0 _ _ _ (Aa w _)
theorem Amv (w:Λ) (b:Nat):By (w.alloc (Ε #[.int .u8 (IntKind.u8.wrap (b:Int))] 5)) (Β (Δ ⟨w.heap.size,0,Γ⟩) 1 1) [χ b]:=
 Amw w (χ b)
theorem Ag6 (t:Tbl) (hv:TVal t) (hn:t.n.length<=65536) (N R:List Nat) (hN:N.length=t.n.length) (hl:0<R.length) (ji:R.length<=65536) (ei:∀ i,i<R.length->R.getD i 0<t.n.length)
  (hB:∀ i,i<R.length->∀ k,k<t.cells->N.getD (t.ent2 (R.getD i 0) k) 0<65536) (A:Array Ν) (vN vR:Ν) (w:Λ) (h:IsT w A t) (en:Ints w vN N) (eo:Ints w vR R) :
  Calls Ζ 112 #[.agg A,vN,vR] w λe w'=>∃ vK vC K C,e=θ (.tuple #[vK,vC])/\Merged t (λs=>N.getD s 0) R K C/\Ints w' vK K/\Cs w' vC C/\Ext w w':=by
 obtain⟨bn,on,cn,ba,oa,ca,hp,ht,et,eu,ev,_,hR,_⟩:=h.opened hv;have ey:Sl w vN 1 t.n.length (λi=>iv (N.getD i 0)):=by rw[<-hN];exact en
 obtain⟨bN,oN,cN,rfl,ez⟩:=Û ey hv.pos;obtain⟨bR,oR,cR,rfl,e0⟩:=Û eo hl;have jw:=hv.pos;have jx:=hv.cpos;have jy:=hv.cle;have HR:=Α hR;have HV:=Α hv;have e1:=Α hB;have h0:=Α ei;have h2:=Α (λk (hk:k<t.n.length)=>ez k (by omega));have h3:=Α (λk (hk:k<R.length)=>e0 k (by omega));obtain⟨i0,hi,e3,e4,e5⟩:=Ϟ Cp;obtain⟨i5,e7,e8,e9,fa⟩:=Ϟ (show (Ζ.info? 5).map (λi=>(i.zero,i.size,i.bytes))=Δ (Δ (.int .u8 0),1,1) by kernel_rfl);obtain⟨i6,h5,h6,h7,h8⟩:=Ϟ (show (Ζ.info? 62).map (λi=>(i.zero,i.size,i.bytes))=Δ (Δ (.agg zA),4,32) by kernel_rfl);have bz:=(Θ w).alloc (Ε A 108);have H0:=Aa w (Ε A 108);have HK:=Α (λ(W:Λ) (E:Ext (w.alloc (Ε A 108)) W)=>(γ W w.heap.size 257 _ _ _ (E.heap H0)).trans ev);have fc:=Α (λ(W:Λ) (E:Ext (w.alloc (Ε A 108)) W)=>(γ W w.heap.size 256 _ _ _ (E.heap H0)).trans eu);have fe:=Α (λ(W:Λ) (E:Ext (w.alloc (Ε A 108)) W) (b:Nat) (hb:b<256)=>(γ W w.heap.size b _ _ _ (E.heap H0)).trans (et b hb));clear hR hv h H0 eu ev et ht hp ez e0 en ey eo ei hB hN;have ia:=@run_makeMap Ζ;go_enter Tryz.func112,Tryz.ntmps112;go_upto_region 1 with (fail)
 obtain⟨w1,da⟩:∃ W,w.alloc (Ε A 108)=W:=⟨_,rfl⟩;rw[da] at bz HK fc fe;simp only[da];clear da;go_upto_region 2 with (fail)
 clear ia;have db:=(Θ w1).alloc (.map #[] 0);have fg:=Kt w1 9 Dj;have fh:(w1.alloc (.map #[] 0)).heap.size=w1.heap.size+1:=Ρ _ _;obtain⟨w3,fj⟩:∃ W,w1.alloc (.map #[] 0)=W:=⟨_,rfl⟩;simp only[fj] at *;clear fj;have k6:=fc.out w3 db;go_upto_region 5 with (at_make;refine ϩ _ rfl _ _ 68 rfl w3.heap.size 3 i0 (.int ε 0) 1 ϔ hi e3 e4 ε ε _ _ t.cells rfl rfl rfl rfl (by rw[e5];omega) (by unfold ϛ;omega) (ν _) ?_;intro w4 fk dc)
 have ab:=db.grown dc (λk e=>by cases e);have G:w4.ownsRow w3.heap.size 3 1 (Β (Δ ⟨w3.heap.size,0,Γ⟩) t.cells t.cells) t.cells ((Ea t.cells 0).map ov):=by rw[Qn,<-B6];exact fk
 have ad:=fg.kept dc (by simp);have ag:w1.heap.size+1<w4.heap.size:=by have:w3.heap.size<w4.heap.size:=(G.lt _ rfl).2;omega
 rw[fh] at G;clear fk dc fg db k6;generalize jz:w3.heap.size=gn at *;obtain rfl:gn=w1.heap.size+1:=fh;go_wp2_with (fail);go_loopw [27] (λi W=>∃ k:Nat,k<=t.cells/\i=.int ε k/\Ext w1 W/\w1.heap.size+1<W.heap.size/\
   W.ownsRow (w1.heap.size+1) 3 1 (Β (Δ ⟨w1.heap.size+1,0,Γ⟩) t.cells t.cells) t.cells ((Ea t.cells k).map ov)/\IsMp W 9 Dj w1.heap.size 0 (λ_=>Γ))
  (λi _=>t.cells-(intOf i).toNat)
 case atStart=>exact⟨0,by omega,rfl,ab,ag,G,ad⟩
 case round=>
  clear ab ag G ad;obtain⟨k,hk,rfl,ab,ag,G,ad⟩:=hrel;by_cases bg:k<t.cells
  ·have co:=Am Γ G (Hk _ _).symm k (by rw[Hk];exact bg);have fo:=G.frozenAt k;obtain⟨T,ah⟩:=Bk G k Γ;rw[Qo _ _ bg] at T;have J:=ab.grown ah (λk e=>by cases e;omega);have U:=ad.kept ah (by simp);have an:=δ ag ah.size;clear ah G ab ad;go_wp2_with (fail);go_roundw
   case rel=>exact⟨k+1,by omega,by go_num,J,an,T,U⟩
   case measure=>simp[intOf];omega
  ·obtain rfl:k=t.cells:=by omega
   rw[Qp] at G;have ao:=Ô wr (w1.heap.size+1+1) 3 1;have aa:=Ô wr (w1.heap.size+1+1) 62 4;go_wp2_with (fail);go_loopw [9,10,34] (λvk vc i W=>∃ (b:Nat) (bs:List Nat) (c:Nat->Nat) (f:List UInt8->Option Nat) (O:List (Option Nat)) (C:List Cls) (ak ac:Option Addr) (ck cc:Nat),b<=256/\i=.int ε b/\vk=Β ak bs.length ck/\vc=Β ac C.length cc/\Ext w1 W/\w1.heap.size+1<W.heap.size/\
     W.ownsRow (w1.heap.size+1) 3 1 (Β (Δ ⟨w1.heap.size+1,0,Γ⟩) t.cells t.cells) t.cells (O.map ov)/\IsMp W 9 Dj w1.heap.size bs.length f/\
     W.ownsRow (w1.heap.size+1+1) 3 1 vk bs.length ((bs.map t.cell).map iv)/\Row W (w1.heap.size+1+1) vc C/\À (MInv t.cell t.cells (Hq t (λs=>N.getD s 0) R) b b c bs f O C))
    (λ_ _ i _=>256-(intOf i).toNat)
   case atStart=>exact⟨0,[],_,_,_,[],Γ,Γ,0,0,by omega,rfl,rfl,rfl,ab,ag,G,ad,ao,aa,Α (Agx _ _ _ λ_=>0)⟩
   case round=>
    clear ab ag G ad ao aa;obtain⟨b,bs,c,f,O,C,ak,ac,ck,cc,hb,rfl,rfl,rfl,ab,ag,G,ad,ao,aa,M⟩:=hrel;have ie:=M.out.fi.le;have ch:=Α M.out.lenC;have ig:C.length<=256:=by rw[ch.out];omega
    by_cases bg:b<256
    ·obtain⟨w4,ih⟩:∃ W,W=wr:=⟨_,rfl⟩;subst ih;have kb:=fe.out w4 ab b bg;have au:=HV.out.cell_lt b bg;have co:=Am Γ G M.out.lenO.symm (t.cell b) (by rw[M.out.lenO];exact au);have HS:=Α (Agy M.out);have bh:=Α (Ag0 M.out au);have bj:=Α (Ag1 M.out au);obtain⟨q,hq⟩:∃ q,t.cell b=q:=⟨_,rfl⟩;have ay:À (O.length=t.cells):=Α M.out.lenO;rw[hq] at kb au co HS bh bj;have HQ:=Α hq;clear hq;obtain⟨o,ho⟩:∃ o,O.getD q Γ=o:=⟨_,rfl⟩;rw[ho] at co HS bh bj;have HO:=Α ho;clear ho;obtain⟨z,hz,fp,fq⟩:=Afz o;rw[hz] at co;have fs:=Α fp;have ft:=Α fq;clear hz fp fq;go_upto_if 45 with (fail)
     go_cut [9,10] (λvk vc W=>∃ (bs:List Nat) (c:Nat->Nat) (f:List UInt8->Option Nat) (O:List (Option Nat)) (C:List Cls) (ak ac:Option Addr) (ck cc:Nat),vk=Β ak bs.length ck/\vc=Β ac C.length cc/\Ext w1 W/\w1.heap.size+1<W.heap.size/\
      W.ownsRow (w1.heap.size+1) 3 1 (Β (Δ ⟨w1.heap.size+1,0,Γ⟩) t.cells t.cells) t.cells (O.map ov)/\IsMp W 9 Dj w1.heap.size bs.length f/\
      W.ownsRow (w1.heap.size+1+1) 3 1 vk bs.length ((bs.map t.cell).map iv)/\Row W (w1.heap.size+1+1) vc C/\À (MInv t.cell t.cells (Hq t (λs=>N.getD s 0) R) (b+1) b c bs f O C))
     case first=>
      cases o with
      | some i=>
       have ik:=Α (HS.out i rfl);obtain rfl:=ft.out i rfl;go_wp2_with (fail);go_meet
       exact⟨bs,_,f,O,C,ak,ac,ck,cc,rfl,rfl,ab,ag,G,ad,ao,aa,ik⟩
      | none=>
       obtain rfl:=fs.out rfl;go_upto_region 15 with (fail)
       go_upto_region 16 with (at_make;refine wpList_make_own _ rfl _ _ 22 rfl (w1.heap.size+1+1) 5 i5 (.int .u8 0) 1 ϻ e7 e8 e9 ε ε _ (2*R.length) rfl rfl (by push_cast;rfl) (by rw[fa];omega) (by unfold ϛ;omega) (by omega) ?_;intro w5 fu ah)
       have J:=ab.grown ah (λk e=>by cases e);have T:=Cb G ah;have ai:=Cb ao ah;have aj:=Cb aa ah;have U:=ad.kept ah (by simp);have an:w1.heap.size+1<w5.heap.size:=δ ag ah.size;obtain⟨gf,fv⟩:∃ gf:Nat->Nat,(λk=>N.getD (t.ent2 (R.getD k 0) q) 0)=gf:=⟨_,rfl⟩;have fw:=Α fv;have af:w5.ownsRow (w1.heap.size+1+1) 5 1 (Β (Δ ⟨w4.heap.size,0,Γ⟩) (2*0) (2*R.length)) (2*0) ((Bg gf 0).map bv):=fu;clear fv fu ah kb co;go_wp2_with (fail);go_loopw [15,52] (λv i W=>∃ (k gk dh:Nat),k<=R.length/\i=.int ε k/\v=Β (Δ ⟨gk,0,Γ⟩) (2*k) dh/\Ext w1 W/\w1.heap.size+1<W.heap.size/\
         W.ownsRow (w1.heap.size+1) 3 1 (Β (Δ ⟨w1.heap.size+1,0,Γ⟩) t.cells t.cells) t.cells (O.map ov)/\IsMp W 9 Dj w1.heap.size bs.length f/\
         W.ownsRow (w1.heap.size+1+1) 3 1 (Β ak bs.length ck) bs.length ((bs.map t.cell).map iv)/\Row W (w1.heap.size+1+1) (Β ac C.length cc) C/\
         W.ownsRow (w1.heap.size+1+1) 5 1 v (2*k) ((Bg gf k).map bv))
        (λ_ i _=>R.length-(intOf i).toNat)
       case atStart=>exact⟨0,w4.heap.size,_,by omega,rfl,rfl,J,an,T,U,ai,aj,af⟩
       case round=>
        clear J an T U ai aj af;obtain⟨k,gk,dh,hk,rfl,rfl,J,an,T,U,ai,aj,af⟩:=hrel;obtain⟨w5,b5⟩:∃ W,W=wr:=⟨_,rfl⟩;subst b5;by_cases dk:k<R.length
        ·have cr:=(bz.trans J).cell (h3.out k dk);have dm:=h0.out k dk;have hz:=e1.out k dk q au;obtain⟨s,dn⟩:∃ s,R.getD k 0=s:=⟨_,rfl⟩;have dp:À (gf k=N.getD (t.ent2 s q) 0):=Α (by rw[<-fw.out,<-dn]);rw[dn] at cr dm hz;clear dn;have fy:=HV.out.tgt s dm q au;obtain⟨br,or',j1,il,fz⟩:=(HR.out.ext (bz.trans J)) s dm;have cy:=fz q au;have k7:=HK.out w5 J;obtain⟨y,gb⟩:∃ y,t.ent2 s q=y:=⟨_,rfl⟩;rw[gb] at cy fy hz dp;clear gb fz;have cz:=(bz.trans J).cell (h2.out y fy);obtain⟨z,gg⟩:∃ z,N.getD y 0=z:=⟨_,rfl⟩;rw[gg] at hz dp cz;clear gg;go_upto_region 20 with (fail)
         clear cr cy cz il k7;go_upto_region 21 with (at_builtin;refine Ϙ _ rfl _ _ 22 rfl (w1.heap.size+1+1) 5 i5 (.int .u8 0) 1 1 ϻ e7 e8 e9 fa rfl (by decide) _ _ _ rfl (af.alloc _) _ 2 2 [.int .u8 ((z:Int) % 256),.int .u8 ((z:Int) / 256)] rfl rfl (Jk _ _ _ _) (by simp[ό]) (by decide) (by unfold ϛ;omega) (by omega) (by simp;omega) _ rfl ?_;intro g6 c6 w6 dq I _ _)
         have a6:Ext w1 w6:=(J.alloc _).grown I (λk e=>by have:=(af.lt k e).1;omega);have bk:=(T.alloc _).kept I (Aj T af (by decide));have aw:=(ai.alloc _).kept I (Aj ai af (by decide));have bd:=(aj.alloc _).kept I (Aj aj af (by decide));have bl:=(U.alloc _).kept I (U.ne_row af);have b8:w1.heap.size+1<w6.heap.size:=by
          have h1:=I.size;rw[Ρ] at h1;omega
         have dq:w6.ownsRow (w1.heap.size+1+1) 5 1 (Β (Δ ⟨g6,0,Γ⟩) (2*(k+1)) c6) (2*(k+1)) ((Bg gf (k+1)).map bv):=by
          rw[show Bg gf (k+1)=Bg gf k++Bm z by rw[Bg,dp.out],ϝ,Ahx z hz];exact dq
         clear T ai aj U af I J an;go_wp2;go_roundw
         case rel=>exact⟨k+1,g6,c6,by omega,by go_num,rfl,a6,b8,bk,bl,aw,bd,dq⟩
         case measure=>simp[intOf];omega
        ·obtain rfl:k=R.length:=by omega
         have bm:(Bg gf R.length).length=2*R.length:=Jj _ _;have dr:Hq t (λs=>N.getD s 0) R q=Bg gf R.length:=by
          show Bg (λk=>N.getD (t.ent2 (R.getD k 0) q) 0) R.length=_;rw[fw.out]
         obtain⟨ky,gi⟩:∃ ky,Bg gf R.length=ky:=⟨_,rfl⟩;rw[gi] at bm dr af;have dt:=Α dr;clear gi dr;have ir:(convert 22 9 (Β (Δ ⟨gk,0,Γ⟩) (2*R.length) dh)).run Ζ w5=.ok (Dj ky) w5:=Ik _ _ _ (By.of_owns (by rw[bm];exact af) (by rw[bm];omega));have du:=Oe ky (by rw[bm];unfold ϛ;omega);have j2:=Α bm;clear bm;have bh:=Α (bh.out (by simp));have bj:=Α (bj.out (by simp));cases hf:f ky with
         | some i=>
          have bo:=Α (bh.out i (by rw[dt.out];exact hf));have co:=Am Γ T ay.out.symm q (by rw[ay.out];exact au);have fo:=T.frozenAt q;obtain⟨bk,I⟩:=Bk T q (Δ i);have a6:=J.grown I (λk e=>by cases e;omega);have aw:=ai.kept I (Ay ai (by omega));have bd:=aj.kept I (Ay aj (by omega));have bl:=U.kept I (by simp);have b8:=δ an I.size;clear I ai T aj J an;go_wp2_with (at_lookup;refine Er rfl _ _ 155 rfl Fz ñ rfl U ky rfl du ?_;rw[hf];dsimp only [Option.isSome,Option.getD]);go_meet
          exact⟨bs,_,f,_,C,ak,ac,ck,cc,rfl,rfl,a6,b8,bk,bl,aw,bd,bo⟩
         | none=>
          have bo:=bj.out (by rw[dt.out];exact hf);rw[dt.out] at bo;have bo:=Α bo;go_upto_region 25 with (at_lookup;refine Er rfl _ _ 155 rfl Fz ñ rfl U ky rfl du ?_;rw[hf];dsimp only [Option.isSome,Option.getD])
          go_upto_region 26 with (at_mapUpdate;refine Jw rfl _ _ _ 155 rfl Fz ñ rfl U (by unfold ϛ;omega) Of ky rfl du bs.length rfl (by omega) ?_;intro w6 bl I)
          clear ir;have bk:=T.kept I (U.far T);have aw:=ai.kept I (U.far ai);have bd:=aj.kept I (U.far aj);have a6:=J.grown I (λk e=>by cases e;omega);have b8:=δ an I.size;clear I ai T aj J an U af;go_upto_region 27 with (at_builtin;refine Ϙ _ rfl _ _ 68 rfl (w1.heap.size+1+1) 3 i0 (.int ε 0) 1 8 ϔ hi e3 e4 e5 rfl (by decide) _ _ _ rfl (aw.alloc _) _ 1 1 [iv q] rfl rfl (ϭ _ _ _) (by simp[ό]) (by decide) (by unfold ϛ;omega) (by omega) (by simp;omega) _ rfl ?_;intro g7 c7 w7 gj bq _ _)
          have dw:=(bk.alloc (Ε #[iv q] 3)).kept bq (.inr (λe=>by have:=(aw.lt (w1.heap.size+1) e.symm).1;omega));have ax:=(bd.alloc (Ε #[iv q] 3)).kept bq (Aj bd aw (by decide));have gl:=(bl.alloc (Ε #[iv q] 3)).kept bq (λe=>by have:=(aw.lt w1.heap.size e.symm).1;omega);have cm:=(a6.alloc (Ε #[iv q] 3)).grown bq (λk e=>by have:=(aw.lt k e).1;omega);have iu:w1.heap.size+1<w7.heap.size:=by
           have:=bq.size;rw[Ρ] at this;omega
          have dx:À (w7.ownsRow (w1.heap.size+1+1) 3 1 (Β (Δ ⟨g7,0,Γ⟩) (bs++[b]).length c7) (bs++[b]).length (((bs++[b]).map t.cell).map iv)):=Α (by
           rw[Υ,ϝ,ϝ,List.map_singleton,List.map_singleton,HQ.out];exact gj)
          clear bq aw bk bd a6 b8 bl;have dy:=L7 w7 0#256;rw[F2] at dy;have gm:=Α dy;clear dy;go_upto_region 28 with (at_builtin;refine Ϙ _ rfl _ _ 26 rfl (w1.heap.size+1+1) 62 i6 (.agg zA) 4 32 Tryz.underlying26 h5 h6 h7 h8 rfl (by decide) _ _ _ rfl (ax.alloc _) _ 1 1 (Cj 0#256) rfl rfl gm.out (by simp[Cj,ό]) (by decide) (by unfold ϛ;omega) (by omega) (by simp;omega) _ rfl ?_;intro g8 c8 w8 cd bt _ _)
          have bu:=(dw.alloc (Ε zA 62)).kept bt (Aj dw ax (by decide));have eb:À (w8.ownsRow (w1.heap.size+1+1) 3 1 (Β (Δ ⟨g7,0,Γ⟩) (bs++[b]).length c7) (bs++[b]).length (((bs++[b]).map t.cell).map iv)):=Α ((dx.out.alloc (Ε zA 62)).kept bt (Aj dx.out ax (by decide)));have cp:=(gl.alloc (Ε zA 62)).kept bt (λe=>by have:=(ax.lt w1.heap.size e.symm).1;omega);have cq:=(cm.alloc (Ε zA 62)).grown bt (λk e=>by have:=(ax.lt k e).1;omega);have ct:w1.heap.size+1<w8.heap.size:=by
           have:=bt.size;rw[Ρ] at this;omega
          have ec:À (Row w8 (w1.heap.size+1+1) (Β (Δ ⟨g8,0,Γ⟩) (C++[0#256]).length c8) (C++[0#256])):=Α (by
           show Ϡ _ _ _ _ _ _ _;rw[M5,M4,Υ];exact cd)
          clear bt dw ax cm iu gl dx gm cd gj;have co:=Am Γ bu ay.out.symm q (by rw[ay.out];exact au);have fo:=bu.frozenAt q;obtain⟨iw,bw⟩:=Bk bu q (Δ bs.length);have ix:=cq.grown bw (λk e=>by cases e;omega);have iy:=Α (eb.out.kept bw (Ay eb.out (by omega)));have iz:=Α (ec.out.kept bw (Ay ec.out (by omega)));have ja:=cp.kept bw (by simp);have jb:=δ ct bw.size;clear bw bu cq ct cp eb ec;go_wp2;go_meet
          refine⟨bs++[b],_,_,_,C++[0#256],Δ ⟨g7,0,Γ⟩,Δ ⟨g8,0,Γ⟩,c7,c8,?_,?_,ix,jb,iw,?_,?_,?_,bo⟩
          ·rw[Υ];rfl
          ·rw[Υ];rfl
          ·rw[Υ];exact ja
          ·have:=iy.out;rw[show (bs++[b]).length=bs.length+1 by simp] at this ⊢;exact this
          ·have h9:=iz.out;show Ϡ _ _ _ _ _ _ _;have h9:Ϡ _ _ _ _ _ _ _:=h9;rw[show (C++[0#256]).length=C.length+1 by simp] at h9 ⊢;exact h9
     case rest=>
      clear ab ag G ad ao aa M HS bh bj HO ay fs ft co kb ie ch ig;obtain⟨bs,c,f,O,C,ak,ac,ck,cc,rfl,rfl,ab,ag,G,ad,ao,aa,M⟩:=hcut;have gq:=M.out.fi.lt b (by omega);have cv:=M.out.at_ b (by omega);rw[HQ.out] at cv;have ch:=Α M.out.lenC;have HP:=Α (Agz M.out (ofL [χ b]) λy hy=>by rw[Age _ _ hy,u8n b bg]);have ay:À (O.length=t.cells):=Α M.out.lenO;obtain⟨i,hid⟩:∃ i,c b=i:=⟨_,rfl⟩;rw[hid] at gq cv HP;have gr:i<C.length:=by rw[ch.out];exact gq
      have co:=Am Γ G ay.out.symm q (by rw[ay.out];exact au);rw[cv] at co;replace co:wc.cell? ⟨w1.heap.size+1,q,Γ⟩=Δ (iv i):=co;clear hid cv M;obtain⟨g,rfl⟩:=Pb aa (by omega);obtain⟨a0,a1,a2,a3⟩:=M7 aa i gr;have cf:∀ W,Ext wc W->∀ j,W.frozen? ⟨g,j,Γ⟩=Τ:=λW E j=>(Ah aa E).frozenAt j
      obtain⟨D,hD⟩:∃ D,C.getD i 0#256=D:=⟨_,rfl⟩;rw[hD] at a0 a1 a2 a3 HP;clear hD;have bx:∀ W,Ext wc W->Ext wc W/\W.cell? ⟨w1.heap.size+1,q,Γ⟩=Δ (iv i)/\W.cell? ⟨g,i*4,Γ⟩=Δ (.int π (wd D 0))/\W.cell? ⟨g,i*4+1,Γ⟩=Δ (.int π (wd D 1))/\W.cell? ⟨g,i*4+2,Γ⟩=Δ (.int π (wd D 2))/\W.cell? ⟨g,i*4+3,Γ⟩=Δ (.int π (wd D 3))/\
        W.frozen? ⟨g,i*4,Γ⟩=Τ/\W.frozen? ⟨g,i*4+1,Γ⟩=Τ/\W.frozen? ⟨g,i*4+2,Γ⟩=Τ/\W.frozen? ⟨g,i*4+3,Γ⟩=Τ:=
       λW E=>⟨E,E.cell co,E.cell a0,E.cell a1,E.cell a2,E.cell a3,cf W E _,cf W E _,cf W E _,cf W E _⟩
      have jd:=bx wc (Θ wc);have E:=λW=>Α (N5 D (ofL [χ b]) W)
      clear cf co a0 a1 a2 a3;go_upto_region 29 with (fail)
      refine B2 18 [(0,Ξ),(1,Ξ),(2,Ξ),(3,Ξ),(4,Ξ),(5,Ξ),(6,Ξ),(7,Ξ),(8,Ξ),(9,Ξ),(10,Ξ),(11,Ξ),(12,Ξ),(13,Ξ),(14,Τ),(15,Τ),(16,Τ),(17,Τ),(18,Τ)] (by kernel_rfl) (by kernel_rfl) (λ_ _ _ _ h=>h)
       (λW=>Ext wc W/\W.cell? ⟨w1.heap.size+1,q,Γ⟩=Δ (iv i)/\W.cell? ⟨g,i*4,Γ⟩=Δ (.int π (wd D 0))/\W.cell? ⟨g,i*4+1,Γ⟩=Δ (.int π (wd D 1))/\W.cell? ⟨g,i*4+2,Γ⟩=Δ (.int π (wd D 2))/\W.cell? ⟨g,i*4+3,Γ⟩=Δ (.int π (wd D 3))/\
        W.frozen? ⟨g,i*4,Γ⟩=Τ/\W.frozen? ⟨g,i*4+1,Γ⟩=Τ/\W.frozen? ⟨g,i*4+2,Γ⟩=Τ/\W.frozen? ⟨g,i*4+3,Γ⟩=Τ) (bx _ (Θ wc).drew) ?_
      have J:=(Θ wc).drew;obtain⟨w5,b5⟩:∃ W,wc.drew=W:=⟨_,rfl⟩;rw[b5] at J;rw[b5];clear b5 jd;iterate 14
       refine Ff (v:=?_) rfl rfl (λW E=>?_) ?_
       rotate_left
       ·obtain⟨_,c0,c1,c2,c3,c4,c5,c6,c7,c8⟩:=E;go_simp;first|done|with_reducible rfl
       simp only[ú.put,List.setIfInBounds_toArray,List.set_cons_zero,List.set_cons_succ]
      refine Dc rfl (λK hK=>?_);go_simp;refine hK _ _ (λ_=>bx _ (J.alloc _)) ?_;clear hK K;refine Dc rfl (λK hK=>?_);go_simp;with_reducible refine (U6 [χ b] _ _ (Amv w5 b)).mono ?_
      rintro e w6 ⟨rfl,a6⟩;have hc:=(J.alloc (Ε #[.int .u8 (IntKind.u8.wrap (b:Int))] 5)).trans a6;refine hK _ _ (λ_=>bx _ hc) ?_;clear hK K;refine Dc rfl (λK hK=>?_);go_simp;with_reducible refine (E _).out.mono ?_
      rintro e w7 ⟨rfl,cm⟩;have a8:=hc.trans cm;have hh:=bx _ a8;refine hK _ _ (λ_=>hh) ?_;clear hK K;obtain⟨_,c0,c1,c2,c3,c4,c5,c6,c7,c8⟩:=hh;refine Dc rfl (λK hK=>?_);go_simp;refine hK _ _ (λ_=>bx _ a8) ?_;clear hK K;refine Dc rfl (λK hK=>?_);go_simp;refine hK _ _ (λh=>absurd h (by omega)) ?_;clear hK K c0 c1 c2 c3 c4 c5 c6 c7 c8;refine B3 ?_;have ax:=Ah aa a8;have hr:=L6 ax i gr (D ||| ofL [χ b]);have cq:=(ab.trans a8).grown hr.2 (λk e=>by cases e;have:=(aa.lt g rfl).1;omega);have bu:=(Ah G a8).kept hr.2 (Aj G aa (by decide));have je:=(Ah ao a8).kept hr.2 (Aj ao aa (by decide));have cp:=(ad.ext a8).kept hr.2 (ad.ne_row aa);have ct:=δ (δ ag a8.size) hr.2.size;have cd:Row (w7.setCells g (i*4) (Ab (D ||| ofL [χ b])).toList) (w1.heap.size+1+1) (Β (Δ ⟨g,0,Γ⟩) (C.set i (D ||| ofL [χ b])).length cc) (C.set i (D ||| ofL [χ b])):=by
       have:=hr.1;show Ϡ _ _ _ _ _ _ _;rw[show Row _ _ _ _=Ϡ _ _ _ _ _ _ _ from rfl,ϒ] at this;rw[ϒ];exact this
      have hj:(C.set i (D ||| ofL [χ b])).length=C.length:=ϒ;rw[hj] at cd;clear hr ax;go_wp2;go_roundw
      case rel=>exact⟨b+1,bs,c,f,O,C.set i (D ||| ofL [χ b]),ak,Δ ⟨g,0,Γ⟩,ck,cc,by omega,by go_num,rfl,by rw[hj],cq,ct,bu,cp,je,cd,HP⟩
      case measure=>simp[intOf];omega
    ·obtain rfl:b=256:=by omega
     have jf:=Α (Vq HV.out e1.out M.out);have jg:Ints wr (Β ak bs.length ck) (bs.map t.cell):=OwnI.ints (base:=w1.heap.size+1+1) (by
      show Ϡ _ _ _ _ _ _ _;rw[ϋ];exact ao) (by rw[ϋ];omega)
     have jh:=aa.toCs (by omega);clear M;go_wp2;go_ret2;exact⟨_,_,bs.map t.cell,C,rfl,jf.out,jg,jh,bz.trans ab⟩
theorem Ad8 (t:Tbl) (hv:TVal t) (hn:t.n.length<=65536) (A:Array Ν) (w:Λ) (h:IsT w A t) :
  Calls Ζ 111 #[.agg A] w λe w'=>∃ v l,e=θ v/\Reached t l/\Ints w' v l/\Ext w w':=by
 obtain⟨bn,on,cn,ba,oa,ca,b0,b4,_,_,a7,_,hR,_⟩:=h.opened hv;have b5:=hv.pos;have dg:=hv.cpos;have dh:=hv.cle;have HR:=Α hR;have HV:=Α hv;obtain⟨i0,hi,b8,b9,cb⟩:=Ϟ Cp;obtain⟨j0,hj,cg,ch,cj⟩:=Ϟ D8;have an:=(Θ w).alloc (Ε A 108);have H0:=Aa w (Ε A 108);have HK:=Α (λ(W:Λ) (hW:Ext (w.alloc (Ε A 108)) W)=>(γ W w.heap.size 257 _ _ _ (hW.heap H0)).trans a7);clear hR hv h H0 a7 b4 b0;go_enter Tryz.func111,Tryz.ntmps111;go_upto_region 1 with (fail)
 generalize w.alloc (Ε A 108)=w1 at *;have k1:=HK.out w1 (Θ w1);go_upto_region 2 with (at_make;refine ϩ _ rfl _ _ 28 rfl w1.heap.size 4 j0 (.bool Τ) 1 Tryz.underlying28 hj cg ch ε ε _ _ t.n.length rfl rfl rfl rfl (by rw[cj];omega) (by unfold ϛ;omega) (ν _) ?_;intro w2 bd be)
 have cm:Ext w1 w2:=(Θ w1).grown be (λk e=>by cases e);have ab:w2.ownsRow w1.heap.size 4 1 (Β (Δ ⟨w1.heap.size,0,Γ⟩) t.n.length t.n.length) t.n.length ((D6 t.n.length []).map ο):=by rw[Tq,<-B6];exact bd
 have cs:=Am Τ ab (Gg _ _).symm 0 (by rw[Gg];exact b5);have fs:=ab.frozenAt 0;obtain⟨bf,bg⟩:=Bk ab 0 Ξ;rw[L0,List.nil_append] at bf;have bh:=cm.grown bg (λk e=>by cases e;exact ν _);clear bd be k1 ab bg;go_upto_region 3 with (fail)
 clear cs fs;obtain⟨w3,bk⟩:∃ W,w2.setCell ⟨w1.heap.size,0,Γ⟩ (.bool Ξ)=W:=⟨_,rfl⟩;simp only[bk] at *;clear bk;have ct:=bh.alloc (Ε #[.int ε 0] 3);have cu:=bf.alloc (Ε #[.int ε 0] 3);have cv:=Λ.ownsRow_lit (base:=w1.heap.size) (e:=3) (size:=1) w3 #[.int ε 0] 1 bh.size (by unfold ϛ;omega) rfl;generalize bl:w1.heap.size=E at *;have bm:=Α bl;clear bl;go_wp2_with (fail);go_loopw [4,5] (λv i W=>∃ (l:List Nat) (k g c:Nat),k<=l.length/\i=.int ε k/\v=Β (Δ ⟨g,0,Γ⟩) l.length c/\Ext w1 W/\OwnI W E v l/\
   W.ownsRow E 4 1 (Β (Δ ⟨E,0,Γ⟩) t.n.length t.n.length) t.n.length ((D6 t.n.length l).map ο)/\À (BInv t l k 0))
  (λ_ i _=>t.n.length-(intOf i).toNat)
 case atStart=>exact⟨[0],0,w3.heap.size,1,by omega,rfl,rfl,ct,cv,cu,Α (Y4 HV.out)⟩
 case round=>
  obtain⟨l,k,g,c,hk,rfl,rfl,hE,T,hS,HI⟩:=hrel;have dm:=HI.out.le;by_cases ar:k<l.length
  ·have cl:=Be (Am 0 T rfl k ar);have au:=HI.out.lt _ (D9 l k 0 ar);obtain⟨s,aw⟩:∃ s,l.getD k 0=s:=⟨_,rfl⟩;rw[aw] at cl au;have cw:=Α aw;clear aw;obtain⟨br,or',cr,bp,bq⟩:=HR.out s au;have cx:=Be ((an.trans hE).cell bp);have k1:=Be (HK.out wr hE);have cy:=Α bq;clear bp bq;go_upto_region 7 with (fail)
   refine Dx (by kernel_rfl) (by kernel_rfl) ?_;iterate 10 (with_reducible refine wpQuiet_step (λK hK=>?_);go_simp;(refine hK _ ?_;clear hK K))
   refine wpQuiet_nil ?_;rintro _ ⟨e,rfl⟩;clear cl cx k1;have cz:=hE.trans e.ext;have T:=Ah T e.ext;have hS:=Ah hS e.ext;generalize e.W=w5 at *;have c1:w1.heap.size<=E:=à bm.out;have dr:E<=w1.heap.size:=à bm.out.symm;go_wp2_with (fail);go_loopw [4,30] (λv i W=>∃ (D:List Nat) (q g' c':Nat),q<=t.cells/\i=.int ε q/\v=Β (Δ ⟨g',0,Γ⟩) D.length c'/\Ext w1 W/\OwnI W E v D/\
     W.ownsRow E 4 1 (Β (Δ ⟨E,0,Γ⟩) t.n.length t.n.length) t.n.length ((D6 t.n.length D).map ο)/\À (BInv t D k q)/\À (k<D.length/\D.getD k 0=s))
    (λ_ i _=>t.cells-(intOf i).toNat)
   case atStart=>exact⟨l,0,g,c,by omega,rfl,rfl,cz,T,hS,HI,Α ⟨ar,cw.out⟩⟩
   case round=>
    obtain⟨D,q,g',c',hq,rfl,rfl,U,aa,I,ah,G⟩:=hrel;have du:=ah.out.le;by_cases ax:q<t.cells
    ·have cq:=(an.trans U).cell (cy.out q ax);have ay:=HV.out.tgt s au q ax;obtain⟨x,az⟩:∃ x,t.ent2 s q=x:=⟨_,rfl⟩;rw[az] at cq ay;have a1:=Α az;clear az;have ai:=Am Τ I (Gg _ _).symm x (by rw[Gg];exact ay);rw[Tr _ _ _ ay] at ai;have c2:=I.frozenAt x;have dv:=U.size;by_cases J:x∈D
     ·rw[decide_eq_true J] at ai;have M:=Α (Y5 ah.out (by rw[G.out.2,a1.out];exact J));clear J;go_wp2;go_roundw
      case rel=>exact⟨D,q+1,g',c',by omega,by go_num,rfl,U,aa,I,M,G⟩
      case measure=>simp[intOf];omega
     ·rw[decide_eq_false J] at ai;have M:=Α (Y7 HV.out ah.out G.out.1 ax (by rw[G.out.2,a1.out];exact J));rw[G.out.2,a1.out] at M;clear J;obtain⟨aj,bw⟩:=Bk I x Ξ;rw[L0] at aj;have ak:=aa.kept bw (Aj aa I (by decide));have bx:=U.grown bw (λk e=>by cases e;exact c1);go_upto_region 12 with (fail)
      obtain⟨w6,bz⟩:∃ W,wr.setCell ⟨E,x,Γ⟩ (.bool Ξ)=W:=⟨_,rfl⟩;simp only[bz] at *;clear bz ai c2 I aa cq;have dx:=bx.size;go_wp2_with (at_builtin;refine Ϙ _ rfl _ _ 68 rfl E 3 i0 (.int ε 0) 1 8 ϔ hi b8 b9 cb rfl (by decide) _ _ _ rfl (ak.alloc _) _ 1 1 [iv x] rfl rfl (ϭ _ _ _) (by simp[ό]) (by decide) (by unfold ϛ;omega) (by omega) (by simp;omega) _ rfl ?_);intro g7 c7 w7 c5 a6 _ _;have c6:=(aj.alloc (Ε #[iv x] 3)).kept a6 (Aj aj ak (by decide));have c8:=(bx.alloc (Ε #[iv x] 3)).grown a6 (λk e=>by have:=(ak.lt k e).1;omega);clear a6 ak aj;go_wp2;go_roundw
      case rel=>
       refine⟨D++[x],q+1,g7,c7,by omega,by go_num,by rw[Υ];rfl,c8,?_,c6,M,Α ⟨by rw[Υ];have:=G.out.1;omega,by rw[Bt _ _ _ _ G.out.1];exact G.out.2⟩⟩;show Ϡ _ _ _ _ _ _ _;rw[Υ,ϝ];exact c5
      case measure=>simp[intOf];omega
    ·obtain rfl:q=t.cells:=by omega
     have M:=Α (Y6 ah.out);go_wp2;go_roundw
     case rel=>exact⟨D,k+1,g',c',by have:=G.out.1;omega,by go_num,rfl,U,aa,I,M⟩
     case measure=>simp[intOf];omega
  ·obtain rfl:k=l.length:=by omega
   have c9:=Α (Y8 HI.out);go_wp2;go_ret;exact⟨_,l,rfl,c9.out,T.ints (by omega),an.trans hE⟩
end Go.Proofs.YtaiogolidlamiaaGreatDoor
