import Derived.Test.YtaiogolidlamiaaGreatDoorM03
import Derived.Deep.AppendLies
import Derived.OrdersHeld
import Derived.Test.YtaiogolidlamiaaGreatDoorM01
import Derived.Deep.DeepCutAuto
set_option linter.unusedVariables false
set_option linter.unusedSimpArgs false
open And renaming intro → ã
open Bool renaming true → Ξ, false → Τ, or_eq_true → Æ, and_eq_true → ϝ
open Go renaming Value → Ρ, maxLen → ϙ, World → Κ, info_parts → ϕ, cell_of_row → Ω, wpList_make_full → ϫ, wpList_append_lies → ϐ, cell_one_new → Ϫ, Oper → ϸ, Act → õ, getD_replicate_false → ϭ
open Go.Ending renaming returned → ν
open Go.IntKind renaming i64 → ζ, u64 → π
open Go.Lib renaming hid → Α
open Go.Obj renaming cells → Ε
open Go.Proofs.Tryz renaming prog → Η, underlying68 → ϓ, underlying22 → Ϸ, underlying155 → ñ
open Go.Region renaming ready → Ê, wanted → Ì
open Go.RowKit renaming Hid → Ϻ
open Go.Value renaming slice → Β, oneCell' → ϊ, bool → ο
open Go.World renaming size_alloc → Λ, ownsRow_nil → Í, ownsRow → ϛ
open List renaming length_append → Ο, getD_eq_getElem?_getD → Ζ, getElem?_set → ϲ, getElem?_eq_getElem → Μ, replicate → δ, getElem?_replicate → ϧ, length_set → ύ, pairwise_iff_getElem → ϯ, range → ι, map_append → ϔ, length_map → Ϗ, ext_getElem? → ϡ, getElem?_map → Ϟ
open Nat renaming le_refl → θ, le_of_eq → å, lt_of_lt_of_le → ε
open Option renaming some → Δ, none → Γ, getD_some → à
open UInt8 renaming ofNat → χ
namespace Go.Proofs.YtaiogolidlamiaaGreatDoor
set_option maxRecDepth 100000
set_option maxHeartbeats 4000000
def Bo (x:Nat):List UInt8:=[χ x,χ (x / 256)]
theorem Vm {x y:Nat} (G:x<65536) (H:y<65536) (h:Bo x=Bo y):x=y:=by
 simp only[Bo,List.cons.injEq,and_true] at h;have D:=congrArg UInt8.toNat h.1;have E:=congrArg UInt8.toNat h.2;simp only[UInt8.toNat_ofNat'] at D E;omega
theorem O9 (x:Nat):(Bo x).length=2:=rfl
def Bh (g:Nat->Nat):Nat->List UInt8
 | 0=>[]
 | n+1=>Bh g n++Bo (g n)
theorem Jb (g:Nat->Nat):∀ n,(Bh g n).length=2*n
 | 0=>rfl
 | n+1=>by rw[Bh,Ο,Jb g n,O9];omega
theorem Kr (g D:Nat->Nat):∀ n,(∀ k,k<n->g k<65536)->(∀ k,k<n->D k<65536)->(Bh g n=Bh D n↔∀ k,k<n->g k=D k)
 | 0,_,_=>by simp[Bh]
 | n+1,hg,G=>by
  have H:=Kr g D n (λk E=>hg k (by omega)) (λk E=>G k (by omega));simp only[Bh];constructor
  ·intro h;obtain⟨I,J⟩:=List.append_inj h (by rw[Jb,Jb]);intro k E;by_cases e:k=n
   ·subst e;exact Vm (hg k (by omega)) (G k (by omega)) J
   ·exact H.1 I k (by omega)
  ·intro h;rw[H.2 λk E=>h k (by omega),h n (by omega)]
def Bu (t:Tbl) (B:Nat->Nat) (s:Nat):List UInt8:=Bo (B s)++Bh (λk=>B (t.ent2 s k)) t.cells
theorem V5 (t:Tbl) (B:Nat->Nat) (s s':Nat) (I:B s<65536) (J:B s'<65536) (G:∀ k,k<t.cells->B (t.ent2 s k)<65536) (H:∀ k,k<t.cells->B (t.ent2 s' k)<65536) :
  Bu t B s=Bu t B s'↔B s=B s'/\∀ k,k<t.cells->B (t.ent2 s k)=B (t.ent2 s' k):=by
 unfold Bu;constructor
 ·intro h;obtain⟨D,E⟩:=List.append_inj h rfl;exact⟨Vm I J D,(Kr _ _ _ G H).1 E⟩
 ·rintro⟨D,E⟩;rw[D,(Kr _ _ _ G H).2 E]
theorem Bb {α:Type} (l:List α) (i j:Nat) (x d:α) (h:i<l.length):(l.set i x).getD j d=if j=i then x else l.getD j d:=by
 rw[Ζ,Ζ,ϲ];by_cases e:j=i
 ·subst e;simp[h]
 ·rw[if_neg (Ne.symm e),if_neg e]
theorem U4 {l:List Nat} (h:l.Nodup) {i j:Nat} (hi:i<l.length) (D:j<l.length) (E:i≠j):l.getD i 0≠l.getD j 0:=by
 rw[Ζ,Ζ,Μ hi,Μ D];intro e;exact E ((List.getElem_inj h).1 e)
theorem J8 {l:List Nat} {s:Nat} (h:s∈l):∃ j,j<l.length/\l.getD j 0=s:=Gj (d:=0) h
structure NInv (l:List Nat) (key:Nat->List UInt8) (j:Nat) (N R:List Nat) (f:List UInt8->Option Nat):Prop where
 le:R.length<=j
 has:∀ q,q<j->f (key (l.getD q 0))=Δ (N.getD (l.getD q 0) 0)
 lt:∀ q,q<j->N.getD (l.getD q 0) 0<R.length
 rep:∀ i,i<R.length->(∃ q,q<j/\R.getD i 0=l.getD q 0)/\N.getD (R.getD i 0) 0=i
 from_:∀ k i,f k=Δ i->∃ q,q<j/\k=key (l.getD q 0)/\i=N.getD (l.getD q 0) 0
 same:∀ q q',q<j->q'<j->(N.getD (l.getD q 0) 0=N.getD (l.getD q' 0) 0↔key (l.getD q 0)=key (l.getD q' 0))
theorem U7 (l:List Nat) (key:Nat->List UInt8) (N:List Nat):NInv l key 0 N [] (λ_=>Γ) where
 le:=by simp
 has:=λq D=>by omega
 lt:=λq D=>by omega
 rep:=λi hi=>by simp at hi
 from_:=λk i h=>by simp at h
 same:=λq q' D=>by omega
section
variable {l:List Nat} {key:Nat->List UInt8} {j:Nat} {N R:List Nat} {f:List UInt8->Option Nat}
theorem U9 (h:NInv l key j N R f) (hn:l.Nodup) (U:j<l.length) (hs:l.getD j 0<N.length) (i:Nat) (hi:f (key (l.getD j 0))=Δ i):NInv l key (j+1) (N.set (l.getD j 0) i) R f:=by
 obtain⟨z,H,M,I⟩:=h.from_ _ _ hi;have ne:∀ q,q<j->l.getD q 0≠l.getD j 0:=λq D=>U4 hn (by omega) U (by omega)
 have E:∀ q,q<j->(N.set (l.getD j 0) i).getD (l.getD q 0) 0=N.getD (l.getD q 0) 0:=λq D=>by rw[Bb _ _ _ _ _ hs,if_neg (ne q D)]
 have G:(N.set (l.getD j 0) i).getD (l.getD j 0) 0=i:=by rw[Bb _ _ _ _ _ hs,if_pos rfl]
 refine⟨by have:=h.le;omega,λq D=>?_,λq D=>?_,λr hr=>?_,λk i' ad=>?_,λq q' D af=>?_⟩
 ·by_cases e:q=j
  ·subst e;rw[G];exact hi
  ·rw[E q (by omega)];exact h.has q (by omega)
 ·by_cases e:q=j
  ·subst e;rw[G,I];exact h.lt z H
  ·rw[E q (by omega)];exact h.lt q (by omega)
 ·obtain⟨⟨q,D,e⟩,J⟩:=h.rep r hr;refine⟨⟨q,by omega,e⟩,?_⟩;rw[e,E q D,<-e];exact J
 ·obtain⟨q,D,e1,J⟩:=h.from_ k i' ad;exact⟨q,by omega,e1,by rw[E q D];exact J⟩
 ·by_cases e:q=j<;>by_cases T:q'=j
  ·subst e;subst T;simp
  ·subst e;rw[G,E q' (by omega),I,h.same z q' H (by omega),M]
  ·subst T;rw[G,E q (by omega),I,h.same q z (by omega) H,M]
  ·rw[E q (by omega),E q' (by omega)];exact h.same q q' (by omega) (by omega)
theorem Vc (h:NInv l key j N R f) (hn:l.Nodup) (hj:j<l.length) (hs:l.getD j 0<N.length) (hi:f (key (l.getD j 0))=Γ) :
  NInv l key (j+1) (N.set (l.getD j 0) R.length) (R++[l.getD j 0]) (λk=>if k=key (l.getD j 0) then Δ R.length else f k):=by
 have ne:∀ q,q<j->l.getD q 0≠l.getD j 0:=λq D=>U4 hn (by omega) hj (by omega)
 have J:∀ q,q<j->key (l.getD q 0)≠key (l.getD j 0):=λq D e=>by
  have:=h.has q D;rw[e,hi] at this;cases this
 have E:∀ q,q<j->(N.set (l.getD j 0) R.length).getD (l.getD q 0) 0=N.getD (l.getD q 0) 0:=λq D=>by rw[Bb _ _ _ _ _ hs,if_neg (ne q D)]
 have H:(N.set (l.getD j 0) R.length).getD (l.getD j 0) 0=R.length:=by rw[Bb _ _ _ _ _ hs,if_pos rfl]
 have T:(R++[l.getD j 0]).length=R.length+1:=by simp
 refine⟨by have:=h.le;omega,λq D=>?_,λq D=>?_,λr hr=>?_,λk i' I=>?_,λq q' D ag=>?_⟩
 ·by_cases e:q=j
  ·subst e;rw[H];simp
  ·rw[E q (by omega),if_neg (J q (by omega))];exact h.has q (by omega)
 ·rw[T];by_cases e:q=j
  ·subst e;rw[H];omega
  ·rw[E q (by omega)];have:=h.lt q (by omega);omega
 ·rw[T] at hr;by_cases e:r=R.length
  ·have G:(R++[l.getD j 0]).getD r 0=l.getD j 0:=by rw[e];simp[Ζ]
   rw[G,H];exact⟨⟨j,by omega,rfl⟩,e.symm⟩
  ·have U:r<R.length:=by omega
   obtain⟨⟨q,D,G⟩,M⟩:=h.rep r U;rw[Bt _ _ _ _ U];refine⟨⟨q,by omega,G⟩,?_⟩;rw[G,E q D,<-G];exact M
 ·by_cases e:k=key (l.getD j 0)
  ·simp only[e,if_true] at I;cases I
   exact⟨j,by omega,e,H.symm⟩
  ·simp only[e,if_false] at I;obtain⟨q,D,G,M⟩:=h.from_ k i' I;exact⟨q,by omega,G,by rw[E q D];exact M⟩
 ·by_cases e:q=j<;>by_cases e':q'=j
  ·subst e;subst e';simp
  ·subst e;have h1:=h.lt q' (by omega);rw[H,E q' (by omega)];exact⟨λe=>by omega,λe=>absurd e.symm (J q' (by omega))⟩
  ·subst e';have h1:=h.lt q (by omega);rw[H,E q (by omega)];exact⟨λe=>by omega,λe=>absurd e (J q (by omega))⟩
  ·rw[E q (by omega),E q' (by omega)];exact h.same q q' (by omega) (by omega)
theorem Il (h:NInv l key l.length N R f):Blk l (λs=>N.getD s 0) R/\∀ s∈l,∀ s'∈l,(N.getD s 0=N.getD s' 0↔key s=key s'):=by
 refine⟨⟨λs hs=>?_,λi hi=>?_,λi hi=>(h.rep i hi).2⟩,λs hs s' E=>?_⟩
 ·obtain⟨q,D,rfl⟩:=J8 hs;exact h.lt q D
 ·obtain⟨⟨q,D,e⟩,_⟩:=h.rep i hi;rw[e];exact D9 l q 0 D
 ·obtain⟨q,D,rfl⟩:=J8 hs;obtain⟨q',G,rfl⟩:=J8 E;exact h.same q q' D G
end
theorem J1 {t:Tbl} {l:List Nat} (H:Reached t l) {B N:Nat->Nat} (D:∀ s∈l,B s<65536) (h:∀ s∈l,∀ s'∈l,(N s=N s'↔Bu t B s=Bu t B s')):Fp t l B N:=λs hs s' E=>by
 rw[h s hs s' E,V5 t B s s' (D s hs) (D s' E) (λk G=>D _ (H.closed s hs k G)) (λk G=>D _ (H.closed s' E k G))]
structure AInv (t:Tbl) (l:List Nat) (j:Nat) (B:List Nat):Prop where
 len:B.length=t.n.length
 at_:∀ s,B.getD s 0=if s∈l.take j/\t.ok s=Ξ then 1 else 0
theorem Ze (t:Tbl) (l:List Nat):AInv t l 0 (δ t.n.length 0) where
 len:=by simp
 at_:=λs=>by
  simp[Ζ,ϧ];split<;>rfl
theorem Sf {l:List Nat} {j:Nat} (D:j<l.length) (s:Nat):s∈l.take (j+1)↔s∈l.take j\/s=l.getD j 0:=by
 rw[List.take_add_one,List.mem_append,Μ D,Ζ,Μ D];simp
theorem Zd {t:Tbl} {l:List Nat} {j:Nat} {B:List Nat} (h:AInv t l j B) (E:j<l.length) (hs:l.getD j 0<t.n.length) (G:t.ok (l.getD j 0)=Ξ):AInv t l (j+1) (B.set (l.getD j 0) 1) where
 len:=by rw[ύ];exact h.len
 at_:=λs=>by
  rw[Bb _ _ _ _ _ (by rw[h.len];exact hs),h.at_ s];have D:=Sf E s;generalize l.getD j 0=x at *;by_cases e:s=x
  ·subst e;simp[D,G]
  ·simp[D,e]
theorem Zf {t:Tbl} {l:List Nat} {j:Nat} {B:List Nat} (h:AInv t l j B) (D:j<l.length) (E:t.ok (l.getD j 0)=Τ):AInv t l (j+1) B where
 len:=h.len
 at_:=λs=>by
  rw[h.at_ s];have G:=Sf D s;generalize l.getD j 0=x at *;by_cases e:s=x
  ·subst e;simp[E]
  ·simp[G,e]
theorem Zg {t:Tbl} {l:List Nat} {B:List Nat} (h:AInv t l l.length B):Refi t l (λs=>B.getD s 0) 0/\∀ s,B.getD s 0<65536:=by
 refine⟨Tu t l _ λs hs=>?_,λs=>?_⟩
 ·show B.getD s 0=_;rw[h.at_ s,List.take_length];simp[hs]
 ·rw[h.at_ s];split<;>omega
structure OInv (t:Tbl) (l:List Nat) (B:List Nat) (n:Nat):Prop where
 len:B.length=t.n.length
 refi:Refi t l (λs=>B.getD s 0) n
 lt:∀ s∈l,B.getD s 0<65536
 le:n<=l.length
theorem Us {t:Tbl} {l:List Nat} {B:List Nat} (h:AInv t l l.length B):OInv t l B 0:=
 ⟨h.len,(Zg h).1,λs _=>(Zg h).2 s,by omega⟩
theorem Jh {l:List Nat} {B:Nat->Nat} {R:List Nat} (h:Blk l B R):R.length<=l.length:=by
 have:=Dy (R.map λs=>s) l (by
  rw[List.map_id'];rw[List.nodup_iff_pairwise_ne,ϯ];intro i j hi G H e;have D:=h.rep i hi;have E:=h.rep j G;rw[Ζ,Μ hi] at D;rw[Ζ,Μ G] at E;simp only[à] at D E;rw[e,E] at D;omega) λs hs=>by
   rw[List.map_id'] at hs;obtain⟨i,hi,rfl⟩:=J8 hs;exact h.mem i hi
 simpa using this
theorem O0 {t:Tbl} (hv:TVal t) {l:List Nat} (E:Reached t l) {B N R:List Nat} {f:List UInt8->Option Nat} {n:Nat} (h:OInv t l B n) (hm:l.length<=65536) (H:N.length=t.n.length)
  (hi:NInv l (Bu t λs=>B.getD s 0) l.length N R f) (J:R.length≠n):OInv t l N R.length/\n<R.length:=by
 obtain⟨D,hs⟩:=Il hi;have G:Fp t l (λs=>B.getD s 0) (λs=>N.getD s 0):=J1 E h.lt hs;have I:=Jh D;refine⟨⟨H,Ob hv E h.refi G D,λs hs=>?_,I⟩,?_⟩
 ·have:=D.lt s hs;show N.getD s 0<65536;omega
 ·have:=(L2 h.refi G D E.ne).1;omega
theorem Af0 {t:Tbl} (hv:TVal t) {l:List Nat} (D:Reached t l) {B N R:List Nat} {f:List UInt8->Option Nat} {n:Nat} (h:OInv t l B n)
  (hi:NInv l (Bu t λs=>B.getD s 0) l.length N R f) (he:R.length=n):Blocks t l (λs=>N.getD s 0) R:=by
 obtain⟨E,hs⟩:=Il hi;have G:Fp t l (λs=>B.getD s 0) (λs=>N.getD s 0):=J1 D h.lt hs;exact⟨E,Oc hv D h.refi G E he⟩
open Go.RowKit Go.Shelf
def Dj (l:List UInt8):Ρ:=.string ⟨l.toArray⟩
theorem Nu (x y:List UInt8) (h:Dj x=Dj y):x=y:=by simpa [Dj] using h
theorem Nt (l:List UInt8) (D:l.length<=ϙ):∃ k,keyOf Η 9 (Dj l)=Δ k:=
 ⟨_,Go.WideMaps.keyOf_string_mk Tryz.underlying9 (by simpa [ByteArray.size] using D)⟩
theorem Jc (w:Κ) (a b:Ρ) (t:TypeId):∀ j u,[a,b][j]? = Δ u->(w.alloc (Ε #[a,b] t)).cell? ((⟨w.heap.size,0,Γ⟩:Addr).add j)=Δ u:=λj u hu=>
 Κ.news_of_block (Ab w (Ε #[a,b] t)) j u hu
theorem Ad1 (t:Tbl) (hv:TVal t) (hn:t.n.length<=65536) (l:List Nat) (hl:Reached t l) (A:Array Ρ) (vl:Ρ) (w:Κ) (h:IsT w A t) (dp:Ints w vl l) :
  Calls Η 110 #[.agg A,vl] w λe w'=>∃ vN vR N R,e=ν (.tuple #[vN,vR])/\N.length=t.n.length/\Blocks t l (λs=>N.getD s 0) R/\Ints w' vN N/\Ints w' vR R/\Ext w w':=by
 obtain⟨bn,on,cn,ba,oa,ca,fg,fh,_,_,du,dv,hR,dx⟩:=h.opened hv;obtain⟨bl,ol,cl,rfl,dy⟩:=ä dp hl.ne;have h8:=hv.pos;have h9:=hv.cpos;have ia:=hv.cle;have ib:=hl.ne;have ic:l.length<=t.n.length:=by
  have:=Dy l (ι t.n.length) hl.nodup λs hs=>List.mem_range.2 (hl.lt s hs)
  simpa using this
 have HR:=Α hR;have HV:=Α hv;have HL:=Α hl;have ea:=Α (λk (hk:k<l.length)=>dy k (by omega));have fk:=Α dx;obtain⟨i0,hi,cd,cf,cg⟩:=ϕ Cg;obtain⟨i5,cj,cm,cq,ct⟩:=ϕ (show (Η.info? 5).map (λi=>(i.zero,i.size,i.bytes))=Δ (Δ (.int .u8 0),1,1) by kernel_rfl);have bz:=(Ι w).alloc (Ε A 108);have H0:=Ab w (Ε A 108);have HK:=Α (λ(W:Κ) (E:Ext (w.alloc (Ε A 108)) W)=>(Ω W w.heap.size 257 _ _ _ (E.heap H0)).trans du);have eb:=Α (λ(W:Κ) (E:Ext (w.alloc (Ε A 108)) W)=>(Ω W w.heap.size 258 _ _ _ (E.heap H0)).trans dv);clear hR hv h H0 du dv fh fg dy dp dx hl;go_enter Tryz.func110,Tryz.ntmps110;go_upto_region 1 with (fail)
 obtain⟨w1,cw⟩:∃ W,w.alloc (Ε A 108)=W:=⟨_,rfl⟩;rw[cw] at bz HK eb;simp only[cw];clear cw;have k1:=HK.out w1 (Ι w1);go_upto_region 2 with (at_make;refine ϫ _ rfl _ _ 68 rfl w1.heap.size 3 i0 (.int ζ 0) 1 ϓ hi cd cf ζ ζ _ _ t.n.length rfl rfl rfl rfl (by rw[cg];omega) (by unfold ϙ;omega) (θ _) ?_;intro w2 ed ee)
 have fl:Ext w1 w2:=(Ι w1).grown ee (λk e=>by cases e);have fm:w2.ownsRow w1.heap.size 3 1 (Β (Δ ⟨w1.heap.size,0,Γ⟩) t.n.length t.n.length) t.n.length ((δ t.n.length 0).map iv):=by rw[<-B7];exact ed
 clear ed ee k1;generalize ef:w1.heap.size=gb at *;have fo:=Α ef;clear ef;go_wp2_with (fail);go_loopw [26] (λi W=>∃ (j:Nat) (B:List Nat),j<=l.length/\i=.int ζ j/\Ext w1 W/\
   W.ownsRow gb 3 1 (Β (Δ ⟨gb,0,Γ⟩) t.n.length t.n.length) t.n.length (B.map iv)/\Ϻ (AInv t l j B))
  (λi _=>l.length-(intOf i).toNat)
 case atStart=>exact⟨0,_,by omega,rfl,fl,fm,Α (Ze t l)⟩
 case round=>
  obtain⟨j,B,hj,rfl,hE,hB,HI⟩:=hrel;by_cases an:j<l.length
  ·have cl:=(bz.trans hE).cell (ea.out j an);have aa:=HL.out.lt _ (D9 l j 0 an);obtain⟨s,bc⟩:∃ s,l.getD j 0=s:=⟨_,rfl⟩;rw[bc] at cl aa;have ao:=Α bc;clear bc;have k8:=eb.out wr hE;have eg:=(bz.trans hE).cell (fk.out s aa);have eh:=Α HI.out.len;have fq:w1.heap.size<=gb:=å fo.out;have HY:=Α (λho=>Zd HI.out an (by rw[ao.out];exact aa) ho);have H:=Α (λho=>Zf HI.out an ho);rw[ao.out] at HY H;cases bf:t.ok s
   ·rw[bf] at eg;have ai:=Α (H.out bf);clear bf;go_wp2_with (fail);go_roundw
    case rel=>exact⟨j+1,B,by omega,by go_num,hE,hB,ai⟩
    case measure=>simp[intOf];omega
   ·rw[bf] at eg;have ft:=Α (HY.out bf);clear bf;obtain⟨fu,fv⟩:=Bj hB s 1;have cs:=Am 0 hB eh.out.symm s (by rw[eh.out];exact aa);have fs:=hB.frozenAt s;go_wp2_with (fail);go_roundw
    case rel=>exact⟨j+1,B.set s 1,by omega,by go_num,hE.grown fv (λk e=>by cases e;exact fq),fu,ft⟩
    case measure=>simp[intOf];omega
  ·obtain rfl:j=l.length:=by omega
   have HO:=Α (Us HI.out);clear HI;go_upto_region 8 with (fail)
   obtain⟨w3,b0⟩:∃ W,W=wr:=⟨_,rfl⟩;subst b0;have ej:Ϻ (∀ s,s<t.n.length->w3.cell? ⟨gb,s,Γ⟩=Δ (iv (B.getD s 0))):=Α λs hs=>Am 0 hB HO.out.len.symm s (by rw[HO.out.len];exact hs)
   have ek:gb<w3.heap.size:=(hB.lt gb rfl).2;clear hB;go_wp2_with (fail);go_loopw [6,9] (λv c W=>∃ (B:List Nat) (n g cp:Nat),v=Β (Δ ⟨g,0,Γ⟩) t.n.length cp/\c=.int ζ n/\Ext w1 W/\g<W.heap.size/\
     Ϻ (∀ s,s<t.n.length->W.cell? ⟨g,s,Γ⟩=Δ (iv (B.getD s 0)))/\Ϻ (OInv t l B n))
    (λ_ c _=>l.length-(intOf c).toNat)
   case atStart=>exact⟨B,0,gb,_,rfl,rfl,hE,ek,ej,HO⟩
   case round=>
    clear ej HO ek hE;clear B;obtain⟨B,n,g,cp,rfl,rfl,hE,ig,HC,HO⟩:=hrel;have ih:=HO.out.le;obtain⟨D,fw⟩:∃ W,W=wr:=⟨_,rfl⟩;subst fw;have c3:=bz.trans hE;have eo:=Α (λ(W:Κ) (E:Ext D W)=>HK.out W (hE.trans E));have fx:=Α (λ(W:Κ) (E:Ext D W)=>HR.out.ext (c3.trans E));have fy:=Α (λ(W:Κ) (E:Ext D W) k (hk:k<l.length)=>(c3.trans E).cell (ea.out k hk));have ij:=Α (λ(W:Κ) (E:Ext D W) s (hs:s<t.n.length)=>E.cell (HC.out s hs));have fz:=@run_makeMap Η;go_upto_region 10 with (fail)
    clear fz;have ep:=(Ι D).alloc (.map #[] 0);have er:=Ke D 9 Dj;have et:(D.alloc (.map #[] 0)).heap.size=D.heap.size+1:=Λ _ _;obtain⟨w3,b0⟩:∃ W,D.alloc (.map #[] 0)=W:=⟨_,rfl⟩;simp only[b0] at *;clear b0;go_upto_region 11 with (at_make;refine ϫ _ rfl _ _ 68 rfl w3.heap.size 3 i0 (.int ζ 0) 1 ϓ hi cd cf ζ ζ _ _ t.n.length rfl rfl rfl rfl (by rw[cg];omega) (by unfold ϙ;omega) (θ _) ?_;intro w4 eu c4)
    have aq:=ep.grown c4 (λk e=>by cases e);have ar:w4.ownsRow w3.heap.size 3 1 (Β (Δ ⟨w3.heap.size,0,Γ⟩) t.n.length t.n.length) t.n.length ((δ t.n.length 0).map iv):=by rw[<-B7];exact eu
    have bo:=er.kept c4 (by simp);have bp:D.heap.size+1<w4.heap.size:=by have:w3.heap.size<w4.heap.size:=(ar.lt _ rfl).2;omega
    rw[et] at ar;clear eu c4 er ep;have bg:=Í w4 (D.heap.size+1+1) 3 1;generalize ik:w3.heap.size=gn at *;obtain rfl:gn=D.heap.size+1:=et;go_wp2_with (fail);go_loopw [12,45] (λv i W=>∃ (j:Nat) (N R:List Nat) (f:List UInt8->Option Nat) (a:Option Addr) (b4:Nat),j<=l.length/\i=.int ζ j/\v=Β a R.length b4/\Ext D W/\D.heap.size+1<W.heap.size/\
      W.ownsRow (D.heap.size+1) 3 1 (Β (Δ ⟨D.heap.size+1,0,Γ⟩) t.n.length t.n.length) t.n.length (N.map iv)/\OwnI W (D.heap.size+1+1) v R/\IsMp W 9 Dj D.heap.size R.length f/\
      Ϻ (NInv l (Bu t λs=>B.getD s 0) j N R f/\N.length=t.n.length))
     (λ_ i _=>l.length-(intOf i).toNat)
    case atStart=>exact⟨0,_,[],_,Γ,0,by omega,rfl,rfl,aq,bp,ar,bg,bo,Α ⟨U7 l _ _,by simp⟩⟩
    case round=>
     clear ar bg bo aq bp;obtain⟨j,N,R,f,a,b4,hj,rfl,rfl,aq,bp,ar,bg,bo,H⟩:=hrel;have il:=H.out.1.le;obtain⟨w4,gd⟩:∃ W,W=wr:=⟨_,rfl⟩;subst gd;by_cases an:j<l.length
     ·have cl:=fy.out w4 aq j an;have b5:=D9 l j 0 an;have aa:=HL.out.lt _ b5;have hx:=HO.out.lt _ b5;have ew:=Α (λk (hk:k<t.cells)=>HO.out.lt _ (HL.out.closed _ b5 k hk));obtain⟨s,bc⟩:∃ s,l.getD j 0=s:=⟨_,rfl⟩;rw[bc] at cl aa hx ew;have ao:=Α bc;clear bc b5;obtain⟨br,or',cr,ey,ez⟩:=fx.out D (Ι D) s aa;have e0:=Α (λ(W:Κ) (E:Ext D W)=>E.cell ey);have gg:=Α (λ(W:Κ) (E:Ext D W) k (hk:k<t.cells)=>E.cell (ez k hk));have gh:=Α (λk (hk:k<t.cells)=>HV.out.tgt s aa k hk);clear ey ez;obtain⟨x,b6⟩:∃ x,B.getD s 0=x:=⟨_,rfl⟩;rw[b6] at hx;have HX:=Α (λ(W:Κ) (E:Ext D W)=>(E.cell (HC.out s aa)).trans (by rw[b6]));have gi:=Α b6;clear b6;have k1:=eo.out w4 aq;have k2:=e0.out w4 aq;go_upto_region 15 with (fail)
      go_upto_region 16 with (at_make;refine wpList_make_own _ rfl _ _ 22 rfl (D.heap.size+1+1) 5 i5 (.int .u8 0) 1 Ϸ cj cm cq ζ ζ _ (2+2*t.cells) rfl rfl (by push_cast;rfl) (by rw[ct];omega) (by unfold ϙ;omega) (by omega) ?_;intro I J bh)
      have M:=aq.grown bh (λk e=>by cases e);have T:=Cb ar bh;have ab:=Cb bg bh;have U:=bo.kept bh (by simp);have bd:D.heap.size+1<I.heap.size:=ε bp bh.size;have au:∀ W,Ext D W->Ext D W/\W.cell? ⟨g,s,Γ⟩=Δ (iv x):=λW E=>⟨E,HX.out W E⟩
      have cx:=HX.out I M;clear k1 k2 cl bh ar bg bo;go_region_held_law (λW=>Ext D W/\W.cell? ⟨g,s,Γ⟩=Δ (iv x))
       (first|exact au _ ad|exact au _ (M.drew.alloc _)|exact au _ M.drew)
       ((refine step_append_lies _ rfl _ _ 22 rfl (D.heap.size+1+1) 5 i5 (.int .u8 0) 1 1 Ϸ cj cm cq ct rfl (by decide) _ _ _ rfl ((Ah J (Ι I).drew).alloc _) _ 2 2 ((Bo x).map bv) rfl rfl (Jc _ _ _ _) (by simp[Bo,ϊ]) (by decide) (by unfold ϙ;omega) (by omega) (by simp;omega) _ rfl ?_
         intro g6 c6 w6 az G c8 c9;have ad:Ext D w6:=(M.drew.alloc _).grown G (λk e=>by have:=(J.lt k e).1;omega)))
      have aw:=((Ah T (Ι I).drew).alloc _).kept G (Ai T J (by decide));have af:=((Ah ab (Ι I).drew).alloc _).kept G (Ai ab J (by decide));have ax:=((U.ext (Ι I).drew).alloc _).kept G (U.ne_row J);have a1:D.heap.size+1<w6.heap.size:=by
       have h1:(I.drew.alloc (Ε _ 5)).heap.size<=w6.heap.size:=G.size;rw[Λ] at h1;have h2:I.heap.size<=I.drew.heap.size:=(Ι I).drew.size;omega
      obtain⟨gf,e2⟩:∃ gf:Nat->Nat,(λk=>B.getD (t.ent2 s k) 0)=gf:=⟨_,rfl⟩;have e3:=Α e2;have az:w6.ownsRow (D.heap.size+1+1) 5 1 (Β (Δ ⟨g6,0,Γ⟩) (2+2*0) c6) (2+2*0) ((Bo x++Bh gf 0).map bv):=by
       rw[show Bo x++Bh gf 0=Bo x by simp[Bh]];exact az
      have k1:=eo.out w6 ad;have k2:=e0.out w6 ad;clear e2 T ab U J G c8 c9 cx au M bd;go_wp2_with (fail);clear k1 k2;go_loopw [15,78] (λv i W=>∃ (k gk ck:Nat),k<=t.cells/\i=.int ζ k/\v=Β (Δ ⟨gk,0,Γ⟩) (2+2*k) ck/\Ext D W/\D.heap.size+1<W.heap.size/\
        W.ownsRow (D.heap.size+1) 3 1 (Β (Δ ⟨D.heap.size+1,0,Γ⟩) t.n.length t.n.length) t.n.length (N.map iv)/\OwnI W (D.heap.size+1+1) (Β a R.length b4) R/\IsMp W 9 Dj D.heap.size R.length f/\
        W.ownsRow (D.heap.size+1+1) 5 1 v (2+2*k) ((Bo x++Bh gf k).map bv))
       (λ_ i _=>t.cells-(intOf i).toNat)
      case atStart=>exact⟨0,g6,c6,by omega,rfl,rfl,ad,a1,aw,af,ax,az⟩
      case round=>
       clear ad a1 aw af ax az;obtain⟨k,gk,ck,hk,rfl,rfl,M,bd,T,ab,U,J⟩:=hrel;obtain⟨I,gm⟩:∃ W,W=wr:=⟨_,rfl⟩;subst gm;by_cases dd:k<t.cells
       ·have e4:=gh.out k dd;have hz:=ew.out k dd;have cy:=gg.out I M k dd;obtain⟨y,de⟩:∃ y,t.ent2 s k=y:=⟨_,rfl⟩;have e7:Ϻ (gf k=B.getD y 0):=Α (by rw[<-e3.out,<-de]);rw[de] at cy e4 hz;clear de;obtain⟨z,df⟩:∃ z,B.getD y 0=z:=⟨_,rfl⟩;rw[df] at hz e7;have HZ:=Α (λ(W:Κ) (E:Ext D W)=>(E.cell (HC.out y e4)).trans (by rw[df]));clear df;have au:∀ W,Ext D W->Ext D W/\W.cell? ⟨g,y,Γ⟩=Δ (iv z):=λW E=>⟨E,HZ.out W E⟩
        have cz:=HZ.out I M;go_upto_region 20 with (fail)
        clear cy;go_region_held_law (λW=>Ext D W/\W.cell? ⟨g,y,Γ⟩=Δ (iv z))
         (first|exact au _ ad|exact au _ (M.drew.alloc _)|exact au _ M.drew)
         ((refine step_append_lies _ rfl _ _ 22 rfl (D.heap.size+1+1) 5 i5 (.int .u8 0) 1 1 Ϸ cj cm cq ct rfl (by decide) _ _ _ rfl ((Ah J (Ι I).drew).alloc _) _ 2 2 ((Bo z).map bv) rfl rfl (Jc _ _ _ _) (by simp[Bo,ϊ]) (by decide) (by unfold ϙ;omega) (by omega) (by simp;omega) _ rfl ?_
           intro g6 c6 w6 az G c8 c9;have ad:Ext D w6:=(M.drew.alloc _).grown G (λk e=>by have:=(J.lt k e).1;omega)))
        have aw:=((Ah T (Ι I).drew).alloc _).kept G (Ai T J (by decide));have af:=((Ah ab (Ι I).drew).alloc _).kept G (Ai ab J (by decide));have ax:=((U.ext (Ι I).drew).alloc _).kept G (U.ne_row J);have a1:D.heap.size+1<w6.heap.size:=by
         have h1:(I.drew.alloc (Ε _ 5)).heap.size<=w6.heap.size:=G.size;rw[Λ] at h1;have h2:I.heap.size<=I.drew.heap.size:=(Ι I).drew.size;omega
        have az:w6.ownsRow (D.heap.size+1+1) 5 1 (Β (Δ ⟨g6,0,Γ⟩) (2+2*(k+1)) c6) (2+2*(k+1)) ((Bo x++Bh gf (k+1)).map bv):=by
         rw[show Bo x++Bh gf (k+1)=(Bo x++Bh gf k)++Bo z by rw[Bh,e7.out,List.append_assoc],ϔ];exact az
        clear T ab U J G c8 c9 cz au M bd;go_wp2;go_roundw
        case rel=>exact⟨k+1,g6,c6,by omega,by go_num,rfl,ad,a1,aw,af,ax,az⟩
        case measure=>simp[intOf];omega
       ·obtain rfl:k=t.cells:=by omega
        have bj:(Bo x++Bh gf t.cells).length=2+2*t.cells:=by rw[Ο,Jb,O9]
        have dg:Bu t (λs=>B.getD s 0) s=Bo x++Bh gf t.cells:=by
         show Bo (B.getD s 0)++Bh (λk=>B.getD (t.ent2 s k) 0) t.cells=_;rw[gi.out,e3.out]
        obtain⟨ky,e9⟩:∃ ky,Bo x++Bh gf t.cells=ky:=⟨_,rfl⟩;rw[e9] at bj dg J;have dh:=Α dg;clear e9 dg;have gq:(convert 22 9 (Β (Δ ⟨gk,0,Γ⟩) (2+2*t.cells) ck)).run Η I=.ok (Dj ky) I:=Ib _ _ _ (By.of_owns (by rw[bj];exact J) (by rw[bj];omega));have dk:=Nt ky (by rw[bj];unfold ϙ;omega);have ir:=Α bj;clear bj;cases hf:f ky with
        | some i=>
         have ai:=U9 H.out.1 HL.out.nodup an (by rw[ao.out,H.out.2];exact aa) i (by rw[ao.out,dh.out];exact hf);rw[ao.out] at ai;have ai:=Α (ã ai (show (N.set s i).length=t.n.length by rw[ύ];exact H.out.2));have cn:=Am 0 T H.out.2.symm s (by rw[H.out.2];exact aa);have fn:=T.frozenAt s;obtain⟨aw,G⟩:=Bj T s i;have ad:=M.grown G (λk e=>by cases e;omega);have af:=ab.kept G (Aq ab (by omega));have ax:=U.kept G (by simp);have a1:=ε bd G.size;clear G ab T M bd;go_wp2_with (at_lookup;refine Er rfl _ _ 155 rfl Fy ñ rfl U ky rfl dk ?_;rw[hf];dsimp only [Option.isSome,Option.getD]);go_roundw
         case rel=>exact⟨j+1,N.set s i,R,f,a,b4,by omega,by go_num,rfl,ad,a1,aw,af,ax,ai⟩
         case measure=>simp[intOf];omega
        | none=>
         have ai:=Vc H.out.1 HL.out.nodup an (by rw[ao.out,H.out.2];exact aa) (by rw[ao.out,dh.out];exact hf);rw[ao.out,dh.out] at ai;have ai:=Α (ã ai (show (N.set s R.length).length=t.n.length by rw[ύ];exact H.out.2));have gr:=J;go_upto_region 25 with (at_lookup;refine Er rfl _ _ 155 rfl Fy ñ rfl U ky rfl dk ?_;rw[hf];dsimp only [Option.isSome,Option.getD])
         go_upto_region 26 with (at_mapUpdate;refine Jm rfl _ _ _ 155 rfl Fy ñ rfl U (by unfold ϙ;omega) Nu ky rfl dk R.length rfl (by omega) ?_;intro w6 ax G)
         clear gq;have aw:=T.kept G (U.far T);have af:=ab.kept G (U.far ab);have ad:=M.grown G (λk e=>by cases e;omega);have a1:=ε bd G.size;clear G ab T M bd U J gr;go_upto_region 27 with (at_builtin;refine ϐ _ rfl _ _ 68 rfl (D.heap.size+1+1) 3 i0 (.int ζ 0) 1 8 ϓ hi cd cf cg rfl (by decide) _ _ _ rfl (af.alloc _) _ 1 1 [iv s] rfl rfl (Ϫ _ _ _) (by simp[ϊ]) (by decide) (by unfold ϙ;omega) (by omega) (by simp;omega) _ rfl ?_;intro g7 c7 w7 bu bw _ _)
         have b8:=(aw.alloc (Ε #[iv s] 3)).kept bw (.inr (λe=>by have:=(af.lt (D.heap.size+1) e.symm).1;omega));have fc:=(ax.alloc (Ε #[iv s] 3)).kept bw (λe=>by have:=(af.lt D.heap.size e.symm).1;omega);have fe:=(ad.alloc (Ε #[iv s] 3)).grown bw (λk e=>by have:=(af.lt k e).1;omega);have ff:D.heap.size+1<w7.heap.size:=by
          have:=bw.size;rw[Λ] at this;omega
         have bu:OwnI w7 (D.heap.size+1+1) (Β (Δ ⟨g7,0,Γ⟩) (R.length+1) c7) (R++[s]):=by
          show ϛ _ _ _ _ _ _ _;rw[Ο,ϔ];exact bu
         clear bw af aw ad a1 ax;have cn:=Am 0 b8 H.out.2.symm s (by rw[H.out.2];exact aa);have fn:=b8.frozenAt s;obtain⟨gv,bx⟩:=Bj b8 s R.length;have gw:=fe.grown bx (λk e=>by cases e;omega);have gx:=bu.kept bx (Aq bu (by omega));have gy:=fc.kept bx (by simp);have gz:=ε ff bx.size;clear bx bu b8 fe ff fc;go_wp2;go_roundw
         case rel=>exact⟨j+1,N.set s R.length,R++[s],_,_,c7,by omega,by go_num,by rw[Ο];rfl,gw,gz,gv,gx,by rw[Ο];exact gy,ai⟩
         case measure=>simp[intOf];omega
     ·obtain rfl:j=l.length:=by omega
      by_cases he:R.length=n
      ·have hb:((R.length:Int)==(n:Int))=Ξ:=by simp[he]
       have HB:=Α (Af0 HV.out HL.out HO.out H.out.1 he);have hh:R.length<=4611686018427387904:=by omega
       have hp:Ints w4 (Β (Δ ⟨D.heap.size+1,0,Γ⟩) t.n.length t.n.length) N:=OwnI.ints (base:=D.heap.size+1) (by
        show ϛ _ _ _ _ _ _ _;rw[H.out.2];exact ar) (by rw[H.out.2];omega)
       have hq:=bg.ints hh;have hr:=Α H.out.2;clear he HO H;go_wp2;go_ret2;exact⟨_,_,N,R,rfl,hr.out,HB.out,hp,hq,c3.trans aq⟩
      ·have hb:((R.length:Int)==(n:Int))=Τ:=by simp;omega
       obtain⟨dm,iu⟩:=O0 HV.out HL.out HO.out (by omega) H.out.2 H.out.1 he;have dm:=Α dm;have ht:Ϻ (∀ s,s<t.n.length->w4.cell? ⟨D.heap.size+1,s,Γ⟩=Δ (iv (N.getD s 0))):=Α λs hs=>Am 0 ar H.out.2.symm s (by rw[H.out.2];exact hs)
       clear he;go_wp2;go_roundw
       case rel=>exact⟨N,R.length,D.heap.size+1,_,rfl,rfl,hE.trans aq,bp,ht,dm⟩
       case measure=>simp[intOf];omega
structure FInv {κ:Type} (key:Nat->κ) (x:Nat) (c:Nat->Nat) (bs:List Nat) (f:κ->Option Nat):Prop where
 le:bs.length<=x
 lt:∀ y,y<x->c y<bs.length
 byte:∀ k,k<bs.length->bs.getD k 0<x/\c (bs.getD k 0)=k
 same:∀ y z,y<x->z<x->(c y=c z↔key y=key z)
 has:∀ y,y<x->f (key y)=Δ (c y)
 from_:∀ p i,f p=Δ i->∃ y,y<x/\p=key y/\i=c y
 first:∀ y,y<x->bs.getD (c y) 0<=y
 inc:∀ i j,i<j->j<bs.length->bs.getD i 0<bs.getD j 0
section
variable {κ:Type} {key:Nat->κ} {x:Nat} {c:Nat->Nat} {bs:List Nat} {f:κ->Option Nat}
theorem P4 (key:Nat->κ) (c:Nat->Nat):FInv key 0 c [] (λ_=>Γ) where
 le:=by simp
 lt:=λy D=>by omega
 byte:=λk E=>by simp at E
 same:=λy z D=>by omega
 has:=λy D=>by omega
 from_:=λp i h=>by simp at h
 first:=λy D=>by omega
 inc:=λi j H G=>by simp at G
theorem Mt (h:FInv key x c bs f) (i:Nat) (hi:f (key x)=Δ i):FInv key (x+1) (λy=>if y=x then i else c y) bs f:=by
 obtain⟨z,D,E,rfl⟩:=h.from_ _ _ hi;refine⟨by have:=h.le;omega,λy G=>?_,λk T=>?_,λy I G U=>?_,λy G=>?_,λp i E=>?_,λy G=>?_,h.inc⟩
 ·split
  ·exact h.lt z D
  ·exact h.lt y (by omega)
 ·obtain⟨M,J⟩:=h.byte k T;rw[if_neg (by omega)];exact⟨by omega,J⟩
 ·by_cases e:y=x<;>by_cases H:I=x
  ·subst e;subst H;simp
  ·subst e;rw[if_pos rfl,if_neg H,h.same z I D (by omega),E]
  ·subst H;rw[if_neg e,if_pos rfl,h.same y z (by omega) D,E]
  ·rw[if_neg e,if_neg H];exact h.same y I (by omega) (by omega)
 ·by_cases e:y=x
  ·subst e;rw[if_pos rfl];exact hi
  ·rw[if_neg e];exact h.has y (by omega)
 ·obtain⟨y,G,M,J⟩:=h.from_ p i E;exact⟨y,by omega,M,by rw[if_neg (by omega)];exact J⟩
 ·by_cases e:y=x
  ·rw[if_pos e];have:=h.first z D;omega
  ·rw[if_neg e];exact h.first y (by omega)
theorem P5 [DecidableEq κ] (h:FInv key x c bs f) (hi:f (key x)=Γ) :
  FInv key (x+1) (λy=>if y=x then bs.length else c y) (bs++[x]) (λp=>if p=key x then Δ bs.length else f p):=by
 have M:∀ y,y<x->key y≠key x:=λy E he=>by
  have:=h.has y E;rw[he,hi] at this;cases this
 have T:(bs++[x]).length=bs.length+1:=by simp
 have U:(bs++[x]).getD bs.length 0=x:=by simp[Ζ]
 refine⟨by have:=h.le;omega,λy E=>?_,λk hk=>?_,λy H E af=>?_,λy E=>?_,λp i I=>?_,λy E=>?_,λi j aa hj=>?_⟩
 ·rw[T];split
  ·omega
  ·have:=h.lt y (by omega);omega
 ·rw[T] at hk;by_cases e:k=bs.length
  ·subst e;rw[U,if_pos rfl];exact⟨by omega,rfl⟩
  ·have ab:k<bs.length:=by omega
   obtain⟨G,D⟩:=h.byte k ab;rw[Bt _ _ _ _ ab,if_neg (by omega)];exact⟨by omega,D⟩
 ·by_cases e:y=x<;>by_cases J:H=x
  ·subst e;subst J;simp
  ·subst e;have G:=h.lt H (by omega);rw[if_pos rfl,if_neg J];exact⟨λD=>by omega,λD=>absurd D.symm (M H (by omega))⟩
  ·subst J;have G:=h.lt y (by omega);rw[if_neg e,if_pos rfl];exact⟨λD=>by omega,λD=>absurd D (M y (by omega))⟩
  ·rw[if_neg e,if_neg J];exact h.same y H (by omega) (by omega)
 ·by_cases e:y=x
  ·subst e;simp
  ·have G:=M y (by omega);rw[if_neg e,if_neg G];exact h.has y (by omega)
 ·by_cases e:p=key x
  ·simp only[e,if_true] at I;cases I
   exact⟨x,by omega,e,by rw[if_pos rfl]⟩
  ·simp only[e,if_false] at I;obtain⟨y,E,G,D⟩:=h.from_ p i I;exact⟨y,by omega,G,by rw[if_neg (by omega)];exact D⟩
 ·by_cases e:y=x
  ·rw[if_pos e,U];omega
  ·rw[if_neg e,Bt _ _ _ _ (h.lt y (by omega))];exact h.first y (by omega)
 ·rw[T] at hj;by_cases e:j=bs.length
  ·subst e;rw[U,Bt _ _ _ _ aa];exact (h.byte i aa).1
  ·rw[Bt _ _ _ _ (by omega),Bt _ _ _ _ (by omega)];exact h.inc i j aa (by omega)
end
structure MInv {κ:Type} (cell:Nat->Nat) (n:Nat) (key:Nat->κ) (b b':Nat) (c:Nat->Nat) (bs:List Nat) (f:κ->Option Nat) (O:List (Option Nat)) (C:List Cls):Prop where
 fi:FInv (λy=>key (cell y)) b c bs f
 lenO:O.length=n
 lenC:C.length=bs.length
 at_:∀ y,y<b->O.getD (cell y) Γ=Δ (c y)
 from_:∀ k i,O.getD k Γ=Δ i->∃ y,y<b/\cell y=k/\i=c y
 cls:∀ i,i<bs.length->∀ y,y<256->((C.getD i 0#256).getLsbD y=Ξ↔y<b'/\c y=i)
section
variable {κ:Type} {cell:Nat->Nat} {n:Nat} {key:Nat->κ} {b:Nat} {c:Nat->Nat} {bs:List Nat} {f:κ->Option Nat} {O:List (Option Nat)} {C:List Cls}
theorem Agk (cell:Nat->Nat) (n:Nat) (key:Nat->κ) (c:Nat->Nat):MInv cell n key 0 0 c [] (λ_=>Γ) (δ n Γ) [] where
 fi:=P4 _ c
 lenO:=by simp
 lenC:=rfl
 at_:=λy D=>by omega
 from_:=λk i h=>by
  rw[Ζ,ϧ] at h;split at h<;>simp at h
 cls:=λi hi=>by simp at hi
theorem Agl (h:MInv cell n key b b c bs f O C) (i:Nat) (hi:O.getD (cell b) Γ=Δ i):MInv cell n key (b+1) b (λy=>if y=b then i else c y) bs f O C:=by
 obtain⟨z,H,I,rfl⟩:=h.from_ _ _ hi;refine⟨Mt h.fi _ ?_,h.lenO,h.lenC,λy G=>?_,λk i J=>?_,λi hi y G=>?_⟩
 ·show f (key (cell b))=_;rw[<-I];exact h.fi.has z H
 ·by_cases e:y=b
  ·subst e;rw[if_pos rfl];exact hi
  ·rw[if_neg e];exact h.at_ y (by omega)
 ·obtain⟨y,G,E,D⟩:=h.from_ k i J;exact⟨y,by omega,E,by rw[if_neg (by omega)];exact D⟩
 ·rw[h.cls i hi y G];constructor
  ·rintro⟨E,D⟩;exact⟨E,by rw[if_neg (by omega)];exact D⟩
  ·rintro⟨E,D⟩;rw[if_neg (by omega)] at D;exact⟨E,D⟩
theorem Agn (h:MInv cell n key b b c bs f O C) (M:cell b<n) (hn:O.getD (cell b) Γ=Γ) (i:Nat) (hi:f (key (cell b))=Δ i) :
  MInv cell n key (b+1) b (λy=>if y=b then i else c y) bs f (O.set (cell b) (Δ i)) C:=by
 have ne:∀ y,y<b->cell y≠cell b:=λy E e=>by
  have:=h.at_ y E;rw[e,hn] at this;cases this
 have I:cell b<O.length:=by rw[h.lenO];exact M
 refine⟨Mt h.fi i hi,by rw[ύ];exact h.lenO,h.lenC,λy E=>?_,λk J G=>?_,λJ T y E=>?_⟩
 ·by_cases e:y=b
  ·subst e;rw[if_pos rfl,Bb _ _ _ _ _ I,if_pos rfl]
  ·rw[if_neg e,Bb _ _ _ _ _ I,if_neg (ne y (by omega))];exact h.at_ y (by omega)
 ·rw[Bb _ _ _ _ _ I] at G;by_cases e:k=cell b
  ·rw[if_pos e] at G;cases G
   exact⟨b,by omega,e.symm,by rw[if_pos rfl]⟩
  ·rw[if_neg e] at G;obtain⟨y,E,H,D⟩:=h.from_ k J G;exact⟨y,by omega,H,by rw[if_neg (by omega)];exact D⟩
 ·rw[h.cls J T y E];constructor
  ·rintro⟨H,D⟩;exact⟨H,by rw[if_neg (by omega)];exact D⟩
  ·rintro⟨H,D⟩;rw[if_neg (by omega)] at D;exact⟨H,D⟩
theorem Ago [DecidableEq κ] (h:MInv cell n key b b c bs f O C) (M:cell b<n) (hn:O.getD (cell b) Γ=Γ) (hi:f (key (cell b))=Γ) :
  MInv cell n key (b+1) b (λy=>if y=b then bs.length else c y) (bs++[b]) (λp=>if p=key (cell b) then Δ bs.length else f p) (O.set (cell b) (Δ bs.length)) (C++[0#256]):=by
 have ne:∀ y,y<b->cell y≠cell b:=λy G e=>by
  have:=h.at_ y G;rw[e,hn] at this;cases this
 have J:cell b<O.length:=by rw[h.lenO];exact M
 refine⟨P5 h.fi hi,by rw[ύ];exact h.lenO,by rw[Ο,Ο,h.lenC];rfl,λy G=>?_,λk H I=>?_,λH T y G=>?_⟩
 ·by_cases e:y=b
  ·subst e;rw[if_pos rfl,Bb _ _ _ _ _ J,if_pos rfl]
  ·rw[if_neg e,Bb _ _ _ _ _ J,if_neg (ne y (by omega))];exact h.at_ y (by omega)
 ·rw[Bb _ _ _ _ _ J] at I;by_cases e:k=cell b
  ·rw[if_pos e] at I;cases I
   exact⟨b,by omega,e.symm,by rw[if_pos rfl]⟩
  ·rw[if_neg e] at I;obtain⟨y,G,D,E⟩:=h.from_ k H I;exact⟨y,by omega,D,by rw[if_neg (by omega)];exact E⟩
 ·rw[Ο,List.length_singleton] at T;by_cases e:H=bs.length
  ·have U:(C++[0#256]).getD H 0#256=0#256:=by rw[e,<-h.lenC];exact Cm _ _ _
   rw[U];constructor
   ·intro D;simp at D
   ·rintro⟨D,E⟩;rw[if_neg (by omega)] at E;have:=h.fi.lt y D;omega
  ·rw[Bt _ _ _ _ (by rw[h.lenC];omega),h.cls H (by omega) y G];constructor
   ·rintro⟨D,E⟩;exact⟨D,by rw[if_neg (by omega)];exact E⟩
   ·rintro⟨D,E⟩;rw[if_neg (by omega)] at E;exact⟨D,E⟩
theorem Agm (h:MInv cell n key (b+1) b c bs f O C) (u:Cls) (hu:∀ y,y<256->(u.getLsbD y=Ξ↔y=b)) :
  MInv cell n key (b+1) (b+1) c bs f O (C.set (c b) (C.getD (c b) 0#256 ||| u)):=by
 refine⟨h.fi,h.lenO,by rw[ύ];exact h.lenC,h.at_,h.from_,λi hi y E=>?_⟩;have H:=h.fi.lt b (by omega);rw[Bb _ _ _ _ _ (by rw[h.lenC];exact H)];by_cases e:i=c b
 ·subst e;rw[if_pos rfl,BitVec.getLsbD_or,Æ,h.cls _ hi y E,hu y E];constructor
  ·rintro (⟨G,D⟩|rfl)
   ·exact⟨by omega,D⟩
   ·exact⟨by omega,rfl⟩
  ·rintro⟨G,D⟩;by_cases e:y=b
   ·exact .inr e
   ·exact .inl ⟨by omega,D⟩
 ·rw[if_neg e,h.cls i hi y E];constructor
  ·rintro⟨G,D⟩;exact⟨by omega,D⟩
  ·rintro⟨G,D⟩;refine⟨?_,D⟩;by_cases I:y=b
   ·subst I;exact absurd D.symm e
   ·omega
end
def Hj (t:Tbl) (B:Nat->Nat) (R:List Nat) (c:Nat):List UInt8:=Bh (λi=>B (t.ent2 (R.getD i 0) c)) R.length
theorem Vf {t:Tbl} (hv:TVal t) {B:Nat->Nat} {R:List Nat} (hB:∀ i,i<R.length->∀ k,k<t.cells->B (t.ent2 (R.getD i 0) k)<65536) {c:Nat->Nat} {bs:List Nat} {f:List UInt8->Option Nat} {O:List (Option Nat)} {C:List Cls}
  (h:MInv t.cell t.cells (Hj t B R) 256 256 c bs f O C):Merged t B R (bs.map t.cell) C:=by
 have bit:∀ y,y<256->(C.getD (c y) 0#256).getLsbD y=Ξ:=λy E=>(h.cls _ (h.fi.lt y E) y E).2 ⟨E,rfl⟩
 have ae:∀ i,i<bs.length->key (C.getD i 0#256)=bs.getD i 0:=λi hi=>by
  obtain⟨D,G⟩:=h.fi.byte i hi;refine V3 _ _ D ?_ λj I=>?_
  ·have:=bit _ D;rwa [G] at this
  ·rw[<-Bool.not_eq_true];intro J;obtain⟨_,M⟩:=(h.cls i hi j (by omega)).1 J;have:=h.fi.first j (by omega);rw[M] at this;omega
 have parts:Parts C:=by
  refine⟨λx hx=>?_,?_,λi hi=>⟨_,D9 _ _ _ (by rw[h.lenC];exact h.fi.lt i hi),bit i hi⟩⟩
  ·obtain⟨i,hi,rfl⟩:=Gj (d:=0#256) hx;rw[h.lenC] at hi;obtain⟨D,G⟩:=h.fi.byte i hi;have:=bit _ D;rw[G] at this;exact Gg this
  ·rw[ϯ];intro i j hi I af y ⟨D,G⟩;by_cases E:y<256
   ·have T:=(h.cls i (by rw[<-h.lenC];exact hi) y E).1 (by rw[Ζ,Μ hi];exact D);have U:=(h.cls j (by rw[<-h.lenC];exact I) y E).1 (by rw[Ζ,Μ I];exact G);omega
   ·rw[BitVec.getLsbD_of_ge _ _ (by omega)] at D;cases D
 have place:∀ y,y<256->Ak C y=c y:=λy E=>E1 parts E (by rw[h.lenC];exact h.fi.lt y E) (bit y E)
 have aa:∀ k,k<bs.length->(bs.map t.cell).getD k 0=t.cell (bs.getD k 0):=λk H=>by
  simp[Ζ,H]
 have ag:∀ y z,y<256->z<256->(Hj t B R (t.cell y)=Hj t B R (t.cell z)↔∀ i,i<R.length->B (t.ent2 (R.getD i 0) (t.cell y))=B (t.ent2 (R.getD i 0) (t.cell z))):=λy z E hz=>
  Kr _ _ _ (λi hi=>hB i hi _ (hv.cell_lt y E)) (λi hi=>hB i hi _ (hv.cell_lt z hz))
 refine⟨parts,?_,by rw[Ϗ,h.lenC],λk H=>?_,λb J i hi=>?_,λk k' H ab he=>?_⟩
 ·rw[ϯ];intro i j hi I af;have T:=ae i (by rw[<-h.lenC];exact hi);have U:=ae j (by rw[<-h.lenC];exact I);rw[Ζ,Μ hi] at T;rw[Ζ,Μ I] at U;simp only[à] at T U;have:=h.fi.inc i j af (by rw[<-h.lenC];exact I);rw[T,U];omega
 ·rw[Ϗ] at H;rw[aa k H];exact hv.cell_lt _ (h.fi.byte k H).1
 ·have ah:=h.fi.lt b J;rw[place b J,aa _ ah];obtain⟨D,G⟩:=h.fi.byte _ ah;exact (ag _ _ D J).1 ((h.fi.same _ _ D J).1 G) i hi
 ·rw[Ϗ] at H ab;obtain⟨D,G⟩:=h.fi.byte _ H;obtain⟨M,h4⟩:=h.fi.byte _ ab;rw[<-G,<-h4];refine (h.fi.same _ _ D M).2 ((ag _ _ D M).2 λi hi=>?_);have:=he i hi
  rwa [aa k H,aa k' ab] at this
open Go
section
variable {P:Program} {md:Region.Mode} {ops:Array Oper} {Q:Exit->Act->World->Prop} {C:World->Prop} {n:Nat}
def K4 (P:Program) (md:Region.Mode) (ops:Array ϸ) (Q:Exit->õ->Κ->Prop) (C:Κ->Prop) (n:Nat):Nat->Array Bool->õ->Κ->Prop
 | 0,listed,a,w=>Ê md ops listed=[]/\Q .normal a w
 | f+1,listed,a,w=>(Ê md ops listed=[]->Q .normal a w)/\
  ∀ i∈Ê md ops listed,wpOp P ops Q i (λD w'=>(i<n->C w')/\K4 P md ops Q C n f (listed.setIfInBounds i Ξ) D w') a w
theorem Y8:∀ (f:Nat) (listed:Array Bool) (a:õ) (w:Κ),K4 P md ops Q C n f listed a w->wpAny P md ops Q f listed a w
 | 0,_,_,_,h=>h
 | f+1,_,_,_,h=>⟨h.1,λi hi=>wpOp_mono (λ_ _ D=>Y8 f _ _ _ D.2) (h.2 i hi)⟩
theorem Am4 {i:Nat} {oi:ϸ} {v:Ρ} (hi:ops[i]? = Δ oi) (ab:∀ (j:Nat) (o:ϸ) cs b,ops[j]? = Δ o->o.op≠.select cs b)
  (hs:Region.sinkB md ops n=Ξ) (hc:Region.chainB md ops n=Ξ) (hn:n<ops.size) (ak:i<n)
  (hQ:∀ c a w,Q (.panic c) (a.put oi.dst v) w->Q (.panic c) a w) :
  ∀ (f:Nat) (listed:Array Bool) (a:õ) (w:Κ),HeadInv md ops n listed->
   (∀ j oj,ops[j]? = Δ oj->j≠i->listed.getD j Ξ=Τ->(∀ e∈oj.after,Region.binds md e=Ξ->e.on≠i)->oi.apart ops oj=Ξ)->
   i∈Ê md ops listed->YieldsIf P ops C oi v a->C w->
   K4 P md ops Q C n f (listed.setIfInBounds i Ξ) (a.put oi.dst v) w->K4 P md ops Q C n (f+1) listed a w:=by
 intro f;induction f with
 | zero=>
  intro listed a w _ _ E J I H;refine⟨λh=>(by rw[h] at E;cases E),λj G=>?_⟩;by_cases D:j=i
  ·subst D;exact J.wpOp hi I ⟨λ_=>I,H⟩
  ·have:=ready_mono G D;rw[H.1] at this;cases this
 | succ f ih=>
  intro listed a w ad ae E J I H;have af:=(mem_ready.1 E).1;refine⟨λh=>(by rw[h] at E;cases E),λj G=>?_⟩;by_cases D:j=i
  ·subst D;exact J.wpOp hi I ⟨λ_=>I,H⟩
  ·have U:j<n:=Nat.lt_of_not_le λh=>tail_waits hs hc hn ad _ i rfl ak af j h G
   have M:=H.2 j (ready_mono G D);obtain⟨ag,oj,aa,ao⟩:=mem_ready.1 G;have aq:∀ e∈oj.after,Region.binds md e=Ξ->e.on≠i:=λe he hb au=>by
    have M:=ao e he hb;rw[au,getD_both af] at M;cases M
   have h2:=wpOp_putIf aa (ae j oj aa D ag aq) (λcs b=>ab i oi cs b hi) (λcs b=>ab j oj cs b aa) hQ J M;have ax:∀ k ok,ops[k]? = Δ ok->k≠i->(listed.setIfInBounds j Ξ).getD k Ξ=Τ->
     (∀ e∈ok.after,Region.binds md e=Ξ->e.on≠i)->oi.apart ops ok=Ξ:=λk ok hk az ah a1=>by
    refine ae k ok hk az ?_ a1;by_cases ai:j=k
    ·subst ai;exact ag
    ·rw[getD_set_ne Ξ ai] at ah;exact ah
   refine wpOp_mono (λa' w' T=>⟨λ_=>T.2.1 U,ih (listed.setIfInBounds j Ξ) a' w' (ad.set G U) ax (ready_mono E (Ne.symm D)) T.1 (T.2.1 U) ?_⟩) h2;rw[Array.setIfInBounds_comm _ _ D];exact T.2.2
def Eo (P:Program) (ops:Array ϸ) (Q:Exit->õ->Κ->Prop) (C:Κ->Prop) (n:Nat):List (Nat × Bool)->õ->Κ->Prop
 | [],a,w=>Q .normal a w
 | (i,Ξ)::is,a,w=>∃ o v,ops[i]? = Δ o/\YieldsIf P ops C o v a/\Eo P ops Q C n is (a.put o.dst v) w
 | (i,Τ)::is,a,w=>wpOp P ops Q i (λD w'=>(i<n->C w')/\Eo P ops Q C n is D w') a w
def E4 (md:Region.Mode) (ops:Array ϸ) (n:Nat):List (Nat × Bool)->Array Bool->Bool
 | [],listed=>(Ê md ops listed).isEmpty
 | (i,Ξ)::is,listed=>(Ê md ops listed).contains i&&decide (i<n)&&Region.free md ops listed i&&E4 md ops n is (listed.setIfInBounds i Ξ)
 | (i,Τ)::is,listed=>decide (Ê md ops listed=[i])&&(is.isEmpty||decide (i<n))&&E4 md ops n is (listed.setIfInBounds i Ξ)
theorem Q3 (U:Region.noSelect ops=Ξ) (hs:Region.sinkB md ops n=Ξ) (hc:Region.chainB md ops n=Ξ) (hn:n<ops.size)
  (hQ:∀ c a tm w,Q (.panic c) { tmps:=tm,defers:=a.defers } w->Q (.panic c) a w):∀ (is:List (Nat × Bool)) (listed:Array Bool) (a:õ) (w:Κ),(is≠[]->HeadInv md ops n listed)->E4 md ops n is listed=Ξ->(is≠[]->C w)->
   Eo P ops Q C n is a w->K4 P md ops Q C n is.length listed a w
 | [],listed,a,w,_,D,_,h=>⟨by simpa [E4] using D,h⟩
 | (i,Ξ)::is,listed,a,w,G,D,H,⟨o,v,ho,hy,h⟩=>by
  simp only[E4,ϝ,decide_eq_true_eq] at D;obtain⟨⟨⟨I,J⟩,hf⟩,ad⟩:=D;have M:i∈Ê md ops listed:=by simpa using I
  have G:=G (by simp);have H:=H (by simp);exact Am4 ho (Region.noSelect_spec U) hs hc hn J (λc a w T=>by
    cases hd:o.dst with
    | none=>rw[hd] at T;exact T
    | some t=>rw[hd] at T;exact hQ c a _ w T) _ listed a w G (Region.free_spec ho hf) M hy H
   (Q3 U hs hc hn hQ is _ _ w (λ_=>G.set M J) ad (λ_=>H) h)
 | (i,Τ)::is,listed,a,w,G,D,H,h=>by
  simp only[E4,ϝ,decide_eq_true_eq,Æ,List.isEmpty_iff] at D;obtain⟨⟨I,J⟩,ad⟩:=D;have M:i∈Ê md ops listed:=by rw[I];simp
  refine⟨λh1=>(by rw[I] at h1;cases h1),λj hj=>?_⟩;rw[I] at hj;have:j=i:=by simpa using hj
  subst this;refine wpOp_mono (λa' w' h'=>⟨h'.1,Q3 U hs hc hn hQ is _ a' w' (λaf=>?_) ad (λaf=>?_) h'.2⟩) h
  ·rcases J with E|E
   ·exact absurd E af
   ·exact (G (by simp)).set M E
  ·rcases J with E|E
   ·exact absurd E af
   ·exact h'.1 E
def L0 (md:Region.Mode) (ops:Array ϸ) (n:Nat) (is:List (Nat × Bool)):Bool:=
 Region.noSelect ops&&Region.sinkB md ops n&&Region.chainB md ops n&&decide (n<ops.size)&&decide (is.length=ops.size)&&E4 md ops n is (Array.replicate ops.size Τ)
theorem B0 {id:Nat} {a:õ} {w:Κ} (n:Nat) (is:List (Nat × Bool)) (hm:P.follows .mixedOrders=Ξ) (D:L0 .any ops n is=Ξ) (H:∀ c a I w,Q (.panic c) { tmps:=I,defers:=a.defers } w->Q (.panic c) a w)
  (C:Κ->Prop) (J:C w.drew) (h:Eo P ops Q C n is a w.drew):(Code.region id ops Ξ).wp P Q a w:=by
 simp only[L0,ϝ,decide_eq_true_eq] at D;obtain⟨⟨⟨⟨⟨M,hs⟩,T⟩,hn⟩,E⟩,D⟩:=D;refine wp_region_any hm (Y8 (C:=C) (n:=n) _ _ _ _ ?_);rw[<-E];have U:HeadInv .any ops n (Array.replicate is.length Τ):=by
  rw[E];exact⟨by simp,λj oj _ G=>(by rw[ϭ] at G;cases G),λt _ ht=>getD_in (by simpa using ht) (ϭ _ _)⟩
 exact Q3 M hs T hn H is _ a _ (λ_=>U) (by rw[E];exact D) (λ_=>J) h
theorem B2 {a:õ} {w:Κ} (h:Q .normal a w):Eo P ops Q C n [] a w:=h
theorem En {i:Nat} {is:List (Nat × Bool)} {o:ϸ} {v:Ρ} {a:õ} {w:Κ} (D:ops[i]? = Δ o) (E:Ì o (yielded ops a.tmps)=Ξ) (G:∀ W,C W->(execOp a.eval o).run P W=.ok (.value v) W)
  (h:Eo P ops Q C n is (a.put o.dst v) w):Eo P ops Q C n ((i,Ξ)::is) a w:=⟨o,v,D,.inl ⟨E,G⟩,h⟩
theorem Co {i:Nat} {is:List (Nat × Bool)} {o:ϸ} {a:õ} {w:Κ} (G:ops[i]? = Δ o)
  (h:∀ K:õ->Κ->Prop,(∀ D w',(i<n->C w')->Eo P ops Q C n is D w'->K D w')->if Ì o (yielded ops a.tmps)=Ξ then ϸ.wp P o a w K Q else K (a.put o.dst undef) w):Eo P ops Q C n ((i,Τ)::is) a w:=by
 show wpOp P ops Q i _ a w;unfold wpOp;rw[G];have:=h _ (λD w' H I=>ã H I);show if _ then _ else _
 by_cases E:Ì o (yielded ops a.tmps)=Ξ
 ·rw[if_pos E] at this ⊢;exact .inl this
 ·rw[if_neg E] at this ⊢;exact this
end
def ov:Option Nat->Ρ
 | none=>.int ζ (-1)
 | some i=>iv i
theorem Afm (o:Option Nat):∃ z:Int,ov o=.int ζ z/\(o=Γ->z=-1)/\∀ i,o=Δ i->z=(i:Int):=by
 cases o with
 | none=>exact⟨-1,rfl,λ_=>rfl,λi h=>by cases h⟩
 | some i=>exact⟨i,rfl,(by intro h;cases h),λj h=>by cases h;rfl⟩
def Ea (n k:Nat):List (Option Nat):=(ι n).map λq=>if q<k then Γ else Δ 0
theorem Hf (n k:Nat):(Ea n k).length=n:=by simp[Ea]
theorem P7 (n:Nat):Ea n 0=δ n (Δ 0):=by
 apply ϡ;intro i;simp only[Ea,Ϟ,ϧ,Nat.not_lt_zero,if_false];by_cases h:i<n
 ·simp[h]
 ·simp[h]
theorem P9 (n:Nat):Ea n n=δ n Γ:=by
 apply ϡ;intro i;simp only[Ea,Ϟ,ϧ];by_cases h:i<n
 ·simp[h]
 ·simp[h]
theorem P8 (n k:Nat) (E:k<n):(Ea n k).set k Γ=Ea n (k+1):=by
 apply ϡ;intro i;rw[ϲ,Hf];simp only[Ea,Ϟ];by_cases h:i<n
 ·rw[List.getElem?_range h];by_cases e:k=i
  ·subst e;simp[E]
  ·simp only[e,if_false,Option.map_some];by_cases D:i<k
   ·rw[if_pos D,if_pos (by omega)]
   ·rw[if_neg D,if_neg (by omega)]
 ·rw[if_neg (by omega)];simp[h]
theorem Af1 (x:UInt8) (y:Nat) (D:y<256):(ofL [x]).getLsbD y=Ξ↔y=x.toNat:=by
 show (Bf 0#256 (x.toNat:Int)).getLsbD y=Ξ↔_;rw[Iz _ _ _ x.toNat_lt];simp
theorem Ahj (z:Nat) (D:z<65536):(Bo z).map bv=[.int .u8 ((z:Int) % 256),.int .u8 ((z:Int) / 256)]:=by
 simp only[Bo,List.map_cons,List.map_nil,bv,UInt8.toNat_ofNat'];rw[show z / 256 % 2 ^ 8=z / 256 by omega];simp
theorem Al9 (w:Κ) (x:UInt8):By (w.alloc (Ε #[bv x] 5)) (Β (Δ ⟨w.heap.size,0,Γ⟩) 1 1) [x]:=by
 refine⟨by simp,.inr ⟨by simp,w.heap.size,0,1,rfl,by rw[Λ];omega,λi hi=>?_⟩⟩;have:i<1:=by simpa using hi
 obtain rfl:i=0:=by omega
 exact Ω _ w.heap.size 0 _ _ _ (Ab w _)
theorem Al8 (w:Κ) (b:Nat):By (w.alloc (Ε #[.int .u8 (IntKind.u8.wrap (b:Int))] 5)) (Β (Δ ⟨w.heap.size,0,Γ⟩) 1 1) [χ b]:=
 Al9 w (χ b)
theorem Agt (t:Tbl) (hv:TVal t) (hn:t.n.length<=65536) (N R:List Nat) (hN:N.length=t.n.length) (hj:0<R.length) (jh:R.length<=65536) (eh:∀ i,i<R.length->R.getD i 0<t.n.length)
  (hB:∀ i,i<R.length->∀ k,k<t.cells->N.getD (t.ent2 (R.getD i 0) k) 0<65536) (A:Array Ρ) (vN vR:Ρ) (w:Κ) (h:IsT w A t) (ek:Ints w vN N) (en:Ints w vR R) :
  Calls Η 112 #[.agg A,vN,vR] w λe w'=>∃ vK vC K C,e=ν (.tuple #[vK,vC])/\Merged t (λs=>N.getD s 0) R K C/\Ints w' vK K/\Cs w' vC C/\Ext w w':=by
 obtain⟨bn,on,cn,ba,oa,ca,hl,hp,er,et,eu,_,hR,_⟩:=h.opened hv;have ew:Sl w vN 1 t.n.length (λi=>iv (N.getD i 0)):=by rw[<-hN];exact ek
 obtain⟨bN,oN,cN,rfl,ey⟩:=ä ew hv.pos;obtain⟨bR,oR,cR,rfl,ez⟩:=ä en hj;have jv:=hv.pos;have jw:=hv.cpos;have jx:=hv.cle;have HR:=Α hR;have HV:=Α hv;have e0:=Α hB;have hx:=Α eh;have h0:=Α (λk (hk:k<t.n.length)=>ey k (by omega));have h2:=Α (λk (hk:k<R.length)=>ez k (by omega));obtain⟨i0,hi,e2,e3,e4⟩:=ϕ Cg;obtain⟨i5,e6,e7,e8,e9⟩:=ϕ (show (Η.info? 5).map (λi=>(i.zero,i.size,i.bytes))=Δ (Δ (.int .u8 0),1,1) by kernel_rfl);obtain⟨i6,h4,h5,h6,h7⟩:=ϕ (show (Η.info? 62).map (λi=>(i.zero,i.size,i.bytes))=Δ (Δ (.agg zA),4,32) by kernel_rfl);have bx:=(Ι w).alloc (Ε A 108);have H0:=Ab w (Ε A 108);have HK:=Α (λ(W:Κ) (E:Ext (w.alloc (Ε A 108)) W)=>(Ω W w.heap.size 257 _ _ _ (E.heap H0)).trans eu);have fb:=Α (λ(W:Κ) (E:Ext (w.alloc (Ε A 108)) W)=>(Ω W w.heap.size 256 _ _ _ (E.heap H0)).trans et);have fc:=Α (λ(W:Κ) (E:Ext (w.alloc (Ε A 108)) W) (b:Nat) (hb:b<256)=>(Ω W w.heap.size b _ _ _ (E.heap H0)).trans (er b hb));clear hR hv h H0 et eu er hp hl ey ez ek ew en eh hB hN;have h8:=@run_makeMap Η;go_enter Tryz.func112,Tryz.ntmps112;go_upto_region 1 with (fail)
 obtain⟨w1,c9⟩:∃ W,w.alloc (Ε A 108)=W:=⟨_,rfl⟩;rw[c9] at bx HK fb fc;simp only[c9];clear c9;go_upto_region 2 with (fail)
 clear h8;have da:=(Ι w1).alloc (.map #[] 0);have ff:=Ke w1 9 Dj;have fg:(w1.alloc (.map #[] 0)).heap.size=w1.heap.size+1:=Λ _ _;obtain⟨w3,fh⟩:∃ W,w1.alloc (.map #[] 0)=W:=⟨_,rfl⟩;simp only[fh] at *;clear fh;have k6:=fb.out w3 da;go_upto_region 5 with (at_make;refine ϫ _ rfl _ _ 68 rfl w3.heap.size 3 i0 (.int ζ 0) 1 ϓ hi e2 e3 ζ ζ _ _ t.cells rfl rfl rfl rfl (by rw[e4];omega) (by unfold ϙ;omega) (θ _) ?_;intro w4 fj db)
 have aa:=da.grown db (λk e=>by cases e);have G:w4.ownsRow w3.heap.size 3 1 (Β (Δ ⟨w3.heap.size,0,Γ⟩) t.cells t.cells) t.cells ((Ea t.cells 0).map ov):=by rw[P7,<-B7];exact fj
 have ab:=ff.kept db (by simp);have af:w1.heap.size+1<w4.heap.size:=by have:w3.heap.size<w4.heap.size:=(G.lt _ rfl).2;omega
 rw[fg] at G;clear fj db ff da k6;generalize jy:w3.heap.size=gn at *;obtain rfl:gn=w1.heap.size+1:=fg;go_wp2_with (fail);go_loopw [27] (λi W=>∃ k:Nat,k<=t.cells/\i=.int ζ k/\Ext w1 W/\w1.heap.size+1<W.heap.size/\
   W.ownsRow (w1.heap.size+1) 3 1 (Β (Δ ⟨w1.heap.size+1,0,Γ⟩) t.cells t.cells) t.cells ((Ea t.cells k).map ov)/\IsMp W 9 Dj w1.heap.size 0 (λ_=>Γ))
  (λi _=>t.cells-(intOf i).toNat)
 case atStart=>exact⟨0,by omega,rfl,aa,af,G,ab⟩
 case round=>
  clear aa af G ab;obtain⟨k,hk,rfl,aa,af,G,ab⟩:=hrel;by_cases bf:k<t.cells
  ·have co:=Am Γ G (Hf _ _).symm k (by rw[Hf];exact bf);have fo:=G.frozenAt k;obtain⟨M,ag⟩:=Bj G k Γ;rw[P8 _ _ bf] at M;have I:=aa.grown ag (λk e=>by cases e;omega);have T:=ab.kept ag (by simp);have al:=ε af ag.size;clear ag G aa ab;go_wp2_with (fail);go_roundw
   case rel=>exact⟨k+1,by omega,by go_num,I,al,M,T⟩
   case measure=>simp[intOf];omega
  ·obtain rfl:k=t.cells:=by omega
   rw[P9] at G;have an:=Í wr (w1.heap.size+1+1) 3 1;have U:=Í wr (w1.heap.size+1+1) 62 4;go_wp2_with (fail);go_loopw [9,10,34] (λvk vc i W=>∃ (b:Nat) (bs:List Nat) (c:Nat->Nat) (f:List UInt8->Option Nat) (O:List (Option Nat)) (C:List Cls) (ak ac:Option Addr) (ck cc:Nat),b<=256/\i=.int ζ b/\vk=Β ak bs.length ck/\vc=Β ac C.length cc/\Ext w1 W/\w1.heap.size+1<W.heap.size/\
     W.ownsRow (w1.heap.size+1) 3 1 (Β (Δ ⟨w1.heap.size+1,0,Γ⟩) t.cells t.cells) t.cells (O.map ov)/\IsMp W 9 Dj w1.heap.size bs.length f/\
     W.ownsRow (w1.heap.size+1+1) 3 1 vk bs.length ((bs.map t.cell).map iv)/\Row W (w1.heap.size+1+1) vc C/\Ϻ (MInv t.cell t.cells (Hj t (λs=>N.getD s 0) R) b b c bs f O C))
    (λ_ _ i _=>256-(intOf i).toNat)
   case atStart=>exact⟨0,[],_,_,_,[],Γ,Γ,0,0,by omega,rfl,rfl,rfl,aa,af,G,ab,an,U,Α (Agk _ _ _ λ_=>0)⟩
   case round=>
    clear aa af G ab an U;obtain⟨b,bs,c,f,O,C,ak,ac,ck,cc,hb,rfl,rfl,rfl,aa,af,G,ab,an,U,J⟩:=hrel;have ic:=J.out.fi.le;have cg:=Α J.out.lenC;have ie:C.length<=256:=by rw[cg.out];omega
    by_cases bf:b<256
    ·obtain⟨w4,ig⟩:∃ W,W=wr:=⟨_,rfl⟩;subst ig;have kb:=fc.out w4 aa b bf;have ar:=HV.out.cell_lt b bf;have co:=Am Γ G J.out.lenO.symm (t.cell b) (by rw[J.out.lenO];exact ar);have HS:=Α (Agl J.out);have bg:=Α (Agn J.out ar);have bh:=Α (Ago J.out ar);obtain⟨q,hq⟩:∃ q,t.cell b=q:=⟨_,rfl⟩;have ax:Ϻ (O.length=t.cells):=Α J.out.lenO;rw[hq] at kb ar co HS bg bh;have HQ:=Α hq;clear hq;obtain⟨o,ho⟩:∃ o,O.getD q Γ=o:=⟨_,rfl⟩;rw[ho] at co HS bg bh;have HO:=Α ho;clear ho;obtain⟨z,hz,fm,fp⟩:=Afm o;rw[hz] at co;have fq:=Α fm;have fs:=Α fp;clear hz fm fp;go_upto_if 45 with (fail)
     go_cut [9,10] (λvk vc W=>∃ (bs:List Nat) (c:Nat->Nat) (f:List UInt8->Option Nat) (O:List (Option Nat)) (C:List Cls) (ak ac:Option Addr) (ck cc:Nat),vk=Β ak bs.length ck/\vc=Β ac C.length cc/\Ext w1 W/\w1.heap.size+1<W.heap.size/\
      W.ownsRow (w1.heap.size+1) 3 1 (Β (Δ ⟨w1.heap.size+1,0,Γ⟩) t.cells t.cells) t.cells (O.map ov)/\IsMp W 9 Dj w1.heap.size bs.length f/\
      W.ownsRow (w1.heap.size+1+1) 3 1 vk bs.length ((bs.map t.cell).map iv)/\Row W (w1.heap.size+1+1) vc C/\Ϻ (MInv t.cell t.cells (Hj t (λs=>N.getD s 0) R) (b+1) b c bs f O C))
     case first=>
      cases o with
      | some i=>
       have ij:=Α (HS.out i rfl);obtain rfl:=fs.out i rfl;go_wp2_with (fail);go_meet
       exact⟨bs,_,f,O,C,ak,ac,ck,cc,rfl,rfl,aa,af,G,ab,an,U,ij⟩
      | none=>
       obtain rfl:=fq.out rfl;go_upto_region 15 with (fail)
       go_upto_region 16 with (at_make;refine wpList_make_own _ rfl _ _ 22 rfl (w1.heap.size+1+1) 5 i5 (.int .u8 0) 1 Ϸ e6 e7 e8 ζ ζ _ (2*R.length) rfl rfl (by push_cast;rfl) (by rw[e9];omega) (by unfold ϙ;omega) (by omega) ?_;intro w5 ft ag)
       have I:=aa.grown ag (λk e=>by cases e);have M:=Cb G ag;have ah:=Cb an ag;have ai:=Cb U ag;have T:=ab.kept ag (by simp);have al:w1.heap.size+1<w5.heap.size:=ε af ag.size;obtain⟨gf,fu⟩:∃ gf:Nat->Nat,(λk=>N.getD (t.ent2 (R.getD k 0) q) 0)=gf:=⟨_,rfl⟩;have fv:=Α fu;have ae:w5.ownsRow (w1.heap.size+1+1) 5 1 (Β (Δ ⟨w4.heap.size,0,Γ⟩) (2*0) (2*R.length)) (2*0) ((Bh gf 0).map bv):=ft;clear fu ft ag kb co;go_wp2_with (fail);go_loopw [15,52] (λv i W=>∃ (k gk dg:Nat),k<=R.length/\i=.int ζ k/\v=Β (Δ ⟨gk,0,Γ⟩) (2*k) dg/\Ext w1 W/\w1.heap.size+1<W.heap.size/\
         W.ownsRow (w1.heap.size+1) 3 1 (Β (Δ ⟨w1.heap.size+1,0,Γ⟩) t.cells t.cells) t.cells (O.map ov)/\IsMp W 9 Dj w1.heap.size bs.length f/\
         W.ownsRow (w1.heap.size+1+1) 3 1 (Β ak bs.length ck) bs.length ((bs.map t.cell).map iv)/\Row W (w1.heap.size+1+1) (Β ac C.length cc) C/\
         W.ownsRow (w1.heap.size+1+1) 5 1 v (2*k) ((Bh gf k).map bv))
        (λ_ i _=>R.length-(intOf i).toNat)
       case atStart=>exact⟨0,w4.heap.size,_,by omega,rfl,rfl,I,al,M,T,ah,ai,ae⟩
       case round=>
        clear I al M T ah ai ae;obtain⟨k,gk,dg,hk,rfl,rfl,I,al,M,T,ah,ai,ae⟩:=hrel;obtain⟨w5,b4⟩:∃ W,W=wr:=⟨_,rfl⟩;subst b4;by_cases dh:k<R.length
        ·have cr:=(bx.trans I).cell (h2.out k dh);have dk:=hx.out k dh;have hz:=e0.out k dh q ar;obtain⟨s,dm⟩:∃ s,R.getD k 0=s:=⟨_,rfl⟩;have dn:Ϻ (gf k=N.getD (t.ent2 s q) 0):=Α (by rw[<-fv.out,<-dm]);rw[dm] at cr dk hz;clear dm;have fx:=HV.out.tgt s dk q ar;obtain⟨br,or',j0,ik,fy⟩:=(HR.out.ext (bx.trans I)) s dk;have cy:=fy q ar;have k7:=HK.out w5 I;obtain⟨y,ga⟩:∃ y,t.ent2 s q=y:=⟨_,rfl⟩;rw[ga] at cy fx hz dn;clear ga fy;have cz:=(bx.trans I).cell (h0.out y fx);obtain⟨z,gd⟩:∃ z,N.getD y 0=z:=⟨_,rfl⟩;rw[gd] at hz dn cz;clear gd;go_upto_region 20 with (fail)
         clear cr cy cz ik k7;go_upto_region 21 with (at_builtin;refine ϐ _ rfl _ _ 22 rfl (w1.heap.size+1+1) 5 i5 (.int .u8 0) 1 1 Ϸ e6 e7 e8 e9 rfl (by decide) _ _ _ rfl (ae.alloc _) _ 2 2 [.int .u8 ((z:Int) % 256),.int .u8 ((z:Int) / 256)] rfl rfl (Jc _ _ _ _) (by simp[ϊ]) (by decide) (by unfold ϙ;omega) (by omega) (by simp;omega) _ rfl ?_;intro g6 c6 w6 dp H _ _)
         have az:Ext w1 w6:=(I.alloc _).grown H (λk e=>by have:=(ae.lt k e).1;omega);have bj:=(M.alloc _).kept H (Ai M ae (by decide));have au:=(ah.alloc _).kept H (Ai ah ae (by decide));have bc:=(ai.alloc _).kept H (Ai ai ae (by decide));have bk:=(T.alloc _).kept H (T.ne_row ae);have b7:w1.heap.size+1<w6.heap.size:=by
          have h1:=H.size;rw[Λ] at h1;omega
         have dp:w6.ownsRow (w1.heap.size+1+1) 5 1 (Β (Δ ⟨g6,0,Γ⟩) (2*(k+1)) c6) (2*(k+1)) ((Bh gf (k+1)).map bv):=by
          rw[show Bh gf (k+1)=Bh gf k++Bo z by rw[Bh,dn.out],ϔ,Ahj z hz];exact dp
         clear M ah ai T ae H I al;go_wp2;go_roundw
         case rel=>exact⟨k+1,g6,c6,by omega,by go_num,rfl,az,b7,bj,bk,au,bc,dp⟩
         case measure=>simp[intOf];omega
        ·obtain rfl:k=R.length:=by omega
         have bl:(Bh gf R.length).length=2*R.length:=Jb _ _;have dq:Hj t (λs=>N.getD s 0) R q=Bh gf R.length:=by
          show Bh (λk=>N.getD (t.ent2 (R.getD k 0) q) 0) R.length=_;rw[fv.out]
         obtain⟨ky,gh⟩:∃ ky,Bh gf R.length=ky:=⟨_,rfl⟩;rw[gh] at bl dq ae;have dr:=Α dq;clear gh dq;have iq:(convert 22 9 (Β (Δ ⟨gk,0,Γ⟩) (2*R.length) dg)).run Η w5=.ok (Dj ky) w5:=Ib _ _ _ (By.of_owns (by rw[bl];exact ae) (by rw[bl];omega));have dt:=Nt ky (by rw[bl];unfold ϙ;omega);have j1:=Α bl;clear bl;have bg:=Α (bg.out (by simp));have bh:=Α (bh.out (by simp));cases hf:f ky with
         | some i=>
          have bm:=Α (bg.out i (by rw[dr.out];exact hf));have co:=Am Γ M ax.out.symm q (by rw[ax.out];exact ar);have fo:=M.frozenAt q;obtain⟨bj,H⟩:=Bj M q (Δ i);have az:=I.grown H (λk e=>by cases e;omega);have au:=ah.kept H (Aq ah (by omega));have bc:=ai.kept H (Aq ai (by omega));have bk:=T.kept H (by simp);have b7:=ε al H.size;clear H ah M ai I al;go_wp2_with (at_lookup;refine Er rfl _ _ 155 rfl Fy ñ rfl T ky rfl dt ?_;rw[hf];dsimp only [Option.isSome,Option.getD]);go_meet
          exact⟨bs,_,f,_,C,ak,ac,ck,cc,rfl,rfl,az,b7,bj,bk,au,bc,bm⟩
         | none=>
          have bm:=bh.out (by rw[dr.out];exact hf);rw[dr.out] at bm;have bm:=Α bm;go_upto_region 25 with (at_lookup;refine Er rfl _ _ 155 rfl Fy ñ rfl T ky rfl dt ?_;rw[hf];dsimp only [Option.isSome,Option.getD])
          go_upto_region 26 with (at_mapUpdate;refine Jm rfl _ _ _ 155 rfl Fy ñ rfl T (by unfold ϙ;omega) Nu ky rfl dt bs.length rfl (by omega) ?_;intro w6 bk H)
          clear iq;have bj:=M.kept H (T.far M);have au:=ah.kept H (T.far ah);have bc:=ai.kept H (T.far ai);have az:=I.grown H (λk e=>by cases e;omega);have b7:=ε al H.size;clear H ah M ai I al T ae;go_upto_region 27 with (at_builtin;refine ϐ _ rfl _ _ 68 rfl (w1.heap.size+1+1) 3 i0 (.int ζ 0) 1 8 ϓ hi e2 e3 e4 rfl (by decide) _ _ _ rfl (au.alloc _) _ 1 1 [iv q] rfl rfl (Ϫ _ _ _) (by simp[ϊ]) (by decide) (by unfold ϙ;omega) (by omega) (by simp;omega) _ rfl ?_;intro g7 c7 w7 gi bp _ _)
          have dv:=(bj.alloc (Ε #[iv q] 3)).kept bp (.inr (λe=>by have:=(au.lt (w1.heap.size+1) e.symm).1;omega));have aw:=(bc.alloc (Ε #[iv q] 3)).kept bp (Ai bc au (by decide));have gj:=(bk.alloc (Ε #[iv q] 3)).kept bp (λe=>by have:=(au.lt w1.heap.size e.symm).1;omega);have cl:=(az.alloc (Ε #[iv q] 3)).grown bp (λk e=>by have:=(au.lt k e).1;omega);have ir:w1.heap.size+1<w7.heap.size:=by
           have:=bp.size;rw[Λ] at this;omega
          have dw:Ϻ (w7.ownsRow (w1.heap.size+1+1) 3 1 (Β (Δ ⟨g7,0,Γ⟩) (bs++[b]).length c7) (bs++[b]).length (((bs++[b]).map t.cell).map iv)):=Α (by
           rw[Ο,ϔ,ϔ,List.map_singleton,List.map_singleton,HQ.out];exact gi)
          clear bp au bj bc az b7 bk;have dx:=Lw w7 0#256;rw[Gn] at dx;have gl:=Α dx;clear dx;go_upto_region 28 with (at_builtin;refine ϐ _ rfl _ _ 26 rfl (w1.heap.size+1+1) 62 i6 (.agg zA) 4 32 Tryz.underlying26 h4 h5 h6 h7 rfl (by decide) _ _ _ rfl (aw.alloc _) _ 1 1 (Cj 0#256) rfl rfl gl.out (by simp[Cj,ϊ]) (by decide) (by unfold ϙ;omega) (by omega) (by simp;omega) _ rfl ?_;intro g8 c8 w8 cb bq _ _)
          have bt:=(dv.alloc (Ε zA 62)).kept bq (Ai dv aw (by decide));have ea:Ϻ (w8.ownsRow (w1.heap.size+1+1) 3 1 (Β (Δ ⟨g7,0,Γ⟩) (bs++[b]).length c7) (bs++[b]).length (((bs++[b]).map t.cell).map iv)):=Α ((dw.out.alloc (Ε zA 62)).kept bq (Ai dw.out aw (by decide)));have cm:=(gj.alloc (Ε zA 62)).kept bq (λe=>by have:=(aw.lt w1.heap.size e.symm).1;omega);have cp:=(cl.alloc (Ε zA 62)).grown bq (λk e=>by have:=(aw.lt k e).1;omega);have cq:w1.heap.size+1<w8.heap.size:=by
           have:=bq.size;rw[Λ] at this;omega
          have eb:Ϻ (Row w8 (w1.heap.size+1+1) (Β (Δ ⟨g8,0,Γ⟩) (C++[0#256]).length c8) (C++[0#256])):=Α (by
           show ϛ _ _ _ _ _ _ _;rw[Ms,Mr,Ο];exact cb)
          clear bq dv aw cl ir gj dw gl cb gi;have co:=Am Γ bt ax.out.symm q (by rw[ax.out];exact ar);have fo:=bt.frozenAt q;obtain⟨iu,bu⟩:=Bj bt q (Δ bs.length);have iw:=cp.grown bu (λk e=>by cases e;omega);have ix:=Α (ea.out.kept bu (Aq ea.out (by omega)));have iy:=Α (eb.out.kept bu (Aq eb.out (by omega)));have iz:=cm.kept bu (by simp);have ja:=ε cq bu.size;clear bu bt cp cq cm ea eb;go_wp2;go_meet
          refine⟨bs++[b],_,_,_,C++[0#256],Δ ⟨g7,0,Γ⟩,Δ ⟨g8,0,Γ⟩,c7,c8,?_,?_,iw,ja,iu,?_,?_,?_,bm⟩
          ·rw[Ο];rfl
          ·rw[Ο];rfl
          ·rw[Ο];exact iz
          ·have:=ix.out;rw[show (bs++[b]).length=bs.length+1 by simp] at this ⊢;exact this
          ·have h9:=iy.out;show ϛ _ _ _ _ _ _ _;have h9:ϛ _ _ _ _ _ _ _:=h9;rw[show (C++[0#256]).length=C.length+1 by simp] at h9 ⊢;exact h9
     case rest=>
      clear aa af G ab an U J HS bg bh HO ax fq fs co kb ic cg ie;obtain⟨bs,c,f,O,C,ak,ac,ck,cc,rfl,rfl,aa,af,G,ab,an,U,J⟩:=hcut;have gp:=J.out.fi.lt b (by omega);have cu:=J.out.at_ b (by omega);rw[HQ.out] at cu;have cg:=Α J.out.lenC;have HP:=Α (Agm J.out (ofL [χ b]) λy hy=>by rw[Af1 _ _ hy,u8n b bf]);have ax:Ϻ (O.length=t.cells):=Α J.out.lenO;obtain⟨i,hid⟩:∃ i,c b=i:=⟨_,rfl⟩;rw[hid] at gp cu HP;have gq:i<C.length:=by rw[cg.out];exact gp
      have co:=Am Γ G ax.out.symm q (by rw[ax.out];exact ar);rw[cu] at co;replace co:wc.cell? ⟨w1.heap.size+1,q,Γ⟩=Δ (iv i):=co;clear hid cu J;obtain⟨g,rfl⟩:=Oq U (by omega);obtain⟨a0,a1,a2,a3⟩:=Kj U i gq;have cd:∀ W,Ext wc W->∀ j,W.frozen? ⟨g,j,Γ⟩=Τ:=λW E j=>(Ah U E).frozenAt j
      obtain⟨D,hD⟩:∃ D,C.getD i 0#256=D:=⟨_,rfl⟩;rw[hD] at a0 a1 a2 a3 HP;clear hD;have bw:∀ W,Ext wc W->Ext wc W/\W.cell? ⟨w1.heap.size+1,q,Γ⟩=Δ (iv i)/\W.cell? ⟨g,i*4,Γ⟩=Δ (.int π (wd D 0))/\W.cell? ⟨g,i*4+1,Γ⟩=Δ (.int π (wd D 1))/\W.cell? ⟨g,i*4+2,Γ⟩=Δ (.int π (wd D 2))/\W.cell? ⟨g,i*4+3,Γ⟩=Δ (.int π (wd D 3))/\
        W.frozen? ⟨g,i*4,Γ⟩=Τ/\W.frozen? ⟨g,i*4+1,Γ⟩=Τ/\W.frozen? ⟨g,i*4+2,Γ⟩=Τ/\W.frozen? ⟨g,i*4+3,Γ⟩=Τ:=
       λW E=>⟨E,E.cell co,E.cell a0,E.cell a1,E.cell a2,E.cell a3,cd W E _,cd W E _,cd W E _,cd W E _⟩
      have jc:=bw wc (Ι wc);have E:=λW=>Α (R4 D (ofL [χ b]) W)
      clear cd co a0 a1 a2 a3;go_upto_region 29 with (fail)
      refine B0 18 [(0,Ξ),(1,Ξ),(2,Ξ),(3,Ξ),(4,Ξ),(5,Ξ),(6,Ξ),(7,Ξ),(8,Ξ),(9,Ξ),(10,Ξ),(11,Ξ),(12,Ξ),(13,Ξ),(14,Τ),(15,Τ),(16,Τ),(17,Τ),(18,Τ)] (by kernel_rfl) (by kernel_rfl) (λ_ _ _ _ h=>h)
       (λW=>Ext wc W/\W.cell? ⟨w1.heap.size+1,q,Γ⟩=Δ (iv i)/\W.cell? ⟨g,i*4,Γ⟩=Δ (.int π (wd D 0))/\W.cell? ⟨g,i*4+1,Γ⟩=Δ (.int π (wd D 1))/\W.cell? ⟨g,i*4+2,Γ⟩=Δ (.int π (wd D 2))/\W.cell? ⟨g,i*4+3,Γ⟩=Δ (.int π (wd D 3))/\
        W.frozen? ⟨g,i*4,Γ⟩=Τ/\W.frozen? ⟨g,i*4+1,Γ⟩=Τ/\W.frozen? ⟨g,i*4+2,Γ⟩=Τ/\W.frozen? ⟨g,i*4+3,Γ⟩=Τ) (bw _ (Ι wc).drew) ?_
      have I:=(Ι wc).drew;obtain⟨w5,b4⟩:∃ W,wc.drew=W:=⟨_,rfl⟩;rw[b4] at I;rw[b4];clear b4 jc;iterate 14
       refine En (v:=?_) rfl rfl (λW E=>?_) ?_
       rotate_left
       ·obtain⟨_,c0,c1,c2,c3,c4,c5,c6,c7,c8⟩:=E;go_simp;first|done|with_reducible rfl
       simp only[õ.put,List.setIfInBounds_toArray,List.set_cons_zero,List.set_cons_succ]
      refine Co rfl (λK hK=>?_);go_simp;refine hK _ _ (λ_=>bw _ (I.alloc _)) ?_;clear hK K;refine Co rfl (λK hK=>?_);go_simp;with_reducible refine (Uv [χ b] _ _ (Al8 w5 b)).mono ?_
      rintro e w6 ⟨rfl,az⟩;have gz:=(I.alloc (Ε #[.int .u8 (IntKind.u8.wrap (b:Int))] 5)).trans az;refine hK _ _ (λ_=>bw _ gz) ?_;clear hK K;refine Co rfl (λK hK=>?_);go_simp;with_reducible refine (E _).out.mono ?_
      rintro e w7 ⟨rfl,cl⟩;have a7:=gz.trans cl;have hc:=bw _ a7;refine hK _ _ (λ_=>hc) ?_;clear hK K;obtain⟨_,c0,c1,c2,c3,c4,c5,c6,c7,c8⟩:=hc;refine Co rfl (λK hK=>?_);go_simp;refine hK _ _ (λ_=>bw _ a7) ?_;clear hK K;refine Co rfl (λK hK=>?_);go_simp;refine hK _ _ (λh=>absurd h (by omega)) ?_;clear hK K c0 c1 c2 c3 c4 c5 c6 c7 c8;refine B2 ?_;have aw:=Ah U a7;have hr:=J0 aw i gq (D ||| ofL [χ b]);have cp:=(aa.trans a7).grown hr.2 (λk e=>by cases e;have:=(U.lt g rfl).1;omega);have bt:=(Ah G a7).kept hr.2 (Ai G U (by decide));have jd:=(Ah an a7).kept hr.2 (Ai an U (by decide));have cm:=(ab.ext a7).kept hr.2 (ab.ne_row U);have cq:=ε (ε af a7.size) hr.2.size;have cb:Row (w7.setCells g (i*4) (Aa (D ||| ofL [χ b])).toList) (w1.heap.size+1+1) (Β (Δ ⟨g,0,Γ⟩) (C.set i (D ||| ofL [χ b])).length cc) (C.set i (D ||| ofL [χ b])):=by
       have:=hr.1;show ϛ _ _ _ _ _ _ _;rw[show Row _ _ _ _=ϛ _ _ _ _ _ _ _ from rfl,ύ] at this;rw[ύ];exact this
      have hh:(C.set i (D ||| ofL [χ b])).length=C.length:=ύ;rw[hh] at cb;clear hr aw;go_wp2;go_roundw
      case rel=>exact⟨b+1,bs,c,f,O,C.set i (D ||| ofL [χ b]),ak,Δ ⟨g,0,Γ⟩,ck,cc,by omega,by go_num,rfl,by rw[hh],cp,cq,bt,cm,jd,cb,HP⟩
      case measure=>simp[intOf];omega
    ·obtain rfl:b=256:=by omega
     have je:=Α (Vf HV.out e0.out J.out);have jf:Ints wr (Β ak bs.length ck) (bs.map t.cell):=OwnI.ints (base:=w1.heap.size+1+1) (by
      show ϛ _ _ _ _ _ _ _;rw[Ϗ];exact an) (by rw[Ϗ];omega)
     have jg:=U.toCs (by omega);clear J;go_wp2;go_ret2;exact⟨_,_,bs.map t.cell,C,rfl,je.out,jf,jg,bx.trans aa⟩
theorem Ad3 (t:Tbl) (hv:TVal t) (hn:t.n.length<=65536) (A:Array Ρ) (w:Κ) (h:IsT w A t) :
  Calls Η 111 #[.agg A] w λe w'=>∃ v l,e=ν v/\Reached t l/\Ints w' v l/\Ext w w':=by
 obtain⟨bn,on,cn,ba,oa,ca,bz,b0,_,_,a6,_,hR,_⟩:=h.opened hv;have b4:=hv.pos;have df:=hv.cpos;have dg:=hv.cle;have HR:=Α hR;have HV:=Α hv;obtain⟨i0,hi,b7,b8,b9⟩:=ϕ Cg;obtain⟨j0,hj,cf,cg,ch⟩:=ϕ Dt;have al:=(Ι w).alloc (Ε A 108);have H0:=Ab w (Ε A 108);have HK:=Α (λ(W:Κ) (hW:Ext (w.alloc (Ε A 108)) W)=>(Ω W w.heap.size 257 _ _ _ (hW.heap H0)).trans a6);clear hR hv h H0 a6 b0 bz;go_enter Tryz.func111,Tryz.ntmps111;go_upto_region 1 with (fail)
 generalize w.alloc (Ε A 108)=w1 at *;have k1:=HK.out w1 (Ι w1);go_upto_region 2 with (at_make;refine ϫ _ rfl _ _ 28 rfl w1.heap.size 4 j0 (.bool Τ) 1 Tryz.underlying28 hj cf cg ζ ζ _ _ t.n.length rfl rfl rfl rfl (by rw[ch];omega) (by unfold ϙ;omega) (θ _) ?_;intro w2 bc bd)
 have ck:Ext w1 w2:=(Ι w1).grown bd (λk e=>by cases e);have aa:w2.ownsRow w1.heap.size 4 1 (Β (Δ ⟨w1.heap.size,0,Γ⟩) t.n.length t.n.length) t.n.length ((D6 t.n.length []).map ο):=by rw[Tb,<-B7];exact bc
 have cs:=Am Τ aa (Gd _ _).symm 0 (by rw[Gd];exact b4);have fs:=aa.frozenAt 0;obtain⟨be,bf⟩:=Bj aa 0 Ξ;rw[Lo,List.nil_append] at be;have bg:=ck.grown bf (λk e=>by cases e;exact θ _);clear bc bd k1 aa bf;go_upto_region 3 with (fail)
 clear cs fs;obtain⟨w3,bj⟩:∃ W,w2.setCell ⟨w1.heap.size,0,Γ⟩ (.bool Ξ)=W:=⟨_,rfl⟩;simp only[bj] at *;clear bj;have cp:=bg.alloc (Ε #[.int ζ 0] 3);have ct:=be.alloc (Ε #[.int ζ 0] 3);have cu:=Κ.ownsRow_lit (base:=w1.heap.size) (e:=3) (size:=1) w3 #[.int ζ 0] 1 bg.size (by unfold ϙ;omega) rfl;generalize bk:w1.heap.size=E at *;have bl:=Α bk;clear bk;go_wp2_with (fail);go_loopw [4,5] (λv i W=>∃ (l:List Nat) (k g c:Nat),k<=l.length/\i=.int ζ k/\v=Β (Δ ⟨g,0,Γ⟩) l.length c/\Ext w1 W/\OwnI W E v l/\
   W.ownsRow E 4 1 (Β (Δ ⟨E,0,Γ⟩) t.n.length t.n.length) t.n.length ((D6 t.n.length l).map ο)/\Ϻ (BInv t l k 0))
  (λ_ i _=>t.n.length-(intOf i).toNat)
 case atStart=>exact⟨[0],0,w3.heap.size,1,by omega,rfl,rfl,cp,cu,ct,Α (Yy HV.out)⟩
 case round=>
  obtain⟨l,k,g,c,hk,rfl,rfl,hE,M,hS,HI⟩:=hrel;have dk:=HI.out.le;by_cases aq:k<l.length
  ·have cl:=Be (Am 0 M rfl k aq);have ar:=HI.out.lt _ (D9 l k 0 aq);obtain⟨s,au⟩:∃ s,l.getD k 0=s:=⟨_,rfl⟩;rw[au] at cl ar;have cv:=Α au;clear au;obtain⟨br,or',cr,bo,bp⟩:=HR.out s ar;have cw:=Be ((al.trans hE).cell bo);have k1:=Be (HK.out wr hE);have cx:=Α bp;clear bo bp;go_upto_region 7 with (fail)
   refine Dx (by kernel_rfl) (by kernel_rfl) ?_;iterate 10 (with_reducible refine wpQuiet_step (λK hK=>?_);go_simp;(refine hK _ ?_;clear hK K))
   refine wpQuiet_nil ?_;rintro _ ⟨e,rfl⟩;clear cl cw k1;have cy:=hE.trans e.ext;have M:=Ah M e.ext;have hS:=Ah hS e.ext;generalize e.W=w5 at *;have cz:w1.heap.size<=E:=å bl.out;have dq:E<=w1.heap.size:=å bl.out.symm;go_wp2_with (fail);go_loopw [4,30] (λv i W=>∃ (D:List Nat) (q g' c':Nat),q<=t.cells/\i=.int ζ q/\v=Β (Δ ⟨g',0,Γ⟩) D.length c'/\Ext w1 W/\OwnI W E v D/\
     W.ownsRow E 4 1 (Β (Δ ⟨E,0,Γ⟩) t.n.length t.n.length) t.n.length ((D6 t.n.length D).map ο)/\Ϻ (BInv t D k q)/\Ϻ (k<D.length/\D.getD k 0=s))
    (λ_ i _=>t.cells-(intOf i).toNat)
   case atStart=>exact⟨l,0,g,c,by omega,rfl,rfl,cy,M,hS,HI,Α ⟨aq,cv.out⟩⟩
   case round=>
    obtain⟨D,q,g',c',hq,rfl,rfl,T,U,H,ag,G⟩:=hrel;have dt:=ag.out.le;by_cases aw:q<t.cells
    ·have cq:=(al.trans T).cell (cx.out q aw);have ax:=HV.out.tgt s ar q aw;obtain⟨x,ay⟩:∃ x,t.ent2 s q=x:=⟨_,rfl⟩;rw[ay] at cq ax;have az:=Α ay;clear ay;have ah:=Am Τ H (Gd _ _).symm x (by rw[Gd];exact ax);rw[Tc _ _ _ ax] at ah;have c1:=H.frozenAt x;have du:=T.size;by_cases I:x∈D
     ·rw[decide_eq_true I] at ah;have J:=Α (Yz ag.out (by rw[G.out.2,az.out];exact I));clear I;go_wp2;go_roundw
      case rel=>exact⟨D,q+1,g',c',by omega,by go_num,rfl,T,U,H,J,G⟩
      case measure=>simp[intOf];omega
     ·rw[decide_eq_false I] at ah;have J:=Α (Y1 HV.out ag.out G.out.1 aw (by rw[G.out.2,az.out];exact I));rw[G.out.2,az.out] at J;clear I;obtain⟨ai,bu⟩:=Bj H x Ξ;rw[Lo] at ai;have aj:=U.kept bu (Ai U H (by decide));have bw:=T.grown bu (λk e=>by cases e;exact cz);go_upto_region 12 with (fail)
      obtain⟨w6,bx⟩:∃ W,wr.setCell ⟨E,x,Γ⟩ (.bool Ξ)=W:=⟨_,rfl⟩;simp only[bx] at *;clear bx ah c1 H U cq;have dw:=bw.size;go_wp2_with (at_builtin;refine ϐ _ rfl _ _ 68 rfl E 3 i0 (.int ζ 0) 1 8 ϓ hi b7 b8 b9 rfl (by decide) _ _ _ rfl (aj.alloc _) _ 1 1 [iv x] rfl rfl (Ϫ _ _ _) (by simp[ϊ]) (by decide) (by unfold ϙ;omega) (by omega) (by simp;omega) _ rfl ?_);intro g7 c7 w7 c4 a1 _ _;have c5:=(ai.alloc (Ε #[iv x] 3)).kept a1 (Ai ai aj (by decide));have c6:=(bw.alloc (Ε #[iv x] 3)).grown a1 (λk e=>by have:=(aj.lt k e).1;omega);clear a1 aj ai;go_wp2;go_roundw
      case rel=>
       refine⟨D++[x],q+1,g7,c7,by omega,by go_num,by rw[Ο];rfl,c6,?_,c5,J,Α ⟨by rw[Ο];have:=G.out.1;omega,by rw[Bt _ _ _ _ G.out.1];exact G.out.2⟩⟩;show ϛ _ _ _ _ _ _ _;rw[Ο,ϔ];exact c4
      case measure=>simp[intOf];omega
    ·obtain rfl:q=t.cells:=by omega
     have J:=Α (Y0 ag.out);go_wp2;go_roundw
     case rel=>exact⟨D,k+1,g',c',by have:=G.out.1;omega,by go_num,rfl,T,U,H,J⟩
     case measure=>simp[intOf];omega
  ·obtain rfl:k=l.length:=by omega
   have c8:=Α (Y2 HI.out);go_wp2;go_ret;exact⟨_,l,rfl,c8.out,M.ints (by omega),al.trans hE⟩
end Go.Proofs.YtaiogolidlamiaaGreatDoor
