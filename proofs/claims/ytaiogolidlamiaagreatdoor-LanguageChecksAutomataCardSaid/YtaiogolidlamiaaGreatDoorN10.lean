import Derived.Test.YtaiogolidlamiaaGreatDoorN09
import Derived.Test.YtaiogolidlamiaaGreatDoorN06
import Derived.Test.YtaiogolidlamiaaGreatDoorN08
import Derived.Test.YtaiogolidlamiaaGreatDoorN07
set_option linter.unusedVariables false
set_option linter.unusedSimpArgs false
open Bool renaming eq_iff_iff → ϯ, true → Ξ, false → Τ
open Go renaming World → Λ, Value → Ν, TypeId → Á, heap_alloc2_new → Ϗ, wpList_load_row → Ο, wpList_store_row → Φ, setRow_heap → μ, bodyPost_ret → ω, info_parts → Ϟ, size_setRow → ò, cell_of_row → γ, frozen_of_row → Ϸ, setCell_eq_setRow → Ϧ, wpList_append_lies → Ϙ, cell_one_new → ϭ
open Go.IntKind renaming i64 → ε
open Go.Lib renaming hid → Α
open Go.Obj renaming cells → Ε
open Go.Operand renaming tmp → η
open Go.Proofs.Tryz renaming prog → Ζ, underlying30 → Κ, zeroCells108 → ξ
open Go.RowKit renaming Hid → À
open Go.Value renaming slice → Β, tuple → ϙ, oneCell' → ό, slice → Ϥ
open Go.World renaming size_alloc → Ρ, ownsRow_nil → Ô, ownsRow → Ϡ
open List renaming range → ι, mem_range → υ, eq_nil_of_length_eq_zero → Ð, mem_cons → Ú, mem_singleton → ϴ, replicate → ζ, ext_getElem? → ϥ, getElem?_map → ϕ, getElem?_replicate → Ϭ, getElem?_set → Ï, getElem?_range → Õ, map_congr_left → Í, length_append → Υ, map_append → ϝ
open List.Pairwise renaming imp_of_mem → á
open Nat renaming le_trans → ψ, le_refl → ν, lt_of_lt_of_le → δ
open Option renaming some → Δ, none → Γ
open Option.some renaming inj → ύ
namespace Go.Proofs.YtaiogolidlamiaaGreatDoor
set_option maxRecDepth 100000
set_option maxHeartbeats 4000000
def Fy (p:UInt8->Prop):Bi:=λw=>∃ x:UInt8,w=[x]/\p x
theorem Jb {d:Dfa} {L:Bi} (h:Fit d L) (stp:Nat->UInt8->Nat) (acc:Nat->Prop) (k:Nat) (E:0<k) (hs:∀ s x,s<k->stp s x<k) (D:∀ w,L w↔acc (w.foldl stp 0)):d.n.length<=k:=by
 have G:∀ (w:List UInt8) s,s<k->w.foldl stp s<k:=λw=>by
  induction w with
  | nil=>intro s hs;exact hs
  | cons x w I=>intro s J;exact I _ (hs s x J)
 have:=Gv h.1 (λw=>w.foldl stp 0) (λw w' e u=>by
  rw[ϯ,h.2,h.2,D,D,List.foldl_append,List.foldl_append,e]) (ι k) (λw=>υ.2 (G w 0 E))
 simpa using this
theorem Jc {d:Dfa} {L M:Bi} (h:Fit d L) (e:∀ w,L w↔M w):Fit d M:=⟨h.1,λw=>(h.2 w).trans (e w)⟩
theorem Yn {a b:Dfa} {L M:Bi} {r:Option Dfa} (h:E8 a b r) (ha:Fit a L) (D:Fit b M) (hn:a.n.length*2 ^ b.n.length<=4096) (hs:∀ d,Fit d (Cat L M)->d.n.length<=64):∃ d,r=Δ d/\Fit d (Cat L M):=by
 obtain⟨x,y,E,G,J,T,h1,U⟩:=h;obtain rfl:=Gw E ha.1 J;obtain rfl:=Gw G D.1 T;have hl:=U (Amk (Bj E.val) (Bj G.val) hn);have I:Lim (Cat L M) r:=Iz hl λw=>Hv (λw=>ha.2 w) (λw=>D.2 w) w
 cases r with
 | some d=>exact⟨d,rfl,V5 I⟩
 | none=>
  obtain⟨d,d1,d2,d3⟩:=I;have:=hs d ⟨d1,d2⟩;omega
theorem Abs {a:Dfa} {L:Bi} {r:Option Dfa} (h:Jt a r) (ha:Fit a L) (hn:2*2 ^ a.n.length<=4096) (hs:∀ d,Fit d (Star L)->d.n.length<=64):∃ d,r=Δ d/\Fit d (Star L):=by
 obtain⟨x,E,G,J,I⟩:=h;obtain rfl:=Gw E ha.1 G;have D:=I (Abo (Bj E.val) hn);have e:(λw=>x.has w=Ξ)=L:=funext λw=>propext (ha.2 w)
 rw[e] at D;cases r with
 | some d=>exact⟨d,rfl,V5 D⟩
 | none=>
  obtain⟨d,d1,d2,d3⟩:=D;have:=hs d ⟨d1,d2⟩;omega
theorem I9 (stp:Nat->UInt8->Nat) (s:Nat) (h:∀ x,stp s x=s):∀ w:List UInt8,w.foldl stp s=s
 | []=>rfl
 | x::w=>by rw[List.foldl_cons,h x];exact I9 stp s h w
section
open Classical
theorem Pv {d:Dfa} {p:UInt8->Prop} (h:Fit d (Fy p)):d.n.length<=3:=by
 refine Jb h (λs x=>if s=0/\p x then 1 else 2) (λs=>s=1) 3 (by omega) (λs x _=>by split<;>omega) λw=>?_
 unfold Fy;rcases w with _|⟨x,_|⟨y,w⟩⟩
 ·simp
 ·by_cases D:p x<;>simp[D]
 ·have:(List.foldl (λs x=>if s=0/\p x then 1 else 2) 0 (x::y::w):Nat)=2:=by
   rw[List.foldl_cons,List.foldl_cons];have E:(if (if 0=0/\p x then 1 else 2)=0/\p y then 1 else 2:Nat)=2:=by split<;>simp
   rw[E];exact I9 _ 2 (λx=>by simp) w
  rw[this];simp
theorem S7 (p:UInt8->Prop) (w:List UInt8):Star (Fy p) w↔∀ x∈w,p x:=by
 rw[S6];have key:∀ k w,pw (Fy p) k w↔w.length=k/\∀ x∈w,p x:=λk=>by
  induction k with
  | zero=>
   intro w;show w=[]↔_;constructor
   ·rintro rfl;simp
   ·rintro⟨h,_⟩;exact Ð h
  | succ k I=>
   intro w;rw[Fx];constructor
   ·rintro⟨u,v,rfl,⟨x,rfl,J⟩,hv⟩;obtain⟨E,G⟩:=(I v).1 hv;refine⟨by simp[E,Nat.add_comm],λy D=>?_⟩;rcases Ú.1 (by simpa using D) with rfl|D
    ·exact J
    ·exact G y D
   ·rintro⟨E,G⟩;cases w with
    | nil=>simp at E
    | cons x w=>exact⟨[x],w,rfl,⟨x,rfl,G x (by simp)⟩,(I w).2 ⟨by simpa using E,λy D=>G y (by simp[D])⟩⟩
 constructor
 ·rintro⟨k,M⟩;exact ((key k w).1 M).2
 ·intro h;exact⟨w.length,(key _ w).2 ⟨rfl,h⟩⟩
theorem Nm {d:Dfa} {p:UInt8->Prop} (h:Fit d (λw=>∀ x∈w,p x)):d.n.length<=2:=by
 refine Jb h (λs x=>if s=0/\p x then 0 else 1) (λs=>s=0) 2 (by omega) (λs x _=>by split<;>omega) λw=>?_
 induction w with
 | nil=>simp
 | cons x w E=>
  rw[List.foldl_cons];by_cases D:p x
  ·simp only[D,and_self,if_true,Ú,forall_eq_or_imp,true_and];exact E
  ·have:(List.foldl (λs x=>if s=0/\p x then 0 else 1) 1 w:Nat)=1:=I9 _ 1 (λx=>by simp) w;simp[D,this]
theorem Mo {d:Dfa} (h:Fit d (λw=>w=[])):d.n.length<=2:=by
 refine Jb h (λs x=>1) (λs=>s=0) 2 (by omega) (λs x _=>by omega) λw=>?_
 cases w with
 | nil=>simp
 | cons x w=>
  have:(List.foldl (λ_ _=>1) 1 w:Nat)=1:=I9 _ 1 (λx=>rfl) w;simp[this]
theorem Wr {d:Dfa} {p q:UInt8->Prop} (h:Fit d (λw=>∃ x v,w=x::v/\p x/\∀ y∈v,q y)):d.n.length<=3:=by
 refine Jb h (λs x=>if s=0/\p x\/s=1/\q x then 1 else 2) (λs=>s=1) 3 (by omega) (λs x _=>by split<;>omega) λw=>?_
 have E:∀ v:List UInt8,(List.foldl (λs x=>if s=0/\p x\/s=1/\q x then 1 else 2) 2 v:Nat)=2:=I9 _ 2 (λx=>by simp);have I:∀ v:List UInt8,(List.foldl (λs x=>if s=0/\p x\/s=1/\q x then 1 else 2) 1 v:Nat)=1↔∀ y∈v,q y:=λv=>by
  induction v with
  | nil=>simp
  | cons y v J=>
   rw[List.foldl_cons];by_cases G:q y
   ·simp only[G,Ú,forall_eq_or_imp,true_and]
    simpa using J
   ·simp[G,E]
 cases w with
 | nil=>simp
 | cons x v=>
  rw[List.foldl_cons];by_cases D:p x
  ·simp only[D,and_self,true_or,if_true,I];constructor
   ·rintro⟨_,_,e,_,h⟩;injection e with _ e;subst e;exact h
   ·intro h;exact⟨x,v,rfl,D,h⟩
  ·simp only[D,and_false,false_or];have:(if 0=1/\q x then 1 else 2:Nat)=2:=by simp
   rw[this,E];constructor
   ·rintro⟨_,_,e,M,_⟩;injection e with e _;subst e;exact absurd M D
   ·intro h;omega
end
theorem Yk (p q:UInt8->Prop) (w:List UInt8):Cat (Fy p) (λw=>∀ x∈w,q x) w↔∃ x v,w=x::v/\p x/\∀ y∈v,q y:=by
 constructor
 ·rintro⟨_,v,rfl,⟨x,rfl,D⟩,hv⟩;exact⟨x,v,rfl,D,hv⟩
 ·rintro⟨x,v,rfl,D,hv⟩;exact⟨[x],v,rfl,⟨x,rfl,D⟩,hv⟩
theorem Acn (A B:Cls) (hA:∀ x:UInt8,A.getLsbD x.toNat=Ξ↔x=97) (hB:∀ x:UInt8,B.getLsbD x.toNat=Ξ↔x=98\/x=99) (a2 a3 a4 a5 b2 b3 b4 b5:Nat) (c3 c4:Cls) (d4 d5:Int) (r3 m4:Nat) {r:Option Dfa}
  (h:E9 [⟨3,a2,a3,A,a4,d4⟩,⟨3,b2,b3,B,b4,d5⟩,⟨8,1,r3,c3,0,-1⟩,⟨4,0,2,c4,m4,d5⟩] [] r) :
  ∃ d,r=Δ d/\Cano d/\d.n.length=3/\d.has [97,99,98]=Ξ/\d.has [98,97]=Τ:=by
 obtain⟨_,⟨I,rfl,J⟩,_,⟨G,rfl,M⟩,q3,h3,h⟩:=h;have f1:Fit I (Fy (·=97)):=⟨J.1,λw=>(J.2 w).trans (by unfold Fy;simp only[hA])⟩;have f2:Fit G (Fy λx=>x=98\/x=99):=⟨M.1,λw=>(M.2 w).trans (by unfold Fy;simp only[hB])⟩;have an:Ia G 0 (-1) q3:=h3;obtain⟨e,he,q,hq,D⟩:=an;obtain rfl:q=Δ e:=hq;unfold E0 at D;simp only at D;rw[if_neg (by decide),if_pos (by decide)] at D;have aq:=D;obtain⟨s,hs,h5⟩:=aq;have l2:=Pv f2;have aw:2*2 ^ G.n.length<=4096:=by
  have:=Nat.pow_le_pow_right (show 0<2 by omega) l2;omega
 obtain⟨sd,rfl,E⟩:=Abs hs f2 aw (λd hd=>by have:=Nm (Jc hd (S7 _));omega);have E:=Jc E (S7 _);have ls:=Nm E;have T:Fit e (λw=>w=[]):=he;have le:=Mo T;have az:2 ^ sd.n.length<=4:=ψ (Nat.pow_le_pow_right (by omega) ls) (by decide);obtain⟨d3,rfl,f3⟩:=Yn h5 T E (ψ (Nat.mul_le_mul le az) (by decide)) (λd hd=>by have:=Nm (Jc hd (Nh _));omega);have f3:=Jc f3 (Nh _);have l3:=Nm f3;obtain⟨q4,h6,h7⟩:=h;have a8:E8 I d3 q4:=h6;have l1:=Pv f1;have ba:2 ^ d3.n.length<=4:=ψ (Nat.pow_le_pow_right (by omega) l3) (by decide);obtain⟨d4,rfl,f4⟩:=Yn a8 f1 f3 (ψ (Nat.mul_le_mul l1 ba) (by decide)) (λd hd=>by have:=Wr (Jc hd (Yk _ _));omega);have f4:=Jc f4 (Yk _ _);have l4:=Wr f4;have bc:r=Δ d4:=h7;have f:∀ w,d4.has w=Τ↔¬ ∃ x v,w=x::v/\x=97/\∀ y:UInt8,y∈v->y=98\/y=99:=λw=>by
  have:=f4.2 w;cases U:d4.has w
  ·rw[U] at this;exact⟨λ_ h=>absurd (this.2 h) (by simp),λ_=>rfl⟩
  ·exact⟨λh=>(by cases h),λh=>absurd (this.1 U) h⟩
 refine⟨d4,bc,f4.1,Nat.le_antisymm l4 ?_,(f4.2 _).2 ⟨97,[99,98],rfl,rfl,by simp⟩,(f _).2 (by simp)⟩;have ge:=Ni f4.1.val [[],[97],[98]] (by
  refine List.Pairwise.cons ?_ (List.Pairwise.cons ?_ (List.pairwise_singleton _ _))
  ·intro v hv;rcases Ú.1 hv with rfl|hv
   ·exact⟨[],by rw[show ([]++[]:List UInt8)=[] from rfl,show ([97]++[]:List UInt8)=[97] from rfl,(f [] ).2 (by simp),(f4.2 [97]).2 ⟨97,[],rfl,rfl,by simp⟩];simp⟩
   ·rw[ϴ.1 hv];exact⟨[97],by rw[show ([]++[97]:List UInt8)=[97] from rfl,(f4.2 [97]).2 ⟨97,[],rfl,rfl,by simp⟩,(f _).2 (by simp)];simp⟩
  ·intro v hv;rw[ϴ.1 hv];exact⟨[],by rw[show ([97]++[]:List UInt8)=[97] from rfl,(f4.2 [97]).2 ⟨97,[],rfl,rfl,by simp⟩,(f _).2 (by simp)];simp⟩)
 exact ge
theorem Me (x:UInt8) (m:Nat):∀ (k:Nat) (w:List UInt8),pw (λw=>w=ζ m x) k w↔w=ζ (k*m) x
 | 0,w=>by show w=[]↔_;simp
 | k+1,w=>by
  rw[Fx];constructor
  ·rintro⟨u,v,rfl,rfl,hv⟩;rw[(Me x m k v).1 hv,List.replicate_append_replicate,Nat.succ_mul,Nat.add_comm]
  ·rintro rfl;exact⟨ζ m x,ζ (k*m) x,by rw[List.replicate_append_replicate,Nat.succ_mul,Nat.add_comm],rfl,(Me x m k _).2 rfl⟩
theorem T7 (L:Bi) (n:Nat) (w:List UInt8):rep L n (n:Int) w↔pw L n w:=by
 constructor
 ·rintro⟨k,G,D|D,E⟩
  ·omega
  ·obtain rfl:k=n:=by omega
   exact E
 ·intro h;exact⟨n,ν _,.inr (Int.le_refl _),h⟩
theorem Uq {d:Dfa}:∀ (n:Nat) (p q:Dfa),Ee p d (n+1) (Δ q)->q.n.length<=64
 | 0,p,q,⟨o,G,D⟩=>by
  cases o with
  | none=>cases (show Δ q=Γ from D)
  | some E=>
   injection (show Δ q=Δ E from D) with e
   subst e;exact (K6 G (λ_=>Iff.rfl) (λ_=>Iff.rfl)).2
 | n+1,p,q,⟨o,G,D⟩=>by
  cases o with
  | none=>cases (show Δ q=Γ from D)
  | some E=>exact Uq n E q D
theorem Aco (A:Cls) (M:∀ x:UInt8,A.getLsbD x.toNat=Ξ↔x=97) (T U E r2 r3:Nat) (c2 c3:Cls) (d4:Int) {r:Option Dfa} (af:d4<0\/(E:Int)<=d4)
  (h:E9 [⟨3,T,U,A,E,d4⟩,⟨8,0,r2,c2,16,16⟩,⟨8,1,r3,c3,5,5⟩] [] r):r=Γ:=by
 cases r with
 | none=>rfl
 | some d=>
  have G:=Yz _ [] [] ⟨rfl,λi hi=>absurd hi (by simp)⟩ (by
   refine⟨⟨by simp,by simp,af,by simp,by simp⟩,⟨by simp,by simp,by simp,by simp,by simp⟩,⟨by simp,by simp,by simp,by simp,by simp⟩,trivial⟩) (by simp) d h
  have hl:d.n.length<=64:=by
   obtain⟨q1,-,h⟩:=h;cases q1 with
   | none=>cases (show Δ d=Γ from h)
   | some d1=>
    obtain⟨q2,-,h⟩:=h;cases q2 with
    | none=>cases (show Δ d=Γ from h)
    | some d2=>
     obtain⟨q3,h3,h⟩:=h;cases q3 with
     | none=>cases (show Δ d=Γ from h)
     | some d3=>
      have e:Δ d=Δ d3:=h;injection e with e
      subst e;obtain⟨e,-,q,hq,D⟩:=(show Ia d2 5 5 (Δ d) from h3);cases q with
      | none=>cases (show Δ d=Γ from D)
      | some p=>
       unfold E0 at D;simp only at D;rw[if_pos (by decide)] at D;injection D with e
       subst e;exact Uq 4 _ _ hq
  have I:∀ w,d.has w=Ξ↔w=ζ 80 97:=λw=>by
   rw[G.2 w];show rep (rep (λw=>∃ x:UInt8,w=[x]/\A.getLsbD x.toNat=Ξ) 16 (16:Nat)) 5 (5:Nat) w↔_;have e1:(λw=>∃ x:UInt8,w=[x]/\A.getLsbD x.toNat=Ξ)=λw=>w=ζ 1 97:=by
    funext w
    simp[M]
   have e2:rep (λw=>w=ζ 1 (97:UInt8)) 16 (16:Nat)=λw=>w=ζ 16 97:=by
    funext w
    rw[T7,Me]
   rw[e1,e2,T7,Me]
  have:=Ni G.1.val ((ι 66).map λi=>ζ i 97) (by
   rw[List.pairwise_map];refine á (λ{i j} hi J an=>?_) List.pairwise_lt_range;have hi:=υ.1 hi;have J:=υ.1 J;refine⟨ζ (80-i) 97,?_⟩;have t:d.has (ζ i 97++ζ (80-i) 97)=Ξ:=(I _).2 (by rw[List.replicate_append_replicate];congr 1;omega);have f:d.has (ζ j 97++ζ (80-i) 97)=Τ:=by
    cases hh:d.has (ζ j 97++ζ (80-i) 97)
    ·rfl
    ·have:=congrArg List.length ((I _).1 hh);simp at this;omega
   rw[t,f];simp)
  simp at this;omega
theorem Aay {L:Bi} {r:Option Dfa} (h:Lim L r) (u v:List UInt8) (G:∀ w,L w↔w=u\/w=v) (I:(u.length+2)*(v.length+2)<=64):∃ d,r=Δ d/\Fit d (λw=>w=u\/w=v):=by
 have key:∀ d,Cano d->(∀ w,d.has w=Ξ↔L w)->d.n.length<=64:=λd D E=>by
  have:=Ul (Fc u) (Fc v) (g:=λa b=>a||b) D (λw=>by
   rw[ϯ,E,G,Bool.or_eq_true,Fd,Fd])
  rw[Es,Es] at this;omega
 cases r with
 | none=>
  obtain⟨d,D,E,J⟩:=h;have:=key d D E;omega
 | some d=>exact⟨d,rfl,h.1,λw=>(h.2.1 w).trans (G w)⟩
theorem Gx {d:Dfa} (h:Fit d (λw=>w=[97,98]\/w=[97,98,99])):d.n.length<=5:=by
 refine Jb h (λs x=>if s<3/\x=([97,98,99]:List UInt8).getD s 0 then s+1 else 4) (λs=>s=2\/s=3) 5 (by omega) (λs x _=>by split<;>omega) λw=>?_
 have E:∀ v:List UInt8,(List.foldl (λs x=>if s<3/\x=([97,98,99]:List UInt8).getD s 0 then s+1 else 4) 4 v:Nat)=4:=I9 _ 4 (λx=>by simp);rcases w with _|⟨x,w⟩
 ·simp
 rw[List.foldl_cons];by_cases D:x=97
 ·subst D;rw[if_pos (by simp)];rcases w with _|⟨x,w⟩
  ·simp
  rw[List.foldl_cons];by_cases D:x=98
  ·subst D;rw[if_pos (by simp)];rcases w with _|⟨x,w⟩
   ·simp
   rw[List.foldl_cons];by_cases D:x=99
   ·subst D;rw[if_pos (by simp)];rcases w with _|⟨x,w⟩
    ·simp
    rw[List.foldl_cons,if_neg (by simp),E];simp
   ·rw[if_neg (by simp[D]),E];simp[D]
  ·rw[if_neg (by simp[D]),E];simp[D]
 ·rw[if_neg (by simp[D]),E];simp[D]
def Hz:Nat->List (List Bool)
 | 0=>[[]]
 | n+1=>(Hz n).flatMap λl=>[Τ::l,Ξ::l]
theorem Zh:∀ n,(Hz n).length=2 ^ n
 | 0=>rfl
 | n+1=>by
  simp only[Hz,List.length_flatMap,List.length_cons,List.length_nil];rw[Ij,Zh n,Nat.pow_succ]
theorem Zg:∀ (n:Nat) (l:List Bool),l.length=n->l∈Hz n
 | 0,l,h=>by rw[Ð h];simp[Hz]
 | n+1,[],h=>by simp at h
 | n+1,b::l,h=>by
  simp only[Hz,List.mem_flatMap];exact⟨l,Zg n l (by simpa using h),by cases b<;>simp⟩
theorem Aig (u:List UInt8):¬ Lex u u:=by
 rintro⟨p,a,b,G,v',E,D,h⟩;rw[E] at D;have:=List.append_cancel_left D;injection this with e _
 rw[e] at h;omega
theorem Aac (n:Nat) (L:List UInt8->Bool):(Bo L n).Nodup:=
 (R6 n L).imp λ{a b} h e=>by subst e;exact Aig a h
theorem Lp {L:List UInt8->Bool} {n:Nat} (h:∀ w,w.length=n->L w=Τ):Bo L n=[]:=
 List.eq_nil_iff_forall_not_mem.2 λw E=>by
  obtain⟨G,D⟩:=(Ga n L w).1 E;rw[h w G] at D;cases D
theorem R7 {L:List UInt8->Bool} {n:Nat} (u:List UInt8) (hu:u.length=n) (h:∀ w,w.length=n->(L w=Ξ↔w=u)):Bo L n=[u]:=by
 have hm:∀ w,w∈Bo L n↔w=u:=λw=>by
  rw[Ga];constructor
  ·rintro⟨E,G⟩;exact (h w E).1 G
  ·rintro rfl;exact⟨hu,(h w hu).2 rfl⟩
 have hn:=Aac n L;cases D:Bo L n with
 | nil=>exact absurd ((hm u).2 rfl) (by rw[D];simp)
 | cons a l=>
  rw[D] at hm hn;obtain rfl:=(hm a).1 (by simp);cases l with
  | nil=>rfl
  | cons b l=>
   obtain rfl:=(hm b).1 (by simp);simp at hn
theorem Anf {d:Dfa} (h:Fit d (λw=>w=[97,98]\/w=[97,98,99])):Ba d.has 3=1:=by
 unfold Ba;rw[R7 (n:=3) [97,98,99] rfl (λw D=>?_)]
 ·rfl
 ·rw[h.2];constructor
  ·rintro (rfl|rfl)
   ·simp at D
   ·rfl
  ·exact .inr
theorem Ang {d:Dfa} (h:Fit d (λw=>w=[97,98]\/w=[97,98,99])):Ca d.has 3=[[97,98]]:=by
 have E:∀ n,n<2->Bo d.has n=[]:=λn hn=>Lp λw D=>by
  cases G:d.has w
  ·rfl
  ·rcases (h.2 w).1 G with rfl|rfl<;>simp at D<;>omega
 show (([]++Bo d.has 0)++Bo d.has 1)++Bo d.has 2=_;rw[E 0 (by omega),E 1 (by omega),R7 (n:=2) [97,98] rfl (λw D=>?_)]
 ·rfl
 ·rw[h.2];constructor
  ·rintro (rfl|rfl)
   ·rfl
   ·simp at D
  ·exact .inl
theorem Hr {L:List UInt8->Bool} (h:∀ w,L w=Ξ) (n:Nat):Ba L n=256 ^ n:=by
 have D:=X7 n L;have E:Ba (λw=>!L w) n=0:=by
  unfold Ba;rw[Lp (λw _=>by rw[h];rfl)];rfl
 omega
open Go.RowKit Go.Shelf
theorem Sl.first {W:Λ} {v:Ν} {k n:Nat} {f:Nat->Ν} (h:Sl W v k n f) (hn:0<n) (G:0<k):∃ b D E,v=Β (Δ ⟨b,D,Γ⟩) n E/\W.cell? ⟨b,D,Γ⟩=Δ (f 0):=by
 obtain⟨b,D,E,rfl,I⟩:=Û h hn;exact⟨b,D,E,rfl,I 0 (Nat.mul_pos hn G)⟩
theorem Oj {W:Λ} {v:Ν} {k n k' D:Nat} {f E:Nat->Ν} (h:Sl W v k n f) (hn:0<n) (J:0<k) (M:Sl W v k' D E) (T:0<D) (U:0<k'):f 0=E 0:=by
 obtain⟨b,ae,af,hv,hc⟩:=h.first hn J;obtain⟨b',ag,ah,G,I⟩:=M.first T U;rw[hv] at G;injection G with e _ _
 injection e with e
 injection e with e1 e2 _
 subst e1;subst e2;rw[hc] at I;injection I
theorem IsD.setBox {W:Λ} {v:Ν} {q p:Dfa} (hq:Val q) (h:IsD W v q) (I:Val p) {A:Array Ν} (hA:IsD W (.agg A) p) {g:Nat} {e:Á} {fr:Nat × Nat} (hg:W.heap[g]? = Δ (Ε A e fr)) (cs:Array Ν):IsD (W.setRow g cs) v q:=by
 obtain⟨vc,vn,va,rfl,h1,⟨vs,aq,hN,hr⟩,h3⟩:=h;obtain⟨pc,pn,pa,J,g1,⟨ps,bd,gN,gr⟩,g3⟩:=hA;injection J with J
 have a1:=hq.parts.pos;have a6:=I.parts.pos;have ah:∀ (o:Nat) (x:Ν),A[o]? = Δ x->x=pc\/x=pn\/x=pa:=λo x D=>by
  have:=Array.mem_of_getElem? D;rw[J] at this
  simpa using this
 obtain⟨ac,cc,a7⟩:=Sl.len g1;obtain⟨an,cn,a8⟩:=Sl.len gN;obtain⟨aa,ca,ba⟩:=Sl.len g3;have M:∀ (o:Nat) (x:Ν),A[o]? = Δ x->∃ a n c,x=Β a n c:=λo x D=>by
  rcases ah o x D with rfl|rfl|rfl
  ·exact⟨_,_,_,a7⟩
  ·exact⟨_,_,_,a8⟩
  ·exact⟨_,_,_,ba⟩
 refine⟨vc,vn,va,rfl,Sl.setRow h1 hg (λi hi o D=>?_) (by omega) cs,⟨vs,aq,Sl.setRow hN hg (λi hi o D=>?_) (by omega) cs,λi hi=>Sl.setRow (hr i hi) hg (λj hj o D=>?_) (by omega) cs⟩,Sl.setRow h3 hg (λi hi o D=>?_) (by omega) cs⟩
 ·obtain⟨a,n,c,he⟩:=M _ _ D;cases he
 ·have ai:i<q.n.length:=by omega
  have E:=hr i ai;have T:0<(q.n.getD i []).length:=by rw[hq.row i ai];exact a1
  have U:=I.pos;rcases ah _ _ D with G|G|G
  ·rw[G] at E;have:=Oj E T (by omega) g1 a6 (by omega);cases this
  ·rw[G] at E;have h0:=Oj E T (by omega) gN U (by omega);obtain⟨a,c,hz⟩:=Sl.len (gr 0 U);rw[hz] at h0;cases h0
  ·rw[G] at E;have:=Oj E T (by omega) g3 (by rw[I.accL];exact U) (by omega);cases this
 ·obtain⟨a,n,c,he⟩:=M _ _ D;cases he
 ·obtain⟨a,n,c,he⟩:=M _ _ D;cases he
theorem Jm {a b:Dfa} {r:Option Dfa} (h:E8 a b r) (d:Dfa) (hd:r=Δ d):Val d/\d.n.length<=64:=by
 subst hd;obtain⟨D,E⟩:=K6 h (λ_=>Iff.rfl) (λ_=>Iff.rfl);exact⟨D.1.val,E⟩
theorem Up (p d:Dfa) (hp:Val p) (hd:Val d) (b9:p.n.length<=64) (cb:d.n.length<=64) (n:Nat) (hn:n<=1000) (vp vd:Ν) (w:Λ) (hT:Tab w) (bu:0<w.heap.size) (az:IsD w vp p) (a1:IsD w vd d) :
  Calls Ζ 146 #[vp,vd,iv n] w λe w'=>∃ r,ResOf w' e r/\Ee p d n r/\Ext w w':=by
 have cd:=Α (λW (hW:Ext w W)=>hT.below hW.below bu);have a6:=Α az;have bw:=Α a1;have cg:=Α hd;obtain⟨ac,lc,cc,an,cn,aa,la,ca,rfl⟩:=az.agg;obtain⟨cq,cr,ct,cu,cv,cw,cx,cy,rfl⟩:=a1.agg;obtain⟨G,ao⟩:∃ X,dA (Β cq cr ct) (Β cu d.n.length cv) (Β cw cx cy)=X:=⟨_,rfl⟩;have cz:(Ζ.info? 30).map (·.size)=Δ G.size:=by rw[<-ao];exact Ad
 rw[ao] at bw;rw[ao];obtain⟨I,aq⟩:∃ X,dA (Β ac lc cc) (Β an p.n.length cn) (Β aa la ca)=X:=⟨_,rfl⟩;have c1:À (I.size=3):=Α (by rw[<-aq];rfl);rw[aq] at a6;rw[aq];have ar:=(((Θ w).alloc (Ε I 30)).alloc (Ε G 30)).alloc (Ε #[Β Γ 0 0,Β Γ 0 0,Β Γ 0 0] 30);have J:=Ag (Ag (Aa w (Ε I 30)) (Ε G 30)) (Ε #[Β Γ 0 0,Β Γ 0 0,Β Γ 0 0] 30);have H4:=Ag (Ϗ w (Ε I 30) (Ε G 30)) (Ε #[Β Γ 0 0,Β Γ 0 0,Β Γ 0 0] 30);have D:=Aa ((w.alloc (Ε I 30)).alloc (Ε G 30)) (Ε #[Β Γ 0 0,Β Γ 0 0,Β Γ 0 0] 30);rw[Ρ,Ρ] at D;clear az a1 hd hT ao;go_enter Tryz.func146,Tryz.ntmps146;go_upto_region 1 with (fail)
 obtain⟨w1,a7⟩:∃ W,((w.alloc (Ε I 30)).alloc (Ε G 30)).alloc (Ε #[Β Γ 0 0,Β Γ 0 0,Β Γ 0 0] 30)=W:=⟨_,rfl⟩;rw[a7] at ar J H4 D;simp only[a7];clear a7;have bx:=Α (a6.out.ext ar);clear aq a6;go_wp2_with (fail);go_loopw [8,10] (λve vi W=>∃ (i:Nat) (q:Dfa) (A:Array Ν),i<=n/\ve=.int ε 0/\vi=.int ε i/\Ext w W/\À (W.heap[w.heap.size]? = Δ (Ε A 30 (0,0)))/\À (W.heap[w.heap.size+1]? = Δ (Ε G 30 (0,0)))/\
   À (W.heap[w.heap.size+1+1]? = Δ (Ε #[Β Γ 0 0,Β Γ 0 0,Β Γ 0 0] 30 (0,0)))/\À (A.size=3)/\À (IsD W (.agg A) q)/\À (Val q/\q.n.length<=64)/\À (∀ r,Ee q d (n-i) r->Ee p d n r))
  (λ_ vi _=>n-(intOf vi).toNat)
 case atStart=>exact⟨0,p,I,by omega,rfl,rfl,ar,Α J,Α H4,Α D,c1,bx,Α ⟨hp,b9⟩,Α λr h=>h⟩
 case round=>
  clear ar J H4 D bx hp;obtain⟨i,q,A,hi,rfl,rfl,hE,J,H4,D,HA,HI,HQ,HP⟩:=hrel;have ax:(Ζ.info? 30).map (·.size)=Δ A.size:=by rw[HA.out];exact Ad
  obtain⟨dc,dd,de,df,dg,dh,dk,dm,al⟩:=HI.out.agg;injection al with al
  by_cases dn:i<n
  ·have f31:=Α (Q2 q d HQ.out.1 cg.out HQ.out.2 cb _ _ wr (cd.out wr hE) (δ bu hE.size) HI.out (bw.out.ext hE));clear al;go_upto_region 5 with (first
    | (refine Ο rfl 30 (η 3) rfl _ rfl _ _ _ _ J.out Κ rfl ax ?_)
    | (refine Ο rfl 30 (η 4) rfl _ rfl _ _ _ _ H4.out Κ rfl cz ?_)
    | (go_at_call 31;(with_reducible refine f31.out.mono ?_);rintro e w5 ⟨r,bd,bz,be⟩;obtain⟨M,T,U,ab,ad,ae,af,ag,ah,k2,rfl⟩:=bd.form;have b0:=Α bd;have bf:=Α bz;have ay:=Α be;have bg:=Α (be.heap J.out);clear bd bz be)
    | (refine Φ rfl 30 (η 3) (η 16) rfl _ _ rfl rfl _ _ bg.out Ad HA.out (Aq _ _ _ rfl rfl rfl) ?_))
   have bh:=(hE.trans ay.out).setRow (ν w.heap.size) (dA (Β M T U) (Β ab ad ae) (Β af ag ah));have G3:=μ w5 _ _ (dA (Β M T U) (Β ab ad ae) (Β af ag ah)) 30 (0,0) bg.out;have G4:=B7 (ay.out.heap H4.out) (show w.heap.size+1≠w.heap.size by omega) (dA (Β M T U) (Β ab ad ae) (Β af ag ah));have G6:=B7 (ay.out.heap D.out) (show w.heap.size+1+1≠w.heap.size by omega) (dA (Β M T U) (Β ab ad ae) (Β af ag ah));have b4:=Α (λ(q':Dfa) (c4:Val q') (h:IsD w5 (.agg (dA (Β M T U) (Β ab ad ae) (Β af ag ah))) q')=>IsD.setBox c4 h HQ.out.1 (HI.out.ext ay.out) bg.out (dA (Β M T U) (Β ab ad ae) (Β af ag ah)));obtain⟨w6,bl⟩:∃ W,w5.setRow w.heap.size (dA (Β M T U) (Β ab ad ae) (Β af ag ah))=W:=⟨_,rfl⟩;rw[bl] at bh G3 G4 G6 b4;simp only[bl];clear bl f31;have G6:=Α G6;cases r with
   | none=>
    have hk:k2=2:=by
     have:=b0.out;unfold ResOf at this;injection this with this
     injection this with this
     injection this with this
     injection this with _ this
     injection this with this _
     injection this
    subst hk;have c7:=Α Dn;have b5:Ee q d (n-i) Γ:=by
     rw[show n-i=(n-(i+1))+1 by omega];exact⟨Γ,bf.out,rfl⟩
    have bm:=Α (HP.out Γ b5);clear b5 G3 G4;go_wp2_with (first
     | (refine Bw rfl 30 _ rfl #[Β Γ 0 0,Β Γ 0 0,Β Γ 0 0] ?_ ?_;(simp;with_reducible exact c7.out))
     | (refine Φ rfl 30 (η 6) (η 20) rfl _ _ rfl rfl _ _ G6.out Ad rfl C8 ?_))
    refine ω (v:=ϙ #[zD,.int ε 2]) (A3 rfl _ _ _ _ _ _ _ rfl _ rfl (μ w6 _ _ #[Β Γ 0 0,Β Γ 0 0,Β Γ 0 0] 30 (0,0) G6.out) Κ rfl Ad) rfl ?_;exact⟨Γ,rfl,bm.out,bh.setRow (by omega) _⟩
   | some q'=>
    obtain⟨v',E,bn⟩:=b0.out;injection E with E
    injection E with E
    injection E with E
    injection E with h1 E
    injection E with h2 _
    injection h2 with _ h2
    subst h2;rw[<-h1] at bn;obtain⟨b7,c8⟩:=Jm bf.out q' rfl;have b8:=b4.out q' b7 bn;have c9:=Α b8;have da:=Α (λr (h:Ee q' d (n-(i+1)) r)=>HP.out r (by
     rw[show n-i=(n-(i+1))+1 by omega];exact⟨Δ q',bf.out,h⟩))
    clear b8 bn h1;go_wp2;go_roundw
    case rel=>exact⟨i+1,q',_,by omega,rfl,by go_num,bh,Α G3,Α G4,G6,Α rfl,c9,Α ⟨b7,c8⟩,da⟩
    case measure=>simp[intOf];omega
  ·obtain rfl:n=i:=by omega
   have db:A.all (·.oneCell')=Ξ:=by rw[al];exact Aq _ _ _ rfl rfl rfl
   clear al;have bm:=Α (HP.out (Δ q) (by rw[Nat.sub_self];rfl));go_wp2_with (first
    | (refine Ο rfl 30 (η 3) rfl _ rfl _ _ _ _ J.out Κ rfl ax ?_)
    | (refine Φ rfl 30 (η 6) (η 23) rfl _ _ rfl rfl _ _ D.out ax HA.out.symm db ?_))
   refine ω (v:=ϙ #[.agg A,.int ε 0]) (A3 rfl _ _ _ _ _ _ _ rfl _ rfl (μ wr _ _ A 30 (0,0) D.out) Κ rfl ax) rfl ?_;exact⟨Δ q,⟨_,rfl,IsD.setRow HQ.out.1 HI.out D.out _⟩,bm.out,hE.setRow (by omega) _⟩
theorem Am7:Ζ.built 108 [(1,.int ε 256)]=Δ (Ai (λ_=>0) 256 (Β Γ 0 0) (Β Γ 0 0)):=by kernel_rfl
def idC (k y:Nat):Nat:=if y<k then y else 0
theorem Ajo (k:Nat) (D:k<256) (n:Nat) (vn va:Ν):(Ai (idC k) n vn va).setIfInBounds k (iv k)=Ai (idC (k+1)) n vn va:=by
 rw[Sv _ _ _ _ _ _ D];refine G9 (λb E=>?_) n vn va;unfold idC;by_cases e:b=k
 ·subst e;simp
 ·rw[if_neg e];by_cases h:b<k
  ·rw[if_pos h,if_pos (by omega)]
  ·rw[if_neg h,if_neg (by omega)]
def Ep (m k:Nat):List Nat:=(ι 256).map λj=>if j<k then m else 0
theorem Jf (m k:Nat):(Ep m k).length=256:=by simp[Ep]
theorem Aku (m:Nat):Ep m 0=ζ 256 0:=by
 apply ϥ;intro i;simp only[Ep,ϕ,Ϭ,Nat.not_lt_zero,if_false];by_cases h:i<256
 ·simp[h]
 ·simp[h]
theorem Akv (m k:Nat) (E:k<256):(Ep m k).set k m=Ep m (k+1):=by
 apply ϥ;intro i;rw[Ï,Jf];simp only[Ep,ϕ];by_cases h:i<256
 ·rw[Õ h];by_cases e:k=i
  ·subst e;simp[E]
  ·simp only[e,if_false,Option.map_some];by_cases D:i<k
   ·rw[if_pos D,if_pos (by omega)]
   ·rw[if_neg D,if_neg (by omega)]
 ·rw[if_neg (by omega)];simp[h]
theorem Z1 (l:List UInt8) (s:Nat) (hs:s<l.length):(Ep (l.length+1) 256).set (l.getD s 0).toNat (s+1)=Db l s:=by
 apply ϥ;intro i;rw[Ï,Jf];have E:=(l.getD s 0).toNat_lt;simp only[Ep,Db,ϕ];by_cases h:i<256
 ·rw[Õ h];by_cases e:(l.getD s 0).toNat=i
  ·rw[if_pos e,if_pos (by omega),Option.map_some,if_pos ⟨hs,e⟩]
  ·rw[if_neg e,Option.map_some,Option.map_some,if_pos h,if_neg (λD=>e D.2)]
 ·rw[if_neg (by omega)];simp[h]
theorem Z0 (l:List UInt8) (s:Nat) (hs:¬ s<l.length):Ep (l.length+1) 256=Db l s:=by
 unfold Ep Db;refine Í λb D=>?_
 have:=υ.1 D;rw[if_pos this,if_neg (λh=>hs h.1)]
theorem N4 (l:List UInt8) (hl:l.length<=62) (v:Ν) (w:Λ) (h:By w v l) :
  Calls Ζ 45 #[v] w λe w'=>∃ r,ResOf w' e (Δ r)/\Cano r/\(∀ u,r.has u=Ξ↔u=l)/\Ext w w':=by
 obtain⟨ab,bb,ob,cb,rfl,c8,da⟩:=h.split;obtain⟨i0,hi,e7,e8,e9⟩:=Ϟ Cp;obtain⟨i4,fb,fc,fe,ff⟩:=Ϟ D8;obtain⟨i6,fh,fj,fl,fm⟩:=Ϟ (show (Ζ.info? 68).map (λi=>(i.zero,i.size,i.bytes))=Δ (Δ (Β Γ 0 0),1,24) by kernel_rfl);have fo:=Α c8;have fp:=Α da;have db:=Α Am7;obtain⟨T0,a7⟩:∃ X,Ai (λ_=>0) 256 (Β Γ 0 0) (Β Γ 0 0)=X:=⟨_,rfl⟩;rw[a7] at db;have dc:ξ.size=T0.size:=by rw[<-a7,Da,Em]
 have dd:(Ζ.info? 108).map (·.size)=Δ T0.size:=by rw[<-a7,Em];exact Cc
 have de:T0.all (·.oneCell')=Ξ:=by rw[<-a7];exact G5 _ _ (Β Γ 0 0) (Β Γ 0 0) rfl rfl
 have fs:=Α a7;have bz:=(Θ w).alloc (Ε #[Β Γ 0 0,Β Γ 0 0,Β Γ 0 0] 30);have H2:=Aa w (Ε #[Β Γ 0 0,Β Γ 0 0,Β Γ 0 0] 30);clear a7 h c8 da;go_enter Tryz.func45,Tryz.ntmps45;go_upto_region 1 with (fail)
 obtain⟨w1,bn⟩:∃ W,w.alloc (Ε #[Β Γ 0 0,Β Γ 0 0,Β Γ 0 0] 30)=W:=⟨_,rfl⟩;have hq:w.heap.size<w1.heap.size:=by rw[<-bn,Ρ];omega
 rw[bn] at bz H2;simp only[bn];clear bn;have ft:=Α H2;clear H2;go_upto_region 5 with (first
  | (refine Bw rfl 108 _ rfl T0 ?_ ?_;(simp[Act.eval];with_reducible exact db.out))
  | (refine Φ rfl 108 (η 5) (η 15) rfl _ _ rfl rfl _ _ (Aa w1 (Ε ξ 108)) dd dc de ?_))
 have b4:=((Θ w1).alloc (Ε ξ 108)).setRow (ν _) T0;have bo:=μ (w1.alloc (Ε ξ 108)) w1.heap.size _ T0 _ _ (Aa w1 _);have b5:w1.heap.size+1<=((w1.alloc (Ε ξ 108)).setRow w1.heap.size T0).heap.size:=by rw[ò,Ρ];exact ν _
 obtain⟨wa,b6⟩:∃ W,(w1.alloc (Ε ξ 108)).setRow w1.heap.size T0=W:=⟨_,rfl⟩;rw[b6] at b4 bo b5;simp only[b6];clear b6 dc dd de;rw[<-fs.out] at bo;have df:À (wa.heap[w1.heap.size]? = Δ (Ε (Ai (idC 0) 256 (Β Γ 0 0) (Β Γ 0 0)) 108 (0,0))):=Α (by
  rw[bo,G9 (c:=λ_=>0) (c':=idC 0) (λb hb=>by simp[idC])])
 clear bo;go_wp2_with (fail);go_loopw [16] (λi W=>∃ k:Nat,k<=256/\i=.int ε k/\Ext w1 W/\w1.heap.size+1<=W.heap.size/\À (W.heap[w1.heap.size]? = Δ (Ε (Ai (idC k) 256 (Β Γ 0 0) (Β Γ 0 0)) 108 (0,0)))) (λi _=>256-(intOf i).toNat)
 case atStart=>exact⟨0,by omega,rfl,b4,b5,df⟩
 case round=>
  clear b4 b5 df;obtain⟨k,hk,rfl,hE,aq,E⟩:=hrel;by_cases b7:k<256
  ·have hy:(k:Int)<256:=by omega
   have ck:=(γ wr w1.heap.size k _ _ _ E.out).trans (Ob _ _ _ _ k b7);have fk:=Ϸ wr w1.heap.size k _ _ E.out;have fw:=hE.setRow (ν _) (Ai (idC (k+1)) 256 (Β Γ 0 0) (Β Γ 0 0));have fx:=Α (μ wr w1.heap.size _ (Ai (idC (k+1)) 256 (Β Γ 0 0) (Β Γ 0 0)) _ _ E.out);have b8:À (wr.setCell ⟨w1.heap.size,k,Γ⟩ (iv k)=wr.setRow w1.heap.size (Ai (idC (k+1)) 256 (Β Γ 0 0) (Β Γ 0 0))):=Α (by rw[Ϧ wr _ _ _ _ _ _ E.out,Ajo _ b7]);go_wp2_with (fail);go_roundw
   case rel=>exact⟨k+1,by omega,by go_num,by rw[show wr.setCell ⟨w1.heap.size,k,Γ⟩ (.int ε (k:Int))=_ from b8.out];exact fw,by rw[show wr.setCell ⟨w1.heap.size,k,Γ⟩ (.int ε (k:Int))=_ from b8.out,ò];exact aq,by rw[show wr.setCell ⟨w1.heap.size,k,Γ⟩ (.int ε (k:Int))=_ from b8.out];exact fx⟩
   case measure=>simp[intOf];omega
  ·obtain rfl:k=256:=by omega
   have ba:((256:Nat):Int)=256:=rfl;simp only[ba];clear ba;go_wp2_with (fail);have dh:=Ô wr (w1.heap.size+1) 68 1;have dk:=Ô wr (w1.heap.size+1) 4 1;have dm:RowsO wr (w1.heap.size+1) [] ((ι 0).map (Db l)) (λ_=>False):=⟨rfl,λj hj=>by simp at hj⟩;go_loopw [26] (λi W=>∃ (s:Nat) (vs:List Ν) (ae G:Ν),s<=l.length+2/\i=.int ε s/\Ext w1 W/\w1.heap.size+1<=W.heap.size/\À (W.heap[w1.heap.size]? = Δ (Ε (Ai (idC 256) 256 ae G) 108 (0,0)))/\
     W.ownsRow (w1.heap.size+1) 68 1 ae vs.length vs/\OwnB W (w1.heap.size+1) G ((ι s).map λq=>q==l.length)/\RowsO W (w1.heap.size+1) vs ((ι s).map (Db l)) (λ_=>False)/\À (vs.length=s))
    (λi _=>l.length+2-(intOf i).toNat)
   case atStart=>exact⟨0,[],_,_,by omega,rfl,hE,aq,E,dh,dk,dm,Α rfl⟩
   case round=>
    clear hE aq E dh dk dm;obtain⟨s,vs,ae,G,hs,rfl,hE,aq,E,hN,hA,hV,dn⟩:=hrel;by_cases b7:s<l.length+2
    ·obtain⟨wo,fy⟩:∃ W,W=wr:=⟨_,rfl⟩;subst fy;go_upto_region 14 with (at_make;refine wpList_make_full _ rfl _ _ 68 rfl (w1.heap.size+1) 3 i0 (.int ε 0) 1 Tryz.underlying68 hi e7 e8 ε ε _ _ 256 rfl rfl rfl rfl (by rw[e9];omega) (by unfold maxLen;omega) (by omega) ?_;intro w5 dp au)
     have ai:=hE.grown au (λk e=>by cases e);have D:w5.ownsRow (w1.heap.size+1) 3 1 (Β (Δ ⟨wo.heap.size,0,Γ⟩) 256 256) 256 ((Ep (l.length+1) 0).map iv):=by rw[Aku,<-B6];exact dp
     have af:=Α ((au.block w1.heap.size (An E.out) (by simp)).trans E.out);have ag:=Cb hN au;have ah:=Cb hA au;have aj:=(hV.av (av':=λo=>o=Δ wo.heap.size) (λv l U bc e=>by
      have:=(U.lt _ e).2;omega)).kept au (λv l U bc=>by cases v.ownBlock<;>simp)
     have aw:=ψ aq au.size;have h2:=(D.lt wo.heap.size rfl).1;generalize wo.heap.size=T at *;clear dp au E hN hA hV hE aq;go_wp2_with (fail);go_loopw [32] (λi W=>∃ k:Nat,k<=256/\i=.int ε k/\Ext w1 W/\w1.heap.size+1<=W.heap.size/\À (W.heap[w1.heap.size]? = Δ (Ε (Ai (idC 256) 256 ae G) 108 (0,0)))/\
       W.ownsRow (w1.heap.size+1) 68 1 ae vs.length vs/\OwnB W (w1.heap.size+1) G ((ι s).map λq=>q==l.length)/\RowsO W (w1.heap.size+1) vs ((ι s).map (Db l)) (λo=>o=Δ T)/\
       W.ownsRow (w1.heap.size+1) 3 1 (Β (Δ ⟨T,0,Γ⟩) 256 256) 256 ((Ep (l.length+1) k).map iv))
      (λi _=>256-(intOf i).toNat)
     case atStart=>exact⟨0,by omega,rfl,ai,aw,af,ag,ah,aj,D⟩
     case round=>
      clear ai aw af ag ah aj D;obtain⟨k,hk,rfl,ai,aw,af,ag,ah,aj,D⟩:=hrel;by_cases dq:k<256
      ·have cq:=Am 0 D (Jf _ _).symm k (by rw[Jf];exact dq);have fq:=D.frozenAt k;obtain⟨bd,I⟩:=Bk D k (l.length+1);rw[Akv _ _ dq] at bd;have ca:=ai.grown I (λk e=>by cases e;omega);have cd:=ag.kept I (Aj ag D (by decide));have ax:=ah.kept I (Aj ah D (by decide));have cf:=aj.kept I (λv l U bc=>.inr (λe=>bc e));have cg:=Α ((I.block w1.heap.size (An af.out) (λe=>by have:=ύ e;omega)).trans af.out);have ch:=ψ aw I.size;clear I ai ag ah aj af D;go_wp2_with (fail);go_roundw
       case rel=>exact⟨k+1,by omega,by go_num,ca,ch,cg,cd,ax,cf,bd⟩
       case measure=>simp[intOf];omega
      ·obtain rfl:k=256:=by omega
       have ba:((256:Nat):Int)=256:=rfl;simp only[ba];clear ba;go_upto_if 43 with (fail)
       go_cut [] (λW=>Ext w1 W/\w1.heap.size+1<=W.heap.size/\À (W.heap[w1.heap.size]? = Δ (Ε (Ai (idC 256) 256 ae G) 108 (0,0)))/\
        W.ownsRow (w1.heap.size+1) 68 1 ae vs.length vs/\OwnB W (w1.heap.size+1) G ((ι s).map λq=>q==l.length)/\RowsO W (w1.heap.size+1) vs ((ι s).map (Db l)) (λo=>o=Δ T)/\
        W.ownsRow (w1.heap.size+1) 3 1 (Β (Δ ⟨T,0,Γ⟩) 256 256) 256 ((Db l s).map iv))
       case first=>
        by_cases cj:s<l.length
        ·have e:=fo.out (by omega);subst e;have cx:=(bz.trans ai).cell (fp.out s cj);have dr:=Α (Z1 l s cj);obtain⟨x,dt⟩:∃ x,l.getD s 0=x:=⟨_,rfl⟩;rw[dt] at cx dr;have hx:=x.toNat_lt;clear dt;have cq:=Am 0 D (Jf _ _).symm x.toNat (by rw[Jf];omega);have fq:=D.frozenAt x.toNat;obtain⟨bd,I⟩:=Bk D x.toNat (s+1);rw[dr.out] at bd;have ca:=ai.grown I (λk e=>by cases e;omega);have cd:=ag.kept I (Aj ag D (by decide));have ax:=ah.kept I (Aj ah D (by decide));have cf:=aj.kept I (λv l U bc=>.inr (λe=>bc e));have cg:=Α ((I.block w1.heap.size (An af.out) (λe=>by have:=ύ e;omega)).trans af.out);have ch:=ψ aw I.size;clear I ai ag ah aj af D;go_wp2_with (fail);go_meet
         exact⟨ca,ch,cg,cd,ax,cf,bd⟩
        ·rw[Z0 l s cj] at D;go_wp2_with (fail);go_meet
         exact⟨ai,aw,af,ag,ah,aj,D⟩
       case rest=>
        clear ai aw af ag ah aj D;obtain⟨hE,aq,E,ay,cl,hV,hQ⟩:=hcut;have c1:=(γ wc w1.heap.size 257 _ _ _ E.out).trans (J4 _ _ _ _);have h4:vs.length<=64:=by rw[dn.out];omega
        go_upto_region 22 with (at_builtin;refine Ϙ _ rfl _ _ 27 rfl (w1.heap.size+1) 68 i6 (Β Γ 0 0) 1 24 Tryz.underlying27 fh fj fl fm rfl (by decide) ae vs.length vs rfl (ay.alloc _) _ 1 1 [Β (Δ ⟨T,0,Γ⟩) 256 256] rfl rfl (ϭ _ _ _) (by simp[ό]) (by decide) (by unfold maxLen;omega) (by omega) (by simp;omega) _ rfl ?_;intro g7 c7 J az a1 _ _;have be:À (J.heap[w1.heap.size]? = _):=Α ((a1.block w1.heap.size (δ (An E.out) (by rw[Ρ];omega)) (λe=>by have:=(ay.lt _ e.symm).1;omega)).trans (Ag E.out _));have gh:=(γ J w1.heap.size 257 _ _ _ be.out).trans (J4 _ _ _ _);have f17:=Ϸ J w1.heap.size 257 _ _ be.out)
        clear c1 gh f17;have bt:=(hQ.alloc (Ε #[Β (Δ ⟨T,0,Γ⟩) 256 256] 68)).kept a1 (Aj hQ ay (by decide));have cn:=(cl.alloc (Ε #[Β (Δ ⟨T,0,Γ⟩) 256 256] 68)).kept a1 (Aj cl ay (by decide));have dw:=(hV.alloc (Ε #[Β (Δ ⟨T,0,Γ⟩) 256 256] 68)).kept a1 (λv l U _=>Aj U (ay.alloc (Ε #[Β (Δ ⟨T,0,Γ⟩) 256 256] 68)) (by decide));have dx:=(hE.alloc (Ε #[Β (Δ ⟨T,0,Γ⟩) 256 256] 68)).grown a1 (λk e=>by have:=(ay.lt k e).1;omega);have dy:w1.heap.size+1<=J.heap.size:=by
         have:=a1.size;rw[Ρ] at this;omega
        clear a1 hQ cl hV hE ay E;have az:J.ownsRow (w1.heap.size+1) 68 1 (Β (Δ ⟨g7,0,Γ⟩) (vs.length+1) c7) (vs++[Ϥ (Δ ⟨T,0,Γ⟩) 256 256]).length (vs++[Ϥ (Δ ⟨T,0,Γ⟩) 256 256]):=by
         rw[Υ];exact az
        obtain⟨row,ea⟩:∃ v,Ϥ (Δ ⟨T,0,Γ⟩) 256 256=v:=⟨_,rfl⟩;rw[ea] at az bt;clear ea;obtain⟨M,eb⟩:∃ v,Ϥ (Δ ⟨g7,0,Γ⟩) (vs.length+1) c7=v:=⟨_,rfl⟩;rw[eb] at az;have bf:=Cd J w1.heap.size (Ai (idC 256) 256 M G);have bg:J.setCell ⟨w1.heap.size,257,Γ⟩ M=J.setRow w1.heap.size (Ai (idC 256) 256 M G):=by
         rw[Ϧ J _ _ _ _ _ _ be.out,Su]
        have cp:=dx.setRow (ν _) (Ai (idC 256) 256 M G);have bu:=bt.kept bf (Ay bt (by omega));have bw:=az.kept bf (Ay az (by omega));have ak:=cn.kept bf (Ay cn (by omega));have cr:=dw.kept bf (λv l U _=>Ay U (by omega));have bh:=Α (μ J w1.heap.size _ (Ai (idC 256) 256 M G) _ _ be.out);have ec:w1.heap.size+1<=(J.setRow w1.heap.size (Ai (idC 256) 256 M G)).heap.size:=by rw[ò];exact dy
        rw[eb,bg];clear bf bt az cn dw dx dy be bg;obtain⟨w8,ct⟩:∃ W,J.setRow w1.heap.size (Ai (idC 256) 256 M G)=W:=⟨_,rfl⟩;rw[ct] at bu bw ak cr bh cp ec;rw[ct];clear ct;have k2:=(γ w8 w1.heap.size 258 _ _ _ bh.out).trans (Ha _ _ _ _);obtain⟨bx,cu⟩:∃ b,(s==l.length)=b:=⟨_,rfl⟩;have h5:((s:Int)==(l.length:Int))=bx:=by
         rw[<-cu,ϯ];simp
         omega
        have gk:=Α cu;clear cu;have gl:((ι s).map λq=>q==l.length).length<=64:=by simp;omega
        obtain⟨Ac,cv⟩:∃ X,((ι s).map λq=>q==l.length)=X:=⟨_,rfl⟩;have gm:=Α cv;rw[cv] at ak gl;clear cv;go_upto_region 23 with (at_builtin;refine Ϙ _ rfl _ _ 28 rfl (w1.heap.size+1) 4 i4 (.bool Τ) 1 1 Tryz.underlying28 fb fc fe ff rfl (by decide) G Ac.length (Ac.map Ν.bool) rfl (ak.alloc _) _ 1 1 [.bool bx] rfl rfl (ϭ _ _ _) (by simp[ό]) (by decide) (by unfold maxLen;omega) (by omega) (by simp;omega) _ rfl ?_;intro g9 c9 w9 a8 a6 _ _;have bj:À (w9.heap[w1.heap.size]? = _):=Α ((a6.block w1.heap.size (δ (An bh.out) (by rw[Ρ];omega)) (λe=>by have:=(ak.lt _ e.symm).1;omega)).trans (Ag bh.out _));have gn:=(γ w9 w1.heap.size 258 _ _ _ bj.out).trans (Ha _ _ _ _);have f29:=Ϸ w9 w1.heap.size 258 _ _ bj.out)
        clear k2 gn f29;have cw:=(bu.alloc (Ε #[.bool bx] 4)).kept a6 (Aj bu ak (by decide));have cy:=(bw.alloc (Ε #[.bool bx] 4)).kept a6 (Aj bw ak (by decide));have ef:=(cr.alloc (Ε #[.bool bx] 4)).kept a6 (λv l U _=>Aj U (ak.alloc (Ε #[.bool bx] 4)) (by decide));have bk:=(cp.alloc (Ε #[.bool bx] 4)).grown a6 (λk e=>by have:=(ak.lt k e).1;omega);have eg:w1.heap.size+1<=w9.heap.size:=by
         have:=a6.size;rw[Ρ] at this;omega
        have a8:OwnB w9 (w1.heap.size+1) (Β (Δ ⟨g9,0,Γ⟩) (Ac.length+1) c9) (Ac++[bx]):=by
         show Ϡ _ _ _ _ _ _ _;rw[Υ,ϝ];exact a8
        clear a6 bu bw ak cr bh cp ec;obtain⟨al,eh⟩:∃ v,Ϥ (Δ ⟨g9,0,Γ⟩) (Ac.length+1) c9=v:=⟨_,rfl⟩;rw[eh] at a8;have bl:=Cd w9 w1.heap.size (Ai (idC 256) 256 M al);have bg:w9.setCell ⟨w1.heap.size,258,Γ⟩ al=w9.setRow w1.heap.size (Ai (idC 256) 256 M al):=by
         rw[Ϧ w9 _ _ _ _ _ _ bj.out,Oa]
        have ei:=bk.setRow (ν _) (Ai (idC 256) 256 M al);have cz:=cw.kept bl (Ay cw (by omega));have ej:=cy.kept bl (Ay cy (by omega));have c2:=a8.kept bl (Ay a8 (by omega));have c3:=ef.kept bl (λv l U _=>Ay U (by omega));have ek:=Α (μ w9 w1.heap.size _ (Ai (idC 256) 256 M al) _ _ bj.out);have en:w1.heap.size+1<=(w9.setRow w1.heap.size (Ai (idC 256) 256 M al)).heap.size:=by rw[ò];exact eg
        rw[eh,bg];clear bl cw cy a8 ef bk eg bj bg;obtain⟨c4,c5⟩:∃ W,w9.setRow w1.heap.size (Ai (idC 256) 256 M al)=W:=⟨_,rfl⟩;rw[c5] at cz ej c2 c3 ek ei en;rw[c5];clear c5;have eo:OwnI c4 (w1.heap.size+1) row (Db l s):=by
         show Ϡ _ _ _ _ _ _ _;rw[show (Db l s).length=256 by simp[Db]];exact cz
        have ep:=(c3.av (av':=λ_=>False) (λv l _ _ e=>e)).snoc eo (λe=>e);have gp:À (RowsO c4 (w1.heap.size+1) (vs++[row]) ((ι (s+1)).map (Db l)) (λ_=>False)):=Α (by
         rw[List.range_succ,ϝ];exact ep)
        have gq:À (OwnB c4 (w1.heap.size+1) al ((ι (s+1)).map λq=>q==l.length)):=Α (by
         rw[List.range_succ,ϝ,gm.out,List.map_singleton,gk.out];exact c2)
        have gu:À ((vs++[row]).length=s+1):=Α (by rw[Υ,dn.out];rfl);clear cz c3 eo ep c2;go_wp2;go_roundw
        case rel=>exact⟨s+1,vs++[row],M,al,by omega,by go_num,ei,en,ek,ej,gq.out,gp.out,gu⟩
        case measure=>simp[intOf];omega
    ·obtain rfl:s=l.length+2:=by omega
     have er:IsT wr (Ai (idC 256) 256 ae G) (Cr l):=by
      refine⟨ae,G,G9 (λb hb=>by show idC 256 b=b;simp[idC,hb]) _ _ _,?_,OwnB.bools (l:=(ι (l.length+2)).map λq=>q==l.length) hA (by simp;omega)⟩;exact hV.rows hN (by simp;omega) (λj hj=>by
       rw[Dg _ _ _ _ (by simpa using hj)];simp[Db])
     have hC:=Α (K7 (Cr l) (Fc l) (by rw[Es];omega) _ wr er);obtain⟨A6,ax⟩:∃ X,Ai (idC 256) 256 ae G=X:=⟨_,rfl⟩;have hiB:(Ζ.info? 108).map (·.size)=Δ A6.size:=by rw[<-ax,Em];exact Cc
     rw[ax] at E hC;clear ax er hN hA hV;have bm:=Α (hE.heap ft.out);have gw:=Α (bz.trans hE);go_wp2_with (first
      | (refine Ο rfl 108 (η 5) rfl _ rfl _ _ _ _ E.out Tryz.underlying108 rfl hiB ?_)
      | (go_at_call 69;(with_reducible refine hC.out.mono ?_);rintro e J ⟨v,r,rfl,hr,eu,ev,bk⟩;have HR:=Α hr;have ew:=Α eu;have HH:=Α ev;clear eu ev;obtain⟨ey,ez,e0,e1,e2,e3,e4,e5,rfl⟩:=hr.agg;clear hr;have bm:=Α (bk.heap bm.out))
      | (refine Φ rfl 30 (η 2) (η 68) rfl _ _ rfl rfl _ _ bm.out Ad rfl (Aq _ _ _ rfl rfl rfl) ?_))
     refine ω (v:=ϙ #[.agg (dA (Β ey ez e0) (Β e1 r.n.length e2) (Β e3 e4 e5)),.int ε 0]) (A3 rfl _ _ _ _ _ _ _ rfl _ rfl (μ J _ _ (dA (Β ey ez e0) (Β e1 r.n.length e2) (Β e3 e4 e5)) 30 (0,0) bm.out) Κ rfl Ad) rfl ?_;exact⟨r,⟨_,rfl,HR.out.setRow ew.out.val bm.out _⟩,ew.out,λu=>by rw[HH.out];exact Fd l u,(gw.out.trans bk).setRow (ν _) _⟩
theorem ResOf.some_inv {W:Λ} {A:Array Ν} {k:Int} {q:Dfa} (h:ResOf W (.returned (ϙ #[.agg A,.int ε k])) (Δ q)):k=0/\IsD W (.agg A) q:=by
 obtain⟨v',D,G⟩:=h;injection D with D
 injection D with D
 injection D with D
 injection D with I D
 injection D with E _
 injection E with _ E
 rw[<-I] at G;exact⟨E,G⟩
theorem ResOf.none_inv {W:Λ} {A:Array Ν} {k:Int} (h:ResOf W (.returned (ϙ #[.agg A,.int ε k])) Γ):k=2/\Ν.agg A=zD:=by
 unfold ResOf at h;injection h with h
 injection h with h
 injection h with h
 injection h with E h
 injection h with D _
 injection D with _ D
 exact⟨D,E⟩
theorem Abt {a:Dfa} {r:Option Dfa} (h:Jt a r) (d:Dfa) (hd:r=Δ d):Val d/\d.n.length<=64:=by
 subst hd;obtain⟨D,E⟩:=S9 h (λ_=>Iff.rfl);exact⟨D.1.val,E⟩
theorem Kf {d:Dfa}:∀ (n:Nat) (p q:Dfa),Val p->p.n.length<=64->Ee p d n (Δ q)->Val q/\q.n.length<=64
 | 0,p,q,G,I,h=>by
  injection (show Δ q=Δ p from h) with h
  subst h;exact⟨G,I⟩
 | n+1,p,q,_,_,⟨o,J,D⟩=>by
  cases o with
  | none=>cases (show Δ q=Γ from D)
  | some E=>
   obtain⟨M,T⟩:=Jm J E rfl;exact Kf n E q M T D
theorem Yu (w:Λ):By w (Β Γ 0 0) []:=Sl.nil w _ _
theorem Ki (W:Λ) (A:Array Ν):Ext W ((W.alloc (Ε #[Β Γ 0 0,Β Γ 0 0,Β Γ 0 0] 30)).setRow W.heap.size A)/\((W.alloc (Ε #[Β Γ 0 0,Β Γ 0 0,Β Γ 0 0] 30)).setRow W.heap.size A).heap[W.heap.size]? = Δ (Ε A 30 (0,0)):=
 ⟨((Θ W).alloc _).setRow (ν _) A,μ _ _ _ A _ _ (Aa W _)⟩
theorem Ad0 (d:Dfa) (hd:Val d) (b6:d.n.length<=64) (E:Nat) (fg:E<=16) (hi:Int) (fh:hi=-1\/(E:Int)<=hi) (fj:hi<=16) (vd:Ν) (w:Λ) (hT:Tab w) (ax:0<w.heap.size) (b7:IsD w vd d) :
  Calls Ζ 119 #[vd,iv E,.int ε hi] w λe w'=>∃ r,ResOf w' e r/\Ia d E hi r/\Ext w w':=by
 have a8:=Α (λW (M:Ext w W)=>hT.below M.below ax);have b8:=Α b7;have b9:=Α hd;obtain⟨ec,ed,ee,ef,eg,eh,ei,ej,rfl⟩:=b7.agg;obtain⟨Vd,bu⟩:∃ X,dA (Β ec ed ee) (Β ef d.n.length eg) (Β eh ei ej)=X:=⟨_,rfl⟩;have ca:(Ζ.info? 30).map (·.size)=Δ Vd.size:=by rw[<-bu];exact Ad
 rw[bu] at b8;rw[bu];have cb:=((Θ w).alloc (Ε Vd 30)).alloc (Ε #[Β Γ 0 0,Β Γ 0 0,Β Γ 0 0] 30);have U:=Ag (Aa w (Ε Vd 30)) (Ε #[Β Γ 0 0,Β Γ 0 0,Β Γ 0 0] 30);have D:=Ϗ w (Ε Vd 30) (Ε #[Β Γ 0 0,Β Γ 0 0,Β Γ 0 0] 30);have f45:=λW (M:Ext w W)=>Α (N4 [] (by simp) _ W (Yu W))
 clear b7 hd hT bu;go_enter Tryz.func119,Tryz.ntmps119;go_upto_region 1 with (fail)
 obtain⟨w1,cd⟩:∃ W,(w.alloc (Ε Vd 30)).alloc (Ε #[Β Γ 0 0,Β Γ 0 0,Β Γ 0 0] 30)=W:=⟨_,rfl⟩;rw[cd] at cb U D;simp only[cd];clear cd;have U:=Α U;have D:=Α D;have cf:=Α cb;clear cb;go_upto_region 2 with (first
  | (go_at_call 45;(with_reducible refine (f45 _ cf.out).out.mono ?_);rintro e w2 ⟨re,G,da,db,bw⟩;obtain⟨ek,en,eo,ep,er,et,eu,ev,ew,k1,rfl⟩:=G.form;obtain⟨rfl,dc⟩:=G.some_inv;have al:=Α dc;have ay:=Α (show Fit re (λu=>u=[]) from⟨da,db⟩);have dd:=Α (cf.out.trans bw);have U:=Α (bw.heap U.out);have D:=Α (bw.heap D.out);clear G da db bw dc)
  | (refine Φ rfl 30 (η 8) (η 16) rfl _ _ rfl rfl _ _ (Aa w2 (Ε #[Β Γ 0 0,Β Γ 0 0,Β Γ 0 0] 30)) Ad rfl (Aq _ _ _ rfl rfl rfl) ?_))
 obtain⟨VE,bx⟩:∃ X,dA (Β ek en eo) (Β ep er et) (Β eu ev ew)=X:=⟨_,rfl⟩;have de:(Ζ.info? 30).map (·.size)=Δ VE.size:=by rw[<-bx];exact Ad
 rw[bx] at al;simp only[bx];clear bx;obtain⟨I,T⟩:=Ki w2 VE;obtain⟨w3,ch⟩:∃ W,(w2.alloc (Ε #[Β Γ 0 0,Β Γ 0 0,Β Γ 0 0] 30)).setRow w2.heap.size VE=W:=⟨_,rfl⟩;rw[ch] at I T;simp only[ch];clear ch;have bc:=Α (dd.out.trans I);have U:=Α (I.heap U.out);have D:=Α (I.heap D.out);have H8:=Α T;have al:=Α (al.out.ext I);generalize w2.heap.size=g8 at *;clear I T f45 cf dd;have fl:=Mo ay.out;have f146:=λW (M:Ext w3 W)=>Α (Up re d ay.out.1.val b9.out (by omega) b6 E (by omega) _ _ W (a8.out W (bc.out.trans M)) (δ ax (bc.out.trans M).size) (al.out.ext M) (b8.out.ext (bc.out.trans M)))
 have dg:À (∀ q r,Ee re d E q->E0 q (λp r=>if hi=E then r=Δ p else
  if hi<0 then ∃ s,Jt d s/\E0 s (λs r=>E8 p s r) r else ∃ o,Lim (λw=>d.has w=Ξ\/re.has w=Ξ) o/\E0 o (λo r=>Ee p o (hi-E).toNat r) r) r->Ia d E hi r):=
  Α λq r h1 h2=>⟨re,⟨ay.out.1,ay.out.2⟩,q,h1,h2⟩
 go_upto_region 5 with (first
  | (refine Ο rfl 30 (η 8) rfl _ rfl _ _ _ _ H8.out Κ rfl de ?_)
  | (refine Ο rfl 30 (η 3) rfl _ rfl _ _ _ _ U.out Κ rfl ca ?_)
  | (go_at_call 146;(with_reducible refine (f146 _ (Θ w3)).out.mono ?_);rintro e w4 ⟨q,G,ah,dh⟩;obtain⟨e0,e1,e2,e3,e4,e5,e6,e7,e8,k2,rfl⟩:=G.form;have J:=Α G;have HPow:=Α ah;have dk:=Α dh;clear G ah dh)
  | (refine Φ rfl 30 (η 10) (η 27) rfl _ _ rfl rfl _ _ (Aa w4 (Ε #[Β Γ 0 0,Β Γ 0 0,Β Γ 0 0] 30)) Ad rfl (Aq _ _ _ rfl rfl rfl) ?_))
 obtain⟨VP,az⟩:∃ X,dA (Β e0 e1 e2) (Β e3 e4 e5) (Β e6 e7 e8)=X:=⟨_,rfl⟩;have ai:(Ζ.info? 30).map (·.size)=Δ VP.size:=by rw[<-az];exact Ad
 have dm:VP.all (·.oneCell')=Ξ:=by rw[<-az];exact Aq _ _ _ rfl rfl rfl
 have dn:À ((3:Nat)=VP.size):=Α (by rw[<-az];rfl);rw[az] at J;simp only[az];clear az;obtain⟨I,T⟩:=Ki w4 VP;obtain⟨w5,cj⟩:∃ W,(w4.alloc (Ε #[Β Γ 0 0,Β Γ 0 0,Β Γ 0 0] 30)).setRow w4.heap.size VP=W:=⟨_,rfl⟩;rw[cj] at I T;simp only[cj];clear cj;have a6:=dk.out.trans I;have ae:=Α (bc.out.trans a6);have U:=Α (a6.heap U.out);have D:=Α (a6.heap D.out);have H8:=Α (a6.heap H8.out);have aj:=Α T;have J:=Α (J.out.ext I);have al:=Α (al.out.ext a6);have dp:=Α (b8.out.ext ae.out);generalize w4.heap.size=fo at *;clear I T f146 a6 bc dk;cases q with
 | none=>
  obtain⟨rfl,hz⟩:=J.out.none_inv;have HR:=Α (dg.out Γ Γ HPow.out rfl);have HZ:=Α hz;clear hz;go_wp2_with (first
   | (refine Ο rfl 30 (η 10) rfl _ rfl _ _ _ _ aj.out Κ rfl ai ?_)
   | (refine Φ rfl 30 (η 6) (η 36) rfl _ _ rfl rfl _ _ D.out ai dn.out dm ?_))
  refine ω (v:=ϙ #[.agg VP,.int ε 2]) (A3 rfl _ _ _ _ _ _ _ rfl _ rfl (μ w5 _ _ VP 30 (0,0) D.out) Κ rfl ai) rfl ?_;exact⟨Γ,by rw[HZ.out];rfl,HR.out,ae.out.setRow (by omega) _⟩
 | some p=>
  obtain⟨rfl,dq⟩:=J.out.some_inv;obtain⟨dr,ck⟩:=Kf E re p ay.out.1.val (by omega) HPow.out;have ao:=Α dq;have b0:=Α dr;have be:=Α (λr h=>dg.out (Δ p) r HPow.out h);clear dq dr;obtain⟨b1,fa⟩:∃ b,(hi==(E:Int))=b:=⟨_,rfl⟩;have dt:b1=Ξ↔hi=E:=by rw[<-fa];simp
  have du:=Α dt;clear dt;cases b1
  ·have dv:¬ hi=E:=λh=>by have:=du.out.2 h;cases this
   have b4:=Α dv;clear dv;obtain⟨b2,fb⟩:∃ b,decide (hi<0)=b:=⟨_,rfl⟩;have dw:b2=Ξ↔hi<0:=by rw[<-fb];simp
   have dx:=Α dw;clear dw;cases b2
   ·have cl:¬ hi<0:=λh=>by have:=dx.out.2 h;cases this
    have fp:(E:Int)<=hi:=by omega
    obtain⟨m,hm⟩:∃ m:Nat,hi-E=(m:Int):=⟨(hi-E).toNat,by omega⟩;have HM:=Α hm;have fq:IntKind.i64.wrap (hi-(E:Int))=(m:Int):=by rw[hm];exact IntWalk.i64_in _ ⟨by omega,by omega⟩
    have fe:m<=1000:=by omega
    have f33:=λW (M:Ext w5 W)=>Α (Pe d re b9.out ay.out.1.val b6 (by omega) _ _ W (a8.out W (ae.out.trans M)) (δ ax (ae.out.trans M).size) (dp.out.ext M) (al.out.ext M))
    clear hm;go_upto_region 13 with (first
     | (refine Ο rfl 30 (η 3) rfl _ rfl _ _ _ _ U.out Κ rfl ca ?_)
     | (refine Ο rfl 30 (η 8) rfl _ rfl _ _ _ _ H8.out Κ rfl de ?_)
     | (go_at_call 33;(with_reducible refine (f33 _ (Θ w5)).out.mono ?_);rintro e w6 ⟨o,G,dy,bf⟩;obtain⟨cm,cn,cp,cq,cr,ct,cu,cv,cw,k3,rfl⟩:=G.form;have J:=Α G;have b5:=Α dy;have cx:=Α bf;clear G dy bf)
     | (refine Φ rfl 30 (η 13) (η 58) rfl _ _ rfl rfl _ _ (Aa w6 (Ε #[Β Γ 0 0,Β Γ 0 0,Β Γ 0 0] 30)) Ad rfl (Aq _ _ _ rfl rfl rfl) ?_))
    obtain⟨VO,af⟩:∃ X,dA (Β cm cn cp) (Β cq cr ct) (Β cu cv cw)=X:=⟨_,rfl⟩;have cy:(Ζ.info? 30).map (·.size)=Δ VO.size:=by rw[<-af];exact Ad
    rw[af] at J;simp only[af];clear af;obtain⟨I,T⟩:=Ki w6 VO;obtain⟨w7,au⟩:∃ W,(w6.alloc (Ε #[Β Γ 0 0,Β Γ 0 0,Β Γ 0 0] 30)).setRow w6.heap.size VO=W:=⟨_,rfl⟩;rw[au] at I T;simp only[au];clear au;have ab:=cx.out.trans I;have ag:=Α (ae.out.trans ab);have D:=Α (ab.heap D.out);have aj:=Α (ab.heap aj.out);have cz:=Α T;have J:=Α (J.out.ext I);have ao:=Α (ao.out.ext ab);generalize w6.heap.size=ff at *;clear I T f33 ab;cases o with
    | none=>
     obtain⟨rfl,hz⟩:=J.out.none_inv;have c1:=Α Dn;have HR:=Α (be.out Γ (by show if hi=E then _ else if hi<0 then _ else _;rw[if_neg b4.out,if_neg (show ¬ hi<0 by omega)];exact⟨Γ,b5.out,rfl⟩));clear hz;go_wp2_with (first
      | (refine Bw rfl 30 _ rfl #[Β Γ 0 0,Β Γ 0 0,Β Γ 0 0] ?_ ?_;(simp;with_reducible exact c1.out))
      | (refine Φ rfl 30 (η 6) (η 62) rfl _ _ rfl rfl _ _ D.out Ad rfl C8 ?_))
     refine ω (v:=ϙ #[zD,.int ε 2]) (A3 rfl _ _ _ _ _ _ _ rfl _ rfl (μ w7 _ _ #[Β Γ 0 0,Β Γ 0 0,Β Γ 0 0] 30 (0,0) D.out) Κ rfl Ad) rfl ?_;exact⟨Γ,rfl,HR.out,ag.out.setRow (by omega) _⟩
    | some o=>
     obtain⟨rfl,bg⟩:=J.out.some_inv;have bh:=b5.out.1.val;have c2:=b5.out.2.2;have f146:=Α (Up p o b0.out bh ck c2 m fe _ _ w7 (a8.out w7 ag.out) (δ ax ag.out.size) ao.out bg);clear bg bh;go_wp2_with (first
      | (refine Ο rfl 30 (η 10) rfl _ rfl _ _ _ _ aj.out Κ rfl ai ?_)
      | (refine Ο rfl 30 (η 13) rfl _ rfl _ _ _ _ cz.out Κ rfl cy ?_)
      | (go_at_call 146;(with_reducible refine f146.out.mono ?_);rintro e w8 ⟨r,G,ah,aw⟩;obtain⟨bj,bk,bl,bm,bn,bo,bp,bq,br,k4,rfl⟩:=G.form;have c4:=Α G;have bt:=Α ah;have D:=Α (aw.heap D.out);have c5:=Α aw;clear G ah aw)
      | (refine Φ rfl 30 (η 6) (η 70) rfl _ _ rfl rfl _ _ D.out Ad rfl (Aq _ _ _ rfl rfl rfl) ?_))
     refine ω (v:=ϙ #[.agg (dA (Β bj bk bl) (Β bm bn bo) (Β bp bq br)),.int ε k4]) (A3 rfl _ _ _ _ _ _ _ rfl _ rfl (μ w8 _ _ (dA (Β bj bk bl) (Β bm bn bo) (Β bp bq br)) 30 (0,0) D.out) Κ rfl Ad) rfl ?_;refine⟨r,c4.out.setRow (λd' h=>by subst h;exact (Kf m p d' b0.out ck bt.out).1) D.out _,?_,(ag.out.trans c5.out).setRow (by omega) _⟩;refine be.out r ?_;show if hi=E then _ else if hi<0 then _ else _
     rw[if_neg b4.out,if_neg (show ¬ hi<0 by omega)];exact⟨Δ o,b5.out,by show Ee p o (hi-E).toNat r;rw[HM.out,Int.toNat_natCast];exact bt.out⟩
   ·have cl:hi<0:=dx.out.1 rfl;have f147:=λW (M:Ext w5 W)=>Α (Abr d b9.out b6 _ W (a8.out W (ae.out.trans M)) (δ ax (ae.out.trans M).size) (dp.out.ext M))
    have ea:=Α cl;clear cl;go_upto_region 9 with (first
     | (refine Ο rfl 30 (η 3) rfl _ rfl _ _ _ _ U.out Κ rfl ca ?_)
     | (go_at_call 147;(with_reducible refine (f147 _ (Θ w5)).out.mono ?_);rintro e w6 ⟨o,G,eb,bf⟩;obtain⟨cm,cn,cp,cq,cr,ct,cu,cv,cw,k3,rfl⟩:=G.form;have J:=Α G;have c7:=Α eb;have cx:=Α bf;clear G eb bf)
     | (refine Φ rfl 30 (η 11) (η 43) rfl _ _ rfl rfl _ _ (Aa w6 (Ε #[Β Γ 0 0,Β Γ 0 0,Β Γ 0 0] 30)) Ad rfl (Aq _ _ _ rfl rfl rfl) ?_))
    obtain⟨VO,af⟩:∃ X,dA (Β cm cn cp) (Β cq cr ct) (Β cu cv cw)=X:=⟨_,rfl⟩;have cy:(Ζ.info? 30).map (·.size)=Δ VO.size:=by rw[<-af];exact Ad
    rw[af] at J;simp only[af];clear af;obtain⟨I,T⟩:=Ki w6 VO;obtain⟨w7,au⟩:∃ W,(w6.alloc (Ε #[Β Γ 0 0,Β Γ 0 0,Β Γ 0 0] 30)).setRow w6.heap.size VO=W:=⟨_,rfl⟩;rw[au] at I T;simp only[au];clear au;have ab:=cx.out.trans I;have ag:=Α (ae.out.trans ab);have D:=Α (ab.heap D.out);have aj:=Α (ab.heap aj.out);have cz:=Α T;have J:=Α (J.out.ext I);have ao:=Α (ao.out.ext ab);generalize w6.heap.size=ff at *;clear I T f147 ab;cases o with
    | none=>
     obtain⟨rfl,hz⟩:=J.out.none_inv;have c1:=Α Dn;have HR:=Α (be.out Γ (by show if hi=E then _ else if hi<0 then _ else _;rw[if_neg b4.out,if_pos ea.out];exact⟨Γ,c7.out,rfl⟩));clear hz;go_wp2_with (first
      | (refine Bw rfl 30 _ rfl #[Β Γ 0 0,Β Γ 0 0,Β Γ 0 0] ?_ ?_;(simp;with_reducible exact c1.out))
      | (refine Φ rfl 30 (η 6) (η 47) rfl _ _ rfl rfl _ _ D.out Ad rfl C8 ?_))
     refine ω (v:=ϙ #[zD,.int ε 2]) (A3 rfl _ _ _ _ _ _ _ rfl _ rfl (μ w7 _ _ #[Β Γ 0 0,Β Γ 0 0,Β Γ 0 0] 30 (0,0) D.out) Κ rfl Ad) rfl ?_;exact⟨Γ,rfl,HR.out,ag.out.setRow (by omega) _⟩
    | some o=>
     obtain⟨rfl,bg⟩:=J.out.some_inv;obtain⟨bh,c2⟩:=Abt c7.out o rfl;have f31:=Α (Q2 p o b0.out bh ck c2 _ _ w7 (a8.out w7 ag.out) (δ ax ag.out.size) ao.out bg);clear bg bh;go_wp2_with (first
      | (refine Ο rfl 30 (η 10) rfl _ rfl _ _ _ _ aj.out Κ rfl ai ?_)
      | (refine Ο rfl 30 (η 11) rfl _ rfl _ _ _ _ cz.out Κ rfl cy ?_)
      | (go_at_call 31;(with_reducible refine f31.out.mono ?_);rintro e w8 ⟨r,G,ah,aw⟩;obtain⟨bj,bk,bl,bm,bn,bo,bp,bq,br,k4,rfl⟩:=G.form;have c4:=Α G;have bt:=Α ah;have D:=Α (aw.heap D.out);have c5:=Α aw;clear G ah aw)
      | (refine Φ rfl 30 (η 6) (η 52) rfl _ _ rfl rfl _ _ D.out Ad rfl (Aq _ _ _ rfl rfl rfl) ?_))
     refine ω (v:=ϙ #[.agg (dA (Β bj bk bl) (Β bm bn bo) (Β bp bq br)),.int ε k4]) (A3 rfl _ _ _ _ _ _ _ rfl _ rfl (μ w8 _ _ (dA (Β bj bk bl) (Β bm bn bo) (Β bp bq br)) 30 (0,0) D.out) Κ rfl Ad) rfl ?_;refine⟨r,c4.out.setRow (λd' h=>(Jm bt.out d' h).1) D.out _,?_,(ag.out.trans c5.out).setRow (by omega) _⟩;refine be.out r ?_;show if hi=E then _ else if hi<0 then _ else _
     rw[if_neg b4.out,if_pos ea.out];exact⟨Δ o,c7.out,bt.out⟩
  ·have HR:=Α (be.out (Δ p) (by show if hi=E then _ else _;rw[if_pos (du.out.1 rfl)]));go_wp2_with (first
    | (refine Ο rfl 30 (η 10) rfl _ rfl _ _ _ _ aj.out Κ rfl ai ?_)
    | (refine Φ rfl 30 (η 6) (η 36) rfl _ _ rfl rfl _ _ D.out ai dn.out dm ?_))
   refine ω (v:=ϙ #[.agg VP,.int ε 0]) (A3 rfl _ _ _ _ _ _ _ rfl _ rfl (μ w5 _ _ VP 30 (0,0) D.out) Κ rfl ai) rfl ?_;exact⟨Δ p,⟨_,rfl,IsD.setRow b0.out ao.out D.out _⟩,HR.out,ae.out.setRow (by omega) _⟩
open Go Go.RowKit
structure Prg (w1 wF x y:Λ):Prop where
 os:y.os=x.os
 tape:y.tape=x.tape
 output:y.output=x.output
 size:x.heap.size<=y.heap.size
 old:∀ k,k<w1.heap.size->y.heap[k]? = x.heap[k]?\/y.heap[k]? = wF.heap[k]?
 new:∀ k,w1.heap.size<=k->k<x.heap.size->y.heap[k]? = x.heap[k]?
theorem Ö (w1 wF x:Λ):Prg w1 wF x x:=⟨rfl,rfl,rfl,ν _,λ_ _=>.inl rfl,λ_ _ _=>rfl⟩
theorem Prg.trans (w1 wF x y z:Λ) (h:Prg w1 wF x y) (k:Prg w1 wF y z):Prg w1 wF x z where
 os:=k.os.trans h.os
 tape:=k.tape.trans h.tape
 output:=k.output.trans h.output
 size:=ψ h.size k.size
 old:=λj E=>by
  rcases k.old j E with D|D
  ·rw[D];exact h.old j E
  ·exact .inr D
 new:=λj D G=>by rw[k.new j D (δ G h.size),h.new j D G]
theorem Prg.cell {w1 wF W:Λ} (h:Prg w1 wF w1 W) {p:Addr} {v:Ν} (E:w1.cell? p=Δ v) (G:p.block<w1.heap.size) (I:wF.heap[p.block]? = w1.heap[p.block]?):W.cell? p=Δ v:=by
 have J:W.heap[p.block]? = w1.heap[p.block]? := by
  rcases h.old p.block G with D|D
  ·exact D
  ·rw[D,I]
 rw[Λ.cell?_of_block J];exact E
theorem Prg.turned {w1 wF x y:Λ} (h:Prg w1 wF x y) {k:Nat} (E:k<w1.heap.size) (G:x.heap[k]? = wF.heap[k]?):y.heap[k]? = wF.heap[k]? := by
 rcases h.old k E with D|D
 ·rw[D,G]
 ·exact D
theorem Prg.done {w1 wF W:Λ} (h:Prg w1 wF w1 W) (hs:wF.heap.size=w1.heap.size) (I:wF.os=w1.os) (J:wF.tape=w1.tape) (hu:wF.output=w1.output) (M:∀ k,k<w1.heap.size->wF.heap[k]? = w1.heap[k]?\/W.heap[k]? = wF.heap[k]?):Ext wF W:=by
 refine⟨⟨by rw[h.os,I],by rw[h.tape,J],by rw[h.output,hu],by rw[hs];exact h.size,λk D=>?_⟩⟩;rw[hs] at D;rcases M k D with E|E
 ·rcases h.old k D with G|G
  ·rw[G,E]
  ·exact G
 ·exact E
theorem Prg.store {w1 wF W:Λ} (h:Prg w1 wF w1 W) {g o:Nat} {C:Array Ν} {e:Á} {v:Ν} (M:w1.heap[g]? = Δ (Ε C e (0,0))) (T:wF.heap[g]? = Δ (Ε (C.setIfInBounds o v) e (0,0))) (ho:o<C.size) :
  (∃ u,W.cell? ⟨g,o,Γ⟩=Δ u)/\W.frozen? ⟨g,o,Γ⟩=Τ/\Prg w1 wF W (W.setCell ⟨g,o,Γ⟩ v)/\(W.setCell ⟨g,o,Γ⟩ v).heap[g]? = wF.heap[g]? := by
 have aa:g<w1.heap.size:=(Array.getElem?_eq_some_iff.1 M).1;obtain⟨D,E,ae,ab⟩:∃ D,W.heap[g]? = Δ (Ε D e (0,0))/\D.size=C.size/\D.setIfInBounds o v=C.setIfInBounds o v:=by
  rcases h.old g aa with G|G
  ·exact⟨C,by rw[G,M],rfl,rfl⟩
  ·exact⟨C.setIfInBounds o v,by rw[G,T],by simp,by simp⟩
 have I:=Ϧ W g o D e (0,0) v E;rw[ab] at I;have J:(W.setCell ⟨g,o,Γ⟩ v).heap[g]? = wF.heap[g]? := by
  rw[I,T];exact μ W g _ _ _ _ E
 refine⟨⟨D[o]'(by omega),?_⟩,Ϸ W g o D e E,?_,J⟩
 ·rw[γ W g o D e _ E];exact Array.getElem?_eq_getElem (by omega)
 ·rw[I] at J ⊢;refine⟨rfl,rfl,rfl,by rw[ò];exact ν _,λk _=>?_,λk hk _=>?_⟩
  ·by_cases U:k=g
   ·subst U;exact .inr J
   ·exact .inl (setRow_other W g k _ U)
  ·exact setRow_other W g k _ (by omega)
theorem Ly (W:Λ) (g o:Nat) (v:Ν) {C:Array Ν} {e:Á} (h:W.heap[g]? = Δ (Ε C e (0,0))) :
  (W.setCell ⟨g,o,Γ⟩ v).heap.size=W.heap.size/\(W.setCell ⟨g,o,Γ⟩ v).os=W.os/\(W.setCell ⟨g,o,Γ⟩ v).tape=W.tape/\(W.setCell ⟨g,o,Γ⟩ v).output=W.output/\
  (W.setCell ⟨g,o,Γ⟩ v).heap[g]? = Δ (Ε (C.setIfInBounds o v) e (0,0))/\∀ k,k≠g->(W.setCell ⟨g,o,Γ⟩ v).heap[k]? = W.heap[k]? := by
 rw[Ϧ W g o C e (0,0) v h];exact⟨ò _ _ _,rfl,rfl,rfl,μ W g _ _ _ _ h,λk D=>setRow_other W g k _ D⟩
theorem Gi {W:Λ} {base e g n E:Nat} {xs:List Ν} (h:W.ownsRow base e 1 (Β (Δ ⟨g,0,Γ⟩) n E) n xs):∃ C,W.heap[g]? = Δ (Ε C e (0,0))/\n<=C.size:=by
 obtain⟨_,⟨D,_⟩|⟨I,J,cur,hv,_,hg,hn,_,hs,_⟩⟩:=h
 ·cases D
 ·injection hv with D M G
  injection D with D
  injection D with D
  subst D;subst G;exact⟨cur,hg,by omega⟩
theorem Dr {W:Λ} {base e size:Nat} {v:Ν} {n:Nat} {xs:List Ν} (h:W.ownsRow base e size v n xs) {g:Nat} {cs:Array Ν} {t:Á} {fr:Nat × Nat} (hg:W.heap[g]? = Δ (Ε cs t fr)) (D:t≠e):v.ownBlock=Γ\/v.ownBlock≠Δ g:=by
 obtain⟨_,⟨rfl,_⟩|⟨E,M,cur,rfl,_,G,_⟩⟩:=h
 ·exact .inl rfl
 ·refine .inr λI=>?_
  have:E=g:=ύ I;subst this;rw[G] at hg;injection hg with hg
  injection hg with _ J _
  exact D J.symm
def Br (f:Nat->Nat) (m k:Nat):List Nat:=(ι m).map λq=>if q<k then f q else 0
theorem C2 (f:Nat->Nat) (m k:Nat):(Br f m k).length=m:=by simp[Br]
theorem Hl (f:Nat->Nat) (m:Nat):Br f m 0=ζ m 0:=by
 apply ϥ;intro i;simp only[Br,ϕ,Ϭ,Nat.not_lt_zero,if_false];by_cases h:i<m
 ·simp[h]
 ·simp[h]
theorem Jd (f:Nat->Nat) (m:Nat):Br f m m=(ι m).map f:=by
 unfold Br;exact Í λq D=>if_pos (υ.1 D)
theorem F1 (f:Nat->Nat) (m k:Nat) (E:k<m):(Br f m k).set k (f k)=Br f m (k+1):=by
 apply ϥ;intro i;rw[Ï,C2];simp only[Br,ϕ];by_cases e:k=i
 ·subst e;simp[E]
 ·by_cases hi:i<m
  ·simp only[Õ hi,Option.map_some,e,if_false];by_cases D:i<k
   ·simp[D,Nat.lt_succ_of_lt D]
   ·have:¬ i<k+1:=by omega
    simp[D,this]
  ·simp[e,hi]
end Go.Proofs.YtaiogolidlamiaaGreatDoor
