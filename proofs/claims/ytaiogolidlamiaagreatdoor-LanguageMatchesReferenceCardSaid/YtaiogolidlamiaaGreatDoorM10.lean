import Derived.Test.YtaiogolidlamiaaGreatDoorM09
import Derived.Test.YtaiogolidlamiaaGreatDoorM06
import Derived.Test.YtaiogolidlamiaaGreatDoorM08
import Derived.Test.YtaiogolidlamiaaGreatDoorM07
set_option linter.unusedVariables false
set_option linter.unusedSimpArgs false
open Bool renaming eq_iff_iff → ϰ, true → Ξ, false → Τ
open Go renaming World → Κ, Value → Ρ, TypeId → Á, heap_alloc2_new → Ϙ, wpList_load_row → Υ, wpList_store_row → Φ, setRow_heap → μ, bodyPost_ret → ϋ, info_parts → ϕ, size_setRow → Õ, cell_of_row → Ω, frozen_of_row → Ϯ, setCell_eq_setRow → Ϥ, wpList_append_lies → ϐ, cell_one_new → Ϫ
open Go.IntKind renaming i64 → ζ
open Go.Lib renaming hid → Α
open Go.Obj renaming cells → Ε
open Go.Operand renaming tmp → η
open Go.Proofs.Tryz renaming prog → Η, underlying30 → Ν, zeroCells108 → ξ
open Go.RowKit renaming Hid → Ϻ
open Go.Value renaming slice → Β, tuple → ϥ, oneCell' → ϊ, slice → ϟ
open Go.World renaming size_alloc → Λ, ownsRow_nil → Í, ownsRow → ϛ
open List renaming range → ι, mem_range → υ, eq_nil_of_length_eq_zero → Ñ, mem_cons → Û, mem_singleton → ϳ, replicate → δ, ext_getElem? → ϡ, getElem?_map → Ϟ, getElem?_replicate → ϧ, getElem?_set → ϲ, getElem?_range → ì, map_congr_left → Ð, length_append → Ο, map_append → ϔ
open List.Pairwise renaming imp_of_mem → æ
open Nat renaming le_trans → ψ, le_refl → θ, lt_of_lt_of_le → ε
open Option renaming some → Δ, none → Γ, map_some → ð
open Option.some renaming inj → ω
namespace Go.Proofs.YtaiogolidlamiaaGreatDoor
set_option maxRecDepth 100000
set_option maxHeartbeats 4000000
def Fx (p:UInt8->Prop):Bk:=λw=>∃ x:UInt8,w=[x]/\p x
theorem I3 {d:Dfa} {L:Bk} (h:Fit d L) (stp:Nat->UInt8->Nat) (acc:Nat->Prop) (k:Nat) (E:0<k) (hs:∀ s x,s<k->stp s x<k) (D:∀ w,L w↔acc (w.foldl stp 0)):d.n.length<=k:=by
 have G:∀ (w:List UInt8) s,s<k->w.foldl stp s<k:=λw=>by
  induction w with
  | nil=>intro s hs;exact hs
  | cons x w H=>intro s I;exact H _ (hs s x I)
 have:=Gs h.1 (λw=>w.foldl stp 0) (λw w' e u=>by
  rw[ϰ,h.2,h.2,D,D,List.foldl_append,List.foldl_append,e]) (ι k) (λw=>υ.2 (G w 0 E))
 simpa using this
theorem I4 {d:Dfa} {L M:Bk} (h:Fit d L) (e:∀ w,L w↔M w):Fit d M:=⟨h.1,λw=>(h.2 w).trans (e w)⟩
theorem Yh {a b:Dfa} {L M:Bk} {r:Option Dfa} (h:Fb a b r) (ha:Fit a L) (D:Fit b M) (hn:a.n.length*2 ^ b.n.length<=4096) (hs:∀ d,Fit d (Cat L M)->d.n.length<=64):∃ d,r=Δ d/\Fit d (Cat L M):=by
 obtain⟨x,y,E,G,I,J,h1,T⟩:=h;obtain rfl:=Gt E ha.1 I;obtain rfl:=Gt G D.1 J;have U:=T (Aly (Bm E.val) (Bm G.val) hn);have H:Lim (Cat L M) r:=Is U λw=>Hn (λw=>ha.2 w) (λw=>D.2 w) w
 cases r with
 | some d=>exact⟨d,rfl,Vu H⟩
 | none=>
  obtain⟨d,d1,d2,d3⟩:=H;have:=hs d ⟨d1,d2⟩;omega
theorem Abr {a:Dfa} {L:Bk} {r:Option Dfa} (h:Jk a r) (ha:Fit a L) (hn:2*2 ^ a.n.length<=4096) (hs:∀ d,Fit d (Star L)->d.n.length<=64):∃ d,r=Δ d/\Fit d (Star L):=by
 obtain⟨x,E,G,I,H⟩:=h;obtain rfl:=Gt E ha.1 G;have D:=H (Abn (Bm E.val) hn);have e:(λw=>x.has w=Ξ)=L:=funext λw=>propext (ha.2 w)
 rw[e] at D;cases r with
 | some d=>exact⟨d,rfl,Vu D⟩
 | none=>
  obtain⟨d,d1,d2,d3⟩:=D;have:=hs d ⟨d1,d2⟩;omega
theorem I1 (stp:Nat->UInt8->Nat) (s:Nat) (h:∀ x,stp s x=s):∀ w:List UInt8,w.foldl stp s=s
 | []=>rfl
 | x::w=>by rw[List.foldl_cons,h x];exact I1 stp s h w
section
open Classical
theorem Pd {d:Dfa} {p:UInt8->Prop} (h:Fit d (Fx p)):d.n.length<=3:=by
 refine I3 h (λs x=>if s=0/\p x then 1 else 2) (λs=>s=1) 3 (by omega) (λs x _=>by split<;>omega) λw=>?_
 unfold Fx;rcases w with _|⟨x,_|⟨y,w⟩⟩
 ·simp
 ·by_cases D:p x<;>simp[D]
 ·have:(List.foldl (λs x=>if s=0/\p x then 1 else 2) 0 (x::y::w):Nat)=2:=by
   rw[List.foldl_cons,List.foldl_cons];have E:(if (if 0=0/\p x then 1 else 2)=0/\p y then 1 else 2:Nat)=2:=by split<;>simp
   rw[E];exact I1 _ 2 (λx=>by simp) w
  rw[this];simp
theorem Sq (p:UInt8->Prop) (w:List UInt8):Star (Fx p) w↔∀ x∈w,p x:=by
 rw[So];have key:∀ k w,pw (Fx p) k w↔w.length=k/\∀ x∈w,p x:=λk=>by
  induction k with
  | zero=>
   intro w;show w=[]↔_;constructor
   ·rintro rfl;simp
   ·rintro⟨h,_⟩;exact Ñ h
  | succ k H=>
   intro w;rw[Fw];constructor
   ·rintro⟨u,v,rfl,⟨x,rfl,I⟩,hv⟩;obtain⟨E,G⟩:=(H v).1 hv;refine⟨by simp[E,Nat.add_comm],λy D=>?_⟩;rcases Û.1 (by simpa using D) with rfl|D
    ·exact I
    ·exact G y D
   ·rintro⟨E,G⟩;cases w with
    | nil=>simp at E
    | cons x w=>exact⟨[x],w,rfl,⟨x,rfl,G x (by simp)⟩,(H w).2 ⟨by simpa using E,λy D=>G y (by simp[D])⟩⟩
 constructor
 ·rintro⟨k,J⟩;exact ((key k w).1 J).2
 ·intro h;exact⟨w.length,(key _ w).2 ⟨rfl,h⟩⟩
theorem M8 {d:Dfa} {p:UInt8->Prop} (h:Fit d (λw=>∀ x∈w,p x)):d.n.length<=2:=by
 refine I3 h (λs x=>if s=0/\p x then 0 else 1) (λs=>s=0) 2 (by omega) (λs x _=>by split<;>omega) λw=>?_
 induction w with
 | nil=>simp
 | cons x w E=>
  rw[List.foldl_cons];by_cases D:p x
  ·simp only[D,and_self,if_true,Û,forall_eq_or_imp,true_and];exact E
  ·have:(List.foldl (λs x=>if s=0/\p x then 0 else 1) 1 w:Nat)=1:=I1 _ 1 (λx=>by simp) w;simp[D,this]
theorem Md {d:Dfa} (h:Fit d (λw=>w=[])):d.n.length<=2:=by
 refine I3 h (λs x=>1) (λs=>s=0) 2 (by omega) (λs x _=>by omega) λw=>?_
 cases w with
 | nil=>simp
 | cons x w=>
  have:(List.foldl (λ_ _=>1) 1 w:Nat)=1:=I1 _ 1 (λx=>rfl) w;simp[this]
theorem Wl {d:Dfa} {p q:UInt8->Prop} (h:Fit d (λw=>∃ x v,w=x::v/\p x/\∀ y∈v,q y)):d.n.length<=3:=by
 refine I3 h (λs x=>if s=0/\p x\/s=1/\q x then 1 else 2) (λs=>s=1) 3 (by omega) (λs x _=>by split<;>omega) λw=>?_
 have E:∀ v:List UInt8,(List.foldl (λs x=>if s=0/\p x\/s=1/\q x then 1 else 2) 2 v:Nat)=2:=I1 _ 2 (λx=>by simp);have H:∀ v:List UInt8,(List.foldl (λs x=>if s=0/\p x\/s=1/\q x then 1 else 2) 1 v:Nat)=1↔∀ y∈v,q y:=λv=>by
  induction v with
  | nil=>simp
  | cons y v I=>
   rw[List.foldl_cons];by_cases G:q y
   ·simp only[G,Û,forall_eq_or_imp,true_and]
    simpa using I
   ·simp[G,E]
 cases w with
 | nil=>simp
 | cons x v=>
  rw[List.foldl_cons];by_cases D:p x
  ·simp only[D,and_self,true_or,if_true,H];constructor
   ·rintro⟨_,_,e,_,h⟩;injection e with _ e;subst e;exact h
   ·intro h;exact⟨x,v,rfl,D,h⟩
  ·simp only[D,and_false,false_or];have:(if 0=1/\q x then 1 else 2:Nat)=2:=by simp
   rw[this,E];constructor
   ·rintro⟨_,_,e,J,_⟩;injection e with e _;subst e;exact absurd J D
   ·intro h;omega
end
theorem Ye (p q:UInt8->Prop) (w:List UInt8):Cat (Fx p) (λw=>∀ x∈w,q x) w↔∃ x v,w=x::v/\p x/\∀ y∈v,q y:=by
 constructor
 ·rintro⟨_,v,rfl,⟨x,rfl,D⟩,hv⟩;exact⟨x,v,rfl,D,hv⟩
 ·rintro⟨x,v,rfl,D,hv⟩;exact⟨[x],v,rfl,⟨x,rfl,D⟩,hv⟩
theorem Acn (A B:Cls) (U:∀ x:UInt8,A.getLsbD x.toNat=Ξ↔x=97) (hB:∀ x:UInt8,B.getLsbD x.toNat=Ξ↔x=98\/x=99) (a2 a3 a4 a5 b2 b3 b4 b5:Nat) (c3 c4:Cls) (d4 d5:Int) (r3 m4:Nat) {r:Option Dfa}
  (h:Fc [⟨3,a2,a3,A,a4,d4⟩,⟨3,b2,b3,B,b4,d5⟩,⟨8,1,r3,c3,0,-1⟩,⟨4,0,2,c4,m4,d5⟩] [] r) :
  ∃ d,r=Δ d/\Cano d/\d.n.length=3/\d.has [97,99,98]=Ξ/\d.has [98,97]=Τ:=by
 obtain⟨_,⟨H,rfl,I⟩,_,⟨G,rfl,J⟩,q3,h3,h⟩:=h;have f1:Fit H (Fx (·=97)):=⟨I.1,λw=>(I.2 w).trans (by unfold Fx;simp only[U])⟩;have f2:Fit G (Fx λx=>x=98\/x=99):=⟨J.1,λw=>(J.2 w).trans (by unfold Fx;simp only[hB])⟩;have al:Hr G 0 (-1) q3:=h3;obtain⟨e,he,q,hq,D⟩:=al;obtain rfl:q=Δ e:=hq;unfold E2 at D;simp only at D;rw[if_neg (by decide),if_pos (by decide)] at D;have ao:=D;obtain⟨s,hs,h5⟩:=ao;have l2:=Pd f2;have au:2*2 ^ G.n.length<=4096:=by
  have:=Nat.pow_le_pow_right (show 0<2 by omega) l2;omega
 obtain⟨sd,rfl,E⟩:=Abr hs f2 au (λd hd=>by have:=M8 (I4 hd (Sq _));omega);have E:=I4 E (Sq _);have ls:=M8 E;have M:Fit e (λw=>w=[]):=he;have le:=Md M;have ay:2 ^ sd.n.length<=4:=ψ (Nat.pow_le_pow_right (by omega) ls) (by decide);obtain⟨d3,rfl,f3⟩:=Yh h5 M E (ψ (Nat.mul_le_mul le ay) (by decide)) (λd hd=>by have:=M8 (I4 hd (M2 _));omega);have f3:=I4 f3 (M2 _);have l3:=M8 f3;obtain⟨q4,h6,h7⟩:=h;have a7:Fb H d3 q4:=h6;have l1:=Pd f1;have a8:2 ^ d3.n.length<=4:=ψ (Nat.pow_le_pow_right (by omega) l3) (by decide);obtain⟨d4,rfl,f4⟩:=Yh a7 f1 f3 (ψ (Nat.mul_le_mul l1 a8) (by decide)) (λd hd=>by have:=Wl (I4 hd (Ye _ _));omega);have f4:=I4 f4 (Ye _ _);have l4:=Wl f4;have bb:r=Δ d4:=h7;have f:∀ w,d4.has w=Τ↔¬ ∃ x v,w=x::v/\x=97/\∀ y:UInt8,y∈v->y=98\/y=99:=λw=>by
  have:=f4.2 w;cases T:d4.has w
  ·rw[T] at this;exact⟨λ_ h=>absurd (this.2 h) (by simp),λ_=>rfl⟩
  ·exact⟨λh=>(by cases h),λh=>absurd (this.1 T) h⟩
 refine⟨d4,bb,f4.1,Nat.le_antisymm l4 ?_,(f4.2 _).2 ⟨97,[99,98],rfl,rfl,by simp⟩,(f _).2 (by simp)⟩;have ge:=M3 f4.1.val [[],[97],[98]] (by
  refine List.Pairwise.cons ?_ (List.Pairwise.cons ?_ (List.pairwise_singleton _ _))
  ·intro v hv;rcases Û.1 hv with rfl|hv
   ·exact⟨[],by rw[show ([]++[]:List UInt8)=[] from rfl,show ([97]++[]:List UInt8)=[97] from rfl,(f [] ).2 (by simp),(f4.2 [97]).2 ⟨97,[],rfl,rfl,by simp⟩];simp⟩
   ·rw[ϳ.1 hv];exact⟨[97],by rw[show ([]++[97]:List UInt8)=[97] from rfl,(f4.2 [97]).2 ⟨97,[],rfl,rfl,by simp⟩,(f _).2 (by simp)];simp⟩
  ·intro v hv;rw[ϳ.1 hv];exact⟨[],by rw[show ([97]++[]:List UInt8)=[97] from rfl,(f4.2 [97]).2 ⟨97,[],rfl,rfl,by simp⟩,(f _).2 (by simp)];simp⟩)
 exact ge
theorem L3 (x:UInt8) (m:Nat):∀ (k:Nat) (w:List UInt8),pw (λw=>w=δ m x) k w↔w=δ (k*m) x
 | 0,w=>by show w=[]↔_;simp
 | k+1,w=>by
  rw[Fw];constructor
  ·rintro⟨u,v,rfl,rfl,hv⟩;rw[(L3 x m k v).1 hv,List.replicate_append_replicate,Nat.succ_mul,Nat.add_comm]
  ·rintro rfl;exact⟨δ m x,δ (k*m) x,by rw[List.replicate_append_replicate,Nat.succ_mul,Nat.add_comm],rfl,(L3 x m k _).2 rfl⟩
theorem Tr (L:Bk) (n:Nat) (w:List UInt8):rep L n (n:Int) w↔pw L n w:=by
 constructor
 ·rintro⟨k,G,D|D,E⟩
  ·omega
  ·obtain rfl:k=n:=by omega
   exact E
 ·intro h;exact⟨n,θ _,.inr (Int.le_refl _),h⟩
theorem Ub {d:Dfa}:∀ (n:Nat) (p q:Dfa),Ef p d (n+1) (Δ q)->q.n.length<=64
 | 0,p,q,⟨o,G,D⟩=>by
  cases o with
  | none=>cases (show Δ q=Γ from D)
  | some E=>
   injection (show Δ q=Δ E from D) with e
   subst e;exact (Kv G (λ_=>Iff.rfl) (λ_=>Iff.rfl)).2
 | n+1,p,q,⟨o,G,D⟩=>by
  cases o with
  | none=>cases (show Δ q=Γ from D)
  | some E=>exact Ub n E q D
theorem Aco (A:Cls) (J:∀ x:UInt8,A.getLsbD x.toNat=Ξ↔x=97) (M T E U r3:Nat) (c2 c3:Cls) (d4:Int) {r:Option Dfa} (ae:d4<0\/(E:Int)<=d4)
  (h:Fc [⟨3,M,T,A,E,d4⟩,⟨8,0,U,c2,16,16⟩,⟨8,1,r3,c3,5,5⟩] [] r):r=Γ:=by
 cases r with
 | none=>rfl
 | some d=>
  have G:=Yt _ [] [] ⟨rfl,λi hi=>absurd hi (by simp)⟩ (by
   refine⟨⟨by simp,by simp,ae,by simp,by simp⟩,⟨by simp,by simp,by simp,by simp,by simp⟩,⟨by simp,by simp,by simp,by simp,by simp⟩,trivial⟩) (by simp) d h
  have hl:d.n.length<=64:=by
   obtain⟨q1,-,h⟩:=h;cases q1 with
   | none=>cases (show Δ d=Γ from h)
   | some d1=>
    obtain⟨q2,-,h⟩:=h;cases q2 with
    | none=>cases (show Δ d=Γ from h)
    | some d2=>
     obtain⟨q3,h3,h⟩:=h;cases q3 with
     | none=>cases (show Δ d=Γ from h)
     | some d3=>
      have e:Δ d=Δ d3:=h;injection e with e
      subst e;obtain⟨e,-,q,hq,D⟩:=(show Hr d2 5 5 (Δ d) from h3);cases q with
      | none=>cases (show Δ d=Γ from D)
      | some p=>
       unfold E2 at D;simp only at D;rw[if_pos (by decide)] at D;injection D with e
       subst e;exact Ub 4 _ _ hq
  have H:∀ w,d.has w=Ξ↔w=δ 80 97:=λw=>by
   rw[G.2 w];show rep (rep (λw=>∃ x:UInt8,w=[x]/\A.getLsbD x.toNat=Ξ) 16 (16:Nat)) 5 (5:Nat) w↔_;have e1:(λw=>∃ x:UInt8,w=[x]/\A.getLsbD x.toNat=Ξ)=λw=>w=δ 1 97:=by
    funext w
    simp[J]
   have e2:rep (λw=>w=δ 1 (97:UInt8)) 16 (16:Nat)=λw=>w=δ 16 97:=by
    funext w
    rw[Tr,L3]
   rw[e1,e2,Tr,L3]
  have:=M3 G.1.val ((ι 66).map λi=>δ i 97) (by
   rw[List.pairwise_map];refine æ (λ{i j} hi I al=>?_) List.pairwise_lt_range;have hi:=υ.1 hi;have I:=υ.1 I;refine⟨δ (80-i) 97,?_⟩;have t:d.has (δ i 97++δ (80-i) 97)=Ξ:=(H _).2 (by rw[List.replicate_append_replicate];congr 1;omega);have f:d.has (δ j 97++δ (80-i) 97)=Τ:=by
    cases hh:d.has (δ j 97++δ (80-i) 97)
    ·rfl
    ·have:=congrArg List.length ((H _).1 hh);simp at this;omega
   rw[t,f];simp)
  simp at this;omega
theorem Aax {L:Bk} {r:Option Dfa} (h:Lim L r) (u v:List UInt8) (G:∀ w,L w↔w=u\/w=v) (H:(u.length+2)*(v.length+2)<=64):∃ d,r=Δ d/\Fit d (λw=>w=u\/w=v):=by
 have key:∀ d,Cano d->(∀ w,d.has w=Ξ↔L w)->d.n.length<=64:=λd D E=>by
  have:=T6 (Ff u) (Ff v) (g:=λa b=>a||b) D (λw=>by
   rw[ϰ,E,G,Bool.or_eq_true,Fg,Fg])
  rw[Es,Es] at this;omega
 cases r with
 | none=>
  obtain⟨d,D,E,I⟩:=h;have:=key d D E;omega
 | some d=>exact⟨d,rfl,h.1,λw=>(h.2.1 w).trans (G w)⟩
theorem Gu {d:Dfa} (h:Fit d (λw=>w=[97,98]\/w=[97,98,99])):d.n.length<=5:=by
 refine I3 h (λs x=>if s<3/\x=([97,98,99]:List UInt8).getD s 0 then s+1 else 4) (λs=>s=2\/s=3) 5 (by omega) (λs x _=>by split<;>omega) λw=>?_
 have E:∀ v:List UInt8,(List.foldl (λs x=>if s<3/\x=([97,98,99]:List UInt8).getD s 0 then s+1 else 4) 4 v:Nat)=4:=I1 _ 4 (λx=>by simp);rcases w with _|⟨x,w⟩
 ·simp
 rw[List.foldl_cons];by_cases D:x=97
 ·subst D;rw[if_pos (by simp)];rcases w with _|⟨x,w⟩
  ·simp
  rw[List.foldl_cons];by_cases D:x=98
  ·subst D;rw[if_pos (by simp)];rcases w with _|⟨x,w⟩
   ·simp
   rw[List.foldl_cons];by_cases D:x=99
   ·subst D;rw[if_pos (by simp)];rcases w with _|⟨x,w⟩
    ·simp
    rw[List.foldl_cons,if_neg (by simp),E];simp
   ·rw[if_neg (by simp[D]),E];simp[D]
  ·rw[if_neg (by simp[D]),E];simp[D]
 ·rw[if_neg (by simp[D]),E];simp[D]
def Hq:Nat->List (List Bool)
 | 0=>[[]]
 | n+1=>(Hq n).flatMap λl=>[Τ::l,Ξ::l]
theorem Zb:∀ n,(Hq n).length=2 ^ n
 | 0=>rfl
 | n+1=>by
  simp only[Hq,List.length_flatMap,List.length_cons,List.length_nil];rw[Ia,Zb n,Nat.pow_succ]
theorem Za:∀ (n:Nat) (l:List Bool),l.length=n->l∈Hq n
 | 0,l,h=>by rw[Ñ h];simp[Hq]
 | n+1,[],h=>by simp at h
 | n+1,b::l,h=>by
  simp only[Hq,List.mem_flatMap];exact⟨l,Za n l (by simpa using h),by cases b<;>simp⟩
theorem Ahy (u:List UInt8):¬ Lex u u:=by
 rintro⟨p,a,b,G,v',E,D,h⟩;rw[E] at D;have:=List.append_cancel_left D;injection this with e _
 rw[e] at h;omega
theorem Z9 (n:Nat) (L:List UInt8->Bool):(Bp L n).Nodup:=
 (Rl n L).imp λ{a b} h e=>by subst e;exact Ahy a h
theorem Lg {L:List UInt8->Bool} {n:Nat} (h:∀ w,w.length=n->L w=Τ):Bp L n=[]:=
 List.eq_nil_iff_forall_not_mem.2 λw E=>by
  obtain⟨G,D⟩:=(F7 n L w).1 E;rw[h w G] at D;cases D
theorem Rm {L:List UInt8->Bool} {n:Nat} (u:List UInt8) (hu:u.length=n) (h:∀ w,w.length=n->(L w=Ξ↔w=u)):Bp L n=[u]:=by
 have hm:∀ w,w∈Bp L n↔w=u:=λw=>by
  rw[F7];constructor
  ·rintro⟨E,G⟩;exact (h w E).1 G
  ·rintro rfl;exact⟨hu,(h w hu).2 rfl⟩
 have hn:=Z9 n L;cases D:Bp L n with
 | nil=>exact absurd ((hm u).2 rfl) (by rw[D];simp)
 | cons a l=>
  rw[D] at hm hn;obtain rfl:=(hm a).1 (by simp);cases l with
  | nil=>rfl
  | cons b l=>
   obtain rfl:=(hm b).1 (by simp);simp at hn
theorem Amr {d:Dfa} (h:Fit d (λw=>w=[97,98]\/w=[97,98,99])):A5 d.has 3=1:=by
 unfold A5;rw[Rm (n:=3) [97,98,99] rfl (λw D=>?_)]
 ·rfl
 ·rw[h.2];constructor
  ·rintro (rfl|rfl)
   ·simp at D
   ·rfl
  ·exact .inr
theorem Ams {d:Dfa} (h:Fit d (λw=>w=[97,98]\/w=[97,98,99])):Ca d.has 3=[[97,98]]:=by
 have E:∀ n,n<2->Bp d.has n=[]:=λn hn=>Lg λw D=>by
  cases G:d.has w
  ·rfl
  ·rcases (h.2 w).1 G with rfl|rfl<;>simp at D<;>omega
 show (([]++Bp d.has 0)++Bp d.has 1)++Bp d.has 2=_;rw[E 0 (by omega),E 1 (by omega),Rm (n:=2) [97,98] rfl (λw D=>?_)]
 ·rfl
 ·rw[h.2];constructor
  ·rintro (rfl|rfl)
   ·rfl
   ·simp at D
  ·exact .inl
theorem Hk {L:List UInt8->Bool} (h:∀ w,L w=Ξ) (n:Nat):A5 L n=256 ^ n:=by
 have D:=X0 n L;have E:A5 (λw=>!L w) n=0:=by
  unfold A5;rw[Lg (λw _=>by rw[h];rfl)];rfl
 omega
open Go.RowKit Go.Shelf
theorem Sl.first {W:Κ} {v:Ρ} {k n:Nat} {f:Nat->Ρ} (h:Sl W v k n f) (hn:0<n) (G:0<k):∃ b D E,v=Β (Δ ⟨b,D,Γ⟩) n E/\W.cell? ⟨b,D,Γ⟩=Δ (f 0):=by
 obtain⟨b,D,E,rfl,H⟩:=ä h hn;exact⟨b,D,E,rfl,H 0 (Nat.mul_pos hn G)⟩
theorem Nz {W:Κ} {v:Ρ} {k n k' D:Nat} {f E:Nat->Ρ} (h:Sl W v k n f) (hn:0<n) (I:0<k) (J:Sl W v k' D E) (M:0<D) (T:0<k'):f 0=E 0:=by
 obtain⟨b,ad,ae,hv,U⟩:=h.first hn I;obtain⟨b',af,ag,G,H⟩:=J.first M T;rw[hv] at G;injection G with e _ _
 injection e with e
 injection e with e1 e2 _
 subst e1;subst e2;rw[U] at H;injection H
theorem IsD.setBox {W:Κ} {v:Ρ} {q p:Dfa} (U:Val q) (h:IsD W v q) (H:Val p) {A:Array Ρ} (hA:IsD W (.agg A) p) {g:Nat} {e:Á} {fr:Nat × Nat} (hg:W.heap[g]? = Δ (Ε A e fr)) (cs:Array Ρ):IsD (W.setRow g cs) v q:=by
 obtain⟨vc,vn,va,rfl,h1,⟨vs,ao,hN,hr⟩,h3⟩:=h;obtain⟨pc,pn,pa,I,g1,⟨ps,bc,gN,gr⟩,g3⟩:=hA;injection I with I
 have az:=U.parts.pos;have a1:=H.parts.pos;have ag:∀ (o:Nat) (x:Ρ),A[o]? = Δ x->x=pc\/x=pn\/x=pa:=λo x D=>by
  have:=Array.mem_of_getElem? D;rw[I] at this
  simpa using this
 obtain⟨ac,cc,a6⟩:=Sl.len g1;obtain⟨an,cn,a7⟩:=Sl.len gN;obtain⟨aa,ca,a8⟩:=Sl.len g3;have J:∀ (o:Nat) (x:Ρ),A[o]? = Δ x->∃ a n c,x=Β a n c:=λo x D=>by
  rcases ag o x D with rfl|rfl|rfl
  ·exact⟨_,_,_,a6⟩
  ·exact⟨_,_,_,a7⟩
  ·exact⟨_,_,_,a8⟩
 refine⟨vc,vn,va,rfl,Sl.setRow h1 hg (λi hi o D=>?_) (by omega) cs,⟨vs,ao,Sl.setRow hN hg (λi hi o D=>?_) (by omega) cs,λi hi=>Sl.setRow (hr i hi) hg (λj hj o D=>?_) (by omega) cs⟩,Sl.setRow h3 hg (λi hi o D=>?_) (by omega) cs⟩
 ·obtain⟨a,n,c,he⟩:=J _ _ D;cases he
 ·have ah:i<q.n.length:=by omega
  have E:=hr i ah;have M:0<(q.n.getD i []).length:=by rw[U.row i ah];exact az
  have T:=H.pos;rcases ag _ _ D with G|G|G
  ·rw[G] at E;have:=Nz E M (by omega) g1 a1 (by omega);cases this
  ·rw[G] at E;have h0:=Nz E M (by omega) gN T (by omega);obtain⟨a,c,hz⟩:=Sl.len (gr 0 T);rw[hz] at h0;cases h0
  ·rw[G] at E;have:=Nz E M (by omega) g3 (by rw[H.accL];exact T) (by omega);cases this
 ·obtain⟨a,n,c,he⟩:=J _ _ D;cases he
 ·obtain⟨a,n,c,he⟩:=J _ _ D;cases he
theorem Je {a b:Dfa} {r:Option Dfa} (h:Fb a b r) (d:Dfa) (hd:r=Δ d):Val d/\d.n.length<=64:=by
 subst hd;obtain⟨D,E⟩:=Kv h (λ_=>Iff.rfl) (λ_=>Iff.rfl);exact⟨D.1.val,E⟩
theorem Ua (p d:Dfa) (hp:Val p) (hd:Val d) (b8:p.n.length<=64) (b9:d.n.length<=64) (n:Nat) (hn:n<=1000) (vp vd:Ρ) (w:Κ) (hT:Tab w) (bt:0<w.heap.size) (ay:IsD w vp p) (az:IsD w vd d) :
  Calls Η 146 #[vp,vd,iv n] w λe w'=>∃ r,ResOf w' e r/\Ef p d n r/\Ext w w':=by
 have cb:=Α (λW (hW:Ext w W)=>hT.below hW.below bt);have a1:=Α ay;have bu:=Α az;have cf:=Α hd;obtain⟨ac,lc,cc,an,cn,aa,la,ca,rfl⟩:=ay.agg;obtain⟨cp,cq,cr,ct,cu,cv,cw,cx,rfl⟩:=az.agg;obtain⟨G,al⟩:∃ X,dA (Β cp cq cr) (Β ct d.n.length cu) (Β cv cw cx)=X:=⟨_,rfl⟩;have cy:(Η.info? 30).map (·.size)=Δ G.size:=by rw[<-al];exact Ad
 rw[al] at bu;rw[al];obtain⟨H,ao⟩:∃ X,dA (Β ac lc cc) (Β an p.n.length cn) (Β aa la ca)=X:=⟨_,rfl⟩;have cz:Ϻ (H.size=3):=Α (by rw[<-ao];rfl);rw[ao] at a1;rw[ao];have aq:=(((Ι w).alloc (Ε H 30)).alloc (Ε G 30)).alloc (Ε #[Β Γ 0 0,Β Γ 0 0,Β Γ 0 0] 30);have I:=Ag (Ag (Ab w (Ε H 30)) (Ε G 30)) (Ε #[Β Γ 0 0,Β Γ 0 0,Β Γ 0 0] 30);have H4:=Ag (Ϙ w (Ε H 30) (Ε G 30)) (Ε #[Β Γ 0 0,Β Γ 0 0,Β Γ 0 0] 30);have D:=Ab ((w.alloc (Ε H 30)).alloc (Ε G 30)) (Ε #[Β Γ 0 0,Β Γ 0 0,Β Γ 0 0] 30);rw[Λ,Λ] at D;clear ay az hd hT al;go_enter Tryz.func146,Tryz.ntmps146;go_upto_region 1 with (fail)
 obtain⟨w1,a6⟩:∃ W,((w.alloc (Ε H 30)).alloc (Ε G 30)).alloc (Ε #[Β Γ 0 0,Β Γ 0 0,Β Γ 0 0] 30)=W:=⟨_,rfl⟩;rw[a6] at aq I H4 D;simp only[a6];clear a6;have bw:=Α (a1.out.ext aq);clear ao a1;go_wp2_with (fail);go_loopw [8,10] (λve vi W=>∃ (i:Nat) (q:Dfa) (A:Array Ρ),i<=n/\ve=.int ζ 0/\vi=.int ζ i/\Ext w W/\Ϻ (W.heap[w.heap.size]? = Δ (Ε A 30 (0,0)))/\Ϻ (W.heap[w.heap.size+1]? = Δ (Ε G 30 (0,0)))/\
   Ϻ (W.heap[w.heap.size+1+1]? = Δ (Ε #[Β Γ 0 0,Β Γ 0 0,Β Γ 0 0] 30 (0,0)))/\Ϻ (A.size=3)/\Ϻ (IsD W (.agg A) q)/\Ϻ (Val q/\q.n.length<=64)/\Ϻ (∀ r,Ef q d (n-i) r->Ef p d n r))
  (λ_ vi _=>n-(intOf vi).toNat)
 case atStart=>exact⟨0,p,H,by omega,rfl,rfl,aq,Α I,Α H4,Α D,cz,bw,Α ⟨hp,b8⟩,Α λr h=>h⟩
 case round=>
  clear aq I H4 D bw hp;obtain⟨i,q,A,hi,rfl,rfl,hE,I,H4,D,HA,HI,HQ,HP⟩:=hrel;have aw:(Η.info? 30).map (·.size)=Δ A.size:=by rw[HA.out];exact Ad
  obtain⟨db,dc,dd,de,df,dg,dh,dk,ak⟩:=HI.out.agg;injection ak with ak
  by_cases dm:i<n
  ·have f31:=Α (Qo q d HQ.out.1 cf.out HQ.out.2 b9 _ _ wr (cb.out wr hE) (ε bt hE.size) HI.out (bu.out.ext hE));clear ak;go_upto_region 5 with (first
    | (refine Υ rfl 30 (η 3) rfl _ rfl _ _ _ _ I.out Ν rfl aw ?_)
    | (refine Υ rfl 30 (η 4) rfl _ rfl _ _ _ _ H4.out Ν rfl cy ?_)
    | (go_at_call 31;(with_reducible refine f31.out.mono ?_);rintro e w5 ⟨r,bc,bx,bd⟩;obtain⟨J,M,T,U,ab,ad,ae,af,ag,k2,rfl⟩:=bc.form;have bz:=Α bc;have be:=Α bx;have ax:=Α bd;have bf:=Α (bd.heap I.out);clear bc bx bd)
    | (refine Φ rfl 30 (η 3) (η 16) rfl _ _ rfl rfl _ _ bf.out Ad HA.out (Ap _ _ _ rfl rfl rfl) ?_))
   have bg:=(hE.trans ax.out).setRow (θ w.heap.size) (dA (Β J M T) (Β U ab ad) (Β ae af ag));have G3:=μ w5 _ _ (dA (Β J M T) (Β U ab ad) (Β ae af ag)) 30 (0,0) bf.out;have G4:=B8 (ax.out.heap H4.out) (show w.heap.size+1≠w.heap.size by omega) (dA (Β J M T) (Β U ab ad) (Β ae af ag));have G6:=B8 (ax.out.heap D.out) (show w.heap.size+1+1≠w.heap.size by omega) (dA (Β J M T) (Β U ab ad) (Β ae af ag));have b0:=Α (λ(q':Dfa) (c3:Val q') (h:IsD w5 (.agg (dA (Β J M T) (Β U ab ad) (Β ae af ag))) q')=>IsD.setBox c3 h HQ.out.1 (HI.out.ext ax.out) bf.out (dA (Β J M T) (Β U ab ad) (Β ae af ag)));obtain⟨w6,bk⟩:∃ W,w5.setRow w.heap.size (dA (Β J M T) (Β U ab ad) (Β ae af ag))=W:=⟨_,rfl⟩;rw[bk] at bg G3 G4 G6 b0;simp only[bk];clear bk f31;have G6:=Α G6;cases r with
   | none=>
    have hk:k2=2:=by
     have:=bz.out;unfold ResOf at this;injection this with this
     injection this with this
     injection this with this
     injection this with _ this
     injection this with this _
     injection this
    subst hk;have c6:=Α Fa;have b4:Ef q d (n-i) Γ:=by
     rw[show n-i=(n-(i+1))+1 by omega];exact⟨Γ,be.out,rfl⟩
    have bl:=Α (HP.out Γ b4);clear b4 G3 G4;go_wp2_with (first
     | (refine B3 rfl 30 _ rfl #[Β Γ 0 0,Β Γ 0 0,Β Γ 0 0] ?_ ?_;(simp;with_reducible exact c6.out))
     | (refine Φ rfl 30 (η 6) (η 20) rfl _ _ rfl rfl _ _ G6.out Ad rfl Ew ?_))
    refine ϋ (v:=ϥ #[zD,.int ζ 2]) (Ba rfl _ _ _ _ _ _ _ rfl _ rfl (μ w6 _ _ #[Β Γ 0 0,Β Γ 0 0,Β Γ 0 0] 30 (0,0) G6.out) Ν rfl Ad) rfl ?_;exact⟨Γ,rfl,bl.out,bg.setRow (by omega) _⟩
   | some q'=>
    obtain⟨v',E,bm⟩:=bz.out;injection E with E
    injection E with E
    injection E with E
    injection E with h1 E
    injection E with h2 _
    injection h2 with _ h2
    subst h2;rw[<-h1] at bm;obtain⟨b6,c7⟩:=Je be.out q' rfl;have b7:=b0.out q' b6 bm;have c8:=Α b7;have c9:=Α (λr (h:Ef q' d (n-(i+1)) r)=>HP.out r (by
     rw[show n-i=(n-(i+1))+1 by omega];exact⟨Δ q',be.out,h⟩))
    clear b7 bm h1;go_wp2;go_roundw
    case rel=>exact⟨i+1,q',_,by omega,rfl,by go_num,bg,Α G3,Α G4,G6,Α rfl,c8,Α ⟨b6,c7⟩,c9⟩
    case measure=>simp[intOf];omega
  ·obtain rfl:n=i:=by omega
   have da:A.all (·.oneCell')=Ξ:=by rw[ak];exact Ap _ _ _ rfl rfl rfl
   clear ak;have bl:=Α (HP.out (Δ q) (by rw[Nat.sub_self];rfl));go_wp2_with (first
    | (refine Υ rfl 30 (η 3) rfl _ rfl _ _ _ _ I.out Ν rfl aw ?_)
    | (refine Φ rfl 30 (η 6) (η 23) rfl _ _ rfl rfl _ _ D.out aw HA.out.symm da ?_))
   refine ϋ (v:=ϥ #[.agg A,.int ζ 0]) (Ba rfl _ _ _ _ _ _ _ rfl _ rfl (μ wr _ _ A 30 (0,0) D.out) Ν rfl aw) rfl ?_;exact⟨Δ q,⟨_,rfl,IsD.setRow HQ.out.1 HI.out D.out _⟩,bl.out,hE.setRow (by omega) _⟩
theorem Amk:Η.built 108 [(1,.int ζ 256)]=Δ (Aj (λ_=>0) 256 (Β Γ 0 0) (Β Γ 0 0)):=by kernel_rfl
def idC (k y:Nat):Nat:=if y<k then y else 0
theorem Aja (k:Nat) (D:k<256) (n:Nat) (vn va:Ρ):(Aj (idC k) n vn va).setIfInBounds k (iv k)=Aj (idC (k+1)) n vn va:=by
 rw[Sb _ _ _ _ _ _ D];refine G0 (λb E=>?_) n vn va;unfold idC;by_cases e:b=k
 ·subst e;simp
 ·rw[if_neg e];by_cases h:b<k
  ·rw[if_pos h,if_pos (by omega)]
  ·rw[if_neg h,if_neg (by omega)]
def Ep (m k:Nat):List Nat:=(ι 256).map λj=>if j<k then m else 0
theorem I7 (m k:Nat):(Ep m k).length=256:=by simp[Ep]
theorem Akd (m:Nat):Ep m 0=δ 256 0:=by
 apply ϡ;intro i;simp only[Ep,Ϟ,ϧ,Nat.not_lt_zero,if_false];by_cases h:i<256
 ·simp[h]
 ·simp[h]
theorem Ake (m k:Nat) (E:k<256):(Ep m k).set k m=Ep m (k+1):=by
 apply ϡ;intro i;rw[ϲ,I7];simp only[Ep,Ϟ];by_cases h:i<256
 ·rw[ì h];by_cases e:k=i
  ·subst e;simp[E]
  ·simp only[e,if_false,ð];by_cases D:i<k
   ·rw[if_pos D,if_pos (by omega)]
   ·rw[if_neg D,if_neg (by omega)]
 ·rw[if_neg (by omega)];simp[h]
theorem Zy (l:List UInt8) (s:Nat) (hs:s<l.length):(Ep (l.length+1) 256).set (l.getD s 0).toNat (s+1)=Dc l s:=by
 apply ϡ;intro i;rw[ϲ,I7];have E:=(l.getD s 0).toNat_lt;simp only[Ep,Dc,Ϟ];by_cases h:i<256
 ·rw[ì h];by_cases e:(l.getD s 0).toNat=i
  ·rw[if_pos e,if_pos (by omega),ð,if_pos ⟨hs,e⟩]
  ·rw[if_neg e,ð,ð,if_pos h,if_neg (λD=>e D.2)]
 ·rw[if_neg (by omega)];simp[h]
theorem Zx (l:List UInt8) (s:Nat) (hs:¬ s<l.length):Ep (l.length+1) 256=Dc l s:=by
 unfold Ep Dc;refine Ð λb D=>?_
 have:=υ.1 D;rw[if_pos this,if_neg (λh=>hs h.1)]
theorem Nk (l:List UInt8) (hl:l.length<=62) (v:Ρ) (w:Κ) (h:By w v l) :
  Calls Η 45 #[v] w λe w'=>∃ r,ResOf w' e (Δ r)/\Cano r/\(∀ u,r.has u=Ξ↔u=l)/\Ext w w':=by
 obtain⟨ab,bb,ob,cb,rfl,c6,c8⟩:=h.split;obtain⟨i0,hi,e6,e7,e8⟩:=ϕ Cg;obtain⟨i4,fa,fb,fc,fe⟩:=ϕ Dt;obtain⟨i6,fg,fh,fj,fl⟩:=ϕ (show (Η.info? 68).map (λi=>(i.zero,i.size,i.bytes))=Δ (Δ (Β Γ 0 0),1,24) by kernel_rfl);have fm:=Α c6;have fo:=Α c8;have da:=Α Amk;obtain⟨T0,a6⟩:∃ X,Aj (λ_=>0) 256 (Β Γ 0 0) (Β Γ 0 0)=X:=⟨_,rfl⟩;rw[a6] at da;have db:ξ.size=T0.size:=by rw[<-a6,Db,Em]
 have dc:(Η.info? 108).map (·.size)=Δ T0.size:=by rw[<-a6,Em];exact Cd
 have dd:T0.all (·.oneCell')=Ξ:=by rw[<-a6];exact Gz _ _ (Β Γ 0 0) (Β Γ 0 0) rfl rfl
 have fp:=Α a6;have bw:=(Ι w).alloc (Ε #[Β Γ 0 0,Β Γ 0 0,Β Γ 0 0] 30);have H2:=Ab w (Ε #[Β Γ 0 0,Β Γ 0 0,Β Γ 0 0] 30);clear a6 h c6 c8;go_enter Tryz.func45,Tryz.ntmps45;go_upto_region 1 with (fail)
 obtain⟨w1,bm⟩:∃ W,w.alloc (Ε #[Β Γ 0 0,Β Γ 0 0,Β Γ 0 0] 30)=W:=⟨_,rfl⟩;have hp:w.heap.size<w1.heap.size:=by rw[<-bm,Λ];omega
 rw[bm] at bw H2;simp only[bm];clear bm;have fs:=Α H2;clear H2;go_upto_region 5 with (first
  | (refine B3 rfl 108 _ rfl T0 ?_ ?_;(simp[Act.eval];with_reducible exact da.out))
  | (refine Φ rfl 108 (η 5) (η 15) rfl _ _ rfl rfl _ _ (Ab w1 (Ε ξ 108)) dc db dd ?_))
 have b0:=((Ι w1).alloc (Ε ξ 108)).setRow (θ _) T0;have bn:=μ (w1.alloc (Ε ξ 108)) w1.heap.size _ T0 _ _ (Ab w1 _);have b4:w1.heap.size+1<=((w1.alloc (Ε ξ 108)).setRow w1.heap.size T0).heap.size:=by rw[Õ,Λ];exact θ _
 obtain⟨wa,b5⟩:∃ W,(w1.alloc (Ε ξ 108)).setRow w1.heap.size T0=W:=⟨_,rfl⟩;rw[b5] at b0 bn b4;simp only[b5];clear b5 db dc dd;rw[<-fp.out] at bn;have de:Ϻ (wa.heap[w1.heap.size]? = Δ (Ε (Aj (idC 0) 256 (Β Γ 0 0) (Β Γ 0 0)) 108 (0,0))):=Α (by
  rw[bn,G0 (c:=λ_=>0) (c':=idC 0) (λb hb=>by simp[idC])])
 clear bn;go_wp2_with (fail);go_loopw [16] (λi W=>∃ k:Nat,k<=256/\i=.int ζ k/\Ext w1 W/\w1.heap.size+1<=W.heap.size/\Ϻ (W.heap[w1.heap.size]? = Δ (Ε (Aj (idC k) 256 (Β Γ 0 0) (Β Γ 0 0)) 108 (0,0)))) (λi _=>256-(intOf i).toNat)
 case atStart=>exact⟨0,by omega,rfl,b0,b4,de⟩
 case round=>
  clear b0 b4 de;obtain⟨k,hk,rfl,hE,ao,E⟩:=hrel;by_cases b6:k<256
  ·have ht:(k:Int)<256:=by omega
   have ck:=(Ω wr w1.heap.size k _ _ _ E.out).trans (Nq _ _ _ _ k b6);have fk:=Ϯ wr w1.heap.size k _ _ E.out;have fv:=hE.setRow (θ _) (Aj (idC (k+1)) 256 (Β Γ 0 0) (Β Γ 0 0));have fw:=Α (μ wr w1.heap.size _ (Aj (idC (k+1)) 256 (Β Γ 0 0) (Β Γ 0 0)) _ _ E.out);have b7:Ϻ (wr.setCell ⟨w1.heap.size,k,Γ⟩ (iv k)=wr.setRow w1.heap.size (Aj (idC (k+1)) 256 (Β Γ 0 0) (Β Γ 0 0))):=Α (by rw[Ϥ wr _ _ _ _ _ _ E.out,Aja _ b6]);go_wp2_with (fail);go_roundw
   case rel=>exact⟨k+1,by omega,by go_num,by rw[show wr.setCell ⟨w1.heap.size,k,Γ⟩ (.int ζ (k:Int))=_ from b7.out];exact fv,by rw[show wr.setCell ⟨w1.heap.size,k,Γ⟩ (.int ζ (k:Int))=_ from b7.out,Õ];exact ao,by rw[show wr.setCell ⟨w1.heap.size,k,Γ⟩ (.int ζ (k:Int))=_ from b7.out];exact fw⟩
   case measure=>simp[intOf];omega
  ·obtain rfl:k=256:=by omega
   have a8:((256:Nat):Int)=256:=rfl;simp only[a8];clear a8;go_wp2_with (fail);have dg:=Í wr (w1.heap.size+1) 68 1;have dh:=Í wr (w1.heap.size+1) 4 1;have dk:RowsO wr (w1.heap.size+1) [] ((ι 0).map (Dc l)) (λ_=>False):=⟨rfl,λj hj=>by simp at hj⟩;go_loopw [26] (λi W=>∃ (s:Nat) (vs:List Ρ) (ad G:Ρ),s<=l.length+2/\i=.int ζ s/\Ext w1 W/\w1.heap.size+1<=W.heap.size/\Ϻ (W.heap[w1.heap.size]? = Δ (Ε (Aj (idC 256) 256 ad G) 108 (0,0)))/\
     W.ownsRow (w1.heap.size+1) 68 1 ad vs.length vs/\OwnB W (w1.heap.size+1) G ((ι s).map λq=>q==l.length)/\RowsO W (w1.heap.size+1) vs ((ι s).map (Dc l)) (λ_=>False)/\Ϻ (vs.length=s))
    (λi _=>l.length+2-(intOf i).toNat)
   case atStart=>exact⟨0,[],_,_,by omega,rfl,hE,ao,E,dg,dh,dk,Α rfl⟩
   case round=>
    clear hE ao E dg dh dk;obtain⟨s,vs,ad,G,hs,rfl,hE,ao,E,hN,hA,hV,dm⟩:=hrel;by_cases b6:s<l.length+2
    ·obtain⟨wo,fx⟩:∃ W,W=wr:=⟨_,rfl⟩;subst fx;go_upto_region 14 with (at_make;refine wpList_make_full _ rfl _ _ 68 rfl (w1.heap.size+1) 3 i0 (.int ζ 0) 1 Tryz.underlying68 hi e6 e7 ζ ζ _ _ 256 rfl rfl rfl rfl (by rw[e8];omega) (by unfold maxLen;omega) (by omega) ?_;intro w5 dn ar)
     have ah:=hE.grown ar (λk e=>by cases e);have D:w5.ownsRow (w1.heap.size+1) 3 1 (Β (Δ ⟨wo.heap.size,0,Γ⟩) 256 256) 256 ((Ep (l.length+1) 0).map iv):=by rw[Akd,<-B7];exact dn
     have ae:=Α ((ar.block w1.heap.size (An E.out) (by simp)).trans E.out);have af:=Cb hN ar;have ag:=Cb hA ar;have ai:=(hV.av (av':=λo=>o=Δ wo.heap.size) (λv l T ba e=>by
      have:=(T.lt _ e).2;omega)).kept ar (λv l T ba=>by cases v.ownBlock<;>simp)
     have au:=ψ ao ar.size;have h0:=(D.lt wo.heap.size rfl).1;generalize wo.heap.size=M at *;clear dn ar E hN hA hV hE ao;go_wp2_with (fail);go_loopw [32] (λi W=>∃ k:Nat,k<=256/\i=.int ζ k/\Ext w1 W/\w1.heap.size+1<=W.heap.size/\Ϻ (W.heap[w1.heap.size]? = Δ (Ε (Aj (idC 256) 256 ad G) 108 (0,0)))/\
       W.ownsRow (w1.heap.size+1) 68 1 ad vs.length vs/\OwnB W (w1.heap.size+1) G ((ι s).map λq=>q==l.length)/\RowsO W (w1.heap.size+1) vs ((ι s).map (Dc l)) (λo=>o=Δ M)/\
       W.ownsRow (w1.heap.size+1) 3 1 (Β (Δ ⟨M,0,Γ⟩) 256 256) 256 ((Ep (l.length+1) k).map iv))
      (λi _=>256-(intOf i).toNat)
     case atStart=>exact⟨0,by omega,rfl,ah,au,ae,af,ag,ai,D⟩
     case round=>
      clear ah au ae af ag ai D;obtain⟨k,hk,rfl,ah,au,ae,af,ag,ai,D⟩:=hrel;by_cases dp:k<256
      ·have cq:=Am 0 D (I7 _ _).symm k (by rw[I7];exact dp);have fq:=D.frozenAt k;obtain⟨bc,H⟩:=Bj D k (l.length+1);rw[Ake _ _ dp] at bc;have b9:=ah.grown H (λk e=>by cases e;omega);have ca:=af.kept H (Ai af D (by decide));have aw:=ag.kept H (Ai ag D (by decide));have cd:=ai.kept H (λv l T ba=>.inr (λe=>ba e));have cf:=Α ((H.block w1.heap.size (An ae.out) (λe=>by have:=ω e;omega)).trans ae.out);have cg:=ψ au H.size;clear H ah af ag ai ae D;go_wp2_with (fail);go_roundw
       case rel=>exact⟨k+1,by omega,by go_num,b9,cg,cf,ca,aw,cd,bc⟩
       case measure=>simp[intOf];omega
      ·obtain rfl:k=256:=by omega
       have a8:((256:Nat):Int)=256:=rfl;simp only[a8];clear a8;go_upto_if 43 with (fail)
       go_cut [] (λW=>Ext w1 W/\w1.heap.size+1<=W.heap.size/\Ϻ (W.heap[w1.heap.size]? = Δ (Ε (Aj (idC 256) 256 ad G) 108 (0,0)))/\
        W.ownsRow (w1.heap.size+1) 68 1 ad vs.length vs/\OwnB W (w1.heap.size+1) G ((ι s).map λq=>q==l.length)/\RowsO W (w1.heap.size+1) vs ((ι s).map (Dc l)) (λo=>o=Δ M)/\
        W.ownsRow (w1.heap.size+1) 3 1 (Β (Δ ⟨M,0,Γ⟩) 256 256) 256 ((Dc l s).map iv))
       case first=>
        by_cases ch:s<l.length
        ·have e:=fm.out (by omega);subst e;have cx:=(bw.trans ah).cell (fo.out s ch);have dq:=Α (Zy l s ch);obtain⟨x,dr⟩:∃ x,l.getD s 0=x:=⟨_,rfl⟩;rw[dr] at cx dq;have hx:=x.toNat_lt;clear dr;have cq:=Am 0 D (I7 _ _).symm x.toNat (by rw[I7];omega);have fq:=D.frozenAt x.toNat;obtain⟨bc,H⟩:=Bj D x.toNat (s+1);rw[dq.out] at bc;have b9:=ah.grown H (λk e=>by cases e;omega);have ca:=af.kept H (Ai af D (by decide));have aw:=ag.kept H (Ai ag D (by decide));have cd:=ai.kept H (λv l T ba=>.inr (λe=>ba e));have cf:=Α ((H.block w1.heap.size (An ae.out) (λe=>by have:=ω e;omega)).trans ae.out);have cg:=ψ au H.size;clear H ah af ag ai ae D;go_wp2_with (fail);go_meet
         exact⟨b9,cg,cf,ca,aw,cd,bc⟩
        ·rw[Zx l s ch] at D;go_wp2_with (fail);go_meet
         exact⟨ah,au,ae,af,ag,ai,D⟩
       case rest=>
        clear ah au ae af ag ai D;obtain⟨hE,ao,E,ax,cj,hV,hQ⟩:=hcut;have c1:=(Ω wc w1.heap.size 257 _ _ _ E.out).trans (Js _ _ _ _);have h3:vs.length<=64:=by rw[dm.out];omega
        go_upto_region 22 with (at_builtin;refine ϐ _ rfl _ _ 27 rfl (w1.heap.size+1) 68 i6 (Β Γ 0 0) 1 24 Tryz.underlying27 fg fh fj fl rfl (by decide) ad vs.length vs rfl (ax.alloc _) _ 1 1 [Β (Δ ⟨M,0,Γ⟩) 256 256] rfl rfl (Ϫ _ _ _) (by simp[ϊ]) (by decide) (by unfold maxLen;omega) (by omega) (by simp;omega) _ rfl ?_;intro g7 c7 I ay az _ _;have bd:Ϻ (I.heap[w1.heap.size]? = _):=Α ((az.block w1.heap.size (ε (An E.out) (by rw[Λ];omega)) (λe=>by have:=(ax.lt _ e.symm).1;omega)).trans (Ag E.out _));have gg:=(Ω I w1.heap.size 257 _ _ _ bd.out).trans (Js _ _ _ _);have f17:=Ϯ I w1.heap.size 257 _ _ bd.out)
        clear c1 gg f17;have br:=(hQ.alloc (Ε #[Β (Δ ⟨M,0,Γ⟩) 256 256] 68)).kept az (Ai hQ ax (by decide));have cm:=(cj.alloc (Ε #[Β (Δ ⟨M,0,Γ⟩) 256 256] 68)).kept az (Ai cj ax (by decide));have dv:=(hV.alloc (Ε #[Β (Δ ⟨M,0,Γ⟩) 256 256] 68)).kept az (λv l T _=>Ai T (ax.alloc (Ε #[Β (Δ ⟨M,0,Γ⟩) 256 256] 68)) (by decide));have dw:=(hE.alloc (Ε #[Β (Δ ⟨M,0,Γ⟩) 256 256] 68)).grown az (λk e=>by have:=(ax.lt k e).1;omega);have dx:w1.heap.size+1<=I.heap.size:=by
         have:=az.size;rw[Λ] at this;omega
        clear az hQ cj hV hE ax E;have ay:I.ownsRow (w1.heap.size+1) 68 1 (Β (Δ ⟨g7,0,Γ⟩) (vs.length+1) c7) (vs++[ϟ (Δ ⟨M,0,Γ⟩) 256 256]).length (vs++[ϟ (Δ ⟨M,0,Γ⟩) 256 256]):=by
         rw[Ο];exact ay
        obtain⟨row,dy⟩:∃ v,ϟ (Δ ⟨M,0,Γ⟩) 256 256=v:=⟨_,rfl⟩;rw[dy] at ay br;clear dy;obtain⟨J,ea⟩:∃ v,ϟ (Δ ⟨g7,0,Γ⟩) (vs.length+1) c7=v:=⟨_,rfl⟩;rw[ea] at ay;have be:=Bx I w1.heap.size (Aj (idC 256) 256 J G);have bf:I.setCell ⟨w1.heap.size,257,Γ⟩ J=I.setRow w1.heap.size (Aj (idC 256) 256 J G):=by
         rw[Ϥ I _ _ _ _ _ _ bd.out,Sa]
        have cn:=dw.setRow (θ _) (Aj (idC 256) 256 J G);have bt:=br.kept be (Aq br (by omega));have bu:=ay.kept be (Aq ay (by omega));have aj:=cm.kept be (Aq cm (by omega));have cp:=dv.kept be (λv l T _=>Aq T (by omega));have bg:=Α (μ I w1.heap.size _ (Aj (idC 256) 256 J G) _ _ bd.out);have eb:w1.heap.size+1<=(I.setRow w1.heap.size (Aj (idC 256) 256 J G)).heap.size:=by rw[Õ];exact dx
        rw[ea,bf];clear be br ay cm dv dw dx bd bf;obtain⟨w8,cr⟩:∃ W,I.setRow w1.heap.size (Aj (idC 256) 256 J G)=W:=⟨_,rfl⟩;rw[cr] at bt bu aj cp bg cn eb;rw[cr];clear cr;have k2:=(Ω w8 w1.heap.size 258 _ _ _ bg.out).trans (G1 _ _ _ _);obtain⟨bx,ct⟩:∃ b,(s==l.length)=b:=⟨_,rfl⟩;have h4:((s:Int)==(l.length:Int))=bx:=by
         rw[<-ct,ϰ];simp
         omega
        have gj:=Α ct;clear ct;have gk:((ι s).map λq=>q==l.length).length<=64:=by simp;omega
        obtain⟨Ac,cu⟩:∃ X,((ι s).map λq=>q==l.length)=X:=⟨_,rfl⟩;have gl:=Α cu;rw[cu] at aj gk;clear cu;go_upto_region 23 with (at_builtin;refine ϐ _ rfl _ _ 28 rfl (w1.heap.size+1) 4 i4 (.bool Τ) 1 1 Tryz.underlying28 fa fb fc fe rfl (by decide) G Ac.length (Ac.map Ρ.bool) rfl (aj.alloc _) _ 1 1 [.bool bx] rfl rfl (Ϫ _ _ _) (by simp[ϊ]) (by decide) (by unfold maxLen;omega) (by omega) (by simp;omega) _ rfl ?_;intro g9 c9 U a7 a1 _ _;have bh:Ϻ (U.heap[w1.heap.size]? = _):=Α ((a1.block w1.heap.size (ε (An bg.out) (by rw[Λ];omega)) (λe=>by have:=(aj.lt _ e.symm).1;omega)).trans (Ag bg.out _));have gm:=(Ω U w1.heap.size 258 _ _ _ bh.out).trans (G1 _ _ _ _);have f29:=Ϯ U w1.heap.size 258 _ _ bh.out)
        clear k2 gm f29;have cv:=(bt.alloc (Ε #[.bool bx] 4)).kept a1 (Ai bt aj (by decide));have cw:=(bu.alloc (Ε #[.bool bx] 4)).kept a1 (Ai bu aj (by decide));have ee:=(cp.alloc (Ε #[.bool bx] 4)).kept a1 (λv l T _=>Ai T (aj.alloc (Ε #[.bool bx] 4)) (by decide));have bj:=(cn.alloc (Ε #[.bool bx] 4)).grown a1 (λk e=>by have:=(aj.lt k e).1;omega);have ef:w1.heap.size+1<=U.heap.size:=by
         have:=a1.size;rw[Λ] at this;omega
        have a7:OwnB U (w1.heap.size+1) (Β (Δ ⟨g9,0,Γ⟩) (Ac.length+1) c9) (Ac++[bx]):=by
         show ϛ _ _ _ _ _ _ _;rw[Ο,ϔ];exact a7
        clear a1 bt bu aj cp bg cn eb;obtain⟨ak,eg⟩:∃ v,ϟ (Δ ⟨g9,0,Γ⟩) (Ac.length+1) c9=v:=⟨_,rfl⟩;rw[eg] at a7;have bk:=Bx U w1.heap.size (Aj (idC 256) 256 J ak);have bf:U.setCell ⟨w1.heap.size,258,Γ⟩ ak=U.setRow w1.heap.size (Aj (idC 256) 256 J ak):=by
         rw[Ϥ U _ _ _ _ _ _ bh.out,Np]
        have eh:=bj.setRow (θ _) (Aj (idC 256) 256 J ak);have cy:=cv.kept bk (Aq cv (by omega));have ei:=cw.kept bk (Aq cw (by omega));have cz:=a7.kept bk (Aq a7 (by omega));have c2:=ee.kept bk (λv l T _=>Aq T (by omega));have ej:=Α (μ U w1.heap.size _ (Aj (idC 256) 256 J ak) _ _ bh.out);have ek:w1.heap.size+1<=(U.setRow w1.heap.size (Aj (idC 256) 256 J ak)).heap.size:=by rw[Õ];exact ef
        rw[eg,bf];clear bk cv cw a7 ee bj ef bh bf;obtain⟨c3,c4⟩:∃ W,U.setRow w1.heap.size (Aj (idC 256) 256 J ak)=W:=⟨_,rfl⟩;rw[c4] at cy ei cz c2 ej eh ek;rw[c4];clear c4;have en:OwnI c3 (w1.heap.size+1) row (Dc l s):=by
         show ϛ _ _ _ _ _ _ _;rw[show (Dc l s).length=256 by simp[Dc]];exact cy
        have eo:=(c2.av (av':=λ_=>False) (λv l _ _ e=>e)).snoc en (λe=>e);have gn:Ϻ (RowsO c3 (w1.heap.size+1) (vs++[row]) ((ι (s+1)).map (Dc l)) (λ_=>False)):=Α (by
         rw[List.range_succ,ϔ];exact eo)
        have gp:Ϻ (OwnB c3 (w1.heap.size+1) ak ((ι (s+1)).map λq=>q==l.length)):=Α (by
         rw[List.range_succ,ϔ,gl.out,List.map_singleton,gj.out];exact cz)
        have gq:Ϻ ((vs++[row]).length=s+1):=Α (by rw[Ο,dm.out];rfl);clear cy c2 en eo cz;go_wp2;go_roundw
        case rel=>exact⟨s+1,vs++[row],J,ak,by omega,by go_num,eh,ek,ej,ei,gp.out,gn.out,gq⟩
        case measure=>simp[intOf];omega
    ·obtain rfl:s=l.length+2:=by omega
     have ep:IsT wr (Aj (idC 256) 256 ad G) (Cr l):=by
      refine⟨ad,G,G0 (λb hb=>by show idC 256 b=b;simp[idC,hb]) _ _ _,?_,OwnB.bools (l:=(ι (l.length+2)).map λq=>q==l.length) hA (by simp;omega)⟩;exact hV.rows hN (by simp;omega) (λj hj=>by
       rw[Da _ _ _ _ (by simpa using hj)];simp[Dc])
     have hC:=Α (Kw (Cr l) (Ff l) (by rw[Es];omega) _ wr ep);obtain⟨A6,aw⟩:∃ X,Aj (idC 256) 256 ad G=X:=⟨_,rfl⟩;have hiB:(Η.info? 108).map (·.size)=Δ A6.size:=by rw[<-aw,Em];exact Cd
     rw[aw] at E hC;clear aw ep hN hA hV;have bl:=Α (hE.heap fs.out);have gv:=Α (bw.trans hE);go_wp2_with (first
      | (refine Υ rfl 108 (η 5) rfl _ rfl _ _ _ _ E.out Tryz.underlying108 rfl hiB ?_)
      | (go_at_call 69;(with_reducible refine hC.out.mono ?_);rintro e I ⟨v,r,rfl,hr,et,eu,bj⟩;have HR:=Α hr;have ev:=Α et;have HH:=Α eu;clear et eu;obtain⟨ew,ey,ez,e0,e1,e2,e3,e4,rfl⟩:=hr.agg;clear hr;have bl:=Α (bj.heap bl.out))
      | (refine Φ rfl 30 (η 2) (η 68) rfl _ _ rfl rfl _ _ bl.out Ad rfl (Ap _ _ _ rfl rfl rfl) ?_))
     refine ϋ (v:=ϥ #[.agg (dA (Β ew ey ez) (Β e0 r.n.length e1) (Β e2 e3 e4)),.int ζ 0]) (Ba rfl _ _ _ _ _ _ _ rfl _ rfl (μ I _ _ (dA (Β ew ey ez) (Β e0 r.n.length e1) (Β e2 e3 e4)) 30 (0,0) bl.out) Ν rfl Ad) rfl ?_;exact⟨r,⟨_,rfl,HR.out.setRow ev.out.val bl.out _⟩,ev.out,λu=>by rw[HH.out];exact Fg l u,(gv.out.trans bj).setRow (θ _) _⟩
theorem ResOf.some_inv {W:Κ} {A:Array Ρ} {k:Int} {q:Dfa} (h:ResOf W (.returned (ϥ #[.agg A,.int ζ k])) (Δ q)):k=0/\IsD W (.agg A) q:=by
 obtain⟨v',D,G⟩:=h;injection D with D
 injection D with D
 injection D with D
 injection D with H D
 injection D with E _
 injection E with _ E
 rw[<-H] at G;exact⟨E,G⟩
theorem ResOf.none_inv {W:Κ} {A:Array Ρ} {k:Int} (h:ResOf W (.returned (ϥ #[.agg A,.int ζ k])) Γ):k=2/\Ρ.agg A=zD:=by
 unfold ResOf at h;injection h with h
 injection h with h
 injection h with h
 injection h with E h
 injection h with D _
 injection D with _ D
 exact⟨D,E⟩
theorem Abs {a:Dfa} {r:Option Dfa} (h:Jk a r) (d:Dfa) (hd:r=Δ d):Val d/\d.n.length<=64:=by
 subst hd;obtain⟨D,E⟩:=Ss h (λ_=>Iff.rfl);exact⟨D.1.val,E⟩
theorem J4 {d:Dfa}:∀ (n:Nat) (p q:Dfa),Val p->p.n.length<=64->Ef p d n (Δ q)->Val q/\q.n.length<=64
 | 0,p,q,G,H,h=>by
  injection (show Δ q=Δ p from h) with h
  subst h;exact⟨G,H⟩
 | n+1,p,q,_,_,⟨o,I,D⟩=>by
  cases o with
  | none=>cases (show Δ q=Γ from D)
  | some E=>
   obtain⟨J,M⟩:=Je I E rfl;exact J4 n E q J M D
theorem Yp (w:Κ):By w (Β Γ 0 0) []:=Sl.nil w _ _
theorem Im (W:Κ) (A:Array Ρ):Ext W ((W.alloc (Ε #[Β Γ 0 0,Β Γ 0 0,Β Γ 0 0] 30)).setRow W.heap.size A)/\((W.alloc (Ε #[Β Γ 0 0,Β Γ 0 0,Β Γ 0 0] 30)).setRow W.heap.size A).heap[W.heap.size]? = Δ (Ε A 30 (0,0)):=
 ⟨((Ι W).alloc _).setRow (θ _) A,μ _ _ _ A _ _ (Ab W _)⟩
theorem Adv (d:Dfa) (hd:Val d) (b5:d.n.length<=64) (E:Nat) (ff:E<=16) (hi:Int) (fg:hi=-1\/(E:Int)<=hi) (fh:hi<=16) (vd:Ρ) (w:Κ) (hT:Tab w) (aw:0<w.heap.size) (b6:IsD w vd d) :
  Calls Η 119 #[vd,iv E,.int ζ hi] w λe w'=>∃ r,ResOf w' e r/\Hr d E hi r/\Ext w w':=by
 have a7:=Α (λW (J:Ext w W)=>hT.below J.below aw);have b7:=Α b6;have b8:=Α hd;obtain⟨eb,ec,ed,ee,ef,eg,eh,ei,rfl⟩:=b6.agg;obtain⟨Vd,bt⟩:∃ X,dA (Β eb ec ed) (Β ee d.n.length ef) (Β eg eh ei)=X:=⟨_,rfl⟩;have b9:(Η.info? 30).map (·.size)=Δ Vd.size:=by rw[<-bt];exact Ad
 rw[bt] at b7;rw[bt];have ca:=((Ι w).alloc (Ε Vd 30)).alloc (Ε #[Β Γ 0 0,Β Γ 0 0,Β Γ 0 0] 30);have T:=Ag (Ab w (Ε Vd 30)) (Ε #[Β Γ 0 0,Β Γ 0 0,Β Γ 0 0] 30);have D:=Ϙ w (Ε Vd 30) (Ε #[Β Γ 0 0,Β Γ 0 0,Β Γ 0 0] 30);have f45:=λW (J:Ext w W)=>Α (Nk [] (by simp) _ W (Yp W))
 clear b6 hd hT bt;go_enter Tryz.func119,Tryz.ntmps119;go_upto_region 1 with (fail)
 obtain⟨w1,cb⟩:∃ W,(w.alloc (Ε Vd 30)).alloc (Ε #[Β Γ 0 0,Β Γ 0 0,Β Γ 0 0] 30)=W:=⟨_,rfl⟩;rw[cb] at ca T D;simp only[cb];clear cb;have T:=Α T;have D:=Α D;have cd:=Α ca;clear ca;go_upto_region 2 with (first
  | (go_at_call 45;(with_reducible refine (f45 _ cd.out).out.mono ?_);rintro e w2 ⟨re,G,c9,da,bu⟩;obtain⟨ej,ek,en,eo,ep,er,et,eu,ev,k1,rfl⟩:=G.form;obtain⟨rfl,db⟩:=G.some_inv;have ak:=Α db;have ax:=Α (show Fit re (λu=>u=[]) from⟨c9,da⟩);have dc:=Α (cd.out.trans bu);have T:=Α (bu.heap T.out);have D:=Α (bu.heap D.out);clear G c9 da bu db)
  | (refine Φ rfl 30 (η 8) (η 16) rfl _ _ rfl rfl _ _ (Ab w2 (Ε #[Β Γ 0 0,Β Γ 0 0,Β Γ 0 0] 30)) Ad rfl (Ap _ _ _ rfl rfl rfl) ?_))
 obtain⟨VE,bw⟩:∃ X,dA (Β ej ek en) (Β eo ep er) (Β et eu ev)=X:=⟨_,rfl⟩;have dd:(Η.info? 30).map (·.size)=Δ VE.size:=by rw[<-bw];exact Ad
 rw[bw] at ak;simp only[bw];clear bw;obtain⟨H,M⟩:=Im w2 VE;obtain⟨w3,cg⟩:∃ W,(w2.alloc (Ε #[Β Γ 0 0,Β Γ 0 0,Β Γ 0 0] 30)).setRow w2.heap.size VE=W:=⟨_,rfl⟩;rw[cg] at H M;simp only[cg];clear cg;have bb:=Α (dc.out.trans H);have T:=Α (H.heap T.out);have D:=Α (H.heap D.out);have H8:=Α M;have ak:=Α (ak.out.ext H);generalize w2.heap.size=g8 at *;clear H M f45 cd dc;have fk:=Md ax.out;have f146:=λW (J:Ext w3 W)=>Α (Ua re d ax.out.1.val b8.out (by omega) b5 E (by omega) _ _ W (a7.out W (bb.out.trans J)) (ε aw (bb.out.trans J).size) (ak.out.ext J) (b7.out.ext (bb.out.trans J)))
 have df:Ϻ (∀ q r,Ef re d E q->E2 q (λp r=>if hi=E then r=Δ p else
  if hi<0 then ∃ s,Jk d s/\E2 s (λs r=>Fb p s r) r else ∃ o,Lim (λw=>d.has w=Ξ\/re.has w=Ξ) o/\E2 o (λo r=>Ef p o (hi-E).toNat r) r) r->Hr d E hi r):=
  Α λq r h1 h2=>⟨re,⟨ax.out.1,ax.out.2⟩,q,h1,h2⟩
 go_upto_region 5 with (first
  | (refine Υ rfl 30 (η 8) rfl _ rfl _ _ _ _ H8.out Ν rfl dd ?_)
  | (refine Υ rfl 30 (η 3) rfl _ rfl _ _ _ _ T.out Ν rfl b9 ?_)
  | (go_at_call 146;(with_reducible refine (f146 _ (Ι w3)).out.mono ?_);rintro e w4 ⟨q,G,ag,dg⟩;obtain⟨ez,e0,e1,e2,e3,e4,e5,e6,e7,k2,rfl⟩:=G.form;have I:=Α G;have HPow:=Α ag;have dh:=Α dg;clear G ag dg)
  | (refine Φ rfl 30 (η 10) (η 27) rfl _ _ rfl rfl _ _ (Ab w4 (Ε #[Β Γ 0 0,Β Γ 0 0,Β Γ 0 0] 30)) Ad rfl (Ap _ _ _ rfl rfl rfl) ?_))
 obtain⟨VP,ay⟩:∃ X,dA (Β ez e0 e1) (Β e2 e3 e4) (Β e5 e6 e7)=X:=⟨_,rfl⟩;have ah:(Η.info? 30).map (·.size)=Δ VP.size:=by rw[<-ay];exact Ad
 have dk:VP.all (·.oneCell')=Ξ:=by rw[<-ay];exact Ap _ _ _ rfl rfl rfl
 have dm:Ϻ ((3:Nat)=VP.size):=Α (by rw[<-ay];rfl);rw[ay] at I;simp only[ay];clear ay;obtain⟨H,M⟩:=Im w4 VP;obtain⟨w5,ch⟩:∃ W,(w4.alloc (Ε #[Β Γ 0 0,Β Γ 0 0,Β Γ 0 0] 30)).setRow w4.heap.size VP=W:=⟨_,rfl⟩;rw[ch] at H M;simp only[ch];clear ch;have a1:=dh.out.trans H;have ad:=Α (bb.out.trans a1);have T:=Α (a1.heap T.out);have D:=Α (a1.heap D.out);have H8:=Α (a1.heap H8.out);have ai:=Α M;have I:=Α (I.out.ext H);have ak:=Α (ak.out.ext a1);have dn:=Α (b7.out.ext ad.out);generalize w4.heap.size=fm at *;clear H M f146 a1 bb dh;cases q with
 | none=>
  obtain⟨rfl,hz⟩:=I.out.none_inv;have HR:=Α (df.out Γ Γ HPow.out rfl);have HZ:=Α hz;clear hz;go_wp2_with (first
   | (refine Υ rfl 30 (η 10) rfl _ rfl _ _ _ _ ai.out Ν rfl ah ?_)
   | (refine Φ rfl 30 (η 6) (η 36) rfl _ _ rfl rfl _ _ D.out ah dm.out dk ?_))
  refine ϋ (v:=ϥ #[.agg VP,.int ζ 2]) (Ba rfl _ _ _ _ _ _ _ rfl _ rfl (μ w5 _ _ VP 30 (0,0) D.out) Ν rfl ah) rfl ?_;exact⟨Γ,by rw[HZ.out];rfl,HR.out,ad.out.setRow (by omega) _⟩
 | some p=>
  obtain⟨rfl,dp⟩:=I.out.some_inv;obtain⟨dq,cj⟩:=J4 E re p ax.out.1.val (by omega) HPow.out;have an:=Α dp;have bz:=Α dq;have bd:=Α (λr h=>df.out (Δ p) r HPow.out h);clear dp dq;obtain⟨b1,e9⟩:∃ b,(hi==(E:Int))=b:=⟨_,rfl⟩;have dr:b1=Ξ↔hi=E:=by rw[<-e9];simp
  have dt:=Α dr;clear dr;cases b1
  ·have du:¬ hi=E:=λh=>by have:=dt.out.2 h;cases this
   have b0:=Α du;clear du;obtain⟨b2,fa⟩:∃ b,decide (hi<0)=b:=⟨_,rfl⟩;have dv:b2=Ξ↔hi<0:=by rw[<-fa];simp
   have dw:=Α dv;clear dv;cases b2
   ·have ck:¬ hi<0:=λh=>by have:=dw.out.2 h;cases this
    have fo:(E:Int)<=hi:=by omega
    obtain⟨m,hm⟩:∃ m:Nat,hi-E=(m:Int):=⟨(hi-E).toNat,by omega⟩;have HM:=Α hm;have fp:IntKind.i64.wrap (hi-(E:Int))=(m:Int):=by rw[hm];exact IntWalk.i64_in _ ⟨by omega,by omega⟩
    have fc:m<=1000:=by omega
    have f33:=λW (J:Ext w5 W)=>Α (Ox d re b8.out ax.out.1.val b5 (by omega) _ _ W (a7.out W (ad.out.trans J)) (ε aw (ad.out.trans J).size) (dn.out.ext J) (ak.out.ext J))
    clear hm;go_upto_region 13 with (first
     | (refine Υ rfl 30 (η 3) rfl _ rfl _ _ _ _ T.out Ν rfl b9 ?_)
     | (refine Υ rfl 30 (η 8) rfl _ rfl _ _ _ _ H8.out Ν rfl dd ?_)
     | (go_at_call 33;(with_reducible refine (f33 _ (Ι w5)).out.mono ?_);rintro e U ⟨o,G,dx,be⟩;obtain⟨cl,cm,cn,cp,cq,cr,ct,cu,cv,k3,rfl⟩:=G.form;have I:=Α G;have b4:=Α dx;have cw:=Α be;clear G dx be)
     | (refine Φ rfl 30 (η 13) (η 58) rfl _ _ rfl rfl _ _ (Ab U (Ε #[Β Γ 0 0,Β Γ 0 0,Β Γ 0 0] 30)) Ad rfl (Ap _ _ _ rfl rfl rfl) ?_))
    obtain⟨VO,ae⟩:∃ X,dA (Β cl cm cn) (Β cp cq cr) (Β ct cu cv)=X:=⟨_,rfl⟩;have cx:(Η.info? 30).map (·.size)=Δ VO.size:=by rw[<-ae];exact Ad
    rw[ae] at I;simp only[ae];clear ae;obtain⟨H,M⟩:=Im U VO;obtain⟨w7,ar⟩:∃ W,(U.alloc (Ε #[Β Γ 0 0,Β Γ 0 0,Β Γ 0 0] 30)).setRow U.heap.size VO=W:=⟨_,rfl⟩;rw[ar] at H M;simp only[ar];clear ar;have aa:=cw.out.trans H;have af:=Α (ad.out.trans aa);have D:=Α (aa.heap D.out);have ai:=Α (aa.heap ai.out);have cy:=Α M;have I:=Α (I.out.ext H);have an:=Α (an.out.ext aa);generalize U.heap.size=fe at *;clear H M f33 aa;cases o with
    | none=>
     obtain⟨rfl,hz⟩:=I.out.none_inv;have cz:=Α Fa;have HR:=Α (bd.out Γ (by show if hi=E then _ else if hi<0 then _ else _;rw[if_neg b0.out,if_neg (show ¬ hi<0 by omega)];exact⟨Γ,b4.out,rfl⟩));clear hz;go_wp2_with (first
      | (refine B3 rfl 30 _ rfl #[Β Γ 0 0,Β Γ 0 0,Β Γ 0 0] ?_ ?_;(simp;with_reducible exact cz.out))
      | (refine Φ rfl 30 (η 6) (η 62) rfl _ _ rfl rfl _ _ D.out Ad rfl Ew ?_))
     refine ϋ (v:=ϥ #[zD,.int ζ 2]) (Ba rfl _ _ _ _ _ _ _ rfl _ rfl (μ w7 _ _ #[Β Γ 0 0,Β Γ 0 0,Β Γ 0 0] 30 (0,0) D.out) Ν rfl Ad) rfl ?_;exact⟨Γ,rfl,HR.out,af.out.setRow (by omega) _⟩
    | some o=>
     obtain⟨rfl,bf⟩:=I.out.some_inv;have bg:=b4.out.1.val;have c1:=b4.out.2.2;have f146:=Α (Ua p o bz.out bg cj c1 m fc _ _ w7 (a7.out w7 af.out) (ε aw af.out.size) an.out bf);clear bf bg;go_wp2_with (first
      | (refine Υ rfl 30 (η 10) rfl _ rfl _ _ _ _ ai.out Ν rfl ah ?_)
      | (refine Υ rfl 30 (η 13) rfl _ rfl _ _ _ _ cy.out Ν rfl cx ?_)
      | (go_at_call 146;(with_reducible refine f146.out.mono ?_);rintro e w8 ⟨r,G,ag,au⟩;obtain⟨bh,bj,bk,bl,bm,bn,bo,bp,bq,k4,rfl⟩:=G.form;have c3:=Α G;have br:=Α ag;have D:=Α (au.heap D.out);have c4:=Α au;clear G ag au)
      | (refine Φ rfl 30 (η 6) (η 70) rfl _ _ rfl rfl _ _ D.out Ad rfl (Ap _ _ _ rfl rfl rfl) ?_))
     refine ϋ (v:=ϥ #[.agg (dA (Β bh bj bk) (Β bl bm bn) (Β bo bp bq)),.int ζ k4]) (Ba rfl _ _ _ _ _ _ _ rfl _ rfl (μ w8 _ _ (dA (Β bh bj bk) (Β bl bm bn) (Β bo bp bq)) 30 (0,0) D.out) Ν rfl Ad) rfl ?_;refine⟨r,c3.out.setRow (λd' h=>by subst h;exact (J4 m p d' bz.out cj br.out).1) D.out _,?_,(af.out.trans c4.out).setRow (by omega) _⟩;refine bd.out r ?_;show if hi=E then _ else if hi<0 then _ else _
     rw[if_neg b0.out,if_neg (show ¬ hi<0 by omega)];exact⟨Δ o,b4.out,by show Ef p o (hi-E).toNat r;rw[HM.out,Int.toNat_natCast];exact br.out⟩
   ·have ck:hi<0:=dw.out.1 rfl;have f147:=λW (J:Ext w5 W)=>Α (Abq d b8.out b5 _ W (a7.out W (ad.out.trans J)) (ε aw (ad.out.trans J).size) (dn.out.ext J))
    have dy:=Α ck;clear ck;go_upto_region 9 with (first
     | (refine Υ rfl 30 (η 3) rfl _ rfl _ _ _ _ T.out Ν rfl b9 ?_)
     | (go_at_call 147;(with_reducible refine (f147 _ (Ι w5)).out.mono ?_);rintro e U ⟨o,G,ea,be⟩;obtain⟨cl,cm,cn,cp,cq,cr,ct,cu,cv,k3,rfl⟩:=G.form;have I:=Α G;have c6:=Α ea;have cw:=Α be;clear G ea be)
     | (refine Φ rfl 30 (η 11) (η 43) rfl _ _ rfl rfl _ _ (Ab U (Ε #[Β Γ 0 0,Β Γ 0 0,Β Γ 0 0] 30)) Ad rfl (Ap _ _ _ rfl rfl rfl) ?_))
    obtain⟨VO,ae⟩:∃ X,dA (Β cl cm cn) (Β cp cq cr) (Β ct cu cv)=X:=⟨_,rfl⟩;have cx:(Η.info? 30).map (·.size)=Δ VO.size:=by rw[<-ae];exact Ad
    rw[ae] at I;simp only[ae];clear ae;obtain⟨H,M⟩:=Im U VO;obtain⟨w7,ar⟩:∃ W,(U.alloc (Ε #[Β Γ 0 0,Β Γ 0 0,Β Γ 0 0] 30)).setRow U.heap.size VO=W:=⟨_,rfl⟩;rw[ar] at H M;simp only[ar];clear ar;have aa:=cw.out.trans H;have af:=Α (ad.out.trans aa);have D:=Α (aa.heap D.out);have ai:=Α (aa.heap ai.out);have cy:=Α M;have I:=Α (I.out.ext H);have an:=Α (an.out.ext aa);generalize U.heap.size=fe at *;clear H M f147 aa;cases o with
    | none=>
     obtain⟨rfl,hz⟩:=I.out.none_inv;have cz:=Α Fa;have HR:=Α (bd.out Γ (by show if hi=E then _ else if hi<0 then _ else _;rw[if_neg b0.out,if_pos dy.out];exact⟨Γ,c6.out,rfl⟩));clear hz;go_wp2_with (first
      | (refine B3 rfl 30 _ rfl #[Β Γ 0 0,Β Γ 0 0,Β Γ 0 0] ?_ ?_;(simp;with_reducible exact cz.out))
      | (refine Φ rfl 30 (η 6) (η 47) rfl _ _ rfl rfl _ _ D.out Ad rfl Ew ?_))
     refine ϋ (v:=ϥ #[zD,.int ζ 2]) (Ba rfl _ _ _ _ _ _ _ rfl _ rfl (μ w7 _ _ #[Β Γ 0 0,Β Γ 0 0,Β Γ 0 0] 30 (0,0) D.out) Ν rfl Ad) rfl ?_;exact⟨Γ,rfl,HR.out,af.out.setRow (by omega) _⟩
    | some o=>
     obtain⟨rfl,bf⟩:=I.out.some_inv;obtain⟨bg,c1⟩:=Abs c6.out o rfl;have f31:=Α (Qo p o bz.out bg cj c1 _ _ w7 (a7.out w7 af.out) (ε aw af.out.size) an.out bf);clear bf bg;go_wp2_with (first
      | (refine Υ rfl 30 (η 10) rfl _ rfl _ _ _ _ ai.out Ν rfl ah ?_)
      | (refine Υ rfl 30 (η 11) rfl _ rfl _ _ _ _ cy.out Ν rfl cx ?_)
      | (go_at_call 31;(with_reducible refine f31.out.mono ?_);rintro e w8 ⟨r,G,ag,au⟩;obtain⟨bh,bj,bk,bl,bm,bn,bo,bp,bq,k4,rfl⟩:=G.form;have c3:=Α G;have br:=Α ag;have D:=Α (au.heap D.out);have c4:=Α au;clear G ag au)
      | (refine Φ rfl 30 (η 6) (η 52) rfl _ _ rfl rfl _ _ D.out Ad rfl (Ap _ _ _ rfl rfl rfl) ?_))
     refine ϋ (v:=ϥ #[.agg (dA (Β bh bj bk) (Β bl bm bn) (Β bo bp bq)),.int ζ k4]) (Ba rfl _ _ _ _ _ _ _ rfl _ rfl (μ w8 _ _ (dA (Β bh bj bk) (Β bl bm bn) (Β bo bp bq)) 30 (0,0) D.out) Ν rfl Ad) rfl ?_;refine⟨r,c3.out.setRow (λd' h=>(Je br.out d' h).1) D.out _,?_,(af.out.trans c4.out).setRow (by omega) _⟩;refine bd.out r ?_;show if hi=E then _ else if hi<0 then _ else _
     rw[if_neg b0.out,if_pos dy.out];exact⟨Δ o,c6.out,br.out⟩
  ·have HR:=Α (bd.out (Δ p) (by show if hi=E then _ else _;rw[if_pos (dt.out.1 rfl)]));go_wp2_with (first
    | (refine Υ rfl 30 (η 10) rfl _ rfl _ _ _ _ ai.out Ν rfl ah ?_)
    | (refine Φ rfl 30 (η 6) (η 36) rfl _ _ rfl rfl _ _ D.out ah dm.out dk ?_))
   refine ϋ (v:=ϥ #[.agg VP,.int ζ 0]) (Ba rfl _ _ _ _ _ _ _ rfl _ rfl (μ w5 _ _ VP 30 (0,0) D.out) Ν rfl ah) rfl ?_;exact⟨Δ p,⟨_,rfl,IsD.setRow bz.out an.out D.out _⟩,HR.out,ad.out.setRow (by omega) _⟩
open Go Go.RowKit
structure Prg (w1 wF x y:Κ):Prop where
 os:y.os=x.os
 tape:y.tape=x.tape
 output:y.output=x.output
 size:x.heap.size<=y.heap.size
 old:∀ k,k<w1.heap.size->y.heap[k]? = x.heap[k]?\/y.heap[k]? = wF.heap[k]?
 new:∀ k,w1.heap.size<=k->k<x.heap.size->y.heap[k]? = x.heap[k]?
theorem Ø (w1 wF x:Κ):Prg w1 wF x x:=⟨rfl,rfl,rfl,θ _,λ_ _=>.inl rfl,λ_ _ _=>rfl⟩
theorem Prg.trans (w1 wF x y z:Κ) (h:Prg w1 wF x y) (k:Prg w1 wF y z):Prg w1 wF x z where
 os:=k.os.trans h.os
 tape:=k.tape.trans h.tape
 output:=k.output.trans h.output
 size:=ψ h.size k.size
 old:=λj E=>by
  rcases k.old j E with D|D
  ·rw[D];exact h.old j E
  ·exact .inr D
 new:=λj D G=>by rw[k.new j D (ε G h.size),h.new j D G]
theorem Prg.cell {w1 wF W:Κ} (h:Prg w1 wF w1 W) {p:Addr} {v:Ρ} (E:w1.cell? p=Δ v) (G:p.block<w1.heap.size) (H:wF.heap[p.block]? = w1.heap[p.block]?):W.cell? p=Δ v:=by
 have I:W.heap[p.block]? = w1.heap[p.block]? := by
  rcases h.old p.block G with D|D
  ·exact D
  ·rw[D,H]
 rw[Κ.cell?_of_block I];exact E
theorem Prg.turned {w1 wF x y:Κ} (h:Prg w1 wF x y) {k:Nat} (E:k<w1.heap.size) (G:x.heap[k]? = wF.heap[k]?):y.heap[k]? = wF.heap[k]? := by
 rcases h.old k E with D|D
 ·rw[D,G]
 ·exact D
theorem Prg.done {w1 wF W:Κ} (h:Prg w1 wF w1 W) (hs:wF.heap.size=w1.heap.size) (H:wF.os=w1.os) (I:wF.tape=w1.tape) (hu:wF.output=w1.output) (J:∀ k,k<w1.heap.size->wF.heap[k]? = w1.heap[k]?\/W.heap[k]? = wF.heap[k]?):Ext wF W:=by
 refine⟨⟨by rw[h.os,H],by rw[h.tape,I],by rw[h.output,hu],by rw[hs];exact h.size,λk D=>?_⟩⟩;rw[hs] at D;rcases J k D with E|E
 ·rcases h.old k D with G|G
  ·rw[G,E]
  ·exact G
 ·exact E
theorem Prg.store {w1 wF W:Κ} (h:Prg w1 wF w1 W) {g o:Nat} {C:Array Ρ} {e:Á} {v:Ρ} (J:w1.heap[g]? = Δ (Ε C e (0,0))) (M:wF.heap[g]? = Δ (Ε (C.setIfInBounds o v) e (0,0))) (ho:o<C.size) :
  (∃ u,W.cell? ⟨g,o,Γ⟩=Δ u)/\W.frozen? ⟨g,o,Γ⟩=Τ/\Prg w1 wF W (W.setCell ⟨g,o,Γ⟩ v)/\(W.setCell ⟨g,o,Γ⟩ v).heap[g]? = wF.heap[g]? := by
 have U:g<w1.heap.size:=(Array.getElem?_eq_some_iff.1 J).1;obtain⟨D,E,ad,aa⟩:∃ D,W.heap[g]? = Δ (Ε D e (0,0))/\D.size=C.size/\D.setIfInBounds o v=C.setIfInBounds o v:=by
  rcases h.old g U with G|G
  ·exact⟨C,by rw[G,J],rfl,rfl⟩
  ·exact⟨C.setIfInBounds o v,by rw[G,M],by simp,by simp⟩
 have H:=Ϥ W g o D e (0,0) v E;rw[aa] at H;have I:(W.setCell ⟨g,o,Γ⟩ v).heap[g]? = wF.heap[g]? := by
  rw[H,M];exact μ W g _ _ _ _ E
 refine⟨⟨D[o]'(by omega),?_⟩,Ϯ W g o D e E,?_,I⟩
 ·rw[Ω W g o D e _ E];exact Array.getElem?_eq_getElem (by omega)
 ·rw[H] at I ⊢;refine⟨rfl,rfl,rfl,by rw[Õ];exact θ _,λk _=>?_,λk hk _=>?_⟩
  ·by_cases T:k=g
   ·subst T;exact .inr I
   ·exact .inl (setRow_other W g k _ T)
  ·exact setRow_other W g k _ (by omega)
theorem Lm (W:Κ) (g o:Nat) (v:Ρ) {C:Array Ρ} {e:Á} (h:W.heap[g]? = Δ (Ε C e (0,0))) :
  (W.setCell ⟨g,o,Γ⟩ v).heap.size=W.heap.size/\(W.setCell ⟨g,o,Γ⟩ v).os=W.os/\(W.setCell ⟨g,o,Γ⟩ v).tape=W.tape/\(W.setCell ⟨g,o,Γ⟩ v).output=W.output/\
  (W.setCell ⟨g,o,Γ⟩ v).heap[g]? = Δ (Ε (C.setIfInBounds o v) e (0,0))/\∀ k,k≠g->(W.setCell ⟨g,o,Γ⟩ v).heap[k]? = W.heap[k]? := by
 rw[Ϥ W g o C e (0,0) v h];exact⟨Õ _ _ _,rfl,rfl,rfl,μ W g _ _ _ _ h,λk D=>setRow_other W g k _ D⟩
theorem Gf {W:Κ} {base e g n E:Nat} {xs:List Ρ} (h:W.ownsRow base e 1 (Β (Δ ⟨g,0,Γ⟩) n E) n xs):∃ C,W.heap[g]? = Δ (Ε C e (0,0))/\n<=C.size:=by
 obtain⟨_,⟨D,_⟩|⟨H,I,cur,hv,_,hg,hn,_,hs,_⟩⟩:=h
 ·cases D
 ·injection hv with D J G
  injection D with D
  injection D with D
  subst D;subst G;exact⟨cur,hg,by omega⟩
theorem Dq {W:Κ} {base e size:Nat} {v:Ρ} {n:Nat} {xs:List Ρ} (h:W.ownsRow base e size v n xs) {g:Nat} {cs:Array Ρ} {t:Á} {fr:Nat × Nat} (hg:W.heap[g]? = Δ (Ε cs t fr)) (D:t≠e):v.ownBlock=Γ\/v.ownBlock≠Δ g:=by
 obtain⟨_,⟨rfl,_⟩|⟨E,J,cur,rfl,_,G,_⟩⟩:=h
 ·exact .inl rfl
 ·refine .inr λH=>?_
  have:E=g:=ω H;subst this;rw[G] at hg;injection hg with hg
  injection hg with _ I _
  exact D I.symm
def Br (f:Nat->Nat) (m k:Nat):List Nat:=(ι m).map λq=>if q<k then f q else 0
theorem C2 (f:Nat->Nat) (m k:Nat):(Br f m k).length=m:=by simp[Br]
theorem Hg (f:Nat->Nat) (m:Nat):Br f m 0=δ m 0:=by
 apply ϡ;intro i;simp only[Br,Ϟ,ϧ,Nat.not_lt_zero,if_false];by_cases h:i<m
 ·simp[h]
 ·simp[h]
theorem I5 (f:Nat->Nat) (m:Nat):Br f m m=(ι m).map f:=by
 unfold Br;exact Ð λq D=>if_pos (υ.1 D)
theorem F0 (f:Nat->Nat) (m k:Nat) (E:k<m):(Br f m k).set k (f k)=Br f m (k+1):=by
 apply ϡ;intro i;rw[ϲ,C2];simp only[Br,Ϟ];by_cases e:k=i
 ·subst e;simp[E]
 ·by_cases hi:i<m
  ·simp only[ì hi,ð,e,if_false];by_cases D:i<k
   ·simp[D,Nat.lt_succ_of_lt D]
   ·have:¬ i<k+1:=by omega
    simp[D,this]
  ·simp[e,hi]
end Go.Proofs.YtaiogolidlamiaaGreatDoor
