import Derived.Test.YtaiogolidlamiaaGreatDoorM19
import Derived.Test.YtaiogolidlamiaaGreatDoorM07
import Derived.Test.YtaiogolidlamiaaGreatDoorM14
set_option linter.unusedVariables false
set_option linter.unusedSimpArgs false
namespace Go.Proofs.YtaiogolidlamiaaGreatDoor
def Fb (p:UInt8→Prop):Av:=fun w=>∃ x:UInt8,w=[x]∧p x
theorem Hs {d:Dfa} {L:Av} (h:Fit d L) (stp:Nat→UInt8→Nat) (acc:Nat→Prop) (k:Nat) (h0:0<k) (hs:∀ s x,s<k→stp s x<k) (hL:∀ w,L w↔acc (w.foldl stp 0)):d.nxt.length≤k:=by
 have hb:∀ (w:List UInt8) s,s<k→w.foldl stp s<k:=fun w=>by
  induction w with
  | nil=>intro s hs;exact hs
  | cons x w ih=>intro s hs';exact ih _ (hs s x hs')
 have:=F3 h.1 (fun w=>w.foldl stp 0) (fun w w' e u=>by
  rw [Bool.eq_iff_iff,h.2,h.2,hL,hL,List.foldl_append,List.foldl_append,e]) (List.range k) (fun w=>List.mem_range.2 (hb w 0 h0))
 simpa using this
theorem Ht {d:Dfa} {L M:Av} (h:Fit d L) (e:∀ w,L w↔M w):Fit d M:=⟨h.1,fun w=>(h.2 w).trans (e w)⟩
theorem Wk {a b:Dfa} {L M:Av} {r:Option Dfa} (h:Dg a b r) (ha:Fit a L) (hb:Fit b M) (hn:a.nxt.length*2 ^ b.nxt.length≤4096) (hs:∀ d,Fit d (Cat L M)→d.nxt.length≤64):∃ d,r=some d∧Fit d (Cat L M):=by
 obtain ⟨x,y,hx,hy,ex,ey,h1,h2⟩:=h;obtain rfl:=Eo hx ha.1 ex;obtain rfl:=Eo hy hb.1 ey;have hl:=h2 (Ah6 (Be hx.val) (Be hy.val) hn);have hl':Lim (Cat L M) r:=Gm hl fun w=>Gu (fun w=>ha.2 w) (fun w=>hb.2 w) w
 cases r with
 | some d=>exact ⟨d,rfl,T3 hl'⟩
 | none=>
  obtain ⟨d,d1,d2,d3⟩:=hl';have:=hs d ⟨d1,d2⟩;omega
theorem Zg {a:Dfa} {L:Av} {r:Option Dfa} (h:F7 a r) (ha:Fit a L) (hn:2*2 ^ a.nxt.length≤4096) (hs:∀ d,Fit d (Star L)→d.nxt.length≤64):∃ d,r=some d∧Fit d (Star L):=by
 obtain ⟨x,hx,ex,h1,h2⟩:=h;obtain rfl:=Eo hx ha.1 ex;have hl:=h2 (Za (Be hx.val) hn);have e:(fun w=>x.has w=true)=L:=funext fun w=>propext (ha.2 w)
 rw [e] at hl;cases r with
 | some d=>exact ⟨d,rfl,T3 hl⟩
 | none=>
  obtain ⟨d,d1,d2,d3⟩:=hl;have:=hs d ⟨d1,d2⟩;omega
theorem Hr (stp:Nat→UInt8→Nat) (s:Nat) (h:∀ x,stp s x=s):∀ w:List UInt8,w.foldl stp s=s
 | []=>rfl
 | x::w=>by rw [List.foldl_cons,h x];exact Hr stp s h w
section
open Classical
theorem Ou {d:Dfa} {p:UInt8→Prop} (h:Fit d (Fb p)):d.nxt.length≤3:=by
 refine Hs h (fun s x=>if s=0∧p x then 1 else 2) (fun s=>s=1) 3 (by omega) (fun s x _=>by split<;>omega) fun w=>?_
 unfold Fb;rcases w with _|⟨x,_|⟨y,w⟩⟩
 ·simp
 ·by_cases hp:p x<;>simp [hp]
 ·have:(List.foldl (fun s x=>if s=0∧p x then 1 else 2) 0 (x::y::w):Nat)=2:=by
   rw [List.foldl_cons,List.foldl_cons];have h2:(if (if 0=0∧p x then 1 else 2)=0∧p y then 1 else 2:Nat)=2:=by split<;>simp
   rw [h2];exact Hr _ 2 (fun x=>by simp) w
  rw [this];simp
theorem Rn (p:UInt8→Prop) (w:List UInt8):Star (Fb p) w↔∀ x∈w,p x:=by
 rw [It];have key:∀ k w,pw (Fb p) k w↔w.length=k∧∀ x∈w,p x:=fun k=>by
  induction k with
  | zero=>
   intro w;show w=[]↔_;constructor
   ·rintro rfl;simp
   ·rintro ⟨h,_⟩;exact List.eq_nil_of_length_eq_zero h
  | succ k ih=>
   intro w;rw [Eu];constructor
   ·rintro ⟨u,v,rfl,⟨x,rfl,hx⟩,hv⟩;obtain ⟨h1,h2⟩:=(ih v).1 hv;refine ⟨by simp [h1,Nat.add_comm],fun y hy=>?_⟩;rcases List.mem_cons.1 (by simpa using hy) with rfl|hy
    ·exact hx
    ·exact h2 y hy
   ·rintro ⟨h1,h2⟩;cases w with
    | nil=>simp at h1
    | cons x w=>exact ⟨[x],w,rfl,⟨x,rfl,h2 x (by simp)⟩,(ih w).2 ⟨by simpa using h1,fun y hy=>h2 y (by simp [hy])⟩⟩
 constructor
 ·rintro ⟨k,hk⟩;exact ((key k w).1 hk).2
 ·intro h;exact ⟨w.length,(key _ w).2 ⟨rfl,h⟩⟩
theorem Me {d:Dfa} {p:UInt8→Prop} (h:Fit d (fun w=>∀ x∈w,p x)):d.nxt.length≤2:=by
 refine Hs h (fun s x=>if s=0∧p x then 0 else 1) (fun s=>s=0) 2 (by omega) (fun s x _=>by split<;>omega) fun w=>?_
 induction w with
 | nil=>simp
 | cons x w ih=>
  rw [List.foldl_cons];by_cases hp:p x
  ·simp only [hp,and_self,if_true,List.mem_cons,forall_eq_or_imp,true_and];exact ih
  ·have:(List.foldl (fun s x=>if s=0∧p x then 0 else 1) 1 w:Nat)=1:=Hr _ 1 (fun x=>by simp) w;simp [hp,this]
theorem K7 {d:Dfa} (h:Fit d (fun w=>w=[])):d.nxt.length≤2:=by
 refine Hs h (fun s x=>1) (fun s=>s=0) 2 (by omega) (fun s x _=>by omega) fun w=>?_
 cases w with
 | nil=>simp
 | cons x w=>
  have:(List.foldl (fun _ _=>1) 1 w:Nat)=1:=Hr _ 1 (fun x=>rfl) w;simp [this]
theorem Um {d:Dfa} {p q:UInt8→Prop} (h:Fit d (fun w=>∃ x v,w=x::v∧p x∧∀ y∈v,q y)):d.nxt.length≤3:=by
 refine Hs h (fun s x=>if s=0∧p x∨s=1∧q x then 1 else 2) (fun s=>s=1) 3 (by omega) (fun s x _=>by split<;>omega) fun w=>?_
 have h2:∀ v:List UInt8,(List.foldl (fun s x=>if s=0∧p x∨s=1∧q x then 1 else 2) 2 v:Nat)=2:=Hr _ 2 (fun x=>by simp);have h1:∀ v:List UInt8,(List.foldl (fun s x=>if s=0∧p x∨s=1∧q x then 1 else 2) 1 v:Nat)=1↔∀ y∈v,q y:=fun v=>by
  induction v with
  | nil=>simp
  | cons y v ih=>
   rw [List.foldl_cons];by_cases hq:q y
   ·simp only [hq,List.mem_cons,forall_eq_or_imp,true_and]
    simpa using ih
   ·simp [hq,h2]
 cases w with
 | nil=>simp
 | cons x v=>
  rw [List.foldl_cons];by_cases hp:p x
  ·simp only [hp,and_self,true_or,if_true,h1];constructor
   ·rintro ⟨_,_,e,_,h⟩;injection e with _ e;subst e;exact h
   ·intro h;exact ⟨x,v,rfl,hp,h⟩
  ·simp only [hp,and_false,false_or];have:(if 0=1∧q x then 1 else 2:Nat)=2:=by simp
   rw [this,h2];constructor
   ·rintro ⟨_,_,e,hx,_⟩;injection e with e _;subst e;exact absurd hx hp
   ·intro h;omega
end
theorem Wh (p q:UInt8→Prop) (w:List UInt8):Cat (Fb p) (fun w=>∀ x∈w,q x) w↔∃ x v,w=x::v∧p x∧∀ y∈v,q y:=by
 constructor
 ·rintro ⟨_,v,rfl,⟨x,rfl,hx⟩,hv⟩;exact ⟨x,v,rfl,hx,hv⟩
 ·rintro ⟨x,v,rfl,hx,hv⟩;exact ⟨[x],v,rfl,⟨x,rfl,hx⟩,hv⟩
theorem Z7 (A B:Cls) (hA:∀ x:UInt8,A.getLsbD x.toNat=true↔x=97) (hB:∀ x:UInt8,B.getLsbD x.toNat=true↔x=98∨x=99) (a2 a3 a4 a5 b2 b3 b4 b5:Nat) (c3 c4:Cls) (d4 d5:Int) (r3 m4:Nat) {r:Option Dfa}
  (h:Bf [⟨3,a2,a3,A,a4,d4⟩,⟨3,b2,b3,B,b4,d5⟩,⟨8,1,r3,c3,0,-1⟩,⟨4,0,2,c4,m4,d5⟩] [] r) :
  ∃ d,r=some d∧Cano d∧d.nxt.length=3∧d.has [97,99,98]=true∧d.has [98,97]=false:=by
 obtain ⟨_,⟨x1,rfl,hx1⟩,_,⟨x2,rfl,hx2⟩,q3,h3,h⟩:=h;have f1:Fit x1 (Fb (·=97)):=⟨hx1.1,fun w=>(hx1.2 w).trans (by unfold Fb;simp only [hA])⟩;have f2:Fit x2 (Fb fun x=>x=98∨x=99):=⟨hx2.1,fun w=>(hx2.2 w).trans (by unfold Fb;simp only [hB])⟩;have h3':Ei x2 0 (-1) q3:=h3;obtain ⟨e,he,q,hq,h4⟩:=h3';obtain rfl:q=some e:=hq;unfold Dz at h4;simp only at h4;rw [if_neg (by decide),if_pos (by decide)] at h4;have h4':=h4;obtain ⟨s,hs,h5⟩:=h4';have l2:=Ou f2;have key2:2*2 ^ x2.nxt.length≤4096:=by
  have:=Nat.pow_le_pow_right (show 0<2 by omega) l2;omega
 obtain ⟨sd,rfl,fs⟩:=Zg hs f2 key2 (fun d hd=>by have:=Me (Ht hd (Rn _));omega);have fs:=Ht fs (Rn _);have ls:=Me fs;have fe:Fit e (fun w=>w=[]):=he;have le:=K7 fe;have pows:2 ^ sd.nxt.length≤4:=Nat.le_trans (Nat.pow_le_pow_right (by omega) ls) (by decide);obtain ⟨d3,rfl,f3⟩:=Wk h5 fe fs (Nat.le_trans (Nat.mul_le_mul le pows) (by decide)) (fun d hd=>by have:=Me (Ht hd (L0 _));omega);have f3:=Ht f3 (L0 _);have l3:=Me f3;obtain ⟨q4,h6,h7⟩:=h;have h6':Dg x1 d3 q4:=h6;have l1:=Ou f1;have pow3:2 ^ d3.nxt.length≤4:=Nat.le_trans (Nat.pow_le_pow_right (by omega) l3) (by decide);obtain ⟨d4,rfl,f4⟩:=Wk h6' f1 f3 (Nat.le_trans (Nat.mul_le_mul l1 pow3) (by decide)) (fun d hd=>by have:=Um (Ht hd (Wh _ _));omega);have f4:=Ht f4 (Wh _ _);have l4:=Um f4;have h7':r=some d4:=h7;have f:∀ w,d4.has w=false↔¬ ∃ x v,w=x::v∧x=97∧∀ y:UInt8,y∈v→y=98∨y=99:=fun w=>by
  have:=f4.2 w;cases hh:d4.has w
  ·rw [hh] at this;exact ⟨fun _ h=>absurd (this.2 h) (by simp),fun _=>rfl⟩
  ·exact ⟨fun h=>(by cases h),fun h=>absurd (this.1 hh) h⟩
 refine ⟨d4,h7',f4.1,Nat.le_antisymm l4 ?_,(f4.2 _).2 ⟨97,[99,98],rfl,rfl,by simp⟩,(f _).2 (by simp)⟩;have ge:=P3 f4.1.val [[],[97],[98]] (by
  refine List.Pairwise.cons ?_ (List.Pairwise.cons ?_ (List.pairwise_singleton _ _))
  ·intro v hv;rcases List.mem_cons.1 hv with rfl|hv
   ·exact ⟨[],by rw [show ([]++[]:List UInt8)=[] from rfl,show ([97]++[]:List UInt8)=[97] from rfl,(f [] ).2 (by simp),(f4.2 [97]).2 ⟨97,[],rfl,rfl,by simp⟩];simp⟩
   ·rw [List.mem_singleton.1 hv];exact ⟨[97],by rw [show ([]++[97]:List UInt8)=[97] from rfl,(f4.2 [97]).2 ⟨97,[],rfl,rfl,by simp⟩,(f _).2 (by simp)];simp⟩
  ·intro v hv;rw [List.mem_singleton.1 hv];exact ⟨[],by rw [show ([97]++[]:List UInt8)=[97] from rfl,(f4.2 [97]).2 ⟨97,[],rfl,rfl,by simp⟩,(f _).2 (by simp)];simp⟩)
 exact ge
theorem Kw (x:UInt8) (m:Nat):∀ (k:Nat) (w:List UInt8),pw (fun w=>w=List.replicate m x) k w↔w=List.replicate (k*m) x
 | 0,w=>by show w=[]↔_;simp
 | k+1,w=>by
  rw [Eu];constructor
  ·rintro ⟨u,v,rfl,rfl,hv⟩;rw [(Kw x m k v).1 hv,List.replicate_append_replicate,Nat.succ_mul,Nat.add_comm]
  ·rintro rfl;exact ⟨List.replicate m x,List.replicate (k*m) x,by rw [List.replicate_append_replicate,Nat.succ_mul,Nat.add_comm],rfl,(Kw x m k _).2 rfl⟩
theorem Sg (L:Av) (n:Nat) (w:List UInt8):rep L n (n:Int) w↔pw L n w:=by
 constructor
 ·rintro ⟨k,h1,h2|h2,h3⟩
  ·omega
  ·obtain rfl:k=n:=by omega
   exact h3
 ·intro h;exact ⟨n,Nat.le_refl _,.inr (Int.le_refl _),h⟩
theorem Sz {d:Dfa}:∀ (n:Nat) (p q:Dfa),C6 p d (n+1) (some q)→q.nxt.length≤64
 | 0,p,q,⟨o,h1,h2⟩=>by
  cases o with
  | none=>cases (show some q=none from h2)
  | some p'=>
   injection (show some q=some p' from h2) with e
   subst e;exact (Jp h1 (fun _=>Iff.rfl) (fun _=>Iff.rfl)).2
 | n+1,p,q,⟨o,h1,h2⟩=>by
  cases o with
  | none=>cases (show some q=none from h2)
  | some p'=>exact Sz n p' q h2
theorem Z8 (A:Cls) (hA:∀ x:UInt8,A.getLsbD x.toNat=true↔x=97) (a2 a3 a4 r2 r3:Nat) (c2 c3:Cls) (d4:Int) {r:Option Dfa} (hd4:d4<0∨(a4:Int)≤d4)
  (h:Bf [⟨3,a2,a3,A,a4,d4⟩,⟨8,0,r2,c2,16,16⟩,⟨8,1,r3,c3,5,5⟩] [] r):r=none:=by
 cases r with
 | none=>rfl
 | some d=>
  have hf:=P9 _ [] [] ⟨rfl,fun i hi=>absurd hi (by simp)⟩ (by
   refine ⟨⟨by simp,by simp,hd4,by simp,by simp⟩,⟨by simp,by simp,by simp,by simp,by simp⟩,⟨by simp,by simp,by simp,by simp,by simp⟩,trivial⟩) (by simp) d h
  have hl:d.nxt.length≤64:=by
   obtain ⟨q1,-,h⟩:=h;cases q1 with
   | none=>cases (show some d=none from h)
   | some d1=>
    obtain ⟨q2,-,h⟩:=h;cases q2 with
    | none=>cases (show some d=none from h)
    | some d2=>
     obtain ⟨q3,h3,h⟩:=h;cases q3 with
     | none=>cases (show some d=none from h)
     | some d3=>
      have e:some d=some d3:=h;injection e with e
      subst e;obtain ⟨e,-,q,hq,h5⟩:=(show Ei d2 5 5 (some d) from h3);cases q with
      | none=>cases (show some d=none from h5)
      | some p=>
       unfold Dz at h5;simp only at h5;rw [if_pos (by decide)] at h5;injection h5 with e
       subst e;exact Sz 4 _ _ hq
  have hw:∀ w,d.has w=true↔w=List.replicate 80 97:=fun w=>by
   rw [hf.2 w];show rep (rep (fun w=>∃ x:UInt8,w=[x]∧A.getLsbD x.toNat=true) 16 (16:Nat)) 5 (5:Nat) w↔_;have e1:(fun w=>∃ x:UInt8,w=[x]∧A.getLsbD x.toNat=true)=fun w=>w=List.replicate 1 97:=by
    funext w
    simp [hA]
   have e2:rep (fun w=>w=List.replicate 1 (97:UInt8)) 16 (16:Nat)=fun w=>w=List.replicate 16 97:=by
    funext w
    rw [Sg,Kw]
   rw [e1,e2,Sg,Kw]
  have:=P3 hf.1.val ((List.range 66).map fun i=>List.replicate i 97) (by
   rw [List.pairwise_map];refine List.Pairwise.imp_of_mem (fun {i j} hi hj hij=>?_) List.pairwise_lt_range;have hi:=List.mem_range.1 hi;have hj:=List.mem_range.1 hj;refine ⟨List.replicate (80-i) 97,?_⟩;have t:d.has (List.replicate i 97++List.replicate (80-i) 97)=true:=(hw _).2 (by rw [List.replicate_append_replicate];congr 1;omega);have f:d.has (List.replicate j 97++List.replicate (80-i) 97)=false:=by
    cases hh:d.has (List.replicate j 97++List.replicate (80-i) 97)
    ·rfl
    ·have:=congrArg List.length ((hw _).1 hh);simp at this;omega
   rw [t,f];simp)
  simp at this;omega
theorem Yl {L:Av} {r:Option Dfa} (h:Lim L r) (u v:List UInt8) (hL:∀ w,L w↔w=u∨w=v) (hl:(u.length+2)*(v.length+2)≤64):∃ d,r=some d∧Fit d (fun w=>w=u∨w=v):=by
 have key:∀ d,Cano d→(∀ w,d.has w=true↔L w)→d.nxt.length≤64:=fun d h1 h2=>by
  have:=Sv (Ep u) (Ep v) (g:=fun a b=>a||b) h1 (fun w=>by
   rw [Bool.eq_iff_iff,h2,hL,Bool.or_eq_true,Er,Er])
  rw [D9,D9] at this;omega
 cases r with
 | none=>
  obtain ⟨d,h1,h2,h3⟩:=h;have:=key d h1 h2;omega
 | some d=>exact ⟨d,rfl,h.1,fun w=>(h.2.1 w).trans (hL w)⟩
theorem F5 {d:Dfa} (h:Fit d (fun w=>w=[97,98]∨w=[97,98,99])):d.nxt.length≤5:=by
 refine Hs h (fun s x=>if s<3∧x=([97,98,99]:List UInt8).getD s 0 then s+1 else 4) (fun s=>s=2∨s=3) 5 (by omega) (fun s x _=>by split<;>omega) fun w=>?_
 have h4:∀ v:List UInt8,(List.foldl (fun s x=>if s<3∧x=([97,98,99]:List UInt8).getD s 0 then s+1 else 4) 4 v:Nat)=4:=Hr _ 4 (fun x=>by simp);rcases w with _|⟨x,w⟩
 ·simp
 rw [List.foldl_cons];by_cases hx:x=97
 ·subst hx;rw [if_pos (by simp)];rcases w with _|⟨x,w⟩
  ·simp
  rw [List.foldl_cons];by_cases hx:x=98
  ·subst hx;rw [if_pos (by simp)];rcases w with _|⟨x,w⟩
   ·simp
   rw [List.foldl_cons];by_cases hx:x=99
   ·subst hx;rw [if_pos (by simp)];rcases w with _|⟨x,w⟩
    ·simp
    rw [List.foldl_cons,if_neg (by simp),h4];simp
   ·rw [if_neg (by simp [hx]),h4];simp [hx]
  ·rw [if_neg (by simp [hx]),h4];simp [hx]
 ·rw [if_neg (by simp [hx]),h4];simp [hx]
def Gy:Nat→List (List Bool)
 | 0=>[[]]
 | n+1=>(Gy n).flatMap fun l=>[false::l,true::l]
theorem Xc:∀ n,(Gy n).length=2 ^ n
 | 0=>rfl
 | n+1=>by
  simp only [Gy,List.length_flatMap,List.length_cons,List.length_nil];rw [Hb,Xc n,Nat.pow_succ]
theorem Xb:∀ (n:Nat) (l:List Bool),l.length=n→l∈Gy n
 | 0,l,h=>by rw [List.eq_nil_of_length_eq_zero h];simp [Gy]
 | n+1,[],h=>by simp at h
 | n+1,b::l,h=>by
  simp only [Gy,List.mem_flatMap];exact ⟨l,Xb n l (by simpa using h),by cases b<;>simp⟩
theorem Aex (u:List UInt8):¬ Lex u u:=by
 rintro ⟨p,a,b,u',v',h1,h2,h⟩;rw [h1] at h2;have:=List.append_cancel_left h2;injection this with e _
 rw [e] at h;omega
theorem X1 (n:Nat) (L:List UInt8→Bool):(Bm L n).Nodup:=
 (Qu n L).imp fun {a b} h e=>by subst e;exact Aex a h
theorem Qw {L:List UInt8→Bool} {n:Nat} (h:∀ w,w.length=n→L w=false):Bm L n=[]:=
 List.eq_nil_iff_forall_not_mem.2 fun w hw=>by
  obtain ⟨h1,h2⟩:=(G2 n L w).1 hw;rw [h w h1] at h2;cases h2
theorem Qv {L:List UInt8→Bool} {n:Nat} (u:List UInt8) (hu:u.length=n) (h:∀ w,w.length=n→(L w=true↔w=u)):Bm L n=[u]:=by
 have hm:∀ w,w∈Bm L n↔w=u:=fun w=>by
  rw [G2];constructor
  ·rintro ⟨h1,h2⟩;exact (h w h1).1 h2
  ·rintro rfl;exact ⟨hu,(h w hu).2 rfl⟩
 have hn:=X1 n L;cases hw:Bm L n with
 | nil=>exact absurd ((hm u).2 rfl) (by rw [hw];simp)
 | cons a l=>
  rw [hw] at hm hn;obtain rfl:=(hm a).1 (by simp);cases l with
  | nil=>rfl
  | cons b l=>
   obtain rfl:=(hm b).1 (by simp);simp at hn
theorem Ai1 {d:Dfa} (h:Fit d (fun w=>w=[97,98]∨w=[97,98,99])):Bp d.has 3=1:=by
 unfold Bp;rw [Qv (n:=3) [97,98,99] rfl (fun w hw=>?_)]
 ·rfl
 ·rw [h.2];constructor
  ·rintro (rfl|rfl)
   ·simp at hw
   ·rfl
  ·exact .inr
theorem Ai2 {d:Dfa} (h:Fit d (fun w=>w=[97,98]∨w=[97,98,99])):Ck d.has 3=[[97,98]]:=by
 have n0:∀ n,n<2→Bm d.has n=[]:=fun n hn=>Qw fun w hw=>by
  cases hh:d.has w
  ·rfl
  ·rcases (h.2 w).1 hh with rfl|rfl<;>simp at hw<;>omega
 show (([]++Bm d.has 0)++Bm d.has 1)++Bm d.has 2=_;rw [n0 0 (by omega),n0 1 (by omega),Qv (n:=2) [97,98] rfl (fun w hw=>?_)]
 ·rfl
 ·rw [h.2];constructor
  ·rintro (rfl|rfl)
   ·rfl
   ·simp at hw
  ·exact .inl
theorem Gt {L:List UInt8→Bool} (h:∀ w,L w=true) (n:Nat):Bp L n=256 ^ n:=by
 have h1:=V3 n L;have h2:Bp (fun w=>!L w) n=0:=by
  unfold Bp;rw [Qw (fun w _=>by rw [h];rfl)];rfl
 omega
set_option maxRecDepth 100000
open Go.RowKit Go.Shelf
theorem Vr (d:Dfa) (l:List UInt8) (j:Nat) (h:j<l.length):d.run 0 (l.take (j+1))=d.stp (d.run 0 (l.take j)) (l.getD j 0).toNat:=by
 rw [List.take_succ_eq_append_getElem h,Bz];simp [Dfa.run,List.getD_eq_getElem?_getD,h]
set_option maxHeartbeats 2000000 in
theorem Xk (d:Dfa) (hv:Val d) (hn:d.nxt.length≤64) (v:Value) (l:List UInt8) (u:Value) (w:World) (hT:Tab w) (hsz:0<w.heap.size) (h:IsD w v d) (hb:By w u l) :
  Calls Tryz.prog 29 #[v,u] w fun e w'=>e=.returned (.bool (d.has l))∧Ext w w':=by
 have HD:=Lib.hid h;obtain ⟨vc,vn,va,rfl,_,_,_⟩:=h;have hE0:=(Ext.refl w).alloc (.cells #[vc,vn,va] 30);have H0:=Lib.hid (Ab w (.cells #[vc,vn,va] 30));have f47:=fun W (hW:Ext w W)=>Lib.hid (Dr d hv hn _ W (HD.out.ext hW))
 have f68:=fun W (hW:Ext w W)=>Lib.hid (Is d hv _ W (hT.below hW.below hsz) (Nat.lt_of_lt_of_le hsz hW.size) (HD.out.ext hW))
 obtain ⟨ab,bb,ob,cb,rfl,hab,hcb⟩:=hb.split;have hlb:l.length≤4611686018427387904:=hb.1;have HAB:=Lib.hid hab;have HCB:=Lib.hid hcb;have hV:=Be hv;have HV:=Lib.hid hv;clear hab hcb hb HD hT hsz;go_enter Tryz.func29,Tryz.ntmps29;go_upto_region 1 with (fail)
 generalize w.alloc (.cells #[vc,vn,va] 30)=w1 at *;have i30:(Tryz.prog.info? 30).map (·.size)=some 3:=by kernel_rfl
 go_upto_region 3 with (first
  | (refine wpList_load_row rfl 30 (.tmp 2) rfl _ rfl _ _ _ _ H0.out Tryz.underlying30 rfl i30 ?_)
  | (go_at_call 47;with_reducible refine (f47 _ hE0).out.mono ?_;rintro e w2 ⟨rfl,hE2⟩))
 have H0:=Lib.hid (hE2.heap H0.out);have hE3:=hE0.trans hE2;go_upto_region 4 with (first
  | (refine wpList_load_row rfl 30 (.tmp 2) rfl _ rfl _ _ _ _ H0.out Tryz.underlying30 rfl i30 ?_)
  | (go_at_call 68;with_reducible refine (f68 _ hE3).out.mono ?_;rintro e w3 ⟨A,rfl,hA,hE4⟩;obtain ⟨bn,on,cn,ba,oa,ca,hAs,hAo,hAc,_,hA7,hA8,hR,hacc⟩:=hA.opened hV;have hS0:Tryz.zeroCells108.size=A.size:=(by rw [Cl,hAs]);have hi0:(Tryz.prog.info? 108).map (·.size)=some A.size:=(by rw [hAs];exact Bv))
  | (refine wpList_store_row rfl 108 (.tmp 5) (.tmp 13) rfl _ A rfl rfl _ _ (Ab w3 (.cells Tryz.zeroCells108 108)) hi0 hS0 hAo ?_))
 have hE43:=((Ext.refl w3).alloc (.cells Tryz.zeroCells108 108)).setRow (Nat.le_refl w3.heap.size) A;have H5:=setRow_heap (w3.alloc (.cells Tryz.zeroCells108 108)) _ _ A 108 (0,0) (Ab w3 (.cells Tryz.zeroCells108 108));obtain ⟨w4,hw4⟩:∃ W,(w3.alloc (.cells Tryz.zeroCells108 108)).setRow w3.heap.size A=W:=⟨_,rfl⟩;simp only [hw4] at *;clear hw4;have hE5:=(hE3.trans hE4).trans hE43;have HK7:=Lib.hid (fun (W:World) (hW:Ext w4 W)=>(cell_of_row W w3.heap.size 257 _ _ _ (hW.heap H5)).trans hA7);have HK8:=Lib.hid (fun (W:World) (hW:Ext w4 W)=>(cell_of_row W w3.heap.size 258 _ _ _ (hW.heap H5)).trans hA8);have HKC:=Lib.hid (fun (W:World) (hW:Ext w4 W) (b:Nat) (hb:b<256)=>(cell_of_row W w3.heap.size b _ _ _ (hW.heap H5)).trans (hAc b hb));have HR:=Lib.hid (hR.ext hE43);have HAcc:=Lib.hid (fun s hs=>hE43.cell (hacc s hs));generalize w3.heap.size=B5 at *;clear hR hacc hA7 hA8 hAc hS0 hi0 hAo hAs H5 H0 f47 f68 hE43 hE4 hE3 hE2 i30;go_wp2_with (fail);go_loopw [6,16] (fun s i W=>∃ j:Nat,j≤l.length∧i=.int .i64 j∧s=iv (d.run 0 (l.take j))∧Ext w4 W) (fun _ i _=>l.length-(intOf i).toNat)
 case atStart=>exact ⟨0,by omega,rfl,rfl,Ext.refl w4⟩
 case round=>
  obtain ⟨j,hj,rfl,rfl,hE⟩:=hrel;have hsn:=HV.out.run_lt (l.take j) HV.out.pos;by_cases hlt:j<l.length
  ·have e:=HAB.out (by omega);subst e;have hrun:=Vr d l j hlt;have cx:=(hE5.trans hE).cell (HCB.out j hlt);obtain ⟨x,hxd⟩:∃ x,l.getD j 0=x:=⟨_,rfl⟩;rw [hxd] at cx hrun;clear hxd;have hx:=x.toNat_lt;obtain ⟨s,hs⟩:∃ s,d.run 0 (l.take j)=s:=⟨_,rfl⟩;rw [hs] at hsn hrun ⊢;clear hs;have HRun:=Lib.hid hrun;clear hrun;obtain ⟨br,or',cr,hrc,hrr⟩:=HR.out s hsn;have k7:=Aw (HK7.out wr hE);have kc:=Aw (HKC.out wr hE x.toNat hx);have r1:=Aw (hE.cell hrc);have hk:=cell_lt HV.out.parts hx;have r2:=Aw (hE.cell (hrr _ hk));have hkk:(Ae d).cell x.toNat=Aj d.cls x.toNat:=rfl;rw [hkk] at kc;have HSt:Hid ((Ae d).ent2 s (Aj d.cls x.toNat)=d.stp s x.toNat):=Lib.hid rfl;rw [HSt.out,← HRun.out] at r2;clear hkk hrc hrr;have hn1:(Ae d).nxt.length=d.nxt.length:=rfl;have hm1:(Ae d).cells=d.cls.length:=rfl;rw [hn1] at k7;rw [hm1] at r1;have hm256:=HV.out.parts.le;obtain ⟨s2,hs2⟩:∃ s2,d.run 0 (l.take (j+1))=s2:=⟨_,rfl⟩;rw [hs2] at r2;have HS2:=Lib.hid hs2;clear hs2;generalize Aj d.cls x.toNat=k at *;clear HSt HRun hn1 hm1;have hxi:(x.toNat:Int)<256:=by omega
   go_upto_region 8 with (fail)
   refine Da (by kernel_rfl) (by kernel_rfl) ?_;iterate 12 (with_reducible refine wpQuiet_step (fun K hK=>?_);go_simp;(refine hK _ ?_;clear hK K))
   refine wpQuiet_nil ?_;rintro _ ⟨e,rfl⟩;have hE':=hE.trans e.ext;clear k7 kc r1 r2 cx;generalize e.W=w5 at *;go_wp2;go_roundw
   case rel=>exact ⟨j+1,by omega,by go_num,by rw [HS2.out],hE'⟩
   case measure=>simp [intOf];omega
  ·obtain rfl:j=l.length:=by omega
   rw [List.take_length] at hsn ⊢;have HF:Hid (d.has l=d.ok (d.run 0 l)):=Lib.hid rfl;generalize d.run 0 l=s at *;have k8:=HK8.out wr hE;have ka:=hE.cell (HAcc.out s hsn);have HT:Hid ((Ae d).ok s=d.has l):=Lib.hid (by rw [HF.out];rfl);rw [HT.out] at ka;have hn1:(Ae d).nxt.length=d.nxt.length:=rfl;rw [hn1] at k8;clear hn1;go_wp2;go_ret;exact ⟨rfl,hE5.trans hE⟩
theorem Uj {L:List Cls} (hL:Parts L) {b:Nat} (hb:b<256):Fy L (b:Int)=(Aj L b:Nat):=by
 refine Uk L b (Aj L b) (cell_lt hL hb) ?_ fun j hj=>?_
 ·unfold Bb;rw [Int.toNat_natCast];exact Fk hL hb
 ·unfold Bb;rw [Int.toNat_natCast];have hjl:j<L.length:=Nat.lt_trans hj (cell_lt hL hb);have:=List.not_of_lt_findIdx hj;rw [List.getD_eq_getElem?_getD,List.getElem?_eq_getElem hjl]
  simpa using this
theorem IsD.opened {W:World} {v:Value} {d:Dfa} (h:IsD W v d) (hv:Val d):∃ bc oc cc bn on cn ba oa ca,v=.agg (dA (.slice (some ⟨bc,oc,none⟩) d.cls.length cc) (.slice (some ⟨bn,on,none⟩) d.nxt.length cn) (.slice (some ⟨ba,oa,none⟩) d.nxt.length ca))∧
  Cs W (.slice (some ⟨bc,oc,none⟩) d.cls.length cc) d.cls∧RowsAt W bn on d.nxt.length d.cls.length d.ent2∧∀ s,s<d.nxt.length→W.cell? ⟨ba,oa+s,none⟩=some (.bool (d.ok s)):=by
 obtain ⟨vc,vn,va,rfl,hC,hN,hA⟩:=h;obtain ⟨bn,on,cn,rfl,hr⟩:=Nf hN d.cls.length hv.pos hv.parts.pos hv.row;obtain ⟨ba,oa,ca,rfl,ha⟩:=L9 hA (by rw [hv.accL];exact hv.pos);obtain ⟨bc,oc,cc,rfl,-⟩:=Sl.form hC hv.parts.pos;refine ⟨bc,oc,cc,bn,on,cn,ba,oa,ca,by rw [hv.accL];rfl,hC,hr,fun s hs=>ha s (by rw [hv.accL];exact hs)⟩
set_option maxHeartbeats 2000000 in
theorem Ajr (d:Dfa) (hv:Val d) (v:Value) (l:List UInt8) (u:Value) (w:World) (h:IsD w v d) (hb:By w u l) :
  Calls Tryz.prog 48 #[v,u] w fun e w'=>e=.returned (iv (d.run 0 l))∧Ext w w':=by
 obtain ⟨bc,oc,cc,bn,on,cn,ba,oa,ca,rfl,hC,hR,-⟩:=h.opened hv;obtain ⟨ab,bb,ob,cb,rfl,hab,hcb⟩:=hb.split;have hlb:l.length≤4611686018427387904:=hb.1;have HAB:=Lib.hid hab;have HCB:=Lib.hid hcb;have HV:=Lib.hid hv;have HC:=Lib.hid hC;have HR:=Lib.hid hR;have hE0:=(Ext.refl w).alloc (.cells (dA (.slice (some ⟨bc,oc,none⟩) d.cls.length cc) (.slice (some ⟨bn,on,none⟩) d.nxt.length cn) (.slice (some ⟨ba,oa,none⟩) d.nxt.length ca)) 30);have H0:=Ab w (.cells (dA (.slice (some ⟨bc,oc,none⟩) d.cls.length cc) (.slice (some ⟨bn,on,none⟩) d.nxt.length cn) (.slice (some ⟨ba,oa,none⟩) d.nxt.length ca)) 30);have hc0:=(cell_of_row (w.alloc (.cells (dA (.slice (some ⟨bc,oc,none⟩) d.cls.length cc) (.slice (some ⟨bn,on,none⟩) d.nxt.length cn) (.slice (some ⟨ba,oa,none⟩) d.nxt.length ca)) 30)) w.heap.size 0 _ _ _ H0).trans (show (dA (.slice (some ⟨bc,oc,none⟩) d.cls.length cc) (.slice (some ⟨bn,on,none⟩) d.nxt.length cn) (.slice (some ⟨ba,oa,none⟩) d.nxt.length ca))[0]? = some (.slice (some ⟨bc,oc,none⟩) d.cls.length cc) from rfl);have hc1:=(cell_of_row (w.alloc (.cells (dA (.slice (some ⟨bc,oc,none⟩) d.cls.length cc) (.slice (some ⟨bn,on,none⟩) d.nxt.length cn) (.slice (some ⟨ba,oa,none⟩) d.nxt.length ca)) 30)) w.heap.size 1 _ _ _ H0).trans (show (dA (.slice (some ⟨bc,oc,none⟩) d.cls.length cc) (.slice (some ⟨bn,on,none⟩) d.nxt.length cn) (.slice (some ⟨ba,oa,none⟩) d.nxt.length ca))[1]? = some (.slice (some ⟨bn,on,none⟩) d.nxt.length cn) from rfl);have HK0:=Lib.hid (fun (W:World) (hW:Ext _ W)=>hW.cell hc0);have HK1:=Lib.hid (fun (W:World) (hW:Ext _ W)=>hW.cell hc1);clear hab hcb hb hC hR hv hc0 hc1 H0 h;go_enter Tryz.func48,Tryz.ntmps48;go_upto_region 1 with (fail)
 generalize w.alloc (.cells (dA (.slice (some ⟨bc,oc,none⟩) d.cls.length cc) (.slice (some ⟨bn,on,none⟩) d.nxt.length cn) (.slice (some ⟨ba,oa,none⟩) d.nxt.length ca)) 30)=w1 at *;go_wp2_with (fail);go_loopw [5,10] (fun s i W=>∃ j:Nat,j≤l.length∧i=.int .i64 j∧s=iv (d.run 0 (l.take j))∧Ext w1 W) (fun _ i _=>l.length-(intOf i).toNat)
 case atStart=>exact ⟨0,by omega,rfl,rfl,Ext.refl w1⟩
 case round=>
  obtain ⟨j,hj,rfl,rfl,hE⟩:=hrel;have hsn:=HV.out.run_lt (l.take j) HV.out.pos;by_cases hlt:j<l.length
  ·have e:=HAB.out (by omega);subst e;have hrun:=Vr d l j hlt;have cx:=(hE0.trans hE).cell (HCB.out j hlt);obtain ⟨x,hxd⟩:∃ x,l.getD j 0=x:=⟨_,rfl⟩;rw [hxd] at cx hrun;clear hxd;have hx:=x.toNat_lt;obtain ⟨s,hs⟩:∃ s,d.run 0 (l.take j)=s:=⟨_,rfl⟩;rw [hs] at hsn hrun ⊢;clear hs;have HRun:=Lib.hid hrun;clear hrun;obtain ⟨br,or',cr,hrc,hrr⟩:=HR.out s hsn;have k0:=Aw (HK0.out wr hE);have k1:=Aw (HK1.out wr hE);have r1:=Aw ((hE0.trans hE).cell hrc);have hk:=cell_lt HV.out.parts hx;have r2:=Aw ((hE0.trans hE).cell (hrr _ hk));have f95:=fun (e:EW wr)=>Lib.hid (Ug d.cls _ (x.toNat:Int) (by omega) (by omega) e.W (HC.out.ext ((hE0.trans hE).trans e.ext)))
   rw [Uj HV.out.parts hx] at f95;have HSt:Hid (d.ent2 s (Aj d.cls x.toNat)=d.stp s x.toNat):=Lib.hid rfl;rw [HSt.out,← HRun.out] at r2;clear hrc hrr;have hm256:=HV.out.parts.le;obtain ⟨s2,hs2⟩:∃ s2,d.run 0 (l.take (j+1))=s2:=⟨_,rfl⟩;rw [hs2] at r2;have HS2:=Lib.hid hs2;clear hs2;generalize Aj d.cls x.toNat=k at *;clear HSt HRun;have hxi:(x.toNat:Int)<256:=by omega
   go_upto_region 5 with (fail)
   refine Da (by kernel_rfl) (by kernel_rfl) ?_;iterate 12 (with_reducible refine wpQuiet_step (fun K hK=>?_);go_simp;first|(refine hK _ ?_;clear hK K)|(apply Exists.intro;refine ⟨fun _=>?_,hK _ ?_⟩;(with_reducible exact F4 (f95 _).out);clear hK K))
   refine wpQuiet_nil ?_;rintro _ ⟨e,rfl⟩;have hE':=hE.trans e.ext;clear k0 k1 r1 r2 cx f95;generalize e.W=w5 at *;go_wp2;go_roundw
   case rel=>exact ⟨j+1,by omega,by go_num,by rw [HS2.out],hE'⟩
   case measure=>simp [intOf];omega
  ·obtain rfl:j=l.length:=by omega
   rw [List.take_length];go_wp2;go_ret;exact ⟨rfl,hE0.trans hE⟩
theorem Sl.first {W:World} {v:Value} {k n:Nat} {f:Nat→Value} (h:Sl W v k n f) (hn:0<n) (hk:0<k):∃ b off cap,v=.slice (some ⟨b,off,none⟩) n cap∧W.cell? ⟨b,off,none⟩=some (f 0):=by
 obtain ⟨b,off,cap,rfl,hc⟩:=Sl.form h hn;exact ⟨b,off,cap,rfl,hc 0 (Nat.mul_pos hn hk)⟩
theorem Nb {W:World} {v:Value} {k n k' n':Nat} {f f':Nat→Value} (h:Sl W v k n f) (hn:0<n) (hk:0<k) (h':Sl W v k' n' f') (hn':0<n') (hk':0<k'):f 0=f' 0:=by
 obtain ⟨b,off,cap,hv,hc⟩:=h.first hn hk;obtain ⟨b',off',cap',hv',hc'⟩:=h'.first hn' hk';rw [hv] at hv';injection hv' with e _ _
 injection e with e
 injection e with e1 e2 _
 subst e1;subst e2;rw [hc] at hc';injection hc'
theorem IsD.setBox {W:World} {v:Value} {q p:Dfa} (hq:Val q) (h:IsD W v q) (hp:Val p) {A:Array Value} (hA:IsD W (.agg A) p) {g:Nat} {e:TypeId} {fr:Nat × Nat} (hg:W.heap[g]? = some (.cells A e fr)) (cs:Array Value):IsD (W.setRow g cs) v q:=by
 obtain ⟨vc,vn,va,rfl,h1,⟨vs,hvs,hN,hr⟩,h3⟩:=h;obtain ⟨pc,pn,pa,hpe,g1,⟨ps,hps,gN,gr⟩,g3⟩:=hA;injection hpe with hpe
 have hmq:=hq.parts.pos;have hmp:=hp.parts.pos;have hsl:∀ (o:Nat) (x:Value),A[o]? = some x→x=pc∨x=pn∨x=pa:=fun o x hx=>by
  have:=Array.mem_of_getElem? hx;rw [hpe] at this
  simpa using this
 obtain ⟨ac,cc,hpc⟩:=Sl.len g1;obtain ⟨an,cn,hpn⟩:=Sl.len gN;obtain ⟨aa,ca,hpa⟩:=Sl.len g3;have hss:∀ (o:Nat) (x:Value),A[o]? = some x→∃ a n c,x=.slice a n c:=fun o x hx=>by
  rcases hsl o x hx with rfl|rfl|rfl
  ·exact ⟨_,_,_,hpc⟩
  ·exact ⟨_,_,_,hpn⟩
  ·exact ⟨_,_,_,hpa⟩
 refine ⟨vc,vn,va,rfl,Sl.setRow h1 hg (fun i hi o hx=>?_) (by omega) cs,⟨vs,hvs,Sl.setRow hN hg (fun i hi o hx=>?_) (by omega) cs,fun i hi=>Sl.setRow (hr i hi) hg (fun j hj o hx=>?_) (by omega) cs⟩,Sl.setRow h3 hg (fun i hi o hx=>?_) (by omega) cs⟩
 ·obtain ⟨a,n,c,he⟩:=hss _ _ hx;cases he
 ·have hi':i<q.nxt.length:=by omega
  have hri:=hr i hi';have hrl:0<(q.nxt.getD i []).length:=by rw [hq.row i hi'];exact hmq
  have hpn0:=hp.pos;rcases hsl _ _ hx with e'|e'|e'
  ·rw [e'] at hri;have:=Nb hri hrl (by omega) g1 hmp (by omega);cases this
  ·rw [e'] at hri;have h0:=Nb hri hrl (by omega) gN hpn0 (by omega);obtain ⟨a,c,hz⟩:=Sl.len (gr 0 hpn0);rw [hz] at h0;cases h0
  ·rw [e'] at hri;have:=Nb hri hrl (by omega) g3 (by rw [hp.accL];exact hpn0) (by omega);cases this
 ·obtain ⟨a,n,c,he⟩:=hss _ _ hx;cases he
 ·obtain ⟨a,n,c,he⟩:=hss _ _ hx;cases he
theorem Ie {a b:Dfa} {r:Option Dfa} (h:Dg a b r) (d:Dfa) (hd:r=some d):Val d∧d.nxt.length≤64:=by
 subst hd;obtain ⟨h1,h2⟩:=Jp h (fun _=>Iff.rfl) (fun _=>Iff.rfl);exact ⟨h1.1.val,h2⟩
set_option maxHeartbeats 2000000 in
theorem Sy (p d:Dfa) (hp:Val p) (hd:Val d) (hpn:p.nxt.length≤64) (hdn:d.nxt.length≤64) (n:Nat) (hn:n≤1000) (vp vd:Value) (w:World) (hT:Tab w) (hsz:0<w.heap.size) (hvp:IsD w vp p) (hvd:IsD w vd d) :
  Calls Tryz.prog 146 #[vp,vd,iv n] w fun e w'=>∃ r,ResOf w' e r∧C6 p d n r∧Ext w w':=by
 have HTa:=Lib.hid (fun W (hW:Ext w W)=>hT.below hW.below hsz);have HDp:=Lib.hid hvp;have HDd:=Lib.hid hvd;have HVd:=Lib.hid hd;obtain ⟨ac,lc,cc,an,cn,aa,la,ca,rfl⟩:=hvp.agg;obtain ⟨ac',lc',cc',an',cn',aa',la',ca',rfl⟩:=hvd.agg;obtain ⟨Vd,hVd⟩:∃ X,dA (.slice ac' lc' cc') (.slice an' d.nxt.length cn') (.slice aa' la' ca')=X:=⟨_,rfl⟩;have hiVd:(Tryz.prog.info? 30).map (·.size)=some Vd.size:=by rw [← hVd];exact Ad
 rw [hVd] at HDd;rw [hVd];obtain ⟨Vp,hVp⟩:∃ X,dA (.slice ac lc cc) (.slice an p.nxt.length cn) (.slice aa la ca)=X:=⟨_,rfl⟩;have hVps:Hid (Vp.size=3):=Lib.hid (by rw [← hVp];rfl);rw [hVp] at HDp;rw [hVp];have hE0:=(((Ext.refl w).alloc (.cells Vp 30)).alloc (.cells Vd 30)).alloc (.cells #[.slice none 0 0,.slice none 0 0,.slice none 0 0] 30);have H3:=Af (Af (Ab w (.cells Vp 30)) (.cells Vd 30)) (.cells #[.slice none 0 0,.slice none 0 0,.slice none 0 0] 30);have H4:=Af (heap_alloc2_new w (.cells Vp 30) (.cells Vd 30)) (.cells #[.slice none 0 0,.slice none 0 0,.slice none 0 0] 30);have H6:=Ab ((w.alloc (.cells Vp 30)).alloc (.cells Vd 30)) (.cells #[.slice none 0 0,.slice none 0 0,.slice none 0 0] 30);rw [World.size_alloc,World.size_alloc] at H6;clear hvp hvd hd hT hVd;go_enter Tryz.func146,Tryz.ntmps146;go_upto_region 1 with (fail)
 obtain ⟨w1,hw1⟩:∃ W,((w.alloc (.cells Vp 30)).alloc (.cells Vd 30)).alloc (.cells #[.slice none 0 0,.slice none 0 0,.slice none 0 0] 30)=W:=⟨_,rfl⟩;rw [hw1] at hE0 H3 H4 H6;simp only [hw1];clear hw1;have HIp:=Lib.hid (HDp.out.ext hE0);clear hVp HDp;go_wp2_with (fail);go_loopw [8,10] (fun ve vi W=>∃ (i:Nat) (q:Dfa) (A:Array Value),i≤n∧ve=.int .i64 0∧vi=.int .i64 i∧Ext w W∧Hid (W.heap[w.heap.size]? = some (.cells A 30 (0,0)))∧Hid (W.heap[w.heap.size+1]? = some (.cells Vd 30 (0,0)))∧
   Hid (W.heap[w.heap.size+1+1]? = some (.cells #[.slice none 0 0,.slice none 0 0,.slice none 0 0] 30 (0,0)))∧Hid (A.size=3)∧Hid (IsD W (.agg A) q)∧Hid (Val q∧q.nxt.length≤64)∧Hid (∀ r,C6 q d (n-i) r→C6 p d n r))
  (fun _ vi _=>n-(intOf vi).toNat)
 case atStart=>exact ⟨0,p,Vp,by omega,rfl,rfl,hE0,Lib.hid H3,Lib.hid H4,Lib.hid H6,hVps,HIp,Lib.hid ⟨hp,hpn⟩,Lib.hid fun r h=>h⟩
 case round=>
  clear hE0 H3 H4 H6 HIp hp;obtain ⟨i,q,A,hi,rfl,rfl,hE,H3,H4,H6,HA,HI,HQ,HP⟩:=hrel;have hiA:(Tryz.prog.info? 30).map (·.size)=some A.size:=by rw [HA.out];exact Ad
  obtain ⟨bx1,bx2,bx3,bx4,bx5,bx6,bx7,bx8,hAe⟩:=HI.out.agg;injection hAe with hAe
  by_cases hlt:i<n
  ·have f31:=Lib.hid (Pr q d HQ.out.1 HVd.out HQ.out.2 hdn _ _ wr (HTa.out wr hE) (Nat.lt_of_lt_of_le hsz hE.size) HI.out (HDd.out.ext hE));clear hAe;go_upto_region 5 with (first
    | (refine wpList_load_row rfl 30 (.tmp 3) rfl _ rfl _ _ _ _ H3.out Tryz.underlying30 rfl hiA ?_)
    | (refine wpList_load_row rfl 30 (.tmp 4) rfl _ rfl _ _ _ _ H4.out Tryz.underlying30 rfl hiVd ?_)
    | (go_at_call 31;(with_reducible refine f31.out.mono ?_);rintro e w5 ⟨r,hres,hcat,hE5⟩;obtain ⟨ac2,lc2,cc2,an2,ln2,cn2,aa2,la2,ca2,k2,rfl⟩:=hres.form;have HRes:=Lib.hid hres;have HCat:=Lib.hid hcat;have HE5:=Lib.hid hE5;have H35:=Lib.hid (hE5.heap H3.out);clear hres hcat hE5)
    | (refine wpList_store_row rfl 30 (.tmp 3) (.tmp 16) rfl _ _ rfl rfl _ _ H35.out Ad HA.out (An _ _ _ rfl rfl rfl) ?_))
   have hE6:=(hE.trans HE5.out).setRow (Nat.le_refl w.heap.size) (dA (.slice ac2 lc2 cc2) (.slice an2 ln2 cn2) (.slice aa2 la2 ca2));have G3:=setRow_heap w5 _ _ (dA (.slice ac2 lc2 cc2) (.slice an2 ln2 cn2) (.slice aa2 la2 ca2)) 30 (0,0) H35.out;have G4:=Bg (HE5.out.heap H4.out) (show w.heap.size+1≠w.heap.size by omega) (dA (.slice ac2 lc2 cc2) (.slice an2 ln2 cn2) (.slice aa2 la2 ca2));have G6:=Bg (HE5.out.heap H6.out) (show w.heap.size+1+1≠w.heap.size by omega) (dA (.slice ac2 lc2 cc2) (.slice an2 ln2 cn2) (.slice aa2 la2 ca2));have HBox:=Lib.hid (fun (q':Dfa) (hq':Val q') (h:IsD w5 (.agg (dA (.slice ac2 lc2 cc2) (.slice an2 ln2 cn2) (.slice aa2 la2 ca2))) q')=>IsD.setBox hq' h HQ.out.1 (HI.out.ext HE5.out) H35.out (dA (.slice ac2 lc2 cc2) (.slice an2 ln2 cn2) (.slice aa2 la2 ca2)));obtain ⟨w6,hw6⟩:∃ W,w5.setRow w.heap.size (dA (.slice ac2 lc2 cc2) (.slice an2 ln2 cn2) (.slice aa2 la2 ca2))=W:=⟨_,rfl⟩;rw [hw6] at hE6 G3 G4 G6 HBox;simp only [hw6];clear hw6 f31;have G6:=Lib.hid G6;cases r with
   | none=>
    have hk:k2=2:=by
     have:=HRes.out;unfold ResOf at this;injection this with this
     injection this with this
     injection this with this
     injection this with _ this
     injection this with this _
     injection this
    subst hk;have hBz:=Lib.hid Fl;have hpw:C6 q d (n-i) none:=by
     rw [show n-i=(n-(i+1))+1 by omega];exact ⟨none,HCat.out,rfl⟩
    have HPw:=Lib.hid (HP.out none hpw);clear hpw G3 G4;go_wp2_with (first
     | (refine Ci rfl 30 _ rfl #[.slice none 0 0,.slice none 0 0,.slice none 0 0] ?_ ?_;(simp;with_reducible exact hBz.out))
     | (refine wpList_store_row rfl 30 (.tmp 6) (.tmp 20) rfl _ _ rfl rfl _ _ G6.out Ad rfl Ex ?_))
    refine bodyPost_ret (v:=.tuple #[zD,.int .i64 2]) (A2 rfl _ _ _ _ _ _ _ rfl _ rfl (setRow_heap w6 _ _ #[.slice none 0 0,.slice none 0 0,.slice none 0 0] 30 (0,0) G6.out) Tryz.underlying30 rfl Ad) rfl ?_;exact ⟨none,rfl,HPw.out,hE6.setRow (by omega) _⟩
   | some q'=>
    obtain ⟨v',hv',hD'⟩:=HRes.out;injection hv' with hv'
    injection hv' with hv'
    injection hv' with hv'
    injection hv' with h1 hv'
    injection hv' with h2 _
    injection h2 with _ h2
    subst h2;rw [← h1] at hD';obtain ⟨hqv,hql⟩:=Ie HCat.out q' rfl;have hI6:=HBox.out q' hqv hD';have HI6:=Lib.hid hI6;have HN6:=Lib.hid (fun r (h:C6 q' d (n-(i+1)) r)=>HP.out r (by
     rw [show n-i=(n-(i+1))+1 by omega];exact ⟨some q',HCat.out,h⟩))
    clear hI6 hD' h1;go_wp2;go_roundw
    case rel=>exact ⟨i+1,q',_,by omega,rfl,by go_num,hE6,Lib.hid G3,Lib.hid G4,G6,Lib.hid rfl,HI6,Lib.hid ⟨hqv,hql⟩,HN6⟩
    case measure=>simp [intOf];omega
  ·obtain rfl:n=i:=by omega
   have hA1:A.all (·.oneCell')=true:=by rw [hAe];exact An _ _ _ rfl rfl rfl
   clear hAe;have HPw:=Lib.hid (HP.out (some q) (by rw [Nat.sub_self];rfl));go_wp2_with (first
    | (refine wpList_load_row rfl 30 (.tmp 3) rfl _ rfl _ _ _ _ H3.out Tryz.underlying30 rfl hiA ?_)
    | (refine wpList_store_row rfl 30 (.tmp 6) (.tmp 23) rfl _ _ rfl rfl _ _ H6.out hiA HA.out.symm hA1 ?_))
   refine bodyPost_ret (v:=.tuple #[.agg A,.int .i64 0]) (A2 rfl _ _ _ _ _ _ _ rfl _ rfl (setRow_heap wr _ _ A 30 (0,0) H6.out) Tryz.underlying30 rfl hiA) rfl ?_;exact ⟨some q,⟨_,rfl,IsD.setRow HQ.out.1 HI.out H6.out _⟩,HPw.out,hE.setRow (by omega) _⟩
end Go.Proofs.YtaiogolidlamiaaGreatDoor
