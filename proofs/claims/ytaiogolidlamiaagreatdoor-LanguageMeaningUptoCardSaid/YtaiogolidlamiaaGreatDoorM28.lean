import Derived.Test.YtaiogolidlamiaaGreatDoorM27
import Derived.Test.YtaiogolidlamiaaGreatDoorM05
set_option linter.unusedVariables false
set_option linter.unusedSimpArgs false
namespace Go.Proofs.YtaiogolidlamiaaGreatDoor
abbrev nN:RNode:=⟨0,0,0,0#256,0,0⟩
abbrev RNode.ok (n:RNode) (i:Nat):Prop:=VNode n.kind n.l n.r n.c n.min n.max i
structure WRx (xs:List RNode):Prop where
 pos:0<xs.length
 node:∀ i,i<xs.length→(xs.getD i nN).ok i
 par:∀ j,j+1<xs.length→par xs j=1
theorem WRx.vrx {xs:List RNode} (h:WRx xs) (hl:xs.length≤200):VRx xs:=⟨h.pos,hl,h.node,h.par⟩
theorem Acj {n:RNode} {i j:Nat} (h:n.ok i) (hj:i≤j):Ce n j=0:=by
 unfold Ce;have h1:=h.l1;have h2:=h.r1;rw [if_neg (fun ⟨a,b⟩=>by have:=h1 a;omega),if_neg (fun ⟨a,b⟩=>by have:=h2 a;omega)]
theorem Tv {xs:List RNode} {n:RNode} (h:n∈xs):∃ i,i<xs.length∧xs.getD i nN=n:=by
 obtain ⟨i,hi,e⟩:=List.mem_iff_getElem.1 h;exact ⟨i,hi,by rw [List.getD_eq_getElem?_getD,List.getElem?_eq_getElem hi];exact e⟩
theorem N6:∀ (xs:List RNode) (j:Nat),(∀ n∈xs,Ce n j=0)→par xs j=0
 | [],j,_=>rfl
 | n::xs,j,h=>by
  have:=N6 xs j fun m hm=>h m (List.mem_cons_of_mem _ hm)
  unfold par at this ⊢;rw [List.map_cons,List.sum_cons,h n (List.mem_cons_self ..),this]
theorem K0 {xs:List RNode} (h:∀ i,i<xs.length→(xs.getD i nN).ok i) (j:Nat) (hj:xs.length≤j+1):par xs j=0:=N6 xs j fun n hn=>by
 obtain ⟨i,hi,rfl⟩:=Tv hn;exact Acj (h i hi) (by omega)
theorem Acg (xs ys:List RNode) (j:Nat):par (xs++ys) j=par xs j+par ys j:=by simp [par]
theorem Qm {n:RNode} (h:n.ok 0):WRx [n]:=⟨by simp,fun i hi=>by
 obtain rfl:i=0:=by simpa using hi
 exact h,fun j hj=>absurd hj (by simp)⟩
theorem Mq {xs:List RNode} (h:WRx xs) {n:RNode} (hk:arK n.kind=1) (hl:n.l=xs.length-1) (hn:n.ok xs.length):WRx (xs++[n]):=by
 have h0:=h.pos;refine ⟨by simp,fun i hi=>?_,fun j hj=>?_⟩
 ·rw [List.length_append,List.length_singleton] at hi;rw [Hq];by_cases e:i<xs.length
  ·rw [if_pos e];exact h.node i e
  ·obtain rfl:i=xs.length:=by omega
   rw [if_neg e,if_pos rfl];exact hn
 ·rw [List.length_append,List.length_singleton] at hj;rw [N7];have e2:¬ (1<arK n.kind∧n.r=j):=fun ⟨a,_⟩=>by omega
  by_cases e:j+1<xs.length
  ·rw [h.par j e];unfold Ce;rw [if_neg (fun ⟨_,b⟩=>by omega),if_neg e2]
  ·rw [K0 h.node j (by omega)];unfold Ce;rw [if_pos ⟨by omega,by omega⟩,if_neg e2]
def RNode.sh (k:Nat) (n:RNode):RNode:=⟨n.kind,if 0<arK n.kind then n.l+k else n.l,if 1<arK n.kind then n.r+k else n.r,n.c,n.min,n.max⟩
theorem Ada {n:RNode} {i:Nat} (h:n.ok i) (k:Nat):(n.sh k).ok (k+i):=by
 refine ⟨h.k1,h.k8,fun a=>?_,fun a=>?_,fun a=>?_,fun a=>?_,h.c0,h.m0,h.m8⟩
 ·have a:0<arK n.kind:=a;have:=h.l1 a;show (if 0<arK n.kind then n.l+k else n.l)<k+i;rw [if_pos a];omega
 ·show (if 0<arK n.kind then n.l+k else n.l)=0;have a:arK n.kind=0:=a;rw [if_neg (by omega)];exact h.l0 a
 ·have a:1<arK n.kind:=a;have:=h.r1 a;show (if 1<arK n.kind then n.r+k else n.r)<k+i;rw [if_pos a];omega
 ·show (if 1<arK n.kind then n.r+k else n.r)=0;have a:arK n.kind<2:=a;rw [if_neg (by omega)];exact h.r0 a
theorem Ach (n:RNode) (k j:Nat) (h:j<k):Ce (n.sh k) j=0:=by
 unfold Ce RNode.sh;simp only;have e1:¬ (0<arK n.kind∧(if 0<arK n.kind then n.l+k else n.l)=j):=fun ⟨a,e⟩=>by
  rw [if_pos a] at e;omega
 have e2:¬ (1<arK n.kind∧(if 1<arK n.kind then n.r+k else n.r)=j):=fun ⟨a,e⟩=>by
  rw [if_pos a] at e;omega
 rw [if_neg e1,if_neg e2]
theorem Aci (n:RNode) (k j:Nat):Ce (n.sh k) (k+j)=Ce n j:=by
 unfold Ce RNode.sh;simp only
 congr 1
 ·by_cases a:0<arK n.kind
  ·rw [if_pos a];by_cases b:n.l=j
   ·rw [if_pos ⟨a,by omega⟩,if_pos ⟨a,b⟩]
   ·rw [if_neg (fun h=>b (by omega)),if_neg (fun h=>b h.2)]
  ·rw [if_neg (fun h=>a h.1),if_neg (fun h=>a h.1)]
 ·by_cases a:1<arK n.kind
  ·rw [if_pos a];by_cases b:n.r=j
   ·rw [if_pos ⟨a,by omega⟩,if_pos ⟨a,b⟩]
   ·rw [if_neg (fun h=>b (by omega)),if_neg (fun h=>b h.2)]
  ·rw [if_neg (fun h=>a h.1),if_neg (fun h=>a h.1)]
theorem Ace (ys:List RNode) (k j:Nat) (h:j<k):par (ys.map (RNode.sh k)) j=0:=N6 _ j fun n hn=>by
 obtain ⟨m,_,rfl⟩:=List.mem_map.1 hn;exact Ach m k j h
theorem Acf (ys:List RNode) (k j:Nat):par (ys.map (RNode.sh k)) (k+j)=par ys j:=by
 unfold par;rw [List.map_map]
 congr 1
 exact List.map_congr_left fun n _=>Aci n k j
def bin (k:Nat) (xs ys:List RNode):List RNode:=xs++ys.map (RNode.sh xs.length)++[⟨k,xs.length-1,xs.length+ys.length-1,0#256,0,0⟩]
theorem Gw (k:Nat) (xs ys:List RNode):(bin k xs ys).length=xs.length+ys.length+1:=by simp [bin];omega
theorem Mr {xs ys:List RNode} (hx:WRx xs) (hy:WRx ys) {k:Nat} (hk:k=4∨k=5∨k=6):WRx (bin k xs ys):=by
 have x0:=hx.pos;have y0:=hy.pos;have ha:arK k=2:=by unfold arK;rw [if_pos hk]
 refine ⟨by rw [Gw];omega,fun i hi=>?_,fun j hj=>?_⟩
 ·rw [Gw] at hi;unfold bin;rw [Hq];have hl:(xs++ys.map (RNode.sh xs.length)).length=xs.length+ys.length:=by simp
  rw [hl];by_cases e:i<xs.length+ys.length
  ·rw [if_pos e];by_cases e1:i<xs.length
   ·rw [List.getD_eq_getElem?_getD,List.getElem?_append_left e1,← List.getD_eq_getElem?_getD];exact hx.node i e1
   ·obtain ⟨q,rfl⟩:∃ q,i=xs.length+q:=⟨i-xs.length,by omega⟩;have hq:q<ys.length:=by omega
    have:=Ada (hy.node q hq) xs.length;rw [List.getD_eq_getElem?_getD,List.getElem?_append_right (by omega),Nat.add_sub_cancel_left,List.getElem?_map,List.getElem?_eq_getElem hq];rw [List.getD_eq_getElem?_getD,List.getElem?_eq_getElem hq] at this;exact this
  ·obtain rfl:i=xs.length+ys.length:=by omega
   rw [if_neg e,if_pos rfl];refine ⟨by show 1≤k;omega,by show k≤8;omega,fun _=>?_,fun a=>?_,fun _=>?_,fun a=>?_,fun _=>rfl,fun _=>⟨rfl,rfl⟩,fun a=>?_⟩
   ·show xs.length-1<_;omega
   ·have a:arK k=0:=a;omega
   ·show xs.length+ys.length-1<_;omega
   ·have a:arK k<2:=a;omega
   ·have a:k=8:=a;omega
 ·rw [Gw] at hj;unfold bin;rw [N7,Acg];have hp:Ce ⟨k,xs.length-1,xs.length+ys.length-1,0#256,0,0⟩ j=(if xs.length-1=j then 1 else 0)+(if xs.length+ys.length-1=j then 1 else 0):=by
   unfold Ce;simp [ha]
  rw [hp];by_cases e1:j<xs.length
  ·rw [Ace _ _ _ e1,if_neg (show ¬ xs.length+ys.length-1=j by omega)];by_cases e2:j+1<xs.length
   ·rw [hx.par j e2,if_neg (by omega)]
   ·rw [K0 hx.node j (by omega),if_pos (by omega)]
  ·obtain ⟨q,rfl⟩:∃ q,j=xs.length+q:=⟨j-xs.length,by omega⟩;rw [K0 hx.node _ (by omega),Acf,if_neg (by omega)];by_cases e2:q+1<ys.length
   ·rw [hy.par q e2,if_neg (by omega)]
   ·rw [K0 hy.node q (by omega),if_pos (by omega)]
def D0:List RNode→List Dfa→Option (List Dfa)→Prop
 | [],l,r=>r=some l
 | n::x,l,r=>∃ q,C7 n l q∧(match q with|none=>r=none|some d=>D0 x (l++[d]) r)
def C1 (l:List Dfa):Dfa:=l.getD (l.length-1) dN
theorem Qc:∀ (x:List RNode) (l:List Dfa) (r:Option Dfa),Bf x l r→∃ rl,D0 x l rl∧r=rl.map C1
 | [],l,r,h=>⟨some l,rfl,h⟩
 | n::x,l,r,⟨q,h1,h2⟩=>by
  cases q with
  | none=>exact ⟨none,⟨none,h1,rfl⟩,h2⟩
  | some d=>
   obtain ⟨rl,h3,h4⟩:=Qc x (l++[d]) r h2;exact ⟨rl,⟨some d,h1,h3⟩,h4⟩
theorem L6:∀ (x:List RNode) (l:List Dfa) (rl:Option (List Dfa)),D0 x l rl→Bf x l (rl.map C1)
 | [],l,rl,h=>by
  have h:rl=some l:=h;subst h;exact (rfl:_=_)
 | n::x,l,rl,⟨q,h1,h2⟩=>by
  cases q with
  | none=>
   have h2:rl=none:=h2;subst h2;exact ⟨none,h1,rfl⟩
  | some d=>exact ⟨some d,h1,L6 x (l++[d]) rl h2⟩
theorem Mc:∀ (x y:List RNode) (l:List Dfa) (r:Option (List Dfa)),D0 (x++y) l r→∃ r1,D0 x l r1∧(match r1 with|none=>r=none|some l'=>D0 y l' r)
 | [],y,l,r,h=>⟨some l,rfl,h⟩
 | n::x,y,l,r,⟨q,h1,h2⟩=>by
  cases q with
  | none=>exact ⟨none,⟨none,h1,rfl⟩,h2⟩
  | some d=>
   obtain ⟨r1,h3,h4⟩:=Mc x y (l++[d]) r h2;exact ⟨r1,⟨some d,h1,h3⟩,h4⟩
theorem Mb:∀ (x:List RNode) (l l':List Dfa),D0 x l (some l')→l'.length=l.length+x.length
 | [],l,l',h=>by
  injection (show some l'=some l from h) with h
  subst h;rfl
 | n::x,l,l',⟨q,h1,h2⟩=>by
  cases q with
  | none=>cases (show some l'=none from h2)
  | some d=>
   have:=Mb x (l++[d]) l' h2;rw [this,List.length_append,List.length_singleton,List.length_cons];omega
theorem Pd (pre l:List Dfa) (i:Nat):(pre++l).getD (i+pre.length) dN=l.getD i dN:=by
 rw [List.getD_eq_getElem?_getD,List.getElem?_append_right (by omega),Nat.add_sub_cancel,← List.getD_eq_getElem?_getD]
theorem Adq {n:RNode} {pre l:List Dfa} {q:Option Dfa} (h1:1≤n.kind) (h8:n.kind≤8) (h:C7 (n.sh pre.length) (pre++l) q):C7 n l q:=by
 obtain ⟨k,nl,nr,c,mn,mx⟩:=n;simp only at h1 h8;have hcase:k=1∨k=2∨k=3∨k=4∨k=5∨k=6∨k=7∨k=8:=by omega
 have e1:=Pd pre l nl;have e2:=Pd pre l nr;rcases hcase with rfl|rfl|rfl|rfl|rfl|rfl|rfl|rfl
 ·exact h
 ·exact h
 ·exact h
 ·have h:Dg ((pre++l).getD (nl+pre.length) dN) ((pre++l).getD (nr+pre.length) dN) q:=h;rw [e1,e2] at h;exact h
 ·have h:Lim (fun w=>((pre++l).getD (nl+pre.length) dN).has w=true∨((pre++l).getD (nr+pre.length) dN).has w=true) q:=h;rw [e1,e2] at h;exact h
 ·have h:Lim (fun w=>((pre++l).getD (nl+pre.length) dN).has w=true∧((pre++l).getD (nr+pre.length) dN).has w=true) q:=h;rw [e1,e2] at h;exact h
 ·have h:Dp (fun w=>¬ ((pre++l).getD (nl+pre.length) dN).has w=true) q:=h;rw [e1] at h;exact h
 ·have h:Ei ((pre++l).getD (nl+pre.length) dN) mn mx q:=h;rw [e1] at h;exact h
theorem Wv:∀ (y:List RNode) (pre l:List Dfa) (r:Option (List Dfa)),(∀ n∈y,1≤n.kind∧n.kind≤8)→D0 (y.map (RNode.sh pre.length)) (pre++l) r→∃ rl,D0 y l rl∧r=rl.map (pre++·)
 | [],pre,l,r,_,h=>⟨some l,rfl,h⟩
 | n::y,pre,l,r,hk,⟨q,h1,h2⟩=>by
  have hn:=hk n (List.mem_cons_self ..);have h1:=Adq hn.1 hn.2 h1;cases q with
  | none=>exact ⟨none,⟨none,h1,rfl⟩,h2⟩
  | some d=>
   have h2:D0 (y.map (RNode.sh pre.length)) (pre++l++[d]) r:=h2;rw [List.append_assoc] at h2;obtain ⟨rl,h3,h4⟩:=Wv y pre (l++[d]) r (fun m hm=>hk m (List.mem_cons_of_mem _ hm)) h2;exact ⟨rl,⟨some d,h1,h3⟩,h4⟩
theorem WRx.kinds {xs:List RNode} (h:WRx xs):∀ n∈xs,1≤n.kind∧n.kind≤8:=fun n hn=>by
 obtain ⟨i,hi,rfl⟩:=Tv hn;exact ⟨(h.node i hi).k1,(h.node i hi).k8⟩
theorem Gg {α:Type} (r:Option α):r=none∨∃ d,r=some d:=by
 cases r with
 | none=>exact .inl rfl
 | some d=>exact .inr ⟨d,rfl⟩
theorem L5 {xs:List RNode} (h0:0<xs.length) {n:RNode} (hk:n.kind=7∨n.kind=8) (hl:n.l=xs.length-1) {r:Option Dfa} (h:Bf (xs++[n]) [] r) :
  ∃ rx,Bf xs [] rx∧((rx=none∧r=none)∨∃ d,rx=some d∧((n.kind=7∧Dp (fun w=>¬ d.has w=true) r)∨(n.kind=8∧Ei d n.min n.max r))):=by
 obtain ⟨rl,h1,h2⟩:=Qc _ _ _ h;obtain ⟨r1,h3,h4⟩:=Mc xs [n] [] rl h1;refine ⟨r1.map C1,L6 _ _ _ h3,?_⟩;rcases Gg r1 with e|⟨l',e⟩
 ·subst e;have h4:rl=none:=h4;subst h4;exact .inl ⟨rfl,h2⟩
 ·subst e;have hlen:=Mb _ _ _ h3;rw [List.length_nil,Nat.zero_add] at hlen;obtain ⟨q,h5,h6⟩:D0 [n] l' rl:=h4;refine .inr ⟨C1 l',rfl,?_⟩;have hd:l'.getD n.l dN=C1 l':=by rw [hl,← hlen];rfl
  have hrq:r=q:=by
   cases q with
   | none=>
    have h6:rl=none:=h6;subst h6;exact h2
   | some d=>
    have h6:rl=some (l'++[d]):=h6;subst h6;rw [h2];show some (C1 (l'++[d]))=some d;unfold C1;rw [List.length_append,List.length_singleton,Nat.add_sub_cancel,Bw]
  subst hrq;rcases hk with hk|hk
  ·refine .inl ⟨hk,?_⟩;have h5:Dp (fun w=>¬ (l'.getD n.l dN).has w=true) r:=by simpa [C7,hk] using h5
   rwa [hd] at h5
  ·refine .inr ⟨hk,?_⟩;have h5:Ei (l'.getD n.l dN) n.min n.max r:=by simpa [C7,hk] using h5
   rwa [hd] at h5
theorem Wt {xs ys:List RNode} (hx:WRx xs) (hy:WRx ys) {r:Option Dfa} (h:Bf (bin 5 xs ys) [] r) :
  ∃ rx,Bf xs [] rx∧((rx=none∧r=none)∨∃ d,rx=some d∧∃ ry,Bf ys [] ry∧((ry=none∧r=none)∨∃ f,ry=some f∧Lim (fun w=>d.has w=true∨f.has w=true) r)):=by
 obtain ⟨rl,h1,h2⟩:=Qc _ _ _ h;unfold bin at h1;rw [List.append_assoc] at h1;obtain ⟨r1,h3,h4⟩:=Mc xs _ [] rl h1;refine ⟨r1.map C1,L6 _ _ _ h3,?_⟩;rcases Gg r1 with e|⟨l',e⟩
 ·subst e;have h4:rl=none:=h4;subst h4;exact .inl ⟨rfl,h2⟩
 ·subst e;have hlen:=Mb _ _ _ h3;rw [List.length_nil,Nat.zero_add] at hlen;refine .inr ⟨C1 l',rfl,?_⟩;have h4:D0 (ys.map (RNode.sh xs.length)++[⟨5,xs.length-1,xs.length+ys.length-1,0#256,0,0⟩]) l' rl:=h4;obtain ⟨r2,h5,h6⟩:=Mc _ _ l' rl h4;have h5:D0 (ys.map (RNode.sh l'.length)) (l'++[]) r2:=by rw [hlen,List.append_nil];exact h5
  obtain ⟨rl2,h7,h8⟩:=Wv ys l' [] r2 hy.kinds h5;refine ⟨rl2.map C1,L6 _ _ _ h7,?_⟩;rcases Gg rl2 with e|⟨l2,e⟩
  ·subst e;have h8:r2=none:=h8;subst h8;have h6:rl=none:=h6;subst h6;exact .inl ⟨rfl,h2⟩
  ·subst e;have h8:r2=some (l'++l2):=h8;subst h8;have hlen2:=Mb _ _ _ h7;rw [List.length_nil,Nat.zero_add] at hlen2;have x0:=hx.pos;have y0:=hy.pos;refine .inr ⟨C1 l2,rfl,?_⟩;obtain ⟨q,h9,h10⟩:D0 [⟨5,xs.length-1,xs.length+ys.length-1,0#256,0,0⟩] (l'++l2) rl:=h6;have hd1:(l'++l2).getD (xs.length-1) dN=C1 l':=by
    unfold C1;rw [hlen,List.getD_eq_getElem?_getD,List.getElem?_append_left (by omega),← List.getD_eq_getElem?_getD]
   have hd2:(l'++l2).getD (xs.length+ys.length-1) dN=C1 l2:=by
    unfold C1;rw [hlen2,show xs.length+ys.length-1=ys.length-1+l'.length by omega,Pd]
   have hrq:r=q:=by
    cases q with
    | none=>
     have h10:rl=none:=h10;subst h10;exact h2
    | some d=>
     have h10:rl=some (l'++l2++[d]):=h10;subst h10;rw [h2];show some (C1 (l'++l2++[d]))=some d;unfold C1;rw [List.length_append,List.length_singleton,Nat.add_sub_cancel,Bw]
   subst hrq;have h9:Lim (fun w=>((l'++l2).getD (xs.length-1) dN).has w=true∨((l'++l2).getD (xs.length+ys.length-1) dN).has w=true) r:=by simpa [C7] using h9
   rwa [hd1,hd2] at h9
theorem Acy {xs ys:List RNode} (hx:WRx xs) (hy:WRx ys) {r r' rx ry:Option Dfa} (h:Bf (bin 5 xs ys) [] r) (h':Bf (bin 5 ys xs) [] r') (h1:Bf xs [] rx) (h2:Bf ys [] ry):r=r':=by
 obtain ⟨qx,a1,a2⟩:=Wt hx hy h;obtain ⟨qy,b1,b2⟩:=Wt hy hx h';obtain rfl:=E3 _ _ a1 h1;obtain rfl:=E3 _ _ b1 h2;rcases a2 with ⟨rfl,rfl⟩|⟨d,rfl,ry,c1,c2⟩
 ·rcases b2 with ⟨rfl,rfl⟩|⟨f,rfl,rx,d1,d2⟩
  ·rfl
  ·obtain rfl:=E3 _ _ d1 h1;rcases d2 with ⟨_,rfl⟩|⟨g,e,_⟩
   ·rfl
   ·cases e
 ·obtain rfl:=E3 _ _ c1 h2;rcases b2 with ⟨rfl,rfl⟩|⟨f,rfl,rx,d1,d2⟩
  ·rcases c2 with ⟨_,rfl⟩|⟨g,e,_⟩
   ·rfl
   ·cases e
  ·obtain rfl:=E3 _ _ d1 h1;rcases c2 with ⟨e,_⟩|⟨g,e,c3⟩
   ·cases e
   injection e with e
   subst e;rcases d2 with ⟨e,_⟩|⟨g,e,d3⟩
   ·cases e
   injection e with e
   subst e;exact Hl c3 (Gm d3 fun w=>Or.comm)
theorem Pc:∀ (xs:List RNode) (k:Nat),(∀ i,i<xs.length→(xs.getD i nN).good (k+i))→Ll xs k
 | [],_,_=>trivial
 | n::xs,k,h=>⟨h 0 (by simp),Pc xs (k+1) fun i hi=>by
   have:=h (i+1) (by simp;omega);rw [show k+1+i=k+(i+1) by omega];exact this⟩
theorem Up {n:RNode} {i:Nat} (h:n.ok i):n.good i:=by
 obtain ⟨k,l,r,c,mn,mx⟩:=n;exact (Uq h).1
def Afd (xs:List RNode):Av:=(I7 xs []).getD ((I7 xs []).length-1) fun _=>False
theorem L7 {xs:List RNode} (h:WRx xs) {d:Dfa} (hd:Bf xs [] (some d)):Fit d (Afd xs):=
 P9 xs [] [] ⟨rfl,fun i hi=>absurd hi (by simp)⟩ (Pc xs _ fun i hi=>by rw [List.length_nil,Nat.zero_add];exact Up (h.node i hi)) (fun e=>by have:=h.pos;rw [e] at this;cases this) d hd
theorem Adh {xs:List RNode} (h:WRx xs) {d:Dfa} (hd:Bf xs [] (some d)) {r:Option Dfa} {n m:RNode} (hn:n.kind=7) (hm:m.kind=7) (hnl:n.l=xs.length-1) (hml:m.l=xs.length)
  (hr:Bf (xs++[n]++[m]) [] r):r=some d:=by
 have hf:=L7 h hd;obtain ⟨rz,h1,h2⟩:=L5 (xs:=xs++[n]) (by simp) (.inl hm) (by rw [hml];simp) hr;obtain ⟨rx,h3,h4⟩:=L5 h.pos (.inl hn) hnl h1;obtain rfl:=E3 _ _ h3 hd;rcases h4 with ⟨e,_⟩|⟨d',e,h4⟩
 ·cases e
 injection e with e
 subst e;rcases h4 with ⟨_,z,rfl,hz1,hz2⟩|⟨e,_⟩
 ·rcases h2 with ⟨e,_⟩|⟨d',e,h2⟩
  ·cases e
  injection e with e
  subst e;rcases h2 with ⟨_,y,rfl,hy1,hy2⟩|⟨e,_⟩
  ·have:y=d:=Eo hy1 hf.1 fun w=>by
    rw [Bool.eq_iff_iff,hy2];show ¬ z.has w=true↔_;rw [hz2];exact Classical.not_not
   rw [this]
  ·omega
 ·omega
theorem Np (L:Av) (w:List UInt8):rep L 0 (-1) w↔Star L w:=by
 rw [It];constructor
 ·rintro ⟨k,_,_,h⟩;exact ⟨k,h⟩
 ·rintro ⟨k,h⟩;exact ⟨k,by omega,.inl (by omega),h⟩
theorem Zd {L:Av} {u v:List UInt8} (hu:Star L u) (hv:Star L v):Star L (u++v):=by
 rw [It] at hu hv ⊢;obtain ⟨m,hm⟩:=hu;obtain ⟨n,hn⟩:=hv;exact ⟨m+n,(Fu L m n _).2 ⟨u,v,rfl,hm,hn⟩⟩
theorem Y8 (L:Av) (w:List UInt8):Star (Star L) w↔Star L w:=by
 constructor
 ·intro h;induction h with
  | nil=>exact .nil
  | app hu hv ih=>exact Zd ih hv
 ·intro h;rw [It];exact ⟨1,(Eu _ 0 w).2 ⟨w,[],by simp,h,rfl⟩⟩
theorem Y7 {xs:List RNode} (h:WRx xs) {d o a:Dfa} (hd:Bf xs [] (some d)) {n m:RNode} (hn:n.kind=8) (hm:m.kind=8) (hnl:n.l=xs.length-1) (hml:m.l=xs.length)
  (n0:n.min=0) (n1:n.max=-1) (m0:m.min=0) (m1:m.max=-1) (ho:Bf (xs++[n]) [] (some o)) (ha:Bf (xs++[n]++[m]) [] (some a)):o=a:=by
 have hf:=L7 h hd;obtain ⟨rz,h1,h2⟩:=L5 (xs:=xs++[n]) (by simp) (.inr hm) (by rw [hml];simp) ha;obtain rfl:=E3 _ _ h1 ho;obtain ⟨rx,h3,h4⟩:=L5 h.pos (.inr hn) hnl h1;obtain rfl:=E3 _ _ h3 hd;rcases h4 with ⟨e,_⟩|⟨d',e,h4⟩
 ·cases e
 injection e with e
 subst e;rcases h2 with ⟨e,_⟩|⟨o',e,h2⟩
 ·cases e
 injection e with e
 subst e;rcases h4 with ⟨e,_⟩|⟨_,h4⟩
 ·omega
 rcases h2 with ⟨e,_⟩|⟨_,h2⟩
 ·omega
 rw [n0,n1] at h4;rw [m0,m1] at h2;have f1:=Nq (fun w=>Iff.rfl) (.inl (by omega)) h4;have f2:=Nq (fun w=>Iff.rfl) (.inl (by omega)) h2;exact Eo f1.1 f2.1 fun w=>by
  rw [Bool.eq_iff_iff,f1.2,f2.2,Np,Np,← Y8];rw [show (fun w=>d.has w=true:Av)=fun w=>d.has w=true from rfl];rw [show Star (Star fun w=>d.has w=true) w↔Star (fun w=>o.has w=true) w from by
   rw [show (fun w=>o.has w=true:Av)=Star fun w=>d.has w=true from funext fun w=>propext ((f1.2 w).trans (Np _ w))]]
set_option maxRecDepth 100000
open Go.RowKit Go.Shelf
theorem Jm (n0 n1 n2 n3:Nat) (h0:n0<18446744073709551616) (h1:n1<18446744073709551616) (h2:n2<18446744073709551616) (h3:n3<18446744073709551616) :
  ∃ c:Cls,wn c 0=n0∧wn c 1=n1∧wn c 2=n2∧wn c 3=n3:=by
 refine ⟨BitVec.ofNat 256 (n0+18446744073709551616*n1+340282366920938463463374607431768211456*n2+6277101735386680763835789423207666416102355444464034512896*n3),?_⟩;have e:(BitVec.ofNat 256 (n0+18446744073709551616*n1+340282366920938463463374607431768211456*n2+6277101735386680763835789423207666416102355444464034512896*n3)).toNat=n0+18446744073709551616*n1+340282366920938463463374607431768211456*n2+6277101735386680763835789423207666416102355444464034512896*n3:=by
  rw [BitVec.toNat_ofNat];apply Nat.mod_eq_of_lt;omega
 unfold wn;rw [e];refine ⟨?_,?_,?_,?_⟩<;>simp only [Nat.mul_zero,Nat.mul_one,Nat.reduceMul,Nat.reducePow]<;>omega
theorem Ahx (c:Cls) (i:Nat) (hi:i<4) (n:Nat) (hn:n<18446744073709551616):∃ c':Cls,(Aa c).setIfInBounds i (.int .u64 (n:Int))=Aa c':=by
 have w0:=B9 c 0;have w1:=B9 c 1;have w2:=B9 c 2;have w3:=B9 c 3
 match i,hi with
 | 0,_=>
  obtain ⟨c',e0,e1,e2,e3⟩:=Jm n (wn c 1) (wn c 2) (wn c 3) hn w1 w2 w3;refine ⟨c',?_⟩;unfold Aa wd;rw [e0,e1,e2,e3];rfl
 | 1,_=>
  obtain ⟨c',e0,e1,e2,e3⟩:=Jm (wn c 0) n (wn c 2) (wn c 3) w0 hn w2 w3;refine ⟨c',?_⟩;unfold Aa wd;rw [e0,e1,e2,e3];rfl
 | 2,_=>
  obtain ⟨c',e0,e1,e2,e3⟩:=Jm (wn c 0) (wn c 1) n (wn c 3) w0 w1 hn w3;refine ⟨c',?_⟩;unfold Aa wd;rw [e0,e1,e2,e3];rfl
 | 3,_=>
  obtain ⟨c',e0,e1,e2,e3⟩:=Jm (wn c 0) (wn c 1) (wn c 2) n w0 w1 w2 hn;refine ⟨c',?_⟩;unfold Aa wd;rw [e0,e1,e2,e3];rfl
abbrev Mf:Array Value:=#[.int .u64 18446744073709551615,.int .u64 18446744073709551615,.int .u64 18446744073709551615,.int .u64 18446744073709551615]
theorem Ajn (M:Int) (n:Nat) (hn:(n:Int)=M) (hl:n<18446744073709551616):∃ c:Cls,(#[.int .u64 M,.int .u64 M,.int .u64 M,.int .u64 M]:Array Value)=Aa c:=by
 obtain ⟨c,e0,e1,e2,e3⟩:=Jm n n n n hl hl hl hl;have k:∀ i,wn c i=n→wd c i=M:=fun i h=>by unfold wd;rw [h,hn]
 refine ⟨c,?_⟩;unfold Aa;rw [k 0 e0,k 1 e1,k 2 e2,k 3 e3]
theorem Ajo:∃ c:Cls,Mf=Aa c:=Ajn _ 18446744073709551615 (by omega) (by omega)
theorem Xi (c:Cls) (b:Int) (hb0:0≤b) (hb:b<256) (w:World) :
  Calls Tryz.prog 140 #[.agg (Aa c),.int .u8 b] w fun e w'=>e=.returned (.agg (Aa (Bj c b)))∧Ext w w':=by
 have ⟨h1,h2⟩:=E7 c (b / 64).toNat;have hE:=((Ext.refl w).alloc (.cells (Aa c) 62)).alloc (.cells #[.int .u64 0,.int .u64 0,.int .u64 0,.int .u64 0] 62);have hB:=Af (heap_alloc_new w (.cells (Aa c) 62)) (.cells #[.int .u64 0,.int .u64 0,.int .u64 0,.int .u64 0] 62);have hR:=heap_alloc2_new w (.cells (Aa c) 62) (.cells #[.int .u64 0,.int .u64 0,.int .u64 0,.int .u64 0] 62);have HAV:=Lib.hid (Qi c b hb0 hb);have HAR:=Lib.hid (Qj c b hb0 hb);have HAT:=Lib.hid (E1 c (b / 64).toNat (by omega));go_enter Tryz.func140,Tryz.ntmps140;go_upto_region 1 with (fail)
 generalize (w.alloc (.cells (Aa c) 62)).alloc (.cells #[.int .u64 0,.int .u64 0,.int .u64 0,.int .u64 0] 62)=W at *;have hc:=(cell_of_row W _ (b / 64).toNat _ _ _ hB).trans HAT.out;have hf:=frozen_of_row W _ (b / 64).toNat _ _ hB;have hq4:((b / 64).toNat:Int)<4:=by omega
 have HB:=Lib.hid hB;have HR:=Lib.hid hR;clear hB hR;go_upto_region 2 with (fail)
 rw [HAV.out,setCell_eq_setRow W _ _ _ _ _ _ HB.out,HAR.out];have hB2:=setRow_heap W w.heap.size _ (Aa (Bj c b)) _ _ HB.out;have hR2:=Bg HR.out (show w.heap.size+1≠w.heap.size by omega) (Aa (Bj c b));have hE2:=hE.setRow (Nat.le_refl w.heap.size) (Aa (Bj c b));have HB2:=Lib.hid hB2;have HR2:=Lib.hid hR2;clear hB2 hR2 HB HR hE hc hf HAV HAR HAT hq4 h1 h2;generalize W.setRow w.heap.size (Aa (Bj c b))=W2 at *;go_wp2_with (first
  | (refine wpList_load_row rfl 62 _ rfl _ rfl _ _ _ _ HB2.out Tryz.underlying62 rfl Au ?_)
  | (refine wpList_store_row rfl 62 _ _ rfl _ _ rfl rfl _ _ HR2.out Au rfl (De _) ?_))
 refine bodyPost_ret (v:=.agg (Aa (Bj c b))) (results_cell_row rfl _ _ _ _ _ _ _ rfl (setRow_heap W2 _ _ (Aa (Bj c b)) 62 (0,0) HR2.out) Tryz.underlying62 rfl Au) rfl ?_;exact ⟨rfl,hE2.setRow (by omega) _⟩
theorem Ac9 (b:Int) (hb0:0≤b) (hb:b<256) (w:World) :
  Calls Tryz.prog 139 #[.int .u8 b] w fun e w'=>(∃ c:Cls,e=.returned (.agg (Aa c)))∧Ext w w':=by
 have f:=fun W=>Lib.hid (show Calls Tryz.prog 140 #[.agg zA,.int .u8 b] W fun e w'=>e=.returned (.agg (Aa (Bj 0#256 b)))∧Ext W w' by
  rw [← Ee];exact Xi 0#256 b hb0 hb W)
 have hE:=(Ext.refl w).alloc (.cells zA 62);have hR:=Lib.hid (Ab w (.cells zA 62));generalize Bj 0#256 b=c at *;go_enter Tryz.func139,Tryz.ntmps139;go_wp2_with (first
  | (go_at_call 140;(with_reducible refine (f _).out.mono ?_);rintro e w2 ⟨rfl,hE2⟩;have H2:=Lib.hid (hE2.heap hR.out);have hE3:=hE.trans hE2;clear hE2)
  | (refine wpList_store_row rfl 62 _ _ rfl _ _ rfl rfl _ _ H2.out Au rfl (De _) ?_))
 refine bodyPost_ret (v:=.agg (Aa c)) (results_cell_row rfl _ _ _ _ _ _ _ rfl (setRow_heap w2 _ _ (Aa c) 62 (0,0) H2.out) Tryz.underlying62 rfl Au) rfl ?_;exact ⟨⟨c,rfl⟩,hE3.setRow (by omega) _⟩
theorem Ajm (w:World) :
  Calls Tryz.prog 141 #[] w fun e w'=>(∃ c:Cls,e=.returned (.agg (Aa c)))∧Ext w w':=by
 obtain ⟨c,hc⟩:=Ajo;have HC:=Lib.hid hc;have hE:=(Ext.refl w).alloc (.cells Mf 62);have hR:=Lib.hid (Ab w (.cells Mf 62));clear hc;go_enter Tryz.func141,Tryz.ntmps141;go_wp2;refine bodyPost_ret (v:=.agg Mf) (results_cell_row rfl _ _ _ _ _ _ _ rfl hR.out Tryz.underlying62 rfl Au) rfl ?_;exact ⟨⟨c,by rw [HC.out]⟩,hE⟩
set_option maxHeartbeats 2000000 in
theorem Aed (l:List Nat) (hl0:0<l.length) (hlt:∀ i,i<l.length→l.getD i 0<9223372036854775808) (hlm:l.length<9223372036854775808) (v:Value) (w:World) (h:Ints w v l) :
  Calls Tryz.prog 104 #[v] w fun e w'=>∃ m:Nat,e=.returned (iv m)∧w'=w∧(∀ i,i<l.length→l.getD i 0≤m)∧∃ i,i<l.length∧l.getD i 0=m:=by
 obtain ⟨b,o,c,rfl,hc⟩:=Sl.form h hl0;have HC:=Lib.hid (fun i (hi:i<l.length)=>hc i (by omega));have HL:=Lib.hid hlt;have c0:=HC.out 0 hl0;obtain ⟨x0,hx0⟩:∃ x,l.getD 0 0=x:=⟨_,rfl⟩;have HX0:=Lib.hid hx0;simp only [hx0,Nat.add_zero] at c0;clear hc h hlt hx0;go_enter Tryz.func104,Tryz.ntmps104;have hlt1:¬ ((l.length:Int)<1):=by omega
 go_wp2_with (fail);go_loopw [3,4] (fun m i W=>∃ (j x:Nat),j≤l.length∧1≤j∧i=.int .i64 j∧m=iv x∧W=w∧Hid ((∀ q,q<j→l.getD q 0≤x)∧∃ q,q<j∧l.getD q 0=x))
  (fun _ i _=>l.length-(intOf i).toNat)
 case atStart=>
  refine ⟨1,x0,by omega,by omega,rfl,rfl,rfl,Lib.hid ⟨fun q hq=>?_,0,by omega,HX0.out⟩⟩;obtain rfl:q=0:=by omega
  exact Nat.le_of_eq HX0.out
 case round=>
  obtain ⟨j,x,hj,hj1,rfl,rfl,rfl,HM⟩:=hrel;by_cases hlt:j<l.length
  ·have cj:=HC.out j hlt;obtain ⟨y,hy⟩:∃ y,l.getD j 0=y:=⟨_,rfl⟩;have HY:=Lib.hid hy;simp only [hy] at cj;clear hy;go_wp2_with (fail);go_roundw
   case rel=>
    refine ⟨j+1,max x y,by omega,by omega,by go_num,?_,trivial,Lib.hid ⟨fun q hq=>?_,?_⟩⟩
    ·show Value.int _ _=Value.int _ _
     congr 1
     first
      | omega
      | (split<;>omega)
    ·by_cases e:q=j
     ·subst e;rw [HY.out];omega
     ·have:=HM.out.1 q (by omega);omega
    ·rcases Nat.le_total y x with h1|h1
     ·obtain ⟨q,hq,hqx⟩:=HM.out.2;exact ⟨q,by omega,by omega⟩
     ·exact ⟨j,by omega,by rw [HY.out];omega⟩
   case measure=>simp [intOf];omega
  ·obtain rfl:j=l.length:=by omega
   go_wp2;go_ret;exact ⟨x,rfl,rfl,HM.out.1,HM.out.2⟩
open Go.Maps (Keyed)
theorem U7 {κ:Type} {key:Nat→κ} {x:Nat} {c c':Nat→Nat} {bs:List Nat} {f:κ→Option Nat} (h:FInv key x c bs f) (hc:∀ y,y<x→c' y=c y):FInv key x c' bs f where
 le:=h.le
 lt:=fun y hy=>by rw [hc y hy];exact h.lt y hy
 byte:=fun k hk=>by
  obtain ⟨h1,h2⟩:=h.byte k hk;exact ⟨h1,by rw [hc _ h1];exact h2⟩
 same:=fun y z hy hz=>by rw [hc y hy,hc z hz];exact h.same y z hy hz
 has:=fun y hy=>by rw [hc y hy];exact h.has y hy
 from_:=fun p i hp=>by
  obtain ⟨y,hy,h1,h2⟩:=h.from_ p i hp;exact ⟨y,hy,h1,by rw [hc y hy];exact h2⟩
 first:=fun y hy=>by rw [hc y hy];exact h.first y hy
 inc:=h.inc
theorem Agl {κ:Type} {key:Nat→κ} {x:Nat} {N bs:List Nat} {f:κ→Option Nat} (h:FInv key x (fun s=>N.getD s 0) bs f) (hx:x<N.length) (i:Nat) (hi:f (key x)=some i):FInv key (x+1) (fun s=>(N.set x i).getD s 0) bs f:=
 U7 (Pg h i hi) fun y _=>by
  rw [A5 _ _ _ _ _ hx]
theorem Agm {κ:Type} [DecidableEq κ] {key:Nat→κ} {x:Nat} {N bs:List Nat} {f:κ→Option Nat} (h:FInv key x (fun s=>N.getD s 0) bs f) (hx:x<N.length) (hi:f (key x)=none) :
  FInv key (x+1) (fun s=>(N.set x bs.length).getD s 0) (bs++[x]) (fun p=>if p=key x then some bs.length else f p):=
 U7 (U5 h hi) fun y _=>by
  rw [A5 _ _ _ _ _ hx]
def Big (L:List UInt8→Prop):Prop:=∃ U:List (List UInt8),64<U.length∧U.Pairwise fun u v=>∃ x,¬ (L (u++x)↔L (v++x))
def J4 (L:List UInt8→Prop):Option Dfa→Prop
 | some d=>Cano d∧(∀ w,d.has w=true↔L w)∧d.nxt.length≤64
 | none=>Big L
theorem Ai4 {t:Tbl} (hv:TVal t) {R:List Nat} {B:Nat→Nat} {l:List Nat} (hl:Reached t l) (hb:Blocks t l B R) (hR:64<R.length):Big fun w=>t.has w=true:=by
 classical
 have hw:∀ s:Nat,∃ w,s∈l→t.run 0 w=s:=fun s=>by
  by_cases hs:s∈l
  ·obtain ⟨w,hw⟩:=hl.all s hs;exact ⟨w,fun _=>hw⟩
  ·exact ⟨[],fun h=>absurd h hs⟩
 refine ⟨(List.range R.length).map fun i=>(hw (R.getD i 0)).choose,by simpa using hR,?_⟩;rw [List.pairwise_map];refine List.Pairwise.imp_of_mem (fun {i j} hi hj hij=>?_) (List.nodup_iff_pairwise_ne.1 List.nodup_range);have hi:=List.mem_range.1 hi;have hj:=List.mem_range.1 hj;refine Classical.byContradiction fun hx=>hij ?_
 have hx:∀ x,(t.has ((hw (R.getD i 0)).choose++x)=true↔t.has ((hw (R.getD j 0)).choose++x)=true):=fun x=>Classical.byContradiction fun hne=>hx ⟨x,hne⟩
 rw [← hb.blk.rep i hi,← hb.blk.rep j hj];refine (hb.leq _ (hb.blk.mem i hi) _ (hb.blk.mem j hj)).2 fun x=>?_
 have:=hx x;rw [← Bool.eq_iff_iff] at this;unfold Tbl.has at this;rw [Cz,Cz,(hw (R.getD i 0)).choose_spec (hb.blk.mem i hi),(hw (R.getD j 0)).choose_spec (hb.blk.mem j hj)] at this;exact this
def IsMq {κ:Type} (W:World) (k:TypeId) (key:κ→Value) (b n:Nat) (f:κ→Option Nat):Prop:=
 ∃ D:DataW Unit,W.ownsMap Tryz.prog k (plainElem Tryz.prog 3) b n D∧Maps.size D=n∧∀ x l,keyOf Tryz.prog k (key x)=some l→Maps.has D l=(f x).isSome∧D.atKey l (.lit (.int .i64 0))=.lit (.int .i64 ((f x).getD 0:Nat))
section
variable {κ:Type} {W:World} {k:TypeId} {key:κ→Value} {b n:Nat} {f:κ→Option Nat}
theorem Afr (W:World) (k:TypeId) (key:κ→Value):IsMq (W.alloc (.map #[] 0)) k key W.heap.size 0 (fun _=>none):=
 ⟨.map [],World.ownsMap_made W _ _ _,rfl,fun _ _ _=>⟨rfl,rfl⟩⟩
theorem IsMq.mp (h:IsMq W k key b n f):IsMp W k key b n f:=by
 obtain ⟨D,h1,_,h2⟩:=h;exact ⟨D,h1,h2⟩
theorem IsMq.kept {W':World} {row:Option Nat} (h:IsMq W k key b n f) (hg:W.grownBy W' row) (hne:some b≠row):IsMq W' k key b n f:=by
 obtain ⟨D,h1,h2⟩:=h;exact ⟨D,h1.kept hg hne,h2⟩
theorem IsMq.ext {W':World} (h:IsMq W k key b n f) (hE:Ext W W'):IsMq W' k key b n f:=h.kept (hE.grownBy none) (by simp)
theorem IsMq.alloc (h:IsMq W k key b n f) (o:Obj):IsMq (W.alloc o) k key b n f:=by
 obtain ⟨D,h1,h2⟩:=h;exact ⟨D,h1.alloc o,h2⟩
theorem IsMq.ne_row {base e size:Nat} {v:Value} {m:Nat} {xs:List Value} (h:IsMq W k key b n f) (ho:W.ownsRow base e size v m xs):some b≠v.ownBlock:=h.mp.ne_row ho
theorem IsMq.far {base e size:Nat} {v:Value} {m:Nat} {xs:List Value} (h:IsMq W k key b n f) (ho:W.ownsRow base e size v m xs):v.ownBlock=none∨v.ownBlock≠some b:=h.mp.far ho
variable {ops:Array Oper} {rest:List Oper} {o:Oper} {a:Act} {Q:Exit→Act→World→Prop}
theorem Mu (hg:o.guard=none) (m:Operand) (t:TypeId) (hop:o.op=Op.call { callee:=Callee.builtin Builtin.len,args:=#[m],argTypes:=#[t] })
  (ht:Tryz.prog.underlying t=some (.map k 3)) (hm:a.eval m=.map (some b)) (h:IsMq W k key b n f)
  (hK:wpList Tryz.prog ops Q rest (a.put o.dst (iv n)) W):wpList Tryz.prog ops Q (o::rest) a W:=by
 obtain ⟨D,h1,h2,_⟩:=h;refine wpList_len_own W hg m t hop k 3 ht _ b n D hm h1 ?_;rw [h2];exact hK
theorem Xy [DecidableEq κ] (hg:o.guard=none) (m x v:Operand) (t:TypeId) (hop:o.op=Op.mapUpdate t m x v) (K:Keyed Tryz.prog k) (ht:Tryz.prog.underlying t=some (.map k 3)) (hm:a.eval m=.map (some b)) (h:IsMq W k key b n f) (hn:n<maxLen)
  (hinj:∀ y z,key y=key z→y=z) (y:κ) (hf:f y=none) (hx:a.eval x=key y) (hl:∃ l,keyOf Tryz.prog k (key y)=some l) (i:Nat) (hv:a.eval v=iv i) (hi:i<9223372036854775808)
  (hK:∀ W',IsMq W' k key b (n+1) (fun z=>if z=y then some i else f z)→W.grownBy W' (some b)→wpList Tryz.prog ops Q rest (a.put o.dst undef) W'):wpList Tryz.prog ops Q (o::rest) a W:=by
 obtain ⟨D,h1,hs,h2⟩:=h;obtain ⟨l,hl⟩:=hl;refine wpList_mapUpdate_own W hg m x v t hop k 3 K ht (plainElem Tryz.prog 3) b n D hm h1 hn (key y) (iv i) l hx hv hl (.lit (.int .i64 i)) [] (plainElem_int Tryz.underlying3 (Il i hi)) ?_;intro W' hW hgr;refine hK W' ⟨_,hW,?_,fun z lz hz=>?_⟩ hgr
 ·rw [Maps.size_put (h1.tidy K),(h2 y l hl).1,hf,hs];rfl
 by_cases e:z=y
 ·subst e;rw [hl] at hz;cases hz
  simp only [if_true];exact ⟨Maps.has_put_same h1.isMap (K.key hl) _,Maps.atKey_put_same h1.isMap (K.key hl) _ _⟩
 ·have hne:lz≠l:=fun e'=>e (hinj _ _ (K.inj hz (e'▸hl)))
  simp only [e,if_false];rw [Maps.has_put_other hne,Maps.atKey_put_other hne];exact h2 z lz hz
end
end Go.Proofs.YtaiogolidlamiaaGreatDoor
