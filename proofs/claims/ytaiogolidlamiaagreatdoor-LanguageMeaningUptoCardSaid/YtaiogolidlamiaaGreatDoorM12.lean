import Derived.Test.YtaiogolidlamiaaGreatDoorM11
set_option linter.unusedVariables false
set_option linter.unusedSimpArgs false
namespace Go.Proofs.YtaiogolidlamiaaGreatDoor
abbrev Av:=List UInt8→Prop
theorem Gu {L L' M M':Av} (h:∀ w,L w↔L' w) (k:∀ w,M w↔M' w) (w:List UInt8):Cat L M w↔Cat L' M' w:=by
 unfold Cat;constructor
 ·rintro ⟨u,v,e,hu,hv⟩;exact ⟨u,v,e,(h u).1 hu,(k v).1 hv⟩
 ·rintro ⟨u,v,e,hu,hv⟩;exact ⟨u,v,e,(h u).2 hu,(k v).2 hv⟩
theorem Wj (L M N:Av) (w:List UInt8):Cat (Cat L M) N w↔Cat L (Cat M N) w:=by
 constructor
 ·rintro ⟨_,v,rfl,⟨a,b,rfl,ha,hb⟩,hv⟩;exact ⟨a,b++v,by simp,ha,b,v,rfl,hb,hv⟩
 ·rintro ⟨a,_,rfl,ha,b,v,rfl,hb,hv⟩;exact ⟨a++b,v,by simp,⟨a,b,rfl,ha,hb⟩,hv⟩
theorem L0 (L:Av) (w:List UInt8):Cat (fun u=>u=[]) L w↔L w:=by
 constructor
 ·rintro ⟨u,v,rfl,rfl,hv⟩;simpa using hv
 ·intro h;exact ⟨[],w,rfl,rfl,h⟩
theorem Px (L:Av) (w:List UInt8):Cat L (fun u=>u=[]) w↔L w:=by
 constructor
 ·rintro ⟨u,v,rfl,hu,rfl⟩;simpa using hu
 ·intro h;exact ⟨w,[],by simp,h,rfl⟩
def pwc (P L:Av):Nat→Av
 | 0=>P
 | n+1=>pwc (Cat P L) L n
theorem So {P P' L L':Av} (h:∀ w,P w↔P' w) (k:∀ w,L w↔L' w) (n:Nat) (w:List UInt8):pwc P L n w↔pwc P' L' n w:=by
 rw [show P=P' from funext fun w=>propext (h w),show L=L' from funext fun w=>propext (k w)]
theorem Sq (A P L:Av):∀ (n:Nat) (w:List UInt8),pwc (Cat A P) L n w↔Cat A (pwc P L n) w
 | 0,w=>Iff.rfl
 | n+1,w=>by
  show pwc (Cat (Cat A P) L) L n w↔Cat A (pwc (Cat P L) L n) w;rw [← Sq A (Cat P L) L n w];exact So (fun w=>Wj A P L w) (fun _=>Iff.rfl) n w
def pw (L:Av) (n:Nat):Av:=pwc (fun w=>w=[]) L n
theorem Sn (P L:Av) (n:Nat) (w:List UInt8):pwc P L n w↔Cat P (pw L n) w:=by
 rw [pw,← Sq];exact So (fun w=>(Px P w).symm) (fun _=>Iff.rfl) n w
theorem Eu (L:Av) (n:Nat) (w:List UInt8):pw L (n+1) w↔Cat L (pw L n) w:=by
 show pwc (Cat (fun w=>w=[]) L) L n w↔_;rw [Sn];exact Gu (L0 L) (fun _=>Iff.rfl) w
theorem Fu (L:Av):∀ (m n:Nat) (w:List UInt8),pw L (m+n) w↔Cat (pw L m) (pw L n) w
 | 0,n,w=>by rw [Nat.zero_add];exact (L0 _ w).symm
 | m+1,n,w=>by
  rw [show m+1+n=(m+n)+1 by omega,Eu];rw [Gu (fun _=>Iff.rfl) (Fu L m n) w,← Wj];exact Gu (fun w=>(Eu L m w).symm) (fun _=>Iff.rfl) w
theorem Kx (L:Av):∀ (n:Nat) (w:List UInt8),pw (fun w=>L w∨w=[]) n w↔∃ k,k≤n∧pw L k w
 | 0,w=>by
  constructor
  ·intro h;exact ⟨0,by omega,h⟩
  ·rintro ⟨k,hk,h⟩;obtain rfl:k=0:=by omega
   exact h
 | n+1,w=>by
  rw [Eu];constructor
  ·rintro ⟨u,v,rfl,hu,hv⟩;obtain ⟨k,hk,h⟩:=(Kx L n v).1 hv;rcases hu with hu|rfl
   ·exact ⟨k+1,by omega,(Eu L k _).2 ⟨u,v,rfl,hu,h⟩⟩
   ·exact ⟨k,by omega,by simpa using h⟩
  ·rintro ⟨k,hk,h⟩;by_cases e:k=n+1
   ·subst e;obtain ⟨u,v,rfl,hu,hv⟩:=(Eu L n w).1 h;exact ⟨u,v,rfl,.inl hu,(Kx L n v).2 ⟨n,by omega,hv⟩⟩
   ·exact ⟨[],w,rfl,.inr rfl,(Kx L n w).2 ⟨k,by omega,h⟩⟩
theorem It (L:Av) (w:List UInt8):Star L w↔∃ k,pw L k w:=by
 constructor
 ·intro h;induction h with
  | nil=>exact ⟨0,rfl⟩
  | app hu hv ih=>
   obtain ⟨k,hk⟩:=ih;refine ⟨k+1,(Fu L k 1 _).2 ⟨_,_,rfl,hk,?_⟩⟩;rw [Eu];exact (Px L _).2 hv
 ·rintro ⟨k,hk⟩;induction k generalizing w with
  | zero=>
   have:w=[]:=hk;subst this;exact .nil
  | succ k ih=>
   obtain ⟨u,v,rfl,hu,hv⟩:=(Fu L k 1 w).1 hk;have hv:L v:=by
    rw [Eu] at hv;exact (Px L _).1 hv
   exact .app (ih u hu) hv
def rep (L:Av) (lo:Nat) (hi:Int):Av:=fun w=>∃ k,lo≤k∧(hi<0∨(k:Int)≤hi)∧pw L k w
structure RNode where
 kind:Nat
 l:Nat
 r:Nat
 c:Cls
 min:Nat
 max:Int
def K4 (n:RNode) (l:List Av):Av:=
 if n.kind=1 then fun _=>False else if n.kind=2 then fun w=>w=[] else if n.kind=3 then fun w=>∃ x:UInt8,w=[x]∧n.c.getLsbD x.toNat=true else
 if n.kind=4 then Cat (l.getD n.l fun _=>False) (l.getD n.r fun _=>False) else if n.kind=5 then fun w=>l.getD n.l (fun _=>False) w∨l.getD n.r (fun _=>False) w else
 if n.kind=6 then fun w=>l.getD n.l (fun _=>False) w∧l.getD n.r (fun _=>False) w else if n.kind=7 then fun w=>¬ l.getD n.l (fun _=>False) w else rep (l.getD n.l fun _=>False) n.min n.max
def I7:List RNode→List Av→List Av
 | [],l=>l
 | n::x,l=>I7 x (l++[K4 n l])
def Dp (L:Av) (r:Option Dfa):Prop:=∃ d,r=some d∧Cano d∧∀ w,d.has w=true↔L w
def Dz (r:Option Dfa) (f:Dfa→Option Dfa→Prop) (q:Option Dfa):Prop:=match r with|none=>q=none|some d=>f d q
def C6 (p d:Dfa):Nat→Option Dfa→Prop
 | 0,r=>r=some p
 | n+1,r=>∃ q,Dg p d q∧Dz q (fun p'=>C6 p' d n) r
def Ei (d:Dfa) (lo:Nat) (hi:Int) (r:Option Dfa):Prop:=
 ∃ e,(Cano e∧∀ w,e.has w=true↔w=[])∧∃ q,C6 e d lo q∧Dz q (fun p r=>if hi=lo then r=some p else
  if hi<0 then ∃ s,F7 d s∧Dz s (fun s r=>Dg p s r) r else ∃ o,Lim (fun w=>d.has w=true∨e.has w=true) o∧Dz o (fun o r=>C6 p o (hi-lo).toNat r) r) r
def dN:Dfa:=⟨[],[],[]⟩
def C7 (n:RNode) (l:List Dfa) (r:Option Dfa):Prop:=
 if n.kind=1 then Dp (fun _=>False) r else if n.kind=2 then Dp (fun w=>w=[]) r else if n.kind=3 then Dp (fun w=>∃ x:UInt8,w=[x]∧n.c.getLsbD x.toNat=true) r else
 if n.kind=4 then Dg (l.getD n.l dN) (l.getD n.r dN) r else if n.kind=5 then Lim (fun w=>(l.getD n.l dN).has w=true∨(l.getD n.r dN).has w=true) r else
 if n.kind=6 then Lim (fun w=>(l.getD n.l dN).has w=true∧(l.getD n.r dN).has w=true) r else if n.kind=7 then Dp (fun w=>¬ (l.getD n.l dN).has w=true) r else Ei (l.getD n.l dN) n.min n.max r
def Bf:List RNode→List Dfa→Option Dfa→Prop
 | [],l,r=>r=some (l.getD (l.length-1) dN)
 | n::x,l,r=>∃ q,C7 n l q∧Dz q (fun d=>Bf x (l++[d])) r
theorem L2 {L:Av} {r r':Option Dfa} (h:Dp L r) (h':Dp L r'):r=r':=by
 obtain ⟨d,rfl,h1,h2⟩:=h;obtain ⟨d',rfl,h1',h2'⟩:=h';rw [Jr h1 h1' h2 h2']
theorem Jv {q:Option Dfa} {f:Dfa→Option Dfa→Prop} {r r':Option Dfa} (hf:∀ d r r',f d r→f d r'→r=r') (h:Dz q f r) (h':Dz q f r'):r=r':=by
 cases q with
 | none=>exact h.trans h'.symm
 | some d=>exact hf d r r' h h'
theorem N2 (d:Dfa):∀ (n:Nat) (p:Dfa) {r r':Option Dfa},C6 p d n r→C6 p d n r'→r=r'
 | 0,p,r,r',h,h'=>h.trans h'.symm
 | n+1,p,r,r',⟨q,h1,h2⟩,⟨q',h1',h2'⟩=>by
  obtain rfl:=Py h1 h1';exact Jv (fun d' _ _=>N2 d n d') h2 h2'
theorem Aa3 {d:Dfa} {lo:Nat} {hi:Int} {r r':Option Dfa} (h:Ei d lo hi r) (h':Ei d lo hi r'):r=r':=by
 obtain ⟨e,he,q,h1,h2⟩:=h;obtain ⟨e',he',q',h1',h2'⟩:=h';obtain rfl:=Jr he.1 he'.1 he.2 he'.2;obtain rfl:=N2 d lo e h1 h1';refine Jv (fun p r r' k k'=>?_) h2 h2';by_cases c1:hi=lo
 ·rw [if_pos c1] at k k';exact k.trans k'.symm
 ·rw [if_neg c1] at k k';by_cases c2:hi<0
  ·rw [if_pos c2] at k k';obtain ⟨s,s1,s2⟩:=k;obtain ⟨s',s1',s2'⟩:=k';obtain rfl:=Zf s1 s1';exact Jv (fun d r r' (h:Dg p d r) (h':Dg p d r')=>Py h h') s2 s2'
  ·rw [if_neg c2] at k k';obtain ⟨s,s1,s2⟩:=k;obtain ⟨s',s1',s2'⟩:=k';obtain rfl:=Hl s1 s1';exact Jv (fun o _ _=>N2 o _ p) s2 s2'
theorem Adp {n:RNode} {l:List Dfa} {r r':Option Dfa} (h:C7 n l r) (h':C7 n l r'):r=r':=by
 unfold C7 at h h';split at h
 ·rename_i c;rw [if_pos c] at h';exact L2 h h'
 rename_i c1;rw [if_neg c1] at h'
 split at h
 ·rename_i c;rw [if_pos c] at h';exact L2 h h'
 rename_i c2;rw [if_neg c2] at h'
 split at h
 ·rename_i c;rw [if_pos c] at h';exact L2 h h'
 rename_i c3;rw [if_neg c3] at h'
 split at h
 ·rename_i c;rw [if_pos c] at h';exact Py h h'
 rename_i c4;rw [if_neg c4] at h'
 split at h
 ·rename_i c;rw [if_pos c] at h';exact Hl h h'
 rename_i c5;rw [if_neg c5] at h'
 split at h
 ·rename_i c;rw [if_pos c] at h';exact Hl h h'
 rename_i c6;rw [if_neg c6] at h'
 split at h
 ·rename_i c;rw [if_pos c] at h';exact L2 h h'
 rename_i c7;rw [if_neg c7] at h'
 exact Aa3 h h'
theorem E3:∀ (x:List RNode) (l:List Dfa) {r r':Option Dfa},Bf x l r→Bf x l r'→r=r'
 | [],l,r,r',h,h'=>h.trans h'.symm
 | n::x,l,r,r',⟨q,h1,h2⟩,⟨q',h1',h2'⟩=>by
  obtain rfl:=Adp h1 h1';exact Jv (fun d _ _=>E3 x (l++[d])) h2 h2'
def Fit (d:Dfa) (L:Av):Prop:=Cano d∧∀ w,d.has w=true↔L w
theorem T3 {L:Av} {d:Dfa} (h:Lim L (some d)):Fit d L:=⟨h.1,h.2.1⟩
theorem Jp {a b d:Dfa} {L M:Av} (h:Dg a b (some d)) (ha:∀ w,a.has w=true↔L w) (hb:∀ w,b.has w=true↔M w):Fit d (Cat L M)∧d.nxt.length≤64:=by
 obtain ⟨x,y,hx,hy,ex,ey,h1,h2⟩:=h;by_cases hm:Bx (cnx (Ae x) (Ae y)) (cst (Ae x)) 4096
 ·cases h1 hm
 ·obtain ⟨k1,k2,k3⟩:=h2 hm;exact ⟨⟨k1,fun w=>(k2 w).trans (Gu ha hb w)⟩,k3⟩
theorem Rp {a d:Dfa} {L:Av} (h:F7 a (some d)) (ha:∀ w,a.has w=true↔L w):Fit d (Star L)∧d.nxt.length≤64:=by
 obtain ⟨x,hx,ex,h1,h2⟩:=h;by_cases hm:Bx (snx (Ae x)) (1,1) 4096
 ·cases h1 hm
 ·obtain ⟨k1,k2,k3⟩:=h2 hm;refine ⟨⟨k1,fun w=>?_⟩,k3⟩;rw [k2,show L=fun w=>a.has w=true from funext fun w=>propext (ha w).symm]
theorem N3 {d:Dfa} {L:Av} (hd:∀ w,d.has w=true↔L w):∀ (n:Nat) (p:Dfa) (P:Av) (q:Dfa),Fit p P→C6 p d n (some q)→Fit q (pwc P L n)
 | 0,p,P,q,hp,h=>by
  injection (show some q=some p from h) with h
  subst h;exact hp
 | n+1,p,P,q,hp,⟨q',h1,h2⟩=>by
  cases q' with
  | none=>cases (show some q=none from h2)
  | some p'=>exact N3 hd n p' (Cat P L) q (Jp h1 hp.2 hd).1 h2
theorem Nq {d q:Dfa} {L:Av} {lo:Nat} {hi:Int} (hd:∀ w,d.has w=true↔L w) (hlh:hi<0∨(lo:Int)≤hi) (h:Ei d lo hi (some q)):Fit q (rep L lo hi):=by
 obtain ⟨e,he,p,h1,h2⟩:=h;cases p with
 | none=>cases (show some q=none from h2)
 | some p=>
  have hp:Fit p (pw L lo):=N3 hd lo e _ p ⟨he.1,he.2⟩ h1;change (if hi=(lo:Int) then _ else _) at h2
  by_cases c1:hi=lo
  ·rw [if_pos c1] at h2;injection h2 with h2
   subst h2;refine ⟨hp.1,fun w=>(hp.2 w).trans ?_⟩;constructor
   ·intro h;exact ⟨lo,Nat.le_refl _,.inr (by omega),h⟩
   ·rintro ⟨k,k1,k2,h⟩;obtain rfl:k=lo:=by omega
    exact h
  ·rw [if_neg c1] at h2;by_cases c2:hi<0
   ·rw [if_pos c2] at h2;obtain ⟨s,s1,s2⟩:=h2;cases s with
    | none=>cases (show some q=none from s2)
    | some s=>
     have hs:=(Rp s1 hd).1;have hq:=(Jp (show Dg p s (some q) from s2) hp.2 hs.2).1;refine ⟨hq.1,fun w=>(hq.2 w).trans ?_⟩;rw [Gu (fun _=>Iff.rfl) (It L) w];constructor
     ·rintro ⟨u,v,rfl,hu,k,hv⟩;exact ⟨lo+k,by omega,.inl c2,(Fu L lo k _).2 ⟨u,v,rfl,hu,hv⟩⟩
     ·rintro ⟨k,k1,_,h⟩;obtain ⟨m,rfl⟩:∃ m,k=lo+m:=⟨k-lo,by omega⟩;obtain ⟨u,v,rfl,hu,hv⟩:=(Fu L lo m w).1 h;exact ⟨u,v,rfl,hu,m,hv⟩
   ·rw [if_neg c2] at h2;obtain ⟨s,s1,s2⟩:=h2;cases s with
    | none=>cases (show some q=none from s2)
    | some s=>
     have hs:∀ w,s.has w=true↔L w∨w=[]:=fun w=>by
      refine (s1.2.1 w).trans ?_;show (d.has w=true∨e.has w=true)↔_;rw [hd,he.2]
     have hq:=N3 hs _ p _ q hp s2;refine ⟨hq.1,fun w=>(hq.2 w).trans ?_⟩;rw [Sn,Gu (fun _=>Iff.rfl) (Kx L _) w];constructor
     ·rintro ⟨u,v,rfl,hu,k,hk,hv⟩;exact ⟨lo+k,by omega,.inr (by omega),(Fu L lo k _).2 ⟨u,v,rfl,hu,hv⟩⟩
     ·rintro ⟨k,k1,k2,h⟩;obtain ⟨m,rfl⟩:∃ m,k=lo+m:=⟨k-lo,by omega⟩;obtain ⟨u,v,rfl,hu,hv⟩:=(Fu L lo m w).1 h;exact ⟨u,v,rfl,hu,m,by omega,hv⟩
def RNode.good (n:RNode) (i:Nat):Prop:=(n.kind=4∨n.kind=5∨n.kind=6→n.l<i∧n.r<i)∧(n.kind=7∨n.kind=8→n.l<i)∧(n.max<0∨(n.min:Int)≤n.max)∧1≤n.kind∧n.kind≤8
def Ml (ds:List Dfa) (ls:List Av):Prop:=ds.length=ls.length∧∀ i,i<ds.length→Fit (ds.getD i dN) (ls.getD i fun _=>False)
theorem Adr {n:RNode} {ds:List Dfa} {ls:List Av} (hf:Ml ds ls) (hg:n.good ds.length) {d:Dfa} (h:C7 n ds (some d)):Fit d (K4 n ls):=by
 obtain ⟨g1,g2,g3,g4,g5⟩:=hg;have can:∀ {L:Av},Dp L (some d)→Fit d L:=fun ⟨e,e1,e2,e3⟩=>by
  injection e1 with e1
  subst e1;exact ⟨e2,e3⟩
 unfold C7 at h;unfold K4;split at h
 ·rename_i c;rw [if_pos c];exact can h
 rename_i c1;rw [if_neg c1]
 split at h
 ·rename_i c;rw [if_pos c];exact can h
 rename_i c2;rw [if_neg c2]
 split at h
 ·rename_i c;rw [if_pos c];exact can h
 rename_i c3;rw [if_neg c3]
 split at h
 ·rename_i c;rw [if_pos c]
  obtain ⟨hl,hr⟩:=g1 (.inl c);exact (Jp h (hf.2 _ hl).2 (hf.2 _ hr).2).1
 rename_i c4;rw [if_neg c4]
 split at h
 ·rename_i c;rw [if_pos c]
  obtain ⟨hl,hr⟩:=g1 (.inr (.inl c));refine ⟨h.1,fun w=>(h.2.1 w).trans ?_⟩;simp only;rw [(hf.2 _ hl).2,(hf.2 _ hr).2]
 rename_i c5;rw [if_neg c5]
 split at h
 ·rename_i c;rw [if_pos c]
  obtain ⟨hl,hr⟩:=g1 (.inr (.inr c));refine ⟨h.1,fun w=>(h.2.1 w).trans ?_⟩;simp only;rw [(hf.2 _ hl).2,(hf.2 _ hr).2]
 rename_i c6;rw [if_neg c6]
 split at h
 ·rename_i c;rw [if_pos c]
  have hl:=g2 (.inl c);have:=can h;refine ⟨this.1,fun w=>(this.2 w).trans ?_⟩;simp only;rw [(hf.2 _ hl).2]
 rename_i c7;rw [if_neg c7]
 have hl:=g2 (.inr (by omega));exact Nq (hf.2 _ hl).2 g3 h
theorem Hq {α:Type} (l:List α) (x d:α) (i:Nat):(l++[x]).getD i d=if i<l.length then l.getD i d else if i=l.length then x else d:=by
 by_cases h:i<l.length
 ·rw [if_pos h,Bi _ _ _ _ h]
 ·rw [if_neg h];by_cases e:i=l.length
  ·rw [if_pos e,e,Bw]
  ·rw [if_neg e,List.getD_eq_getElem?_getD,List.getElem?_eq_none (by simp;omega)];rfl
theorem Agj {ds:List Dfa} {ls:List Av} (h:Ml ds ls) {d:Dfa} {L:Av} (hd:Fit d L):Ml (ds++[d]) (ls++[L]):=by
 refine ⟨by rw [List.length_append,List.length_append,h.1];rfl,fun i hi=>?_⟩;rw [List.length_append,List.length_singleton] at hi;rw [Hq,Hq,← h.1];by_cases e:i<ds.length
 ·rw [if_pos e,if_pos e];exact h.2 i e
 ·rw [if_neg e,if_neg e,if_pos (by omega),if_pos (by omega)];exact hd
def Ll:List RNode→Nat→Prop
 | [],_=>True
 | n::x,i=>n.good i∧Ll x (i+1)
theorem P9:∀ (x:List RNode) (ds:List Dfa) (ls:List Av),Ml ds ls→Ll x ds.length→(x=[]→0<ds.length)→∀ d,Bf x ds (some d)→Fit d ((I7 x ls).getD ((I7 x ls).length-1) fun _=>False)
 | [],ds,ls,hf,_,h0,d,h=>by
  injection (show some d=some _ from h) with h
  subst h;show Fit _ (ls.getD (ls.length-1) _);rw [← hf.1];exact hf.2 _ (by have:=h0 rfl;omega)
 | n::x,ds,ls,hf,hg,_,d,⟨q,h1,h2⟩=>by
  cases q with
  | none=>cases (show some d=none from h2)
  | some e=>
   have he:=Adr hf hg.1 h1;exact P9 x (ds++[e]) (ls++[K4 n ls]) (Agj hf he) (by rw [List.length_append];exact hg.2) (by intro _;simp) d h2
end Go.Proofs.YtaiogolidlamiaaGreatDoor
