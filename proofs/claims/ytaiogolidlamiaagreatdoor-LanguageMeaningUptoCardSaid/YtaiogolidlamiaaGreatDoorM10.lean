import Derived.Test.YtaiogolidlamiaaGreatDoorM08
set_option linter.unusedVariables false
set_option linter.unusedSimpArgs false
namespace Go.Proofs.YtaiogolidlamiaaGreatDoor
def evN (N:List (List Nat)) (r:List Nat) (m p:Nat):Nat:=if p / m<N.length then (N.getD (p / m) []).getD (p % m) 0 else r.getD (p % m) 0
theorem Ji {m k:Nat} (hk:k<m) (i:Nat):(i*m+k) / m=i∧(i*m+k) % m=k:=by
 have h0:0<m:=by omega
 constructor
 ·rw [Nat.mul_comm,Nat.mul_add_div h0,Nat.div_eq_of_lt hk,Nat.add_zero]
 ·rw [Nat.mul_comm,Nat.mul_add_mod,Nat.mod_eq_of_lt hk]
theorem Pp {m k i p:Nat} (h0:0<m) (hk:k≤m) (hp:p<i*m+k):p / m<i∨(p / m=i∧p % m<k):=by
 have h1:=Nat.div_add_mod p m;have h2:=Nat.mod_lt p h0;rcases Nat.lt_trichotomy (p / m) i with h|h|h
 ·exact .inl h
 ·refine .inr ⟨h,?_⟩;rw [h,Nat.mul_comm] at h1;omega
 ·exfalso
  have:(i+1)*m≤p / m*m:=Nat.mul_le_mul_right _ h;rw [Nat.succ_mul,Nat.mul_comm (p / m)] at this;omega
structure LInv (t:Tbl) (B:Nat→Nat) (R K:List Nat) (i k:Nat) (O:List Nat) (P:List (Option Nat)) (N:List (List Nat)) (r:List Nat):Prop where
 lenP:P.length=R.length
 place:∀ x v,P.getD x none=some v↔x<R.length∧v<O.length∧O.getD v 0=x
 lt:∀ v,v<O.length→O.getD v 0<R.length
 pos:0<O.length
 zero:O.getD 0 0=B 0
 lenN:N.length=i
 rows:∀ j,j<i→(N.getD j []).length=K.length
 lenr:r.length=K.length
 le:i≤O.length
 ent:∀ p,p<i*K.length+k→evN N r K.length p<O.length∧O.getD (evN N r K.length p) 0=B (t.ent2 (R.getD (O.getD (p / K.length) 0) 0) (K.getD (p % K.length) 0))
 mx:mxf (evN N r K.length) (i*K.length+k)+1=O.length
 rgf:∀ p,p<i*K.length+k→evN N r K.length p≤mxf (evN N r K.length) p+1
 rch:∀ x,0<x→x<O.length→∃ p,p<i*K.length+k∧p / K.length<x∧evN N r K.length p=x
section
variable {t:Tbl} {B:Nat→Nat} {R K:List Nat} {i k:Nat} {O:List Nat} {P:List (Option Nat)} {N:List (List Nat)} {r:List Nat}
theorem Aes (h0:B 0<R.length) (n:Nat) (hn:n=R.length) (r:List Nat) (hr:r.length=K.length):LInv t B R K 0 0 [B 0] ((List.replicate n none).set (B 0) (some 0)) [] r where
 lenP:=by rw [List.length_set,List.length_replicate,hn]
 place:=fun x v=>by
  subst hn;rw [A5 _ _ _ _ _ (by rw [List.length_replicate];exact h0)];by_cases e:x=B 0
  ·subst e;rw [if_pos rfl];constructor
   ·intro h;cases h;exact ⟨h0,by simp,rfl⟩
   ·rintro ⟨_,h1,_⟩;have:v=0:=by simpa using h1
    rw [this]
  ·rw [if_neg e];constructor
   ·intro h;rw [List.getD_eq_getElem?_getD,List.getElem?_replicate] at h;split at h<;>simp at h
   ·rintro ⟨_,h1,h2⟩;have:v=0:=by simpa using h1
    subst this;exact absurd h2.symm e
 lt:=fun v hv=>by
  have:v=0:=by simpa using hv
  subst this;exact h0
 pos:=by simp
 zero:=rfl
 lenN:=rfl
 rows:=fun j hj=>by omega
 lenr:=hr
 le:=by simp
 ent:=fun p hp=>by omega
 mx:=by simp [mxf]
 rgf:=fun p hp=>by omega
 rch:=fun x h1 h2=>by
  have:x=0:=by simpa using h2
  omega
theorem Vh (hN:N.length=i) (hk:k<K.length) (hr:r.length=K.length) (v:Nat):(∀ p,p<i*K.length+k→evN N (r.set k v) K.length p=evN N r K.length p)∧evN N (r.set k v) K.length (i*K.length+k)=v:=by
 refine ⟨fun p hp=>?_,?_⟩
 ·unfold evN;rw [hN];rcases Pp (by omega) (by omega) hp with h|⟨h1,h2⟩
  ·rw [if_pos h,if_pos h]
  ·rw [if_neg (by omega),if_neg (by omega),A5 _ _ _ _ _ (by omega),if_neg (by omega)]
 ·obtain ⟨h1,h2⟩:=Ji hk i;unfold evN;rw [h1,h2,if_neg (by omega),A5 _ _ _ _ _ (by omega),if_pos rfl]
theorem Aeu (h:LInv t B R K i k O P N r) (hk:k<K.length) (v:Nat) (hv:P.getD (B (t.ent2 (R.getD (O.getD i 0) 0) (K.getD k 0))) none=some v):LInv t B R K i (k+1) O P N (r.set k v):=by
 obtain ⟨_,hvl,hvo⟩:=(h.place _ _).1 hv;obtain ⟨e1,e2⟩:=Vh h.lenN hk h.lenr v;obtain ⟨d1,d2⟩:=Ji hk i;have emx:mxf (evN N (r.set k v) K.length) (i*K.length+k)=mxf (evN N r K.length) (i*K.length+k):=Fx _ _ _ fun q hq=>e1 q hq
 refine ⟨h.lenP,h.place,h.lt,h.pos,h.zero,h.lenN,h.rows,by rw [List.length_set];exact h.lenr,h.le,fun p hp=>?_,?_,fun p hp=>?_,fun x hx hx'=>?_⟩
 ·by_cases e:p=i*K.length+k
  ·rw [e,e2,d1,d2];exact ⟨hvl,hvo⟩
  ·rw [e1 p (by omega)];exact h.ent p (by omega)
 ·have:=h.mx;rw [← Nat.add_assoc];simp only [mxf];rw [e2,emx];omega
 ·by_cases e:p=i*K.length+k
  ·rw [e,e2,emx];have:=h.mx;omega
  ·rw [e1 p (by omega),Fx _ (evN N r K.length) p fun q hq=>e1 q (by omega)];exact h.rgf p (by omega)
 ·obtain ⟨p,hp,h1,h2⟩:=h.rch x hx hx';exact ⟨p,by omega,h1,by rw [e1 p hp];exact h2⟩
theorem Aev (h:LInv t B R K i k O P N r) (hk:k<K.length) (hi:i<O.length) (hlt:B (t.ent2 (R.getD (O.getD i 0) 0) (K.getD k 0))<R.length) (hv:P.getD (B (t.ent2 (R.getD (O.getD i 0) 0) (K.getD k 0))) none=none) :
  LInv t B R K i (k+1) (O++[B (t.ent2 (R.getD (O.getD i 0) 0) (K.getD k 0))]) (P.set (B (t.ent2 (R.getD (O.getD i 0) 0) (K.getD k 0))) (some O.length)) N (r.set k O.length):=by
 obtain ⟨e1,e2⟩:=Vh h.lenN hk h.lenr O.length;obtain ⟨d1,d2⟩:=Ji hk i;have hto:∀ x,x=B (t.ent2 (R.getD (O.getD i 0) 0) (K.getD k 0))→(O++[x]).getD O.length 0=B (t.ent2 (R.getD (O.getD i 0) 0) (K.getD k 0)):=fun x e=>by rw [Bw,e]
 have emx:mxf (evN N (r.set k O.length) K.length) (i*K.length+k)=mxf (evN N r K.length) (i*K.length+k):=Fx _ _ _ fun q hq=>e1 q hq
 have hg:∀ x v,v<O.length→(O++[x]).getD v 0=O.getD v 0:=fun x v hv=>Bi _ _ _ _ hv
 have hlen:∀ x,(O++[x]).length=O.length+1:=fun x=>by simp
 have hto:=hto _ rfl;have hmx:=h.mx;refine ⟨by rw [List.length_set];exact h.lenP,fun x v=>?_,fun v hv=>?_,by rw [hlen];omega,by rw [hg _ _ h.pos];exact h.zero,h.lenN,h.rows,by rw [List.length_set];exact h.lenr,by rw [hlen];omega,fun p hp=>?_,?_,fun p hp=>?_,fun x hx hx'=>?_⟩
 ·rw [A5 _ _ _ _ _ (by rw [h.lenP];exact hlt),hlen];by_cases e:x=B (t.ent2 (R.getD (O.getD i 0) 0) (K.getD k 0))
  ·rw [if_pos e];constructor
   ·intro h1;cases h1
    exact ⟨by rw [e];exact hlt,by omega,by rw [hto,e]⟩
   ·rintro ⟨h1,h2,h3⟩;by_cases ev:v=O.length
    ·rw [ev]
    ·rw [hg _ v (by omega)] at h3;have:=(h.place x v).2 ⟨h1,by omega,h3⟩;rw [e,hv] at this;cases this
  ·rw [if_neg e,h.place x v];constructor
   ·rintro ⟨h1,h2,h3⟩;exact ⟨h1,by omega,by rw [hg _ v h2];exact h3⟩
   ·rintro ⟨h1,h2,h3⟩;by_cases ev:v=O.length
    ·rw [ev,hto] at h3;exact absurd h3.symm e
    ·rw [hg _ v (by omega)] at h3;exact ⟨h1,by omega,h3⟩
 ·rw [hlen] at hv;by_cases ev:v=O.length
  ·rw [ev,hto];exact hlt
  ·rw [hg _ v (by omega)];exact h.lt v (by omega)
 ·rw [hlen];by_cases e:p=i*K.length+k
  ·rw [e,e2,d1,d2,hg _ i hi,hto];exact ⟨by omega,rfl⟩
  ·obtain ⟨h1,h2⟩:=h.ent p (by omega);have hpi:p / K.length<O.length:=by
    rcases Pp (by omega) (by omega) (show p<i*K.length+k by omega) with h|⟨h,_⟩<;>omega
   rw [e1 p (by omega),hg _ _ h1,hg _ _ hpi];exact ⟨by omega,h2⟩
 ·rw [hlen,← Nat.add_assoc];simp only [mxf];rw [e2,emx];omega
 ·by_cases e:p=i*K.length+k
  ·rw [e,e2,emx];omega
  ·rw [e1 p (by omega),Fx _ (evN N r K.length) p fun q hq=>e1 q (by omega)];exact h.rgf p (by omega)
 ·rw [hlen] at hx';by_cases ex:x=O.length
  ·exact ⟨i*K.length+k,by omega,by rw [d1];omega,by rw [e2,ex]⟩
  ·obtain ⟨p,hp,h1,h2⟩:=h.rch x hx (by omega);exact ⟨p,by omega,h1,by rw [e1 p hp];exact h2⟩
theorem Aet (h:LInv t B R K i K.length O P N r) (hi:i<O.length) (r':List Nat) (hr':r'.length=K.length):LInv t B R K (i+1) 0 O P (N++[r]) r':=by
 by_cases h0:0<K.length
 ·have hl:(N++[r]).length=i+1:=by simp [h.lenN]
  have ev:∀ p,p<i*K.length+K.length→evN (N++[r]) r' K.length p=evN N r K.length p:=fun p hp=>by
   unfold evN;rw [hl,h.lenN];rcases Pp h0 (Nat.le_refl _) hp with h1|⟨h1,h2⟩
   ·rw [if_pos (by omega),if_pos h1,Bi _ _ _ _ (by rw [h.lenN];exact h1)]
   ·rw [if_pos (by omega),if_neg (by omega),h1,← h.lenN,Bw]
  have eq:(i+1)*K.length+0=i*K.length+K.length:=by rw [Nat.succ_mul];rfl
  refine ⟨h.lenP,h.place,h.lt,h.pos,h.zero,hl,fun j hj=>?_,hr',by omega,fun p hp=>?_,?_,fun p hp=>?_,fun x hx hx'=>?_⟩
  ·by_cases e:j=i
   ·subst e;rw [← h.lenN,Bw];exact h.lenr
   ·rw [Bi _ _ _ _ (by rw [h.lenN];omega)];exact h.rows j (by omega)
  ·rw [eq] at hp;rw [ev p hp];exact h.ent p hp
  ·rw [eq,Fx _ (evN N r K.length) _ fun q hq=>ev q hq];exact h.mx
  ·rw [eq] at hp;rw [ev p hp,Fx _ (evN N r K.length) p fun q hq=>ev q (by omega)];exact h.rgf p hp
  ·obtain ⟨p,hp,h1,h2⟩:=h.rch x hx hx';exact ⟨p,by rw [eq];exact hp,h1,by rw [ev p hp];exact h2⟩
 ·have hz:K.length=0:=by omega
  refine ⟨h.lenP,h.place,h.lt,h.pos,h.zero,by simp [h.lenN],fun j hj=>?_,hr',by omega,fun p hp=>by rw [hz] at hp;simp at hp,?_,fun p hp=>by rw [hz] at hp;simp at hp,fun x hx hx'=>?_⟩
  ·by_cases e:j=i
   ·subst e;rw [← h.lenN,Bw];exact h.lenr
   ·rw [Bi _ _ _ _ (by rw [h.lenN];omega)];exact h.rows j (by omega)
  ·have:=h.mx;rw [hz] at this ⊢
   simpa [mxf] using this
  ·obtain ⟨p,hp,_⟩:=h.rch x hx hx';rw [hz] at hp;simp at hp
theorem LInv.nodup (h:LInv t B R K i k O P N r):O.Nodup:=by
 rw [List.nodup_iff_pairwise_ne,List.pairwise_iff_getElem];intro a b ha hb hab e;have h1:=(h.place (O.getD a 0) a).2 ⟨h.lt a ha,ha,rfl⟩;have h2:=(h.place (O.getD b 0) b).2 ⟨h.lt b hb,hb,rfl⟩;have e':O.getD a 0=O.getD b 0:=by
  rw [List.getD_eq_getElem?_getD,List.getD_eq_getElem?_getD,List.getElem?_eq_getElem ha,List.getElem?_eq_getElem hb,e]
 rw [e',h2] at h1;cases h1
 omega
theorem LInv.len_le (h:LInv t B R K i k O P N r):O.length≤R.length:=by
 have:=Db O (List.range R.length) h.nodup fun s hs=>by
  obtain ⟨j,hj,rfl⟩:=Gj hs;exact List.mem_range.2 (h.lt j hj)
 simpa using this
theorem Aew {L:List Cls} (hK:K.length=L.length) (h0:0<K.length) {A:List Bool} (h:LInv t B R K i 0 O P N r) (hi:i=O.length) (hA:A.length=i) (hok:∀ j,j<i→A.getD j false=t.ok (R.getD (O.getD j 0) 0)) :
  Laid t B R K L O ⟨L,N,A⟩:=by
 subst hi;have ev:∀ j q,j<O.length→q<K.length→evN N r K.length (j*K.length+q)=(N.getD j []).getD q 0:=fun j q hj hq=>by
  obtain ⟨h1,h2⟩:=Ji hq j;unfold evN;rw [h1,h2,h.lenN,if_pos hj]
 have pos:∀ j q,j<O.length→q<K.length→j*K.length+q<O.length*K.length+0:=fun j q hj hq=>by
  have:(j+1)*K.length≤O.length*K.length:=Nat.mul_le_mul_right _ hj;rw [Nat.succ_mul] at this;omega
 have ent:∀ p,p<O.length*K.length→(Dfa.mk L N A).ent p=evN N r K.length p:=fun p hp=>by
  have h1:=Nat.div_add_mod p K.length;have h2:=Nat.mod_lt p h0;have h3:p / K.length<O.length:=Nat.div_lt_of_lt_mul (by rw [Nat.mul_comm];exact hp);show (N.getD (p / L.length) []).getD (p % L.length) 0=_;unfold evN;rw [← hK,h.lenN,if_pos h3]
 refine ⟨rfl,h.lenN,hA,h.zero,h.pos,h.nodup,h.lt,h.rows,fun j hj q hq=>?_,fun j hj=>hok j hj,fun p hp=>?_,fun x hx hx'=>?_⟩
 ·obtain ⟨h1,h2⟩:=Ji hq j;have:=h.ent _ (pos j q hj hq);rw [ev j q hj hq,h1,h2] at this;exact this
 ·have hp':p<O.length*K.length:=by
   have e:(Dfa.mk L N A).nxt.length*(Dfa.mk L N A).cls.length=O.length*K.length:=by
    show N.length*L.length=_;rw [h.lenN,hK]
   rw [e] at hp;exact hp
  rw [ent p hp',Fx _ (evN N r K.length) p fun q hq=>ent q (by omega)];exact h.rgf p (by omega)
 ·obtain ⟨p,hp,h1,h2⟩:=h.rch x hx hx';refine ⟨p / K.length,p % K.length,h1,Nat.mod_lt _ h0,?_⟩;rw [← h2,← ent p (by omega)];show _=(N.getD (p / L.length) []).getD (p % L.length) 0;rw [← hK];rfl
end
section
variable {σ:Type}
def evR (N:List (List Nat)) (r:List Nat) (j q:Nat):Nat:=if j<N.length then (N.getD j []).getD q 0 else r.getD q 0
structure EInv (bs:List Nat) (st:σ) (nx:σ→Nat→σ) (i k:Nat) (l:List σ) (f:σ→Option Nat) (N:List (List Nat)) (r:List Nat):Prop where
 zero:l[0]? = some st
 num:∀ x v,f x=some v↔l[v]? = some x
 le:i≤l.length
 lenN:N.length=i
 rows:∀ j,j<i→(N.getD j []).length=bs.length
 lenr:r.length=bs.length
 ent:∀ j s q,l[j]? = some s→(j<i∧q<bs.length)∨(j=i∧q<k)→l[evR N r j q]? = some (nx s (bs.getD q 0))
 reach:∀ s,s∈l→∃ w,At nx st w=s
variable {bs:List Nat} {st:σ} {nx:σ→Nat→σ} {i k:Nat} {l:List σ} {f:σ→Option Nat} {N:List (List Nat)} {r:List Nat}
theorem EInv.pos (h:EInv bs st nx i k l f N r):0<l.length:=by
 have:=h.zero;rw [List.getElem?_eq_some_iff] at this;exact this.1
theorem EInv.nodup (h:EInv bs st nx i k l f N r):l.Nodup:=by
 rw [List.nodup_iff_pairwise_ne,List.pairwise_iff_getElem];intro a b ha hb hab e;have h1:=(h.num _ a).2 (List.getElem?_eq_getElem ha);have h2:=(h.num _ b).2 (List.getElem?_eq_getElem hb);rw [e,h2] at h1;cases h1
 omega
theorem EInv.lt (h:EInv bs st nx i k l f N r) {x:σ} {v:Nat} (hf:f x=some v):v<l.length:=by
 have:=(h.num x v).1 hf;rw [List.getElem?_eq_some_iff] at this;exact this.1
theorem Vk [DecidableEq σ] (bs:List Nat) (st:σ) (nx:σ→Nat→σ) (r:List Nat) (hr:r.length=bs.length):EInv bs st nx 0 0 [st] (fun x=>if x=st then some 0 else none) [] r where
 zero:=rfl
 num:=fun x v=>by
  by_cases e:x=st
  ·subst e;rw [if_pos rfl];constructor
   ·intro h;cases h;rfl
   ·intro h;rw [List.getElem?_eq_some_iff] at h;obtain ⟨h1,_⟩:=h;have:v=0:=by simpa using h1
    rw [this]
  ·rw [if_neg e];constructor
   ·intro h;cases h
   ·intro h;rw [List.getElem?_eq_some_iff] at h;obtain ⟨h1,h2⟩:=h;have:v=0:=by simpa using h1
    subst this;exact absurd h2.symm e
 le:=by omega
 lenN:=rfl
 rows:=fun j hj=>by omega
 lenr:=hr
 ent:=fun j s q _ h=>by omega
 reach:=fun s hs=>by rw [List.mem_singleton] at hs;subst hs;exact ⟨[],rfl⟩
theorem Vi (hN:N.length=i) (hr:r.length=bs.length) (hk:k<bs.length) (v:Nat):evR N (r.set k v) i k=v∧∀ j q,(j<i∧q<bs.length)∨(j=i∧q<k)→evR N (r.set k v) j q=evR N r j q:=by
 unfold evR;rw [hN];refine ⟨by rw [if_neg (by omega),A5 _ _ _ _ _ (by omega),if_pos rfl],fun j q h=>?_⟩;rcases h with ⟨h1,_⟩|⟨h1,h2⟩
 ·rw [if_pos h1,if_pos h1]
 ·rw [if_neg (by omega),if_neg (by omega),A5 _ _ _ _ _ (by omega),if_neg (by omega)]
theorem Vm (h:EInv bs st nx i k l f N r) (hk:k<bs.length) {s:σ} (hs:l[i]? = some s) (v:Nat) (hv:f (nx s (bs.getD k 0))=some v):EInv bs st nx i (k+1) l f N (r.set k v):=by
 obtain ⟨e1,e2⟩:=Vi (bs:=bs) h.lenN h.lenr hk v;refine ⟨h.zero,h.num,h.le,h.lenN,h.rows,by rw [List.length_set];exact h.lenr,fun j s' q hj hq=>?_,h.reach⟩;by_cases e:j=i∧q=k
 ·obtain ⟨rfl,rfl⟩:=e;rw [hs] at hj;cases hj
  rw [e1];exact (h.num _ _).1 hv
 ·rw [e2 j q (by omega)];exact h.ent j s' q hj (by omega)
theorem Vn [DecidableEq σ] (h:EInv bs st nx i k l f N r) (hk:k<bs.length) (hb:∀ q,q<bs.length→bs.getD q 0<256) {s:σ} (hs:l[i]? = some s) (hv:f (nx s (bs.getD k 0))=none) :
  EInv bs st nx i (k+1) (l++[nx s (bs.getD k 0)]) (fun x=>if x=nx s (bs.getD k 0) then some l.length else f x) N (r.set k l.length):=by
 obtain ⟨e1,e2⟩:=Vi (bs:=bs) h.lenN h.lenr hk l.length;have old:∀ v,v<l.length→(l++[nx s (bs.getD k 0)])[v]? = l[v]? := fun v hv=>List.getElem?_append_left hv
 have new:(l++[nx s (bs.getD k 0)])[l.length]? = some (nx s (bs.getD k 0)):=by simp
 have hi:i<l.length:=by rw [List.getElem?_eq_some_iff] at hs;exact hs.1
 refine ⟨by rw [old _ h.pos];exact h.zero,fun x v=>?_,by simp;omega,h.lenN,h.rows,by rw [List.length_set];exact h.lenr,fun j s' q hj hq=>?_,fun x hx=>?_⟩
 ·by_cases e:x=nx s (bs.getD k 0)
  ·rw [if_pos e];constructor
   ·intro h1;cases h1;rw [new,e]
   ·intro h1;by_cases hl:v<l.length
    ·rw [old v hl] at h1;have:=(h.num x v).2 h1;rw [e,hv] at this;cases this
    ·have h2:=h1;rw [List.getElem?_eq_some_iff] at h2;obtain ⟨h2,_⟩:=h2;simp at h2;have:v=l.length:=by omega
     rw [this]
  ·rw [if_neg e,h.num x v];constructor
   ·intro h1;have h2:=h1;rw [List.getElem?_eq_some_iff] at h2;rw [old v h2.1];exact h1
   ·intro h1;by_cases hl:v<l.length
    ·rw [old v hl] at h1;exact h1
    ·have h2:=h1;rw [List.getElem?_eq_some_iff] at h2;obtain ⟨h2,_⟩:=h2;simp at h2;have:v=l.length:=by omega
     rw [this,new] at h1;cases h1
     exact absurd rfl e
 ·by_cases e:j=i∧q=k
  ·obtain ⟨rfl,rfl⟩:=e;rw [old _ hi,hs] at hj;cases hj
   rw [e1,new]
  ·have hjl:j<l.length:=by omega
   rw [old j hjl] at hj;rw [e2 j q (by omega)];have h1:=h.ent j s' q hj (by omega);have h2:=h1;rw [List.getElem?_eq_some_iff] at h2;rw [old _ h2.1];exact h1
 ·rw [List.mem_append,List.mem_singleton] at hx;rcases hx with hx|rfl
  ·exact h.reach x hx
  ·obtain ⟨w,hw⟩:=h.reach s (List.mem_of_getElem? hs);refine ⟨w++[UInt8.ofNat (bs.getD k 0)],?_⟩;rw [Eh,hw,u8n _ (hb k hk)]
theorem Vl (h:EInv bs st nx i bs.length l f N r) (hi:i<l.length) (r':List Nat) (hr':r'.length=bs.length):EInv bs st nx (i+1) 0 l f (N++[r]) r':=by
 have hl:(N++[r]).length=i+1:=by simp [h.lenN]
 refine ⟨h.zero,h.num,by omega,hl,fun j hj=>?_,hr',fun j s q hj hq=>?_,h.reach⟩
 ·by_cases e:j=i
  ·subst e;rw [← h.lenN,Bw];exact h.lenr
  ·rw [Bi _ _ _ _ (by rw [h.lenN];omega)];exact h.rows j (by omega)
 ·have hji:j<i+1:=by omega
  have hqb:q<bs.length:=by omega
  have e:evR (N++[r]) r' j q=evR N r j q:=by
   unfold evR;rw [hl,h.lenN,if_pos hji];by_cases e:j=i
   ·subst e;rw [if_neg (by omega),← h.lenN,Bw]
   ·rw [if_pos (by omega),Bi _ _ _ _ (by rw [h.lenN];omega)]
  rw [e];exact h.ent j s q hj (by omega)
theorem Vo {c:Nat→Nat} {ac:σ→Bool} {A:List Bool} (h:EInv bs st nx i 0 l f N r) (hi:i=l.length) (hA:A.length=i) (hac:∀ (j:Nat) s,l[j]? = some s→A.getD j false=ac s) :
  Expl c bs st nx ac l ⟨c,bs.length,N,A⟩:=by
 subst hi;refine ⟨rfl,rfl,h.lenN,hA,h.pos,h.nodup,h.zero,h.rows,fun j s hj q hq=>?_,fun j s hj=>hac j s hj,fun j s hj=>h.reach s (List.mem_of_getElem? hj)⟩;have hjl:j<l.length:=by rw [List.getElem?_eq_some_iff] at hj;exact hj.1
 have h1:=h.ent j s q hj (.inl ⟨hjl,hq⟩);have e:evR N r j q=(Tbl.mk c bs.length N A).ent2 j q:=by
  unfold evR;rw [h.lenN,if_pos hjl];rfl
 rw [e] at h1;have h2:=h1;rw [List.getElem?_eq_some_iff] at h2;exact ⟨h2.1,h1⟩
theorem Expl.closed {c:Nat→Nat} {ac:σ→Bool} {t:Tbl} (h:Expl c bs st nx ac l t) {a b:Nat→Nat} (hj:Joint a b c bs) (hn:∀ s x,x<256→nx s (bs.getD (c x) 0)=nx s x) (w:List UInt8):At nx st w∈l:=by
 have:∀ (w:List UInt8) s,s∈l→At nx s w∈l:=fun w=>by
  induction w with
  | nil=>intro s hs;exact hs
  | cons x w ih=>
   intro s hs;obtain ⟨i,hi,e⟩:=List.mem_iff_getElem.1 hs;have h1:=(h.tgt i s (by rw [List.getElem?_eq_getElem hi,e]) _ (hj.lt _ x.toNat_lt)).2;rw [hn s _ x.toNat_lt] at h1;exact ih _ (List.mem_of_getElem? h1)
 exact this w st (List.mem_of_getElem? h.zero)
theorem Expl.most {c:Nat→Nat} {ac:σ→Bool} {t:Tbl} (h:Expl c bs st nx ac l t) {a b:Nat→Nat} (hj:Joint a b c bs) (hn:∀ s x,x<256→nx s (bs.getD (c x) 0)=nx s x) {m:List σ} (hm:m.Nodup) (hr:∀ s,s∈m→∃ w,At nx st w=s) [DecidableEq σ]:m.length≤l.length:=
 Db m l hm fun s hs=>by
  obtain ⟨w,rfl⟩:=hr s hs;exact h.closed hj hn w
end
def rk (w:List UInt8):Nat:=w.foldl (fun a x=>256*a+x.toNat+1) 0
theorem Nm (w:List UInt8) (x:UInt8):rk (w++[x])=256*rk w+x.toNat+1:=by simp [rk,List.foldl_append]
structure FB (t:Tbl) (i b:Nat) (l:List Nat) (W:Nat→List UInt8) (F:List (Option Nat)) (Y:List UInt8):Prop where
 pos:0<l.length
 head:l.getD 0 0=0
 nodup:l.Nodup
 lt:∀ s∈l,s<t.nxt.length
 run:∀ s∈l,t.run 0 (W s)=s
 w0:W 0=[]
 inc:∀ j k,j<k→k<l.length→rk (W (l.getD j 0))<rk (W (l.getD k 0))
 bound:i<l.length→∀ s∈l,rk (W s)≤256*rk (W (l.getD i 0))+b
 done:∀ j,j<i→∀ x,x<256→t.stp (l.getD j 0) x∈l∧rk (W (t.stp (l.getD j 0) x))≤256*rk (W (l.getD j 0))+x+1
 cur:∀ x,x<b→t.stp (l.getD i 0) x∈l∧rk (W (t.stp (l.getD i 0) x))≤256*rk (W (l.getD i 0))+x+1
 no:∀ j,j<i→t.ok (l.getD j 0)=false
 lenF:F.length=t.nxt.length
 lenY:Y.length=t.nxt.length
 seen:∀ s,s<t.nxt.length→((F.getD s none).isSome↔s∈l)
 from_:∀ s p,F.getD s none=some p→s≠0→p∈l∧W s=W p++[Y.getD s 0]
section
variable {t:Tbl} {i b:Nat} {l:List Nat} {W:Nat→List UInt8} {F:List (Option Nat)} {Y:List UInt8}
theorem Ag0 (hv:TVal t) (n:Nat) (hn:n=t.nxt.length):FB t 0 0 [0] (fun _=>[]) ((List.replicate n none).set 0 (some 0)) (List.replicate n 0) where
 pos:=by simp
 head:=rfl
 nodup:=by simp
 lt:=fun s hs=>by rw [List.mem_singleton] at hs;subst hs;exact hv.pos
 run:=fun s hs=>by rw [List.mem_singleton] at hs;subst hs;rfl
 w0:=rfl
 inc:=fun j k h1 h2=>by simp at h2;omega
 bound:=fun _ s _=>by show rk []≤_;exact Nat.zero_le _
 done:=fun j hj=>by omega
 cur:=fun x hx=>by omega
 no:=fun j hj=>by omega
 lenF:=by simp [hn]
 lenY:=by simp [hn]
 seen:=fun s hs=>by
  rw [A5 _ _ _ _ _ (by rw [List.length_replicate];omega)];by_cases e:s=0
  ·simp [e]
  ·rw [if_neg e];have:(List.replicate n (none:Option Nat)).getD s none=none:=by
    rw [List.getD_eq_getElem?_getD,List.getElem?_replicate];split<;>rfl
   rw [this];simp [e]
 from_:=fun s p h hs=>by
  by_cases hl:0<n
  ·rw [A5 _ _ _ _ _ (by rw [List.length_replicate];omega),if_neg hs] at h;rw [List.getD_eq_getElem?_getD,List.getElem?_replicate] at h;split at h<;>cases h
  ·have:n=0:=by omega
   subst this;simp at h
theorem Ag2 (h:FB t i b l W F Y) (hi:i<l.length) (hs:t.stp (l.getD i 0) b<t.nxt.length) (hm:F.getD (t.stp (l.getD i 0) b) none≠none):FB t i (b+1) l W F Y:=by
 have hmem:t.stp (l.getD i 0) b∈l:=(h.seen _ hs).1 (by cases h':F.getD (t.stp (l.getD i 0) b) none<;>simp_all);refine { h with bound:=fun hi s hs=>?_,cur:=fun x hx=>?_ }
 ·have:=h.bound hi s hs;omega
 ·by_cases e:x=b
  ·subst e;exact ⟨hmem,by have:=h.bound hi _ hmem;omega⟩
  ·exact h.cur x (by omega)
theorem Ag5 (hv:TVal t) (h:FB t i b l W F Y) (hi:i<l.length) (hb:b<256) (hm:F.getD (t.stp (l.getD i 0) b) none=none) :
  FB t i (b+1) (l++[t.stp (l.getD i 0) b]) (fun s=>if s=t.stp (l.getD i 0) b then W (l.getD i 0)++[UInt8.ofNat b] else W s) (F.set (t.stp (l.getD i 0) b) (some (l.getD i 0))) (Y.set (t.stp (l.getD i 0) b) (UInt8.ofNat b)):=by
 have hli:=C3 l i 0 hi;have hto:t.stp (l.getD i 0) b<t.nxt.length:=hv.stp_lt (h.lt _ hli) hb;have hno:t.stp (l.getD i 0) b∉l:=fun hc=>by
  have:=(h.seen _ hto).2 hc;rw [hm] at this;cases this
 have hrun:t.run 0 (W (l.getD i 0)++[UInt8.ofNat b])=t.stp (l.getD i 0) b:=by rw [E8,h.run _ hli,u8n b hb]
 have hrk:rk (W (l.getD i 0)++[UInt8.ofNat b])=256*rk (W (l.getD i 0))+b+1:=by rw [Nm,u8n b hb]
 have hbound:=h.bound hi;have hcur:=h.cur;have hseen:=h.seen;have hfrom:=h.from_;generalize hs:l.getD i 0=s at *;generalize htx:t.stp s b=x at *;have wold:∀ q,q∈l→(if q=x then W s++[UInt8.ofNat b] else W q)=W q:=fun q hq=>if_neg (fun e:q=x=>hno (e▸hq))
 have hx0:x≠0:=fun e=>hno (by
  have:=C3 l 0 0 h.pos;rw [h.head] at this;rw [e];exact this)
 have gold:∀ j,j<l.length→(l++[x]).getD j 0=l.getD j 0:=fun j hj=>Bi _ _ _ _ hj
 have hl:(l++[x]).length=l.length+1:=by simp
 refine ⟨by omega,by rw [gold 0 h.pos];exact h.head,?_,fun q hq=>?_,fun q hq=>?_,?_,fun j k hjk hk=>?_,fun _ q hq=>?_,fun j hj y hy=>?_,fun y hy=>?_,fun j hj=>?_,by rw [List.length_set];exact h.lenF,by rw [List.length_set];exact h.lenY,fun q hq=>?_,fun q p hp hq=>?_⟩
 ·rw [List.nodup_append];exact ⟨h.nodup,by simp,fun a ha b hb=>by rw [List.mem_singleton] at hb;subst hb;rintro rfl;exact hno ha⟩
 ·rw [List.mem_append,List.mem_singleton] at hq;rcases hq with hq|rfl
  ·exact h.lt q hq
  ·exact hto
 ·rw [List.mem_append,List.mem_singleton] at hq;rcases hq with hq|rfl
  ·show t.run 0 (if q=x then _ else _)=q;rw [wold q hq];exact h.run q hq
  ·show t.run 0 (if q=q then _ else _)=q;rw [if_pos rfl];exact hrun
 ·show (if 0=x then _ else _)=_;rw [if_neg (Ne.symm hx0)];exact h.w0
 ·rw [hl] at hk;have hjl:j<l.length:=by omega
  show rk (if (l++[x]).getD j 0=x then _ else _)<rk (if (l++[x]).getD k 0=x then _ else _);rw [gold j hjl,wold _ (C3 l j 0 hjl)];by_cases e:k=l.length
  ·rw [e,Bw,if_pos rfl,hrk];have:=hbound _ (C3 l j 0 hjl);omega
  ·rw [gold k (by omega),wold _ (C3 l k 0 (by omega))];exact h.inc j k hjk (by omega)
 ·show rk (if q=x then _ else _)≤256*rk (if (l++[x]).getD i 0=x then _ else _)+(b+1);rw [gold i hi,hs,wold s hli];rw [List.mem_append,List.mem_singleton] at hq;rcases hq with hq|rfl
  ·rw [wold q hq];have:=hbound q hq;omega
  ·rw [if_pos rfl,hrk];omega
 ·have hjl:j<l.length:=by omega
  rw [gold j hjl];obtain ⟨h1,h2⟩:=h.done j hj y hy;show _∧rk (if t.stp (l.getD j 0) y=x then _ else _)≤256*rk (if l.getD j 0=x then _ else _)+y+1;rw [wold _ h1,wold _ (C3 l j 0 hjl)];exact ⟨List.mem_append_left _ h1,h2⟩
 ·rw [gold i hi,hs];show _∧rk (if t.stp s y=x then _ else _)≤256*rk (if s=x then _ else _)+y+1;rw [wold s hli];by_cases e:y=b
  ·subst e;rw [htx,if_pos rfl,hrk];exact ⟨by simp,Nat.le_refl _⟩
  ·obtain ⟨h1,h2⟩:=hcur y (by omega);rw [wold _ h1];exact ⟨List.mem_append_left _ h1,h2⟩
 ·rw [gold j (by omega)];exact h.no j hj
 ·rw [A5 _ _ _ _ _ (by rw [h.lenF];exact hto),List.mem_append,List.mem_singleton];by_cases e:q=x
  ·rw [if_pos e];simp [e]
  ·rw [if_neg e,hseen q hq];simp [e]
 ·rw [A5 _ _ _ _ _ (by rw [h.lenF];exact hto)] at hp;rw [A5 _ _ _ _ _ (by rw [h.lenY];exact hto)];by_cases e:q=x
  ·rw [if_pos e] at hp ⊢;cases hp
   refine ⟨List.mem_append_left _ hli,?_⟩;rw [wold s hli,if_pos e]
  ·rw [if_neg e] at hp ⊢;obtain ⟨h1,h2⟩:=hfrom q p hp hq;refine ⟨List.mem_append_left _ h1,?_⟩;rw [wold p h1,if_neg e];exact h2
theorem Ag4 (h:FB t i 256 l W F Y) (hi:i<l.length) (hok:t.ok (l.getD i 0)=false):FB t (i+1) 0 l W F Y:=
 { h with
  bound:=fun hi' s hs=>by
   have h1:=h.bound hi s hs;have h2:=h.inc i (i+1) (by omega) hi';omega
  done:=fun j hj x hx=>by
   by_cases e:j=i
   ·subst e;exact h.cur x hx
   ·exact h.done j (by omega) x hx
  cur:=fun x hx=>by omega
  no:=fun j hj=>by
   by_cases e:j=i
   ·subst e;exact hok
   ·exact h.no j (by omega) }
theorem FB.len_le (h:FB t i b l W F Y):l.length≤t.nxt.length:=by
 have:=Db l (List.range t.nxt.length) h.nodup fun s hs=>List.mem_range.2 (h.lt s hs)
 simpa using this
theorem Vc (h:FB t i b l W F Y) (u:List UInt8):(∃ j,j<i∧j<l.length∧t.run 0 u=l.getD j 0∧rk (W (l.getD j 0))≤rk u)∨(i<l.length∧rk (W (l.getD i 0))≤rk u)∨(i<l.length∧False):=by
 have key:∀ k s,s∈l→rk (W s)≤k→(∃ j,j<i∧j<l.length∧s=l.getD j 0∧rk (W (l.getD j 0))≤k)∨(i<l.length∧rk (W (l.getD i 0))≤k):=fun k s hs hk=>by
  obtain ⟨j,hj,rfl⟩:=Gj hs;rcases Nat.lt_trichotomy j i with hji|rfl|hji
  ·exact .inl ⟨j,hji,hj,rfl,hk⟩
  ·exact .inr ⟨hj,hk⟩
  ·have:=h.inc i j hji hj;exact .inr ⟨by omega,by omega⟩
 have:(∃ j,j<i∧j<l.length∧t.run 0 u=l.getD j 0∧rk (W (l.getD j 0))≤rk u)∨(i<l.length∧rk (W (l.getD i 0))≤rk u):=by
  induction u using Ek with
  | h0=>
   refine key _ 0 ?_ (by rw [h.w0];exact Nat.le_refl _);have:=C3 l 0 0 h.pos
   rwa [h.head] at this
  | h1 u x ih=>
   rw [E8,Nm];rcases ih with ⟨j,hj,hjl,e,hle⟩|⟨hi,hle⟩
   ·obtain ⟨h1,h2⟩:=h.done j hj x.toNat x.toNat_lt;rw [e];exact key _ _ h1 (by omega)
   ·exact .inr ⟨hi,by omega⟩
 rcases this with h1|h1
 ·exact .inl h1
 ·exact .inr (.inl h1)
theorem Ag3 (h:FB t i b l W F Y) (hi:l.length≤i) (u:List UInt8):t.has u=false:=by
 rcases Vc h u with ⟨j,hj,hjl,e,_⟩|⟨h1,_⟩|⟨_,h1⟩
 ·show t.ok (t.run 0 u)=false;rw [e];exact h.no j hj
 ·omega
 ·exact h1.elim
theorem Ag1 (h:FB t i b l W F Y) (hi:i<l.length) (hok:t.ok (l.getD i 0)=true):t.has (W (l.getD i 0))=true∧∀ u,t.has u=true→rk (W (l.getD i 0))≤rk u:=by
 refine ⟨?_,fun u hu=>?_⟩
 ·show t.ok (t.run 0 _)=true;rw [h.run _ (C3 l i 0 hi)];exact hok
 ·rcases Vc h u with ⟨j,hj,hjl,e,_⟩|⟨_,h1⟩|⟨_,h1⟩
  ·have:t.ok (t.run 0 u)=true:=hu;rw [e,h.no j hj] at this;cases this
  ·exact h1
  ·exact h1.elim
end
theorem F3 {d:Dfa} (hd:Cano d) {α:Type} [DecidableEq α] (g:List UInt8→α) (hg:∀ w w',g w=g w'→∀ u,d.has (w++u)=d.has (w'++u)) (l:List α) (hl:∀ w,g w∈l):d.nxt.length≤l.length:=by
 classical
 have hr:∀ s:Nat,∃ w,s<d.nxt.length→d.run 0 w=s:=fun s=>by
  by_cases hs:s<d.nxt.length
  ·obtain ⟨w,hw⟩:=hd.reach s hs;exact ⟨w,fun _=>hw⟩
  ·exact ⟨[],fun h=>absurd h hs⟩
 have key:∀ w w',g w=g w'→d.run 0 w=d.run 0 w':=fun w w' h=>by
  refine hd.red _ _ (hd.val.run_lt _ hd.val.pos) (hd.val.run_lt _ hd.val.pos) fun u=>?_
  rw [← Bz,← Bz];exact hg w w' h u
 let f:Nat→α:=fun s=>g (hr s).choose
 have hinj:∀ s s',s<d.nxt.length→s'<d.nxt.length→f s=f s'→s=s':=fun s s' hs hs' h=>by
  have:=key _ _ h;rw [(hr s).choose_spec hs,(hr s').choose_spec hs'] at this;exact this
 have hn:((List.range d.nxt.length).map f).Nodup:=by
  rw [List.nodup_iff_pairwise_ne,List.pairwise_map];refine List.Pairwise.imp_of_mem (fun {a b} ha hb hab e=>hab (hinj a b (List.mem_range.1 ha) (List.mem_range.1 hb) e)) (List.nodup_iff_pairwise_ne.1 List.nodup_range)
 have:=Db _ l hn fun x hx=>by
  obtain ⟨s,_,rfl⟩:=List.mem_map.1 hx;exact hl _
 simpa using this
theorem P3 {d:Dfa} (hv:Val d) (U:List (List UInt8)) (hU:U.Pairwise fun u v=>∃ x,d.has (u++x)≠d.has (v++x)):U.length≤d.nxt.length:=by
 have hn:(U.map fun u=>d.run 0 u).Nodup:=by
  rw [List.nodup_iff_pairwise_ne,List.pairwise_map];refine hU.imp fun {u v} ⟨x,hx⟩ e=>hx ?_
  unfold Dfa.has;rw [Bz,Bz,e]
 have:=Db _ (List.range d.nxt.length) hn fun s hs=>by
  obtain ⟨u,_,rfl⟩:=List.mem_map.1 hs;exact List.mem_range.2 (hv.run_lt _ hv.pos)
 simpa using this
theorem L1 {d e:Dfa} (hd:Cano d) (he:Val e) (h:∀ w,d.has w=e.has w):d.nxt.length≤e.nxt.length:=by
 have:=F3 hd (fun w=>e.run 0 w) (fun w w' hw u=>by
  rw [h,h];unfold Dfa.has;rw [Bz,Bz,hw]) (List.range e.nxt.length) fun w=>List.mem_range.2 (he.run_lt _ he.pos)
 simpa using this
theorem Wl {d:Dfa} (hd:Cano d) {t:Tbl} (ht:TVal t) (h:∀ w,d.has w=t.has w):d.nxt.length≤t.nxt.length:=by
 have:=F3 hd (fun w=>t.run 0 w) (fun w w' hw u=>by
  rw [h,h];unfold Tbl.has;rw [Cz,Cz,hw]) (List.range t.nxt.length) fun w=>List.mem_range.2 (ht.run_lt _ ht.pos)
 simpa using this
def swp (a s:Nat):Nat:=if s=0 then a else if s=a then 0 else s
theorem Fo (a s:Nat):swp a (swp a s)=s:=by unfold swp;split<;>split<;>(try split)<;>omega
theorem Fp {a s n:Nat} (ha:a<n) (hs:s<n):swp a s<n:=by unfold swp;split<;>(try split)<;>omega
structure Quot (d q:Dfa) (a:Nat):Prop where
 cls:q.cls=d.cls
 len:q.nxt.length=d.nxt.length
 acl:q.acc.length=d.nxt.length
 row:∀ s,s<d.nxt.length→(q.nxt.getD (swp a s) []).length=d.cls.length
 ent:∀ s,s<d.nxt.length→∀ k,k<d.cls.length→q.ent2 (swp a s) k=swp a (d.ent2 s k)
 acc:∀ s,s<d.nxt.length→q.ok (swp a s)=d.ok s
theorem Quot.val {d q:Dfa} {a:Nat} (h:Quot d q a) (hd:Val d) (ha:a<d.nxt.length):Val q where
 pos:=by rw [h.len];exact hd.pos
 accL:=by rw [h.acl,h.len]
 row:=fun s hs=>by
  rw [h.len] at hs;have:=h.row (swp a s) (Fp ha hs);rw [Fo] at this;rw [this,h.cls]
 tgt:=fun s hs k hk=>by
  rw [h.len] at hs;rw [h.cls] at hk;have:=h.ent (swp a s) (Fp ha hs) k hk;rw [Fo] at this;rw [this,h.len];exact Fp ha (hd.tgt _ (Fp ha hs) k hk)
 parts:=by rw [h.cls];exact hd.parts
theorem Quot.run {d q:Dfa} {a:Nat} (h:Quot d q a) (hd:Val d):∀ (w:List UInt8) s,s<d.nxt.length→q.run (swp a s) w=swp a (d.run s w)
 | [],_,_=>rfl
 | x::w,s,hs=>by
  show q.run (q.stp (swp a s) x.toNat) w=swp a (d.run (d.stp s x.toNat) w);have h1:q.stp (swp a s) x.toNat=swp a (d.stp s x.toNat):=by
   unfold Dfa.stp;rw [h.cls];exact h.ent s hs _ (cell_lt hd.parts x.toNat_lt)
  rw [h1];exact Quot.run h hd w _ (hd.stp_lt hs x.toNat_lt)
theorem Abh {d q:Dfa} {u:List UInt8} (hd:Val d) (h:Quot d q (d.run 0 u)) (w:List UInt8):q.has w=d.has (u++w):=by
 have ha:d.run 0 u<d.nxt.length:=hd.run_lt _ hd.pos;have h1:=h.run hd w _ ha;have h0:swp (d.run 0 u) (d.run 0 u)=0:=by unfold swp;split<;>simp_all
 rw [h0] at h1;unfold Dfa.has;rw [h1,Bz];exact h.acc _ (hd.run_lt _ ha)
def Mk (d:Dfa) (s:Nat):Prop:=∃ w,d.ok (d.run s w)=true
structure PInv (d:Dfa) (V:List Bool):Prop where
 len:V.length=d.nxt.length
 live:∀ s,V.getD s false=true→Mk d s
 acc:∀ s,d.ok s=true→V.getD s false=true
theorem Ab4 {d:Dfa} (hd:Val d):PInv d d.acc where
 len:=hd.accL
 live:=fun s hs=>⟨[],hs⟩
 acc:=fun s hs=>hs
theorem Ab5 {d:Dfa} (hd:Val d) {V:List Bool} (h:PInv d V) {s k:Nat} (hs:s<d.nxt.length) (hk:k<d.cls.length) (hm:V.getD (d.ent2 s k) false=true):PInv d (V.set s true) where
 len:=by rw [List.length_set];exact h.len
 live:=fun s' hs'=>by
  by_cases e:s'=s
  ·subst e;obtain ⟨w,hw⟩:=h.live _ hm;obtain ⟨b,hb,hc⟩:=Id hd.parts hk;refine ⟨UInt8.ofNat b::w,?_⟩;show d.ok (d.run (d.stp s' (UInt8.ofNat b).toNat) w)=true;rw [u8n b hb];unfold Dfa.stp;rw [hc];exact hw
  ·rw [A5 V s s' true false (by rw [h.len];exact hs),if_neg e] at hs';exact h.live _ hs'
 acc:=fun s' hs'=>by
  rw [A5 V s s' true false (by rw [h.len];exact hs)];split
  ·rfl
  ·exact h.acc _ hs'
theorem Ab6 {d:Dfa} (hd:Val d) {V:List Bool} (h:PInv d V) (hq:∀ s,s<d.nxt.length→V.getD s false=true∨∀ k,k<d.cls.length→V.getD (d.ent2 s k) false=false) (s:Nat) (hs:s<d.nxt.length):V.getD s false=true↔Mk d s:=by
 refine ⟨h.live s,?_⟩;rintro ⟨w,hw⟩;induction w generalizing s with
 | nil=>exact h.acc s hw
 | cons x w ih=>
  have h1:=ih (d.stp s x.toNat) (hd.stp_lt hs x.toNat_lt) hw;rcases hq s hs with h2|h2
  ·exact h2
  ·have:=h2 _ (cell_lt hd.parts x.toNat_lt);unfold Dfa.stp at h1;rw [this] at h1;cases h1
def F1 (V:List Bool):Nat:=V.count true
theorem Aht {V:List Bool} {s:Nat} (hs:s<V.length) (h:V.getD s false=false):F1 (V.set s true)=F1 V+1:=by
 unfold F1;rw [List.count_set hs];have:V[s]=false:=by simpa [List.getD_eq_getElem?_getD,List.getElem?_eq_getElem hs] using h
 simp [this]
theorem Ahu (V:List Bool):F1 V≤V.length:=List.count_le_length
theorem Aby {d:Dfa} (hd:Val d) {V:List Bool} (h:∀ s,s<d.nxt.length→(V.getD s false=true↔Mk d s)) (w:List UInt8):(Dfa.mk d.cls d.nxt V).has w=true↔∃ u,d.has (w++u)=true:=by
 have hrun:∀ (w:List UInt8) s,(Dfa.mk d.cls d.nxt V).run s w=d.run s w:=fun w s=>rfl
 unfold Dfa.has;rw [hrun];show V.getD (d.run 0 w) false=true↔_;rw [h _ (hd.run_lt _ hd.pos)];unfold Mk;simp only [Bz]
theorem Abw {d:Dfa} (hd:Val d) {V:List Bool} (h:V.length=d.nxt.length):Val ⟨d.cls,d.nxt,V⟩ where
 pos:=hd.pos
 accL:=h
 row:=hd.row
 tgt:=hd.tgt
 parts:=hd.parts
end Go.Proofs.YtaiogolidlamiaaGreatDoor
