import Derived.Test.YtaiogolidlamiaaGreatDoorN04
set_option linter.unusedVariables false
set_option linter.unusedSimpArgs false
open Bool renaming false → Τ, true → Ξ, false_eq_true → Þ
open Classical renaming byContradiction → ϧ
open List renaming length_set → ϒ, length_replicate → Ò, getD_eq_getElem?_getD → Η, nodup_iff_pairwise_ne → ϣ, pairwise_iff_getElem → Ϯ, getElem?_eq_getElem → Μ, range → ι, mem_range → υ, getElem?_eq_some_iff → ϊ, mem_singleton → ϴ, mem_of_getElem? → Â, pairwise_map → ü, mem_map → ϸ, length_range → Î, getElem?_eq_none → Ϩ, eq_nil_of_length_eq_zero → Ð, length_cons → ϲ, map_cons → Æ, map_append → ϝ, map_congr_left → Í, getElem?_map → ϕ, length_map → ϋ, length_append → Υ
open List.Pairwise renaming imp_of_mem → á
open Nat renaming le_refl → ν
open Option renaming none → Γ, some → Δ, getD_some → ì
open UInt8 renaming ofNat → χ
namespace Go.Proofs.YtaiogolidlamiaaGreatDoor
def evN (N:List (List Nat)) (r:List Nat) (m p:Nat):Nat:=if p / m<N.length then (N.getD (p / m) []).getD (p % m) 0 else r.getD (p % m) 0
theorem Kz {m k:Nat} (D:k<m) (i:Nat):(i*m+k) / m=i/\(i*m+k) % m=k:=by
 have E:0<m:=by omega
 constructor
 ·rw[Nat.mul_comm,Nat.mul_add_div E,Nat.div_eq_of_lt D,Nat.add_zero]
 ·rw[Nat.mul_comm,Nat.mul_add_mod,Nat.mod_eq_of_lt D]
theorem Q1 {m k i p:Nat} (D:0<m) (G:k<=m) (I:p<i*m+k):p / m<i\/(p / m=i/\p % m<k):=by
 have E:=Nat.div_add_mod p m;have J:=Nat.mod_lt p D;rcases Nat.lt_trichotomy (p / m) i with h|h|h
 ·exact .inl h
 ·refine .inr ⟨h,?_⟩;rw[h,Nat.mul_comm] at E;omega
 ·exfalso
  have:(i+1)*m<=p / m*m:=Nat.mul_le_mul_right _ h;rw[Nat.succ_mul,Nat.mul_comm (p / m)] at this;omega
structure LInv (t:Tbl) (B:Nat->Nat) (R K:List Nat) (i k:Nat) (O:List Nat) (P:List (Option Nat)) (N:List (List Nat)) (r:List Nat):Prop where
 lenP:P.length=R.length
 place:∀ x v,P.getD x Γ=Δ v↔x<R.length/\v<O.length/\O.getD v 0=x
 lt:∀ v,v<O.length->O.getD v 0<R.length
 pos:0<O.length
 zero:O.getD 0 0=B 0
 lenN:N.length=i
 rows:∀ j,j<i->(N.getD j []).length=K.length
 lenr:r.length=K.length
 le:i<=O.length
 ent:∀ p,p<i*K.length+k->evN N r K.length p<O.length/\O.getD (evN N r K.length p) 0=B (t.ent2 (R.getD (O.getD (p / K.length) 0) 0) (K.getD (p % K.length) 0))
 mx:mxf (evN N r K.length) (i*K.length+k)+1=O.length
 rgf:∀ p,p<i*K.length+k->evN N r K.length p<=mxf (evN N r K.length) p+1
 rch:∀ x,0<x->x<O.length->∃ p,p<i*K.length+k/\p / K.length<x/\evN N r K.length p=x
section
variable {t:Tbl} {B:Nat->Nat} {R K:List Nat} {i k:Nat} {O:List Nat} {P:List (Option Nat)} {N:List (List Nat)} {r:List Nat}
theorem Vy (E:B 0<R.length) (n:Nat) (hn:n=R.length) (r:List Nat) (I:r.length=K.length):LInv t B R K 0 0 [B 0] ((List.replicate n Γ).set (B 0) (Δ 0)) [] r where
 lenP:=by rw[ϒ,Ò,hn]
 place:=λx v=>by
  subst hn;rw[Bb _ _ _ _ _ (by rw[Ò];exact E)];by_cases e:x=B 0
  ·subst e;rw[if_pos rfl];constructor
   ·intro h;cases h;exact⟨E,by simp,rfl⟩
   ·rintro⟨_,D,_⟩;have:v=0:=by simpa using D
    rw[this]
  ·rw[if_neg e];constructor
   ·intro h;rw[Η,List.getElem?_replicate] at h;split at h<;>simp at h
   ·rintro⟨_,D,G⟩;have:v=0:=by simpa using D
    subst this;exact absurd G.symm e
 lt:=λv hv=>by
  have:v=0:=by simpa using hv
  subst this;exact E
 pos:=by simp
 zero:=rfl
 lenN:=rfl
 rows:=λj M=>by omega
 lenr:=I
 le:=by simp
 ent:=λp J=>by omega
 mx:=by simp[mxf]
 rgf:=λp J=>by omega
 rch:=λx D G=>by
  have:x=0:=by simpa using G
  omega
theorem Xq (G:N.length=i) (I:k<K.length) (M:r.length=K.length) (v:Nat):(∀ p,p<i*K.length+k->evN N (r.set k v) K.length p=evN N r K.length p)/\evN N (r.set k v) K.length (i*K.length+k)=v:=by
 refine⟨λp J=>?_,?_⟩
 ·unfold evN;rw[G];rcases Q1 (by omega) (by omega) J with h|⟨D,E⟩
  ·rw[if_pos h,if_pos h]
  ·rw[if_neg (by omega),if_neg (by omega),Bb _ _ _ _ _ (by omega),if_neg (by omega)]
 ·obtain⟨D,E⟩:=Kz I i;unfold evN;rw[D,E,if_neg (by omega),Bb _ _ _ _ _ (by omega),if_pos rfl]
theorem V0 (h:LInv t B R K i k O P N r) (I:k<K.length) (v:Nat) (hv:P.getD (B (t.ent2 (R.getD (O.getD i 0) 0) (K.getD k 0))) Γ=Δ v):LInv t B R K i (k+1) O P N (r.set k v):=by
 obtain⟨_,T,U⟩:=(h.place _ _).1 hv;obtain⟨D,E⟩:=Xq h.lenN I h.lenr v;obtain⟨d1,d2⟩:=Kz I i;have J:mxf (evN N (r.set k v) K.length) (i*K.length+k)=mxf (evN N r K.length) (i*K.length+k):=Gl _ _ _ λq M=>D q M
 refine⟨h.lenP,h.place,h.lt,h.pos,h.zero,h.lenN,h.rows,by rw[ϒ];exact h.lenr,h.le,λp G=>?_,?_,λp G=>?_,λx hx ab=>?_⟩
 ·by_cases e:p=i*K.length+k
  ·rw[e,E,d1,d2];exact⟨T,U⟩
  ·rw[D p (by omega)];exact h.ent p (by omega)
 ·have:=h.mx;rw[<-Nat.add_assoc];simp only[mxf];rw[E,J];omega
 ·by_cases e:p=i*K.length+k
  ·rw[e,E,J];have:=h.mx;omega
  ·rw[D p (by omega),Gl _ (evN N r K.length) p λq M=>D q (by omega)];exact h.rgf p (by omega)
 ·obtain⟨p,G,h1,h2⟩:=h.rch x hx ab;exact⟨p,by omega,h1,by rw[D p G];exact h2⟩
theorem V1 (h:LInv t B R K i k O P N r) (hk:k<K.length) (hi:i<O.length) (aa:B (t.ent2 (R.getD (O.getD i 0) 0) (K.getD k 0))<R.length) (hv:P.getD (B (t.ent2 (R.getD (O.getD i 0) 0) (K.getD k 0))) Γ=Γ) :
  LInv t B R K i (k+1) (O++[B (t.ent2 (R.getD (O.getD i 0) 0) (K.getD k 0))]) (P.set (B (t.ent2 (R.getD (O.getD i 0) 0) (K.getD k 0))) (Δ O.length)) N (r.set k O.length):=by
 obtain⟨M,U⟩:=Xq h.lenN hk h.lenr O.length;obtain⟨d1,d2⟩:=Kz hk i;have J:∀ x,x=B (t.ent2 (R.getD (O.getD i 0) 0) (K.getD k 0))->(O++[x]).getD O.length 0=B (t.ent2 (R.getD (O.getD i 0) 0) (K.getD k 0)):=λx e=>by rw[Cm,e]
 have ae:mxf (evN N (r.set k O.length) K.length) (i*K.length+k)=mxf (evN N r K.length) (i*K.length+k):=Gl _ _ _ λq hq=>M q hq
 have hg:∀ x v,v<O.length->(O++[x]).getD v 0=O.getD v 0:=λx v hv=>Bt _ _ _ _ hv
 have G:∀ x,(O++[x]).length=O.length+1:=λx=>by simp
 have J:=J _ rfl;have ak:=h.mx;refine⟨by rw[ϒ];exact h.lenP,λx v=>?_,λv hv=>?_,by rw[G];omega,by rw[hg _ _ h.pos];exact h.zero,h.lenN,h.rows,by rw[ϒ];exact h.lenr,by rw[G];omega,λp hp=>?_,?_,λp hp=>?_,λx hx ah=>?_⟩
 ·rw[Bb _ _ _ _ _ (by rw[h.lenP];exact aa),G];by_cases e:x=B (t.ent2 (R.getD (O.getD i 0) 0) (K.getD k 0))
  ·rw[if_pos e];constructor
   ·intro D;cases D
    exact⟨by rw[e];exact aa,by omega,by rw[J,e]⟩
   ·rintro⟨D,I,E⟩;by_cases T:v=O.length
    ·rw[T]
    ·rw[hg _ v (by omega)] at E;have:=(h.place x v).2 ⟨D,by omega,E⟩;rw[e,hv] at this;cases this
  ·rw[if_neg e,h.place x v];constructor
   ·rintro⟨D,I,E⟩;exact⟨D,by omega,by rw[hg _ v I];exact E⟩
   ·rintro⟨D,I,E⟩;by_cases T:v=O.length
    ·rw[T,J] at E;exact absurd E.symm e
    ·rw[hg _ v (by omega)] at E;exact⟨D,by omega,E⟩
 ·rw[G] at hv;by_cases T:v=O.length
  ·rw[T,J];exact aa
  ·rw[hg _ v (by omega)];exact h.lt v (by omega)
 ·rw[G];by_cases e:p=i*K.length+k
  ·rw[e,U,d1,d2,hg _ i hi,J];exact⟨by omega,rfl⟩
  ·obtain⟨D,I⟩:=h.ent p (by omega);have ai:p / K.length<O.length:=by
    rcases Q1 (by omega) (by omega) (show p<i*K.length+k by omega) with h|⟨h,_⟩<;>omega
   rw[M p (by omega),hg _ _ D,hg _ _ ai];exact⟨by omega,I⟩
 ·rw[G,<-Nat.add_assoc];simp only[mxf];rw[U,ae];omega
 ·by_cases e:p=i*K.length+k
  ·rw[e,U,ae];omega
  ·rw[M p (by omega),Gl _ (evN N r K.length) p λq hq=>M q (by omega)];exact h.rgf p (by omega)
 ·rw[G] at ah;by_cases ex:x=O.length
  ·exact⟨i*K.length+k,by omega,by rw[d1];omega,by rw[U,ex]⟩
  ·obtain⟨p,hp,D,I⟩:=h.rch x hx (by omega);exact⟨p,by omega,D,by rw[M p hp];exact I⟩
theorem Vz (h:LInv t B R K i K.length O P N r) (hi:i<O.length) (J:List Nat) (U:J.length=K.length):LInv t B R K (i+1) 0 O P (N++[r]) J:=by
 by_cases h0:0<K.length
 ·have hl:(N++[r]).length=i+1:=by simp[h.lenN]
  have G:∀ p,p<i*K.length+K.length->evN (N++[r]) J K.length p=evN N r K.length p:=λp D=>by
   unfold evN;rw[hl,h.lenN];rcases Q1 h0 (ν _) D with E|⟨E,h2⟩
   ·rw[if_pos (by omega),if_pos E,Bt _ _ _ _ (by rw[h.lenN];exact E)]
   ·rw[if_pos (by omega),if_neg (by omega),E,<-h.lenN,Cm]
  have eq:(i+1)*K.length+0=i*K.length+K.length:=by rw[Nat.succ_mul];rfl
  refine⟨h.lenP,h.place,h.lt,h.pos,h.zero,hl,λj hj=>?_,U,by omega,λp D=>?_,?_,λp D=>?_,λx M T=>?_⟩
  ·by_cases e:j=i
   ·subst e;rw[<-h.lenN,Cm];exact h.lenr
   ·rw[Bt _ _ _ _ (by rw[h.lenN];omega)];exact h.rows j (by omega)
  ·rw[eq] at D;rw[G p D];exact h.ent p D
  ·rw[eq,Gl _ (evN N r K.length) _ λq hq=>G q hq];exact h.mx
  ·rw[eq] at D;rw[G p D,Gl _ (evN N r K.length) p λq hq=>G q (by omega)];exact h.rgf p D
  ·obtain⟨p,D,E,h2⟩:=h.rch x M T;exact⟨p,by rw[eq];exact D,E,by rw[G p D];exact h2⟩
 ·have I:K.length=0:=by omega
  refine⟨h.lenP,h.place,h.lt,h.pos,h.zero,by simp[h.lenN],λj hj=>?_,U,by omega,λp D=>by rw[I] at D;simp at D,?_,λp D=>by rw[I] at D;simp at D,λx M T=>?_⟩
  ·by_cases e:j=i
   ·subst e;rw[<-h.lenN,Cm];exact h.lenr
   ·rw[Bt _ _ _ _ (by rw[h.lenN];omega)];exact h.rows j (by omega)
  ·have:=h.mx;rw[I] at this ⊢
   simpa [mxf] using this
  ·obtain⟨p,D,_⟩:=h.rch x M T;rw[I] at D;simp at D
theorem LInv.nodup (h:LInv t B R K i k O P N r):O.Nodup:=by
 rw[ϣ,Ϯ];intro a b ha D J e;have E:=(h.place (O.getD a 0) a).2 ⟨h.lt a ha,ha,rfl⟩;have G:=(h.place (O.getD b 0) b).2 ⟨h.lt b D,D,rfl⟩;have I:O.getD a 0=O.getD b 0:=by
  rw[Η,Η,Μ ha,Μ D,e]
 rw[I,G] at E;cases E
 omega
theorem LInv.len_le (h:LInv t B R K i k O P N r):O.length<=R.length:=by
 have:=Dy O (ι R.length) h.nodup λs hs=>by
  obtain⟨j,D,rfl⟩:=Kj hs;exact υ.2 (h.lt j D)
 simpa using this
theorem V3 {L:List Cls} (M:K.length=L.length) (T:0<K.length) {A:List Bool} (h:LInv t B R K i 0 O P N r) (hi:i=O.length) (U:A.length=i) (aa:∀ j,j<i->A.getD j Τ=t.ok (R.getD (O.getD j 0) 0)) :
  Laid t B R K L O ⟨L,N,A⟩:=by
 subst hi;have ev:∀ j q,j<O.length->q<K.length->evN N r K.length (j*K.length+q)=(N.getD j []).getD q 0:=λj q D E=>by
  obtain⟨G,I⟩:=Kz E j;unfold evN;rw[G,I,h.lenN,if_pos D]
 have pos:∀ j q,j<O.length->q<K.length->j*K.length+q<O.length*K.length+0:=λj q D E=>by
  have:(j+1)*K.length<=O.length*K.length:=Nat.mul_le_mul_right _ D;rw[Nat.succ_mul] at this;omega
 have ent:∀ p,p<O.length*K.length->(Dfa.mk L N A).ent p=evN N r K.length p:=λp J=>by
  have G:=Nat.div_add_mod p K.length;have I:=Nat.mod_lt p T;have h3:p / K.length<O.length:=Nat.div_lt_of_lt_mul (by rw[Nat.mul_comm];exact J);show (N.getD (p / L.length) []).getD (p % L.length) 0=_;unfold evN;rw[<-M,h.lenN,if_pos h3]
 refine⟨rfl,h.lenN,U,h.zero,h.pos,h.nodup,h.lt,h.rows,λj D q E=>?_,λj D=>aa j D,λp J=>?_,λx hx af=>?_⟩
 ·obtain⟨G,I⟩:=Kz E j;have:=h.ent _ (pos j q D E);rw[ev j q D E,G,I] at this;exact this
 ·have ag:p<O.length*K.length:=by
   have e:(Dfa.mk L N A).n.length*(Dfa.mk L N A).cls.length=O.length*K.length:=by
    show N.length*L.length=_;rw[h.lenN,M]
   rw[e] at J;exact J
  rw[ent p ag,Gl _ (evN N r K.length) p λq E=>ent q (by omega)];exact h.rgf p (by omega)
 ·obtain⟨p,J,G,I⟩:=h.rch x hx af;refine⟨p / K.length,p % K.length,G,Nat.mod_lt _ T,?_⟩;rw[<-I,<-ent p (by omega)];show _=(N.getD (p / L.length) []).getD (p % L.length) 0;rw[<-M];rfl
end
section
variable {σ:Type}
def evR (N:List (List Nat)) (r:List Nat) (j q:Nat):Nat:=if j<N.length then (N.getD j []).getD q 0 else r.getD q 0
structure EInv (bs:List Nat) (st:σ) (nx:σ->Nat->σ) (i k:Nat) (l:List σ) (f:σ->Option Nat) (N:List (List Nat)) (r:List Nat):Prop where
 zero:l[0]? = Δ st
 num:∀ x v,f x=Δ v↔l[v]? = Δ x
 le:i<=l.length
 lenN:N.length=i
 rows:∀ j,j<i->(N.getD j []).length=bs.length
 lenr:r.length=bs.length
 ent:∀ j s q,l[j]? = Δ s->(j<i/\q<bs.length)\/(j=i/\q<k)->l[evR N r j q]? = Δ (nx s (bs.getD q 0))
 reach:∀ s,s∈l->∃ w,Ax nx st w=s
variable {bs:List Nat} {st:σ} {nx:σ->Nat->σ} {i k:Nat} {l:List σ} {f:σ->Option Nat} {N:List (List Nat)} {r:List Nat}
theorem EInv.pos (h:EInv bs st nx i k l f N r):0<l.length:=by
 have:=h.zero;rw[ϊ] at this;exact this.1
theorem EInv.nodup (h:EInv bs st nx i k l f N r):l.Nodup:=by
 rw[ϣ,Ϯ];intro a b ha E I e;have D:=(h.num _ a).2 (Μ ha);have G:=(h.num _ b).2 (Μ E);rw[e,G] at D;cases D
 omega
theorem Qv [DecidableEq σ] (bs:List Nat) (st:σ) (nx:σ->Nat->σ) (r:List Nat) (E:r.length=bs.length):EInv bs st nx 0 0 [st] (λx=>if x=st then Δ 0 else Γ) [] r where
 zero:=rfl
 num:=λx v=>by
  by_cases e:x=st
  ·subst e;rw[if_pos rfl];constructor
   ·intro h;cases h;rfl
   ·intro h;rw[ϊ] at h;obtain⟨D,_⟩:=h;have:v=0:=by simpa using D
    rw[this]
  ·rw[if_neg e];constructor
   ·intro h;cases h
   ·intro h;rw[ϊ] at h;obtain⟨D,G⟩:=h;have:v=0:=by simpa using D
    subst this;exact absurd G.symm e
 le:=by omega
 lenN:=rfl
 rows:=λj I=>by omega
 lenr:=E
 ent:=λj s q _ h=>by omega
 reach:=λs hs=>by rw[ϴ] at hs;subst hs;exact⟨[],rfl⟩
theorem Xr (E:N.length=i) (G:r.length=bs.length) (I:k<bs.length) (v:Nat):evR N (r.set k v) i k=v/\∀ j q,(j<i/\q<bs.length)\/(j=i/\q<k)->evR N (r.set k v) j q=evR N r j q:=by
 unfold evR;rw[E];refine⟨by rw[if_neg (by omega),Bb _ _ _ _ _ (by omega),if_pos rfl],λj q h=>?_⟩;rcases h with⟨D,_⟩|⟨D,J⟩
 ·rw[if_pos D,if_pos D]
 ·rw[if_neg (by omega),if_neg (by omega),Bb _ _ _ _ _ (by omega),if_neg (by omega)]
theorem Qx (h:EInv bs st nx i k l f N r) (E:k<bs.length) {s:σ} (hs:l[i]? = Δ s) (v:Nat) (hv:f (nx s (bs.getD k 0))=Δ v):EInv bs st nx i (k+1) l f N (r.set k v):=by
 obtain⟨G,I⟩:=Xr (bs:=bs) h.lenN h.lenr E v;refine⟨h.zero,h.num,h.le,h.lenN,h.rows,by rw[ϒ];exact h.lenr,λj s' q D J=>?_,h.reach⟩;by_cases e:j=i/\q=k
 ·obtain⟨rfl,rfl⟩:=e;rw[hs] at D;cases D
  rw[G];exact (h.num _ _).1 hv
 ·rw[I j q (by omega)];exact h.ent j s' q D (by omega)
theorem Qy [DecidableEq σ] (h:EInv bs st nx i k l f N r) (M:k<bs.length) (T:∀ q,q<bs.length->bs.getD q 0<256) {s:σ} (hs:l[i]? = Δ s) (hv:f (nx s (bs.getD k 0))=Γ) :
  EInv bs st nx i (k+1) (l++[nx s (bs.getD k 0)]) (λx=>if x=nx s (bs.getD k 0) then Δ l.length else f x) N (r.set k l.length):=by
 obtain⟨U,e2⟩:=Xr (bs:=bs) h.lenN h.lenr M l.length;have old:∀ v,v<l.length->(l++[nx s (bs.getD k 0)])[v]? = l[v]? := λv hv=>List.getElem?_append_left hv
 have new:(l++[nx s (bs.getD k 0)])[l.length]? = Δ (nx s (bs.getD k 0)):=by simp
 have hi:i<l.length:=by rw[ϊ] at hs;exact hs.1
 refine⟨by rw[old _ h.pos];exact h.zero,λx v=>?_,by simp;omega,h.lenN,h.rows,by rw[ϒ];exact h.lenr,λj s' q G hq=>?_,λx I=>?_⟩
 ·by_cases e:x=nx s (bs.getD k 0)
  ·rw[if_pos e];constructor
   ·intro D;cases D;rw[new,e]
   ·intro D;by_cases J:v<l.length
    ·rw[old v J] at D;have:=(h.num x v).2 D;rw[e,hv] at this;cases this
    ·have E:=D;rw[ϊ] at E;obtain⟨E,_⟩:=E;simp at E;have:v=l.length:=by omega
     rw[this]
  ·rw[if_neg e,h.num x v];constructor
   ·intro D;have E:=D;rw[ϊ] at E;rw[old v E.1];exact D
   ·intro D;by_cases J:v<l.length
    ·rw[old v J] at D;exact D
    ·have E:=D;rw[ϊ] at E;obtain⟨E,_⟩:=E;simp at E;have:v=l.length:=by omega
     rw[this,new] at D;cases D
     exact absurd rfl e
 ·by_cases e:j=i/\q=k
  ·obtain⟨rfl,rfl⟩:=e;rw[old _ hi,hs] at G;cases G
   rw[U,new]
  ·have ab:j<l.length:=by omega
   rw[old j ab] at G;rw[e2 j q (by omega)];have D:=h.ent j s' q G (by omega);have E:=D;rw[ϊ] at E;rw[old _ E.1];exact D
 ·rw[List.mem_append,ϴ] at I;rcases I with I|rfl
  ·exact h.reach x I
  ·obtain⟨w,hw⟩:=h.reach s (Â hs);refine⟨w++[χ (bs.getD k 0)],?_⟩;rw[Ed,hw,u8n _ (T k M)]
theorem Qw (h:EInv bs st nx i bs.length l f N r) (hi:i<l.length) (D:List Nat) (I:D.length=bs.length):EInv bs st nx (i+1) 0 l f (N++[r]) D:=by
 have E:(N++[r]).length=i+1:=by simp[h.lenN]
 refine⟨h.zero,h.num,by omega,E,λj G=>?_,I,λj s q G M=>?_,h.reach⟩
 ·by_cases e:j=i
  ·subst e;rw[<-h.lenN,Cm];exact h.lenr
  ·rw[Bt _ _ _ _ (by rw[h.lenN];omega)];exact h.rows j (by omega)
 ·have J:j<i+1:=by omega
  have T:q<bs.length:=by omega
  have e:evR (N++[r]) D j q=evR N r j q:=by
   unfold evR;rw[E,h.lenN,if_pos J];by_cases e:j=i
   ·subst e;rw[if_neg (by omega),<-h.lenN,Cm]
   ·rw[if_pos (by omega),Bt _ _ _ _ (by rw[h.lenN];omega)]
  rw[e];exact h.ent j s q G (by omega)
theorem Qz {c:Nat->Nat} {ac:σ->Bool} {A:List Bool} (h:EInv bs st nx i 0 l f N r) (hi:i=l.length) (J:A.length=i) (M:∀ (j:Nat) s,l[j]? = Δ s->A.getD j Τ=ac s) :
  Expl c bs st nx ac l ⟨c,bs.length,N,A⟩:=by
 subst hi;refine⟨rfl,rfl,h.lenN,J,h.pos,h.nodup,h.zero,h.rows,λj s D q T=>?_,λj s D=>M j s D,λj s D=>h.reach s (Â D)⟩;have G:j<l.length:=by rw[ϊ] at D;exact D.1
 have E:=h.ent j s q D (.inl ⟨G,T⟩);have e:evR N r j q=(Tbl.mk c bs.length N A).ent2 j q:=by
  unfold evR;rw[h.lenN,if_pos G];rfl
 rw[e] at E;have I:=E;rw[ϊ] at I;exact⟨I.1,E⟩
theorem Expl.closed {c:Nat->Nat} {ac:σ->Bool} {t:Tbl} (h:Expl c bs st nx ac l t) {a b:Nat->Nat} (E:Joint a b c bs) (hn:∀ s x,x<256->nx s (bs.getD (c x) 0)=nx s x) (w:List UInt8):Ax nx st w∈l:=by
 have:∀ (w:List UInt8) s,s∈l->Ax nx s w∈l:=λw=>by
  induction w with
  | nil=>intro s hs;exact hs
  | cons x w G=>
   intro s hs;obtain⟨i,hi,e⟩:=List.mem_iff_getElem.1 hs;have D:=(h.tgt i s (by rw[Μ hi,e]) _ (E.lt _ x.toNat_lt)).2;rw[hn s _ x.toNat_lt] at D;exact G _ (Â D)
 exact this w st (Â h.zero)
end
section
variable {t:Tbl} {i b:Nat} {l:List Nat} {W:Nat->List UInt8} {F:List (Option Nat)} {Y:List UInt8}
end
theorem Gv {d:Dfa} (hd:Cano d) {α:Type} [DecidableEq α] (g:List UInt8->α) (hg:∀ w w',g w=g w'->∀ u,d.has (w++u)=d.has (w'++u)) (l:List α) (E:∀ w,g w∈l):d.n.length<=l.length:=by
 classical
 have D:∀ s:Nat,∃ w,s<d.n.length->d.run 0 w=s:=λs=>by
  by_cases hs:s<d.n.length
  ·obtain⟨w,G⟩:=hd.reach s hs;exact⟨w,λ_=>G⟩
  ·exact⟨[],λh=>absurd h hs⟩
 have key:∀ w w',g w=g w'->d.run 0 w=d.run 0 w':=λw w' h=>by
  refine hd.red _ _ (hd.val.run_lt _ hd.val.pos) (hd.val.run_lt _ hd.val.pos) λu=>?_
  rw[<-B9,<-B9];exact hg w w' h u
 let f:Nat->α:=λs=>g (D s).choose
 have I:∀ s s',s<d.n.length->s'<d.n.length->f s=f s'->s=s':=λs s' hs J h=>by
  have:=key _ _ h;rw[(D s).choose_spec hs,(D s').choose_spec J] at this;exact this
 have hn:((ι d.n.length).map f).Nodup:=by
  rw[ϣ,ü];refine á (λ{a b} ha M T e=>T (I a b (υ.1 ha) (υ.1 M) e)) (ϣ.1 List.nodup_range)
 have:=Dy _ l hn λx U=>by
  obtain⟨s,_,rfl⟩:=ϸ.1 U;exact E _
 simpa using this
theorem Ni {d:Dfa} (hv:Val d) (U:List (List UInt8)) (D:U.Pairwise λu v=>∃ x,d.has (u++x)≠d.has (v++x)):U.length<=d.n.length:=by
 have hn:(U.map λu=>d.run 0 u).Nodup:=by
  rw[ϣ,ü];refine D.imp λ{u v} ⟨x,E⟩ e=>E ?_
  unfold Dfa.has;rw[B9,B9,e]
 have:=Dy _ (ι d.n.length) hn λs hs=>by
  obtain⟨u,_,rfl⟩:=ϸ.1 hs;exact υ.2 (hv.run_lt _ hv.pos)
 simpa using this
theorem K8 {d e:Dfa} (hd:Cano d) (he:Val e) (h:∀ w,d.has w=e.has w):d.n.length<=e.n.length:=by
 have:=Gv hd (λw=>e.run 0 w) (λw w' D u=>by
  rw[h,h];unfold Dfa.has;rw[B9,B9,D]) (ι e.n.length) λw=>υ.2 (he.run_lt _ he.pos)
 simpa using this
theorem Yo {d:Dfa} (hd:Cano d) {t:Tbl} (D:TVal t) (h:∀ w,d.has w=t.has w):d.n.length<=t.n.length:=by
 have:=Gv hd (λw=>t.run 0 w) (λw w' E u=>by
  rw[h,h];unfold Tbl.has;rw[Ct,Ct,E]) (ι t.n.length) λw=>υ.2 (D.run_lt _ D.pos)
 simpa using this
def swp (a s:Nat):Nat:=if s=0 then a else if s=a then 0 else s
theorem Gd (a s:Nat):swp a (swp a s)=s:=by unfold swp;split<;>split<;>(try split)<;>omega
theorem Ge {a s n:Nat} (ha:a<n) (hs:s<n):swp a s<n:=by unfold swp;split<;>(try split)<;>omega
structure Quot (d q:Dfa) (a:Nat):Prop where
 cls:q.cls=d.cls
 len:q.n.length=d.n.length
 acl:q.acc.length=d.n.length
 row:∀ s,s<d.n.length->(q.n.getD (swp a s) []).length=d.cls.length
 ent:∀ s,s<d.n.length->∀ k,k<d.cls.length->q.ent2 (swp a s) k=swp a (d.ent2 s k)
 acc:∀ s,s<d.n.length->q.ok (swp a s)=d.ok s
theorem Quot.val {d q:Dfa} {a:Nat} (h:Quot d q a) (hd:Val d) (ha:a<d.n.length):Val q where
 pos:=by rw[h.len];exact hd.pos
 accL:=by rw[h.acl,h.len]
 row:=λs hs=>by
  rw[h.len] at hs;have:=h.row (swp a s) (Ge ha hs);rw[Gd] at this;rw[this,h.cls]
 tgt:=λs hs k D=>by
  rw[h.len] at hs;rw[h.cls] at D;have:=h.ent (swp a s) (Ge ha hs) k D;rw[Gd] at this;rw[this,h.len];exact Ge ha (hd.tgt _ (Ge ha hs) k D)
 parts:=by rw[h.cls];exact hd.parts
theorem Quot.run {d q:Dfa} {a:Nat} (h:Quot d q a) (hd:Val d):∀ (w:List UInt8) s,s<d.n.length->q.run (swp a s) w=swp a (d.run s w)
 | [],_,_=>rfl
 | x::w,s,hs=>by
  show q.run (q.stp (swp a s) x.toNat) w=swp a (d.run (d.stp s x.toNat) w);have D:q.stp (swp a s) x.toNat=swp a (d.stp s x.toNat):=by
   unfold Dfa.stp;rw[h.cls];exact h.ent s hs _ (cell_lt hd.parts x.toNat_lt)
  rw[D];exact Quot.run h hd w _ (hd.stp_lt hs x.toNat_lt)
theorem Aef {d q:Dfa} {u:List UInt8} (hd:Val d) (h:Quot d q (d.run 0 u)) (w:List UInt8):q.has w=d.has (u++w):=by
 have ha:d.run 0 u<d.n.length:=hd.run_lt _ hd.pos;have D:=h.run hd w _ ha;have E:swp (d.run 0 u) (d.run 0 u)=0:=by unfold swp;split<;>simp_all
 rw[E] at D;unfold Dfa.has;rw[D,B9];exact h.acc _ (hd.run_lt _ ha)
def Nu (d:Dfa) (s:Nat):Prop:=∃ w,d.ok (d.run s w)=Ξ
structure PInv (d:Dfa) (V:List Bool):Prop where
 len:V.length=d.n.length
 live:∀ s,V.getD s Τ=Ξ->Nu d s
 acc:∀ s,d.ok s=Ξ->V.getD s Τ=Ξ
theorem Afd {d:Dfa} (hd:Val d):PInv d d.acc where
 len:=hd.accL
 live:=λs hs=>⟨[],hs⟩
 acc:=λs hs=>hs
theorem Afe {d:Dfa} (hd:Val d) {V:List Bool} (h:PInv d V) {s k:Nat} (hs:s<d.n.length) (E:k<d.cls.length) (hm:V.getD (d.ent2 s k) Τ=Ξ):PInv d (V.set s Ξ) where
 len:=by rw[ϒ];exact h.len
 live:=λs' D=>by
  by_cases e:s'=s
  ·subst e;obtain⟨w,G⟩:=h.live _ hm;obtain⟨b,I,J⟩:=Jl hd.parts E;refine⟨χ b::w,?_⟩;show d.ok (d.run (d.stp s' (χ b).toNat) w)=Ξ;rw[u8n b I];unfold Dfa.stp;rw[J];exact G
  ·rw[Bb V s s' Ξ Τ (by rw[h.len];exact hs),if_neg e] at D;exact h.live _ D
 acc:=λs' D=>by
  rw[Bb V s s' Ξ Τ (by rw[h.len];exact hs)];split
  ·rfl
  ·exact h.acc _ D
theorem Aff {d:Dfa} (hd:Val d) {V:List Bool} (h:PInv d V) (I:∀ s,s<d.n.length->V.getD s Τ=Ξ\/∀ k,k<d.cls.length->V.getD (d.ent2 s k) Τ=Τ) (s:Nat) (hs:s<d.n.length):V.getD s Τ=Ξ↔Nu d s:=by
 refine⟨h.live s,?_⟩;rintro⟨w,G⟩;induction w generalizing s with
 | nil=>exact h.acc s G
 | cons x w J=>
  have D:=J (d.stp s x.toNat) (hd.stp_lt hs x.toNat_lt) G;rcases I s hs with E|E
  ·exact E
  ·have:=E _ (cell_lt hd.parts x.toNat_lt);unfold Dfa.stp at D;rw[this] at D;cases D
def Gt (V:List Bool):Nat:=V.count Ξ
theorem Al0 {V:List Bool} {s:Nat} (hs:s<V.length) (h:V.getD s Τ=Τ):Gt (V.set s Ξ)=Gt V+1:=by
 unfold Gt;rw[List.count_set hs];have:V[s]=Τ:=by simpa [Η,Μ hs] using h
 simp[this]
theorem Al1 (V:List Bool):Gt V<=V.length:=List.count_le_length
theorem Aez {d:Dfa} (hd:Val d) {V:List Bool} (h:∀ s,s<d.n.length->(V.getD s Τ=Ξ↔Nu d s)) (w:List UInt8):(Dfa.mk d.cls d.n V).has w=Ξ↔∃ u,d.has (w++u)=Ξ:=by
 have D:∀ (w:List UInt8) s,(Dfa.mk d.cls d.n V).run s w=d.run s w:=λw s=>rfl
 unfold Dfa.has;rw[D];show V.getD (d.run 0 w) Τ=Ξ↔_;rw[h _ (hd.run_lt _ hd.pos)];unfold Nu;simp only[B9]
theorem Aex {d:Dfa} (hd:Val d) {V:List Bool} (h:V.length=d.n.length):Val ⟨d.cls,d.n,V⟩ where
 pos:=hd.pos
 accL:=h
 row:=hd.row
 tgt:=hd.tgt
 parts:=hd.parts
section
variable {t:Tbl} {n:Nat} {B N R:List Nat} {f:List UInt8->Option Nat} {m:Nat}
theorem Xj (h:FInv (Bu t λs=>B.getD s 0) n (λs=>N.getD s 0) R f):Blk (ι n) (λs=>N.getD s 0) R/\∀ s∈ι n,∀ s'∈ι n,(N.getD s 0=N.getD s' 0↔Bu t (λs=>B.getD s 0) s=Bu t (λs=>B.getD s 0) s'):=
 ⟨⟨λs hs=>h.lt s (υ.1 hs),λi hi=>υ.2 (h.byte i hi).1,λi hi=>(h.byte i hi).2⟩,λs hs s' D=>h.same s s' (υ.1 hs) (υ.1 D)⟩
theorem Akh (h:FInv (Bu t λs=>B.getD s 0) n (λs=>N.getD s 0) R f) (hn:0<n):N.getD 0 0=0:=by
 have D:=h.first 0 hn;have E:=h.lt 0 hn;rcases Nat.eq_zero_or_pos (N.getD 0 0) with e|e
 ·exact e
 ·have D:R.getD (N.getD 0 0) 0<=0:=D;have:=h.inc 0 (N.getD 0 0) e E;omega
theorem Aj5 (hv:TVal t) (E:Reached t (ι n)) (h:OInv t (ι n) B m) (hm:n<=65536) (J:N.length=t.n.length)
  (hi:FInv (Bu t λs=>B.getD s 0) n (λs=>N.getD s 0) R f) (M:R.length≠m):OInv t (ι n) N R.length/\m<R.length:=by
 obtain⟨D,hs⟩:=Xj hi;have G:Fp t (ι n) (λs=>B.getD s 0) (λs=>N.getD s 0):=Kb E h.lt hs;have I:=Jq D;rw[Î] at I;refine⟨⟨J,Ow hv E h.refi G D,λs hs=>?_,by rw[Î];exact I⟩,?_⟩
 ·have:=D.lt s hs;show N.getD s 0<65536;omega
 ·have:=(Md h.refi G D E.ne).1;omega
theorem Aj6 (hv:TVal t) (D:Reached t (ι n)) (h:OInv t (ι n) B m)
  (hi:FInv (Bu t λs=>B.getD s 0) n (λs=>N.getD s 0) R f) (he:R.length=m):Blocks t (ι n) (λs=>N.getD s 0) R:=by
 obtain⟨E,hs⟩:=Xj hi;have G:Fp t (ι n) (λs=>B.getD s 0) (λs=>N.getD s 0):=Kb D h.lt hs;exact⟨E,Ox hv D h.refi G E he⟩
end
structure Mrg (t:Tbl) (B:Nat->Nat) (n:Nat) (L:List Cls) (d:Dfa):Prop where
 cls:d.cls=L
 len:d.n.length=n
 acl:d.acc.length=n
 row:∀ s,s<t.n.length->(d.n.getD (B s) []).length=t.cells
 ent:∀ s,s<t.n.length->∀ k,k<t.cells->d.ent2 (B s) k=B (t.ent2 s k)
 acc:∀ s,s<t.n.length->d.ok (B s)=t.ok s
theorem Agu {t:Tbl} (hv:TVal t) {L:List Cls} (J:Parts L) (G:t.cells=L.length) (M:∀ b,b<256->t.cell b=Ak L b) {B:Nat->Nat} {R:List Nat} (D:Blocks t (ι t.n.length) B R) (T:B 0=0) {d:Dfa} (h:Mrg t B R.length L d) :
  Val d/\∀ w,d.has w=t.has w:=by
 have I:∀ i,i<R.length->∃ s,s<t.n.length/\B s=i:=λi hi=>⟨_,υ.1 (D.blk.mem i hi),D.blk.rep i hi⟩
 have U:Val d:=by
  refine⟨?_,by rw[h.acl,h.len],λi hi=>?_,λi hi k E=>?_,by rw[h.cls];exact J⟩
  ·rw[h.len];have:=D.blk.lt 0 (υ.2 hv.pos);omega
  ·rw[h.len] at hi;obtain⟨s,hs,rfl⟩:=I i hi;rw[h.row s hs,h.cls,G]
  ·rw[h.len] at hi ⊢;rw[h.cls,<-G] at E;obtain⟨s,hs,rfl⟩:=I i hi;rw[h.ent s hs k E];exact D.blk.lt _ (υ.2 (hv.tgt s hs k E))
 refine⟨U,λw=>?_⟩;have aa:∀ (w:List UInt8) s,s<t.n.length->d.run (B s) w=B (t.run s w):=λw=>by
  induction w with
  | nil=>intro s _;rfl
  | cons x w ih=>
   intro s hs;show d.run (d.stp (B s) x.toNat) w=B (t.run (t.stp s x.toNat) w);have h1:d.stp (B s) x.toNat=B (t.stp s x.toNat):=by
    unfold Dfa.stp Tbl.stp;rw[h.cls,<-M _ x.toNat_lt];exact h.ent s hs _ (hv.cell_lt _ x.toNat_lt)
   rw[h1];exact ih _ (hv.stp_lt hs x.toNat_lt)
 unfold Dfa.has;have:=aa w 0 hv.pos;rw[T] at this;rw[this];exact h.acc _ (hv.run_lt w hv.pos)
theorem Ani {t:Tbl} (hv:TVal t) {R:List Nat} {B:Nat->Nat} {l:List Nat} (G:Reached t l) (D:Blocks t l B R) {e:Dfa} (he:Cano e) (h:∀ w,e.has w=t.has w):e.n.length=R.length:=by
 have U:e.n.length<=R.length:=by
  have:=Gv he (λw=>B (t.run 0 w)) (λw w' E u=>by
   rw[h,h];unfold Tbl.has;rw[Ct,Ct];exact ((D.leq _ (G.run hv w G.zero) _ (G.run hv w' G.zero)).1 E) u) (ι R.length) λw=>υ.2 (D.blk.lt _ (G.run hv w G.zero))
  simpa using this
 have h2:R.length<=e.n.length:=by
  classical
  have E:∀ s:Nat,∃ w,s∈l->t.run 0 w=s:=λs=>by
   by_cases hs:s∈l
   ·obtain⟨w,E⟩:=G.all s hs;exact⟨w,λ_=>E⟩
   ·exact⟨[],λh=>absurd h hs⟩
  have:=Ni he.val ((ι R.length).map λi=>(E (R.getD i 0)).choose) (by
   rw[ü];refine á (λ{i j} hi I M=>?_) (ϣ.1 List.nodup_range);have hi:=υ.1 hi;have I:=υ.1 I;refine ϧ λJ=>M ?_
   have J:∀ x,e.has ((E (R.getD i 0)).choose++x)=e.has ((E (R.getD j 0)).choose++x):=λx=>ϧ λT=>J ⟨x,T⟩
   rw[<-D.blk.rep i hi,<-D.blk.rep j I];refine (D.leq _ (D.blk.mem i hi) _ (D.blk.mem j I)).2 λx=>?_
   have:=J x;rw[h,h] at this;unfold Tbl.has at this;rw[Ct,Ct,(E (R.getD i 0)).choose_spec (D.blk.mem i hi),(E (R.getD j 0)).choose_spec (D.blk.mem j I)] at this;exact this)
  simpa using this
 omega
def rnx (d:Dfa) (S:List Bool) (x:Nat):List Bool:=(ι 64).map λs=>decide (s<d.n.length)&&S.getD (d.stp s x) Τ
def rst (d:Dfa):List Bool:=(ι 64).map λs=>d.ok s
theorem Ot (d:Dfa) (S:List Bool) (x:Nat):(rnx d S x).length=64:=by simp[rnx]
theorem Ka (d:Dfa):(rst d).length=64:=by simp[rst]
theorem Km (g:Nat->Bool) (s:Nat) (hs:s<64):((ι 64).map g).getD s Τ=g s:=by
 simp[Η,hs]
theorem Fw {d:Dfa} (hd:Val d) (E:d.n.length<=64) (w:List UInt8) (s:Nat) (hs:s<d.n.length):(Ax (rnx d) (rst d) w).getD s Τ=d.ok (d.run s w.reverse):=by
 revert s
 induction w using Et with
 | h0=>intro s hs;exact Km _ s (by omega)
 | h1 w x D=>
  intro s hs;rw[Ed,rnx,Km _ s (by omega)];simp only[hs,decide_true,Bool.true_and];rw[D _ (hd.stp_lt hs x.toNat_lt),List.reverse_append];rfl
theorem T4 {d:Dfa} (w:List UInt8):(Ax (rnx d) (rst d) w).length=64:=by
 induction w using Et with
 | h0=>exact Ka d
 | h1 w x G=>rw[Ed];exact Ot _ _ _
theorem T5 {d:Dfa} (hd:Val d) (w:List UInt8) (s:Nat) (hs:d.n.length<=s):(Ax (rnx d) (rst d) w).getD s Τ=Τ:=by
 induction w using Et with
 | h0=>
  by_cases h:s<64
  ·show ((ι 64).map _).getD s Τ=Τ;rw[Km _ s h];unfold Dfa.ok;rw[Η,Ϩ (by rw[hd.accL];exact hs)];rfl
  ·rw[Η,Ϩ (by show (rst d).length<=s;rw[Ka];omega)];rfl
 | h1 w x G=>
  rw[Ed];by_cases h:s<64
  ·rw[rnx,Km _ s h];have:¬ s<d.n.length:=by omega
   simp[this]
  ·rw[Η,Ϩ (by rw[Ot];omega)];rfl
theorem Adk {d:Dfa} (hd:Val d) (D:d.n.length<=64) (w w':List UInt8):Ax (rnx d) (rst d) w=Ax (rnx d) (rst d) w'↔∀ s,s<d.n.length->d.ok (d.run s w.reverse)=d.ok (d.run s w'.reverse):=by
 constructor
 ·intro h s hs;rw[<-Fw hd D w s hs,<-Fw hd D w' s hs,h]
 ·intro h;refine List.ext_getElem? λs=>?_
  have e:∀ w:List UInt8,(Ax (rnx d) (rst d) w)[s]? = if s<64 then Δ ((Ax (rnx d) (rst d) w).getD s Τ) else Γ:=λw=>by
   by_cases E:s<64
   ·rw[if_pos E,Η,Μ (by rw[T4];exact E)];rfl
   ·rw[if_neg E,Ϩ (by rw[T4];omega)]
  rw[e,e];by_cases hs:s<d.n.length
  ·rw[Fw hd D w s hs,Fw hd D w' s hs,h s hs]
  ·rw[T5 hd w s (by omega),T5 hd w' s (by omega)]
theorem Adn {d:Dfa} (hd:Val d) (D:d.n.length<=64) {c:Nat->Nat} {bs:List Nat} {l:List (List Bool)} {t:Tbl} (h:Expl c bs (rst d) (rnx d) (λS=>S.getD 0 Τ) l t) {a b:Nat->Nat} (E:Joint a b c bs)
  (hn:∀ x,x<256->Ak d.cls (bs.getD (c x) 0)=Ak d.cls x) (w:List UInt8):t.has w=d.has w.reverse:=by
 rw[h.has E (λs x G=>by unfold rnx Dfa.stp;rw[hn x G]) w];exact Fw hd D w 0 hd.pos
def Bo (L:List UInt8->Bool):Nat->List (List UInt8)
 | 0=>if L [] then [[]] else []
 | n+1=>(ι 256).flatMap λb=>(Bo (λw=>L (χ b::w)) n).map (χ b::·)
def Ba (L:List UInt8->Bool) (n:Nat):Nat:=(Bo L n).length
def Lex (u v:List UInt8):Prop:=∃ p a b D v',u=p++a::D/\v=p++b::v'/\a.toNat<b.toNat
theorem Ga:∀ (n:Nat) (L:List UInt8->Bool) (w:List UInt8),w∈Bo L n↔w.length=n/\L w=Ξ
 | 0,L,w=>by
  unfold Bo;cases h:L []
  ·simp only[Þ,if_false,List.not_mem_nil,false_iff];rintro⟨D,E⟩;rw[Ð D,h] at E;cases E
  ·simp only[if_true,ϴ];constructor
   ·rintro rfl;exact⟨rfl,h⟩
   ·rintro⟨D,_⟩;exact Ð D
 | n+1,L,w=>by
  unfold Bo;simp only[List.mem_flatMap,υ,ϸ];constructor
  ·rintro⟨b,I,v,hv,rfl⟩;obtain⟨D,E⟩:=(Ga n _ v).1 hv;exact⟨by rw[ϲ,D],E⟩
  ·rintro⟨D,E⟩;cases w with
   | nil=>simp at D
   | cons x w=>
    have G:χ x.toNat=x:=by simp
    refine⟨x.toNat,x.toNat_lt,w,(Ga n _ w).2 ⟨by simpa using D,by rw[G];exact E⟩,by rw[G]⟩
theorem R6:∀ (n:Nat) (L:List UInt8->Bool),(Bo L n).Pairwise Lex
 | 0,L=>by unfold Bo;split<;>simp
 | n+1,L=>by
  unfold Bo;rw[List.pairwise_flatMap];refine⟨λb _=>?_,?_⟩
  ·rw[ü];refine (R6 n _).imp λ{u v} h=>?_
   obtain⟨p,a,c,D,v',rfl,rfl,E⟩:=h;exact⟨χ b::p,a,c,D,v',rfl,rfl,E⟩
  ·refine á (λ{a b} ha G I=>?_) List.pairwise_lt_range;intro u hu v hv;obtain⟨D,_,rfl⟩:=ϸ.1 hu;obtain⟨v',_,rfl⟩:=ϸ.1 hv;exact⟨[],_,_,D,v',rfl,rfl,by rw[u8n _ (υ.1 ha),u8n _ (υ.1 G)];exact I⟩
theorem R8:∀ (n:Nat) {L M:List UInt8->Bool},(∀ w,L w=M w)->Bo L n=Bo M n:=λn L M h=>by rw[show L=M from funext h]
theorem Q4 (L:List UInt8->Bool):Ba L 0=if L [] then 1 else 0:=by unfold Ba Bo;split<;>rfl
theorem Q5 (L:List UInt8->Bool) (n:Nat):Ba L (n+1)=((ι 256).map λb=>Ba (λw=>L (χ b::w)) n).sum:=by
 unfold Ba;rw[Bo,List.length_flatMap];simp
theorem Od {α:Type} (f g:α->Nat):∀ l:List α,(l.map λx=>f x+g x).sum=(l.map f).sum+(l.map g).sum
 | []=>rfl
 | a::l=>by simp only[Æ,List.sum_cons,Od f g l];omega
theorem Ij {α:Type} (k:Nat):∀ l:List α,(l.map λ_=>k).sum=l.length*k
 | []=>by simp
 | a::l=>by simp only[Æ,List.sum_cons,Ij k l,ϲ,Nat.add_mul];omega
theorem X7:∀ (n:Nat) (L:List UInt8->Bool),Ba L n+Ba (λw=>!L w) n=256 ^ n
 | 0,L=>by rw[Q4,Q4];cases L []<;>rfl
 | n+1,L=>by
  rw[Q5,Q5,<-Od];rw[show (λb=>Ba (λw=>L (χ b::w)) n+Ba (λw=>!L (χ b::w)) n)=λ_:Nat=>256 ^ n from funext λb=>X7 n _];rw[Ij,Î,Nat.pow_succ];omega
def A4 (d:Dfa):Nat->Nat->Nat
 | 0,s=>if d.ok s then 1 else 0
 | n+1,s=>((ι d.cls.length).map λk=>sz (d.cls.getD k 0#256)*A4 d n (d.ent2 s k)).sum
theorem X4 (p:Nat->Bool):∀ n,cnt p n=((ι n).map λb=>if p b then 1 else 0).sum
 | 0=>rfl
 | n+1=>by
  rw[cnt,X4 p n,List.range_succ,ϝ,List.sum_append];simp
theorem S2 {α β:Type} (f:α->β->Nat) (l:List α):∀ m:List β,(l.map λa=>(m.map λb=>f a b).sum).sum=(m.map λb=>(l.map λa=>f a b).sum).sum
 | []=>by simp[Ij]
 | b::m=>by
  simp only[Æ,List.sum_cons];rw[Od,S2 f l m]
theorem S3 (g:Nat->Nat) (j:Nat):∀ n,j<n->((ι n).map λk=>if j=k then g k else 0).sum=g j
 | 0,h=>by omega
 | n+1,h=>by
  rw[List.range_succ,ϝ,List.sum_append];by_cases e:j=n
  ·subst e;have:((ι j).map λk=>if j=k then g k else 0)=(ι j).map λ_=>0:=
    Í λk D=>by rw[if_neg];have:=υ.1 D;omega
   rw[this,Ij];simp
  ·rw[S3 g j n (by omega)];simp[e]
theorem S4 (k:Nat) {α:Type} (f:α->Nat):∀ l:List α,(l.map f).sum*k=(l.map λa=>f a*k).sum
 | []=>by simp
 | a::l=>by simp only[Æ,List.sum_cons,Nat.add_mul,S4 k f l]
theorem Abh {L:List Cls} (E:Parts L) (g:Nat->Nat):((ι 256).map λb=>g (Ak L b)).sum=((ι L.length).map λk=>sz (L.getD k 0#256)*g k).sum:=by
 have I:∀ k∈ι L.length,sz (L.getD k 0#256)*g k=((ι 256).map λb=>if Ak L b=k then g k else 0).sum:=λk G=>by
  unfold sz;rw[X4,S4]
  congr 1
  refine Í λb D=>?_
  have D:=υ.1 D;have G:=υ.1 G;by_cases e:Ak L b=k
  ·have:=E7 E D;rw[e] at this;simp only[this,e,if_true,Nat.one_mul]
  ·have:(L.getD k 0#256).getLsbD b=Τ:=by
    rw[<-Bool.not_eq_true];exact λh=>e (E6 E D G h)
   simp only[this,e,if_false,Þ,Nat.zero_mul]
 rw[Í I,S2]
 congr 1
 refine Í λb D=>?_
 exact (S3 g _ _ (cell_lt E (υ.1 D))).symm
theorem K2 {d:Dfa} (hd:Val d):∀ (n s:Nat),s<d.n.length->A4 d n s=Ba (λw=>d.ok (d.run s w)) n
 | 0,s,_=>by rw[Q4];rfl
 | n+1,s,hs=>by
  rw[Q5];show ((ι d.cls.length).map λk=>sz (d.cls.getD k 0#256)*A4 d n (d.ent2 s k)).sum=_;rw[<-Abh hd.parts λk=>A4 d n (d.ent2 s k)]
  congr 1
  refine Í λb D=>?_
  have D:=υ.1 D;show A4 d n (d.stp s b)=_;rw[K2 hd n _ (hd.stp_lt hs D)];unfold Ba;rw[R8 n λw=>?_];show d.ok (d.run (d.stp s b) w)=d.ok (d.run (d.stp s (χ b).toNat) w);rw[u8n b D]
def sat (x:Nat):Nat:=min x 1099511627777
theorem J9 (x:Nat):sat x<=1099511627777:=Nat.min_le_right _ _
def Du (d:Dfa) (n s k:Nat):Nat:=((ι k).map λk=>sz (d.cls.getD k 0#256)*A4 d n (d.ent2 s k)).sum
theorem Zs (d:Dfa) (n s k:Nat):Du d n s (k+1)=Du d n s k+sz (d.cls.getD k 0#256)*A4 d n (d.ent2 s k):=by
 unfold Du;rw[List.range_succ,ϝ,List.sum_append];simp
theorem Zt (d:Dfa) (n s:Nat):Du d n s d.cls.length=A4 d (n+1) s:=rfl
theorem Tt (a z x:Nat) (D:0<z):min (sat a+z*sat x) 1099511627777=sat (a+z*x):=by
 unfold sat;by_cases h:x<=1099511627777
 ·rw[Nat.min_eq_left h];omega
 ·have E:min x 1099511627777=1099511627777:=by omega
  have G:1099511627777<=z*1099511627777:=Nat.le_mul_of_pos_left _ D;have I:x<=z*x:=Nat.le_mul_of_pos_left _ D;rw[E];omega
def Db (w:List UInt8) (s:Nat):List Nat:=(ι 256).map λb=>if s<w.length/\(w.getD s 0).toNat=b then s+1 else w.length+1
def Cr (w:List UInt8):Tbl:=⟨λb=>b,256,(ι (w.length+2)).map (Db w),(ι (w.length+2)).map λs=>s==w.length⟩
theorem Dg {α:Type} (g:Nat->α) (n s:Nat) (d:α) (hs:s<n):((ι n).map g).getD s d=g s:=by
 simp[Η,hs]
theorem Es (w:List UInt8):(Cr w).n.length=w.length+2:=by simp[Cr]
theorem Sg (w:List UInt8) (s k:Nat) (hs:s<w.length+2) (D:k<256):(Cr w).ent2 s k=if s<w.length/\(w.getD s 0).toNat=k then s+1 else w.length+1:=by
 unfold Tbl.ent2;show (((ι (w.length+2)).map (Db w)).getD s []).getD k 0=_;rw[Dg _ _ _ _ hs];unfold Db;rw[Dg _ _ _ _ D]
theorem Fc (w:List UInt8):TVal (Cr w) where
 pos:=by rw[Es];omega
 accL:=by rw[Es];simp[Cr]
 row:=λs hs=>by
  rw[Es] at hs;show (((ι (w.length+2)).map (Db w)).getD s []).length=256;rw[Dg _ _ _ _ hs];simp[Db]
 tgt:=λs hs k D=>by
  rw[Es] at hs ⊢;rw[Sg w s k hs D];split<;>omega
 cell_lt:=λb E=>E
 onto:=λk D=>⟨k,D,rfl⟩
theorem Sf (w:List UInt8) (s:Nat) (hs:s<w.length+2):(Cr w).ok s=(s==w.length):=by
 unfold Tbl.ok;show ((ι (w.length+2)).map λs=>s==w.length).getD s Τ=_;rw[Dg _ _ _ _ hs]
theorem Sd (w:List UInt8) (s:Nat) (x:UInt8) (hs:s<w.length+2):(Cr w).stp s x.toNat=if s<w.length/\w.getD s 0=x then s+1 else w.length+1:=by
 show (Cr w).ent2 s x.toNat=_;rw[Sg w s _ hs x.toNat_lt]
 congr 1
 rw[UInt8.toNat_inj]
theorem Sh (w:List UInt8):∀ u:List UInt8,(Cr w).run (w.length+1) u=w.length+1
 | []=>rfl
 | x::u=>by
  show (Cr w).run ((Cr w).stp (w.length+1) x.toNat) u=_;rw[Sd w _ x (by omega),if_neg (by omega)];exact Sh w u
theorem Se (w:List UInt8):∀ (u:List UInt8) (s:Nat),s<=w.length->((Cr w).ok ((Cr w).run s u)=Ξ↔u=w.drop s)
 | [],s,hs=>by
  show (Cr w).ok s=Ξ↔_;rw[Sf w s (by omega)];constructor
  ·intro h;have:s=w.length:=by simpa using h
   rw[this,List.drop_length]
  ·intro h;have:=congrArg List.length h;rw[List.length_drop] at this;simp only[List.length_nil] at this;simp;omega
 | x::u,s,hs=>by
  show (Cr w).ok ((Cr w).run ((Cr w).stp s x.toNat) u)=Ξ↔_;rw[Sd w s x (by omega)];by_cases h:s<w.length/\w.getD s 0=x
  ·rw[if_pos h,Se w u (s+1) (by omega),List.drop_eq_getElem_cons h.1];have:w[s]'h.1=x:=by
    have G:=h.2;rw[Η,Μ h.1] at G;exact G
   rw[this];simp
  ·rw[if_neg h,Sh,Sf w _ (by omega)];constructor
   ·intro D;simp at D
   ·intro D;exfalso
    by_cases E:s<w.length
    ·rw[List.drop_eq_getElem_cons E] at D;injection D with D _
     exact h ⟨E,by rw[D,Η,Μ E];rfl⟩
    ·rw[List.drop_eq_nil_of_le (by omega)] at D;cases D
theorem Fd (w u:List UInt8):(Cr w).has u=Ξ↔u=w:=by
 have:=Se w u 0 (by omega);rw[List.drop_zero] at this;exact this
def Hf (t:Tbl):Tbl:=⟨t.cell,t.cells,t.n,t.acc.map (!·)⟩
theorem Vc {t:Tbl} (h:TVal t):TVal (Hf t) where
 pos:=h.pos
 accL:=by simp[Hf,h.accL]
 row:=h.row
 tgt:=h.tgt
 cell_lt:=h.cell_lt
 onto:=h.onto
theorem Ve {t:Tbl} (h:TVal t) (w:List UInt8):(Hf t).has w=!t.has w:=by
 have E:∀ (w:List UInt8) s,(Hf t).run s w=t.run s w:=λ_ _=>rfl
 unfold Tbl.has;rw[E];have D:=h.run_lt w h.pos;unfold Tbl.ok Hf;rw[Η,ϕ,Μ (by rw[h.accL];exact D),Η,Μ (by rw[h.accL];exact D)];rfl
def Cv (L:List Cls) (p:Cls->Bool):Dfa:=⟨L,[L.map λk=>if p k then 1 else 2,L.map λ_=>2,L.map λ_=>2],[Τ,Ξ,Τ]⟩
theorem Aik {L:List Cls} (E:Parts L) (p:Cls->Bool):Val (Cv L p) where
 pos:=by simp[Cv]
 accL:=rfl
 row:=λs hs=>by
  have:s<3:=hs
  match s,this with
  | 0,_=>simp[Cv]
  | 1,_=>simp[Cv]
  | 2,_=>simp[Cv]
 tgt:=λs hs k D=>by
  have hs:s<3:=hs;have D:k<L.length:=D;show (Cv L p).ent2 s k<3;unfold Dfa.ent2 Cv
  match s,hs with
  | 0,_=>simp[Η,D];split<;>omega
  | 1,_=>simp[Η,D]
  | 2,_=>simp[Η,D]
 parts:=E
theorem Ail {L:List Cls} (G:Parts L) (p:Cls->Bool) (c:Cls) (T:∀ b,b<256->(p (L.getD (Ak L b) 0#256)=Ξ↔c.getLsbD b=Ξ)) (w:List UInt8):(Cv L p).has w=Ξ↔∃ x:UInt8,w=[x]/\c.getLsbD x.toNat=Ξ:=by
 have U:∀ b,b<256->(Cv L p).stp 0 b=if p (L.getD (Ak L b) 0#256) then 1 else 2:=λb D=>by
  have E:=cell_lt G D;show ((L.map λk=>if p k then 1 else 2).getD (Ak L b) 0)=_;simp only[Η,ϕ,Μ E,Option.map_some,ì]
 have s1:∀ b,b<256->(Cv L p).stp 1 b=2:=λb D=>by
  have E:=cell_lt G D;show ((L.map λ_=>2).getD (Ak L b) 0)=_;simp only[Η,ϕ,Μ E,Option.map_some,ì]
 have s2:∀ b,b<256->(Cv L p).stp 2 b=2:=λb D=>by
  have E:=cell_lt G D;show ((L.map λ_=>2).getD (Ak L b) 0)=_;simp only[Η,ϕ,Μ E,Option.map_some,ì]
 have J:∀ u:List UInt8,(Cv L p).run 2 u=2:=λu=>by
  induction u with
  | nil=>rfl
  | cons x u ih=>
   show (Cv L p).run ((Cv L p).stp 2 x.toNat) u=2;rw[s2 _ x.toNat_lt];exact ih
 match w with
 | []=>
  constructor
  ·intro h;exact absurd h (by show ¬ (Τ=Ξ);decide)
  ·rintro⟨x,h,_⟩;cases h
 | x::u=>
  show (Cv L p).ok ((Cv L p).run ((Cv L p).stp 0 x.toNat) u)=Ξ↔_;rw[U _ x.toNat_lt];have I:=T _ x.toNat_lt;cases M:p (L.getD (Ak L x.toNat) 0#256)
  ·simp only[Þ,if_false];rw[J];constructor
   ·intro h;exact absurd h (by show ¬ (Τ=Ξ);decide)
   ·rintro⟨y,h,hy⟩;injection h with h1 h2
    subst h1;rw[M] at I;exact absurd (I.2 hy) (by decide)
  ·simp only[if_true]
   match u with
   | []=>
    constructor
    ·intro _;exact⟨x,rfl,I.1 M⟩
    ·intro _;rfl
   | y::v=>
    show (Cv L p).ok ((Cv L p).run ((Cv L p).stp 1 y.toNat) v)=Ξ↔_;rw[s1 _ y.toNat_lt,J];constructor
    ·intro h;exact absurd h (by show ¬ (Τ=Ξ);decide)
    ·rintro⟨z,h,_⟩;injection h with _ h;cases h
def De (c:Cls) (a:Bool):Dfa:=⟨[c],[[0]],[a]⟩
theorem U1 (c:Cls) (D:∀ b,b<256->c.getLsbD b=Ξ) (a:Bool) (w:List UInt8):(De c a).has w=a:=by
 have E:∀ b,b<256->(De c a).stp 0 b=0:=λb G=>by
  unfold Dfa.stp Dfa.ent2 De;have:Ak [c] b=0:=by unfold Ak;simp[D b G]
  rw[this];rfl
 have:∀ w:List UInt8,(De c a).run 0 w=0:=λw=>by
  induction w with
  | nil=>rfl
  | cons x u I=>
   show (De c a).run ((De c a).stp 0 x.toNat) u=0;rw[E _ x.toNat_lt];exact I
 unfold Dfa.has;rw[this];rfl
theorem Ml (c:Cls) (D:∀ b,b<256->c.getLsbD b=Ξ) (a:Bool):Cano (De c a) where
 val:=by
  refine⟨by simp[De],rfl,λs hs=>?_,λs hs k E=>?_,⟨λx G=>?_,by simp[De],λi hi=>⟨c,by simp[De],D i hi⟩⟩⟩
  ·have:s<1:=hs;obtain rfl:s=0:=by omega
   rfl
  ·have:s<1:=hs;have E:k<1:=E;obtain rfl:s=0:=by omega
   obtain rfl:k=0:=by omega
   show (0:Nat)<1;omega
  ·simp[De] at G;subst G;exact Gj (D 0 (by omega))
 reach:=λs hs=>⟨[],by have:s<1:=hs;show 0=s;omega⟩
 red:=λs t hs I _=>by have:s<1:=hs;have:t<1:=I;omega
 col:=λi j hi J _=>by have:i<1:=hi;have:j<1:=J;omega
 srt:=by simp[De]
 rgf:=λp M=>by
  have:p<1*1:=M;obtain rfl:p=0:=by omega
  have:(De c a).ent 0=0:=by simp[Dfa.ent,Dfa.ent2,De]
  rw[this];omega
def B8 {σ:Type} (nx:σ->Nat->σ) (st:σ) (m:Nat):Prop:=∃ l:List σ,l.Nodup/\(∀ s,s∈l->∃ w,Ax nx st w=s)/\m<l.length
theorem Iw {σ:Type} [DecidableEq σ] {nx:σ->Nat->σ} {st:σ} {m:Nat} (M:List σ) (D:∀ w,Ax nx st w∈M) (hm:M.length<=m):¬ B8 nx st m:=by
 rintro⟨l,hn,E,G⟩;have:=Dy l M hn λs hs=>by
  obtain⟨w,rfl⟩:=E s hs;exact D w
 omega
def Lim (L:List UInt8->Prop):Option Dfa->Prop
 | some d=>Cano d/\(∀ w,d.has w=Ξ↔L w)/\d.n.length<=64
 | none=>∃ d,Cano d/\(∀ w,d.has w=Ξ↔L w)/\64<d.n.length
theorem Amp {d e:Dfa} {L:List UInt8->Prop} (hd:Cano d) (he:Cano e) (h:∀ w,d.has w=Ξ↔L w) (k:∀ w,e.has w=Ξ↔L w):d=e:=
 Gw hd he λw=>by rw[Bool.eq_iff_iff,h,k]
theorem Iz {L M:List UInt8->Prop} {r:Option Dfa} (h:Lim L r) (D:∀ w,L w↔M w):Lim M r:=by
 rw[show M=L from funext λw=>propext (D w).symm];exact h
def E8 (a b:Dfa) (r:Option Dfa):Prop:=∃ x y,Cano x/\Cano y/\(∀ w,x.has w=a.has w)/\(∀ w,y.has w=b.has w)/\
 (B8 (cnx (Ae x) (Ae y)) (cst (Ae x)) 4096->r=Γ)/\(¬ B8 (cnx (Ae x) (Ae y)) (cst (Ae x)) 4096->Lim (Cat (λw=>a.has w=Ξ) λw=>b.has w=Ξ) r)
def Jt (a:Dfa) (r:Option Dfa):Prop:=∃ x,Cano x/\(∀ w,x.has w=a.has w)/\
 (B8 (snx (Ae x)) (1,1) 4096->r=Γ)/\(¬ B8 (snx (Ae x)) (1,1) 4096->Lim (Star λw=>a.has w=Ξ) r)
theorem N9 {y:Tbl} (D:TVal y) (S c:Nat) (E:c<256):∀ n,n<=y.n.length->Az y S c n<2 ^ y.n.length
 | 0,_=>Nat.two_pow_pos _
 | n+1,h=>by
  have G:=N9 D S c E n (by omega);simp only[Az];split
  ·exact Nat.or_lt_two_pow G (Nat.pow_lt_pow_right (by omega) (D.stp_lt (by omega) E))
  ·exact G
theorem Uy {S m:Nat} (hm:0<m) (h:S<2 ^ m):S ||| 1<2 ^ m:=Nat.or_lt_two_pow h (by
 have:=Nat.pow_lt_pow_right (show 1<2 by omega) hm
 simpa using this)
theorem Yj {x y:Tbl} (D:TVal x) (E:TVal y) (w:List UInt8):(Ax (cnx x y) (cst x) w).1<x.n.length/\(Ax (cnx x y) (cst x) w).2<2 ^ y.n.length:=by
 have G:∀ p S,p<x.n.length->S<2 ^ y.n.length->(F5 x p S).1<x.n.length/\(F5 x p S).2<2 ^ y.n.length:=λp S J I=>by
  refine⟨J,?_⟩;unfold F5;simp only;split
  ·exact Uy E.pos I
  ·exact I
 induction w using Et with
 | h0=>exact G 0 0 D.pos (Nat.two_pow_pos _)
 | h1 w b M=>
  rw[Ed];exact G _ _ (D.stp_lt M.1 b.toNat_lt) (N9 E _ _ b.toNat_lt _ (ν _))
theorem S8 {x:Tbl} (D:TVal x) (w:List UInt8):(Ax (snx x) (1,1) w).1<2/\(Ax (snx x) (1,1) w).2<2 ^ x.n.length:=by
 induction w using Et with
 | h0=>
  refine⟨by show 1<2;omega,?_⟩;have:=Nat.pow_lt_pow_right (show 1<2 by omega) D.pos;show 1<_
  simpa using this
 | h1 w b I=>
  rw[Ed];refine⟨by show 0<2;omega,?_⟩;unfold snx;have:=N9 D (Ax (snx x) (1,1) w).2 b.toNat b.toNat_lt _ (ν _);simp only;split
  ·exact Uy D.pos this
  ·exact this
def box (n m:Nat):List (Nat × Nat):=(ι n).flatMap λp=>(ι m).map λq=>(p,q)
theorem Ld (n m:Nat):(box n m).length=n*m:=by
 unfold box;rw[List.length_flatMap];simp only[ϋ,Î];rw[Ij,Î]
theorem Lb {n m:Nat} {s:Nat × Nat} (D:s.1<n) (E:s.2<m):s∈box n m:=by
 unfold box;rw[List.mem_flatMap];exact⟨s.1,υ.2 D,ϸ.2 ⟨s.2,υ.2 E,rfl⟩⟩
theorem Amk {x y:Tbl} (D:TVal x) (E:TVal y) (h:x.n.length*2 ^ y.n.length<=4096):¬ B8 (cnx x y) (cst x) 4096:=
 Iw (box x.n.length (2 ^ y.n.length)) (λw=>Lb (Yj D E w).1 (Yj D E w).2) (by rw[Ld];exact h)
theorem Abo {x:Tbl} (D:TVal x) (h:2*2 ^ x.n.length<=4096):¬ B8 (snx x) (1,1) 4096:=
 Iw (box 2 (2 ^ x.n.length)) (λw=>Lb (S8 D w).1 (S8 D w).2) (by rw[Ld];exact h)
theorem Ul {x y:Tbl} (D:TVal x) (E:TVal y) {g:Bool->Bool->Bool} {d:Dfa} (hd:Cano d) (h:∀ w,d.has w=g (x.has w) (y.has w)):d.n.length<=x.n.length*y.n.length:=by
 rw[<-Ld];refine Gv hd (λw=>(x.run 0 w,y.run 0 w)) (λw w' e u=>?_) _ λw=>Lb (D.run_lt w D.pos) (E.run_lt w E.pos)
 injection e with G I
 rw[h,h];unfold Tbl.has;rw[Ct,Ct,Ct,Ct,G,I]
theorem Ado {d:Dfa} (hd:Val d) (D:d.n.length<=64) (m:Nat) (M:List (List Bool)) (G:∀ w:List UInt8,((ι d.n.length).map λs=>d.ok (d.run s w.reverse))∈M) (hm:M.length<=m):¬ B8 (rnx d) (rst d) m:=by
 rintro⟨l,hn,E,hl⟩;have I:(l.map λS=>(ι d.n.length).map λs=>S.getD s Τ).Nodup:=by
  rw[ϣ,ü];refine á (λ{a b} ha J U e=>U ?_) (ϣ.1 hn);obtain⟨w,rfl⟩:=E a ha;obtain⟨w',rfl⟩:=E b J;refine (Adk hd D w w').2 λs hs=>?_
  have:=congrArg (λl=>l.getD s Τ) e;simp only[Dg _ _ _ _ hs] at this;rw[Fw hd D w s hs,Fw hd D w' s hs] at this;exact this
 have:=Dy _ M I λS hS=>by
  obtain⟨T,hT,rfl⟩:=ϸ.1 hS;obtain⟨w,rfl⟩:=E T hT;rw[show ((ι d.n.length).map λs=>(Ax (rnx d) (rst d) w).getD s Τ)=(ι d.n.length).map λs=>d.ok (d.run s w.reverse) from
   Í λs hs=>Fw hd D w s (υ.1 hs)]
  exact G w
 rw[ϋ] at this;omega
abbrev Bi:=List UInt8->Prop
theorem Hv {L D M E:Bi} (h:∀ w,L w↔D w) (k:∀ w,M w↔E w) (w:List UInt8):Cat L M w↔Cat D E w:=by
 unfold Cat;constructor
 ·rintro⟨u,v,e,hu,hv⟩;exact⟨u,v,e,(h u).1 hu,(k v).1 hv⟩
 ·rintro⟨u,v,e,hu,hv⟩;exact⟨u,v,e,(h u).2 hu,(k v).2 hv⟩
theorem Ym (L M N:Bi) (w:List UInt8):Cat (Cat L M) N w↔Cat L (Cat M N) w:=by
 constructor
 ·rintro⟨_,v,rfl,⟨a,b,rfl,ha,D⟩,hv⟩;exact⟨a,b++v,by simp,ha,b,v,rfl,D,hv⟩
 ·rintro⟨a,_,rfl,ha,b,v,rfl,D,hv⟩;exact⟨a++b,v,by simp,⟨a,b,rfl,ha,D⟩,hv⟩
theorem Nh (L:Bi) (w:List UInt8):Cat (λu=>u=[]) L w↔L w:=by
 constructor
 ·rintro⟨u,v,rfl,rfl,hv⟩;simpa using hv
 ·intro h;exact⟨[],w,rfl,rfl,h⟩
theorem Q7 (L:Bi) (w:List UInt8):Cat L (λu=>u=[]) w↔L w:=by
 constructor
 ·rintro⟨u,v,rfl,hu,rfl⟩;simpa using hu
 ·intro h;exact⟨w,[],by simp,h,rfl⟩
def pwc (P L:Bi):Nat->Bi
 | 0=>P
 | n+1=>pwc (Cat P L) L n
theorem Ug {P D L E:Bi} (h:∀ w,P w↔D w) (k:∀ w,L w↔E w) (n:Nat) (w:List UInt8):pwc P L n w↔pwc D E n w:=by
 rw[show P=D from funext λw=>propext (h w),show L=E from funext λw=>propext (k w)]
theorem Uh (A P L:Bi):∀ (n:Nat) (w:List UInt8),pwc (Cat A P) L n w↔Cat A (pwc P L n) w
 | 0,w=>Iff.rfl
 | n+1,w=>by
  show pwc (Cat (Cat A P) L) L n w↔Cat A (pwc (Cat P L) L n) w;rw[<-Uh A (Cat P L) L n w];exact Ug (λw=>Ym A P L w) (λ_=>Iff.rfl) n w
def pw (L:Bi) (n:Nat):Bi:=pwc (λw=>w=[]) L n
theorem Uf (P L:Bi) (n:Nat) (w:List UInt8):pwc P L n w↔Cat P (pw L n) w:=by
 rw[pw,<-Uh];exact Ug (λw=>(Q7 P w).symm) (λ_=>Iff.rfl) n w
theorem Fx (L:Bi) (n:Nat) (w:List UInt8):pw L (n+1) w↔Cat L (pw L n) w:=by
 show pwc (Cat (λw=>w=[]) L) L n w↔_;rw[Uf];exact Hv (Nh L) (λ_=>Iff.rfl) w
theorem He (L:Bi):∀ (m n:Nat) (w:List UInt8),pw L (m+n) w↔Cat (pw L m) (pw L n) w
 | 0,n,w=>by rw[Nat.zero_add];exact (Nh _ w).symm
 | m+1,n,w=>by
  rw[show m+1+n=(m+n)+1 by omega,Fx];rw[Hv (λ_=>Iff.rfl) (He L m n) w,<-Ym];exact Hv (λw=>(Fx L m w).symm) (λ_=>Iff.rfl) w
theorem Mf (L:Bi):∀ (n:Nat) (w:List UInt8),pw (λw=>L w\/w=[]) n w↔∃ k,k<=n/\pw L k w
 | 0,w=>by
  constructor
  ·intro h;exact⟨0,by omega,h⟩
  ·rintro⟨k,D,h⟩;obtain rfl:k=0:=by omega
   exact h
 | n+1,w=>by
  rw[Fx];constructor
  ·rintro⟨u,v,rfl,hu,hv⟩;obtain⟨k,D,h⟩:=(Mf L n v).1 hv;rcases hu with hu|rfl
   ·exact⟨k+1,by omega,(Fx L k _).2 ⟨u,v,rfl,hu,h⟩⟩
   ·exact⟨k,by omega,by simpa using h⟩
  ·rintro⟨k,D,h⟩;by_cases e:k=n+1
   ·subst e;obtain⟨u,v,rfl,hu,hv⟩:=(Fx L n w).1 h;exact⟨u,v,rfl,.inl hu,(Mf L n v).2 ⟨n,by omega,hv⟩⟩
   ·exact⟨[],w,rfl,.inr rfl,(Mf L n w).2 ⟨k,by omega,h⟩⟩
theorem S6 (L:Bi) (w:List UInt8):Star L w↔∃ k,pw L k w:=by
 constructor
 ·intro h;induction h with
  | nil=>exact⟨0,rfl⟩
  | app hu hv E=>
   obtain⟨k,D⟩:=E;refine⟨k+1,(He L k 1 _).2 ⟨_,_,rfl,D,?_⟩⟩;rw[Fx];exact (Q7 L _).2 hv
 ·rintro⟨k,D⟩;induction k generalizing w with
  | zero=>
   have:w=[]:=D;subst this;exact .nil
  | succ k E=>
   obtain⟨u,v,rfl,hu,hv⟩:=(He L k 1 w).1 D;have hv:L v:=by
    rw[Fx] at hv;exact (Q7 L _).1 hv
   exact .app (E u hu) hv
def rep (L:Bi) (D:Nat) (hi:Int):Bi:=λw=>∃ k,D<=k/\(hi<0\/(k:Int)<=hi)/\pw L k w
structure RNode where
 kind:Nat
 l:Nat
 r:Nat
 c:Cls
 min:Nat
 max:Int
def Mm (n:RNode) (l:List Bi):Bi:=
 if n.kind=1 then λ_=>False else if n.kind=2 then λw=>w=[] else if n.kind=3 then λw=>∃ x:UInt8,w=[x]/\n.c.getLsbD x.toNat=Ξ else
 if n.kind=4 then Cat (l.getD n.l λ_=>False) (l.getD n.r λ_=>False) else if n.kind=5 then λw=>l.getD n.l (λ_=>False) w\/l.getD n.r (λ_=>False) w else
 if n.kind=6 then λw=>l.getD n.l (λ_=>False) w/\l.getD n.r (λ_=>False) w else if n.kind=7 then λw=>¬ l.getD n.l (λ_=>False) w else rep (l.getD n.l λ_=>False) n.min n.max
def P5:List RNode->List Bi->List Bi
 | [],l=>l
 | n::x,l=>P5 x (l++[Mm n l])
def Fr (L:Bi) (r:Option Dfa):Prop:=∃ d,r=Δ d/\Cano d/\∀ w,d.has w=Ξ↔L w
def E0 (r:Option Dfa) (f:Dfa->Option Dfa->Prop) (q:Option Dfa):Prop:=match r with|none=>q=Γ|some d=>f d q
def Ee (p d:Dfa):Nat->Option Dfa->Prop
 | 0,r=>r=Δ p
 | n+1,r=>∃ q,E8 p d q/\E0 q (λD=>Ee D d n) r
def Ia (d:Dfa) (D:Nat) (hi:Int) (r:Option Dfa):Prop:=
 ∃ e,(Cano e/\∀ w,e.has w=Ξ↔w=[])/\∃ q,Ee e d D q/\E0 q (λp r=>if hi=D then r=Δ p else
  if hi<0 then ∃ s,Jt d s/\E0 s (λs r=>E8 p s r) r else ∃ o,Lim (λw=>d.has w=Ξ\/e.has w=Ξ) o/\E0 o (λo r=>Ee p o (hi-D).toNat r) r) r
def dN:Dfa:=⟨[],[],[]⟩
def G0 (n:RNode) (l:List Dfa) (r:Option Dfa):Prop:=
 if n.kind=1 then Fr (λ_=>False) r else if n.kind=2 then Fr (λw=>w=[]) r else if n.kind=3 then Fr (λw=>∃ x:UInt8,w=[x]/\n.c.getLsbD x.toNat=Ξ) r else
 if n.kind=4 then E8 (l.getD n.l dN) (l.getD n.r dN) r else if n.kind=5 then Lim (λw=>(l.getD n.l dN).has w=Ξ\/(l.getD n.r dN).has w=Ξ) r else
 if n.kind=6 then Lim (λw=>(l.getD n.l dN).has w=Ξ/\(l.getD n.r dN).has w=Ξ) r else if n.kind=7 then Fr (λw=>¬ (l.getD n.l dN).has w=Ξ) r else Ia (l.getD n.l dN) n.min n.max r
def E9:List RNode->List Dfa->Option Dfa->Prop
 | [],l,r=>r=Δ (l.getD (l.length-1) dN)
 | n::x,l,r=>∃ q,G0 n l q/\E0 q (λd=>E9 x (l++[d])) r
def Fit (d:Dfa) (L:Bi):Prop:=Cano d/\∀ w,d.has w=Ξ↔L w
theorem V5 {L:Bi} {d:Dfa} (h:Lim L (Δ d)):Fit d L:=⟨h.1,h.2.1⟩
theorem K6 {a b d:Dfa} {L M:Bi} (h:E8 a b (Δ d)) (ha:∀ w,a.has w=Ξ↔L w) (D:∀ w,b.has w=Ξ↔M w):Fit d (Cat L M)/\d.n.length<=64:=by
 obtain⟨x,y,J,T,U,ey,E,G⟩:=h;by_cases hm:B8 (cnx (Ae x) (Ae y)) (cst (Ae x)) 4096
 ·cases E hm
 ·obtain⟨k1,I,k3⟩:=G hm;exact⟨⟨k1,λw=>(I w).trans (Hv ha D w)⟩,k3⟩
theorem S9 {a d:Dfa} {L:Bi} (h:Jt a (Δ d)) (ha:∀ w,a.has w=Ξ↔L w):Fit d (Star L)/\d.n.length<=64:=by
 obtain⟨x,I,J,D,E⟩:=h;by_cases hm:B8 (snx (Ae x)) (1,1) 4096
 ·cases D hm
 ·obtain⟨k1,G,k3⟩:=E hm;refine⟨⟨k1,λw=>?_⟩,k3⟩;rw[G,show L=λw=>a.has w=Ξ from funext λw=>propext (ha w).symm]
theorem O6 {d:Dfa} {L:Bi} (hd:∀ w,d.has w=Ξ↔L w):∀ (n:Nat) (p:Dfa) (P:Bi) (q:Dfa),Fit p P->Ee p d n (Δ q)->Fit q (pwc P L n)
 | 0,p,P,q,D,h=>by
  injection (show Δ q=Δ p from h) with h
  subst h;exact D
 | n+1,p,P,q,D,⟨q',G,E⟩=>by
  cases q' with
  | none=>cases (show Δ q=Γ from E)
  | some I=>exact O6 hd n I (Cat P L) q (K6 G D.2 hd).1 E
theorem Ad1 {d q:Dfa} {L:Bi} {D:Nat} {hi:Int} (hd:∀ w,d.has w=Ξ↔L w) (ad:hi<0\/(D:Int)<=hi) (h:Ia d D hi (Δ q)):Fit q (rep L D hi):=by
 obtain⟨e,he,p,h1,E⟩:=h;cases p with
 | none=>cases (show Δ q=Γ from E)
 | some p=>
  have J:Fit p (pw L D):=O6 hd D e _ p ⟨he.1,he.2⟩ h1;change (if hi=(D:Int) then _ else _) at E
  by_cases U:hi=D
  ·rw[if_pos U] at E;injection E with E
   subst E;refine⟨J.1,λw=>(J.2 w).trans ?_⟩;constructor
   ·intro h;exact⟨D,ν _,.inr (by omega),h⟩
   ·rintro⟨k,k1,k2,h⟩;obtain rfl:k=D:=by omega
    exact h
  ·rw[if_neg U] at E;by_cases M:hi<0
   ·rw[if_pos M] at E;obtain⟨s,T,G⟩:=E;cases s with
    | none=>cases (show Δ q=Γ from G)
    | some s=>
     have hs:=(S9 T hd).1;have I:=(K6 (show E8 p s (Δ q) from G) J.2 hs.2).1;refine⟨I.1,λw=>(I.2 w).trans ?_⟩;rw[Hv (λ_=>Iff.rfl) (S6 L) w];constructor
     ·rintro⟨u,v,rfl,hu,k,hv⟩;exact⟨D+k,by omega,.inl M,(He L D k _).2 ⟨u,v,rfl,hu,hv⟩⟩
     ·rintro⟨k,k1,_,h⟩;obtain⟨m,rfl⟩:∃ m,k=D+m:=⟨k-D,by omega⟩;obtain⟨u,v,rfl,hu,hv⟩:=(He L D m w).1 h;exact⟨u,v,rfl,hu,m,hv⟩
   ·rw[if_neg M] at E;obtain⟨s,T,G⟩:=E;cases s with
    | none=>cases (show Δ q=Γ from G)
    | some s=>
     have hs:∀ w,s.has w=Ξ↔L w\/w=[]:=λw=>by
      refine (T.2.1 w).trans ?_;show (d.has w=Ξ\/e.has w=Ξ)↔_;rw[hd,he.2]
     have I:=O6 hs _ p _ q J G;refine⟨I.1,λw=>(I.2 w).trans ?_⟩;rw[Uf,Hv (λ_=>Iff.rfl) (Mf L _) w];constructor
     ·rintro⟨u,v,rfl,hu,k,hk,hv⟩;exact⟨D+k,by omega,.inr (by omega),(He L D k _).2 ⟨u,v,rfl,hu,hv⟩⟩
     ·rintro⟨k,k1,k2,h⟩;obtain⟨m,rfl⟩:∃ m,k=D+m:=⟨k-D,by omega⟩;obtain⟨u,v,rfl,hu,hv⟩:=(He L D m w).1 h;exact⟨u,v,rfl,hu,m,by omega,hv⟩
def RNode.good (n:RNode) (i:Nat):Prop:=(n.kind=4\/n.kind=5\/n.kind=6->n.l<i/\n.r<i)/\(n.kind=7\/n.kind=8->n.l<i)/\(n.max<0\/(n.min:Int)<=n.max)/\1<=n.kind/\n.kind<=8
def Nv (ds:List Dfa) (D:List Bi):Prop:=ds.length=D.length/\∀ i,i<ds.length->Fit (ds.getD i dN) (D.getD i λ_=>False)
theorem Agp {n:RNode} {ds:List Dfa} {T:List Bi} (E:Nv ds T) (hg:n.good ds.length) {d:Dfa} (h:G0 n ds (Δ d)):Fit d (Mm n T):=by
 obtain⟨J,U,g3,g4,g5⟩:=hg;have I:∀ {L:Bi},Fr L (Δ d)->Fit d L:=fun⟨e,M,e2,e3⟩=>by
  injection M with M
  subst M;exact⟨e2,e3⟩
 unfold G0 at h;unfold Mm;split at h
 ·rename_i c;rw[if_pos c];exact I h
 rename_i c1;rw[if_neg c1]
 split at h
 ·rename_i c;rw[if_pos c];exact I h
 rename_i c2;rw[if_neg c2]
 split at h
 ·rename_i c;rw[if_pos c];exact I h
 rename_i c3;rw[if_neg c3]
 split at h
 ·rename_i c;rw[if_pos c]
  obtain⟨D,G⟩:=J (.inl c);exact (K6 h (E.2 _ D).2 (E.2 _ G).2).1
 rename_i c4;rw[if_neg c4]
 split at h
 ·rename_i c;rw[if_pos c]
  obtain⟨D,G⟩:=J (.inr (.inl c));refine⟨h.1,λw=>(h.2.1 w).trans ?_⟩;simp only;rw[(E.2 _ D).2,(E.2 _ G).2]
 rename_i c5;rw[if_neg c5]
 split at h
 ·rename_i c;rw[if_pos c]
  obtain⟨D,G⟩:=J (.inr (.inr c));refine⟨h.1,λw=>(h.2.1 w).trans ?_⟩;simp only;rw[(E.2 _ D).2,(E.2 _ G).2]
 rename_i c6;rw[if_neg c6]
 split at h
 ·rename_i c;rw[if_pos c]
  have D:=U (.inl c);have:=I h;refine⟨this.1,λw=>(this.2 w).trans ?_⟩;simp only;rw[(E.2 _ D).2]
 rename_i c7;rw[if_neg c7]
 have D:=U (.inr (by omega));exact Ad1 (E.2 _ D).2 g3 h
theorem I7 {α:Type} (l:List α) (x d:α) (i:Nat):(l++[x]).getD i d=if i<l.length then l.getD i d else if i=l.length then x else d:=by
 by_cases h:i<l.length
 ·rw[if_pos h,Bt _ _ _ _ h]
 ·rw[if_neg h];by_cases e:i=l.length
  ·rw[if_pos e,e,Cm]
  ·rw[if_neg e,Η,Ϩ (by simp;omega)];rfl
theorem Akg {ds:List Dfa} {D:List Bi} (h:Nv ds D) {d:Dfa} {L:Bi} (hd:Fit d L):Nv (ds++[d]) (D++[L]):=by
 refine⟨by rw[Υ,Υ,h.1];rfl,λi hi=>?_⟩;rw[Υ,List.length_singleton] at hi;rw[I7,I7,<-h.1];by_cases e:i<ds.length
 ·rw[if_pos e,if_pos e];exact h.2 i e
 ·rw[if_neg e,if_neg e,if_pos (by omega),if_pos (by omega)];exact hd
def Wv:List RNode->Nat->Prop
 | [],_=>True
 | n::x,i=>n.good i/\Wv x (i+1)
theorem Yz:∀ (x:List RNode) (ds:List Dfa) (D:List Bi),Nv ds D->Wv x ds.length->(x=[]->0<ds.length)->∀ d,E9 x ds (Δ d)->Fit d ((P5 x D).getD ((P5 x D).length-1) λ_=>False)
 | [],ds,D,E,_,I,d,h=>by
  injection (show Δ d=Δ _ from h) with h
  subst h;show Fit _ (D.getD (D.length-1) _);rw[<-E.1];exact E.2 _ (by have:=I rfl;omega)
 | n::x,ds,D,E,hg,_,d,⟨q,J,G⟩=>by
  cases q with
  | none=>cases (show Δ d=Γ from G)
  | some e=>
   have he:=Agp E hg.1 J;exact Yz x (ds++[e]) (D++[Mm n D]) (Akg E he) (by rw[Υ];exact hg.2) (by intro _;simp) d G
end Go.Proofs.YtaiogolidlamiaaGreatDoor
