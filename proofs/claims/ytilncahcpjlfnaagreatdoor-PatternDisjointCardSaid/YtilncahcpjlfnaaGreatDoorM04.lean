import Derived.Test.YtilncahcpjlfnaaGreatDoorM03
set_option linter.unusedVariables false
set_option linter.unusedSimpArgs false
set_option maxRecDepth 100000
set_option maxHeartbeats 4000000
open Bool renaming false → Ε, true → Α
open Go renaming World → Γ, Value → Δ, TypeId → ϡ, cell_of_row → Τ, size_setRow → ù, Program → Þ, Calls → ϛ, info_parts → ϓ, heap_alloc2_new → ϒ, setRow_heap → Χ, wpList_make_full → Ϟ, maxLen → ϐ, wpList_append_lies → Ϙ, cell_one_new → Ý, frozen_of_row → È, setCell_eq_setRow → Ϭ, bodyPost_ret → ω
open Go.Act renaming put → η
open Go.Ending renaming returned → Ψ
open Go.IntKind renaming u64 → ζ, i64 → Φ, u64 → ϯ
open Go.Lib renaming hid → Z
open Go.Obj renaming cells → Β
open Go.Operand renaming tmp → δ
open Go.Proofs.Tryz renaming prog → Η, underlying84 → ϸ, underlying54 → Ϥ, underlying38 → ä, underlying40 → Ο, zeroCells84 → γ, underlying103 → Î
open Go.Value renaming slice → U, oneCell' → ξ, slice → Ϗ, bool → ϊ, tuple → ϗ
open Go.World renaming size_alloc → Ρ, ownsRow_nil → À, ownsRow → ϥ
open List renaming range → π, getD_eq_getElem?_getD → Ζ, drop_eq_getElem_cons → Ϝ, getElem?_eq_getElem → Ι, drop_zero → ϰ, getElem?_map → ν, length_map → ι, mem_range → ϔ, length_append → Ν, length_singleton → Ϩ, setIfInBounds_toArray → Θ, set_cons_zero → Μ, set_cons_succ → Λ, replicate → θ, map_append → ϩ, length_set → υ, ext_getElem? → Ϯ, getElem?_set → Ú, getElem?_append_left → χ, getElem?_append_right → ς, take_succ_cons → ú
open Nat renaming le_refl → Υ, le_trans → μ, lt_of_lt_of_le → Ξ, add_zero → è, le_of_eq → Ô
open Option renaming map_some → æ, getD_some → ϱ, none → I, some → J
open Option.some renaming inj → ό
namespace Go.Proofs.YtilncahcpjlfnaaGreatDoor
def De (w:List UInt8) (s:Nat):List Nat:=(π 256).map λb=>if s<w.length/\(w.getD s 0).toNat=b then s+1 else w.length+1
def C3 (w:List UInt8):Tbl:=⟨λb=>b,256,(π (w.length+2)).map (De w),(π (w.length+2)).map λs=>s==w.length⟩
theorem E0 {α:Type} (g:Nat->α) (n s:Nat) (d:α) (E:s<n):((π n).map g).getD s d=g s:=by simp[Ζ,E]
theorem Ky (w:List UInt8):(C3 w).n.length=w.length+2:=by simp[C3]
theorem Uj (w:List UInt8) (s k:Nat) (E:s<w.length+2) (G:k<256):(C3 w).ent2 s k=if s<w.length/\(w.getD s 0).toNat=k then s+1 else w.length+1:=by unfold Tbl.ent2;show (((π (w.length+2)).map (De w)).getD s []).getD k 0=_;rw[E0 _ _ _ _ E];unfold De;rw[E0 _ _ _ _ G]
theorem EM (w:List UInt8):TVal (C3 w) where
 pos:=by rw[Ky];omega
 accL:=by rw[Ky];simp[C3]
 row:=λs E=>by rw[Ky] at E;show (((π (w.length+2)).map (De w)).getD s []).length=256;rw[E0 _ _ _ _ E];simp[De]
 tgt:=λs E k G=>by rw[Ky] at E ⊢;rw[Uj w s k E G];split<;>omega
 cell_lt:=λb hb=>hb
 onto:=λk G=>⟨k,G,rfl⟩
theorem Ui (w:List UInt8) (s:Nat) (E:s<w.length+2):(C3 w).ok s=(s==w.length):=by unfold Tbl.ok;show ((π (w.length+2)).map λs=>s==w.length).getD s Ε=_;rw[E0 _ _ _ _ E]
theorem Ug (w:List UInt8) (s:Nat) (x:UInt8) (E:s<w.length+2):(C3 w).stp s x.toNat=if s<w.length/\w.getD s 0=x then s+1 else w.length+1:=by
 show (C3 w).ent2 s x.toNat=_;rw[Uj w s _ E x.toNat_lt]
 congr 1
 rw[UInt8.toNat_inj]
theorem Uk (w:List UInt8):∀ u:List UInt8,(C3 w).run (w.length+1) u=w.length+1
 | []=>rfl
 | x::u=>by show (C3 w).run ((C3 w).stp (w.length+1) x.toNat) u=_;rw[Ug w _ x (by omega),if_neg (by omega)];exact Uk w u
theorem Uh (w:List UInt8):∀ (u:List UInt8) (s:Nat),s<=w.length->((C3 w).ok ((C3 w).run s u)=Α↔u=w.drop s)
 | [],s,H=>by
  show (C3 w).ok s=Α↔_;rw[Ui w s (by omega)];constructor
  ·intro h;have:s=w.length:=by simpa using h
   rw[this,List.drop_length]
  intro h;have:=congrArg List.length h;rw[List.length_drop] at this;simp only[List.length_nil] at this;simp;omega
 | x::u,s,H=>by
  show (C3 w).ok ((C3 w).run ((C3 w).stp s x.toNat) u)=Α↔_;rw[Ug w s x (by omega)];by_cases h:s<w.length/\w.getD s 0=x
  ·rw[if_pos h,Uh w u (s+1) (by omega),Ϝ h.1];have:w[s]'h.1=x:=by have G:=h.2;rw[Ζ,Ι h.1] at G;exact G
   rw[this];simp
  rw[if_neg h,Uk,Ui w _ (by omega)];constructor
  ·intro h1;simp at h1
  intro h1;exfalso
  by_cases E:s<w.length
  ·rw[Ϝ E] at h1;injection h1 with h1 _
   exact h ⟨E,by rw[h1,Ζ,Ι E];rfl⟩
  rw[List.drop_eq_nil_of_le (by omega)] at h1;cases h1
theorem EN (w u:List UInt8):(C3 w).has u=Α↔u=w:=by have:=Uh w u 0 (by omega);rw[ϰ] at this;exact this
def Im (t:Tbl):Tbl:=⟨t.cell,t.cells,t.n,t.acc.map (!·)⟩
theorem Xj {t:Tbl} (h:TVal t):TVal (Im t) where
 pos:=h.pos
 accL:=by simp[Im,h.accL]
 row:=h.row
 tgt:=h.tgt
 cell_lt:=h.cell_lt
 onto:=h.onto
theorem Xk {t:Tbl} (h:TVal t) (w:List UInt8):(Im t).has w=!t.has w:=by
 have G:∀ (w:List UInt8) s,(Im t).run s w=t.run s w:=λ_ _=>rfl
 unfold Tbl.has;rw[G];have E:=h.run_lt w h.pos;unfold Tbl.ok Im;rw[Ζ,ν,Ι (by rw[h.accL];exact E),Ζ,Ι (by rw[h.accL];exact E)];rfl
def C0 (L:List Cls) (p:Cls->Bool):Dfa:=⟨L,[L.map λk=>if p k then 1 else 2,L.map λ_=>2,L.map λ_=>2],[Ε,Α,Ε]⟩
theorem PI {L:List Cls} (H:Parts L) (p:Cls->Bool):Val (C0 L p) where
 pos:=by simp[C0]
 accL:=rfl
 row:=λs E=>by
  have:s<3:=E
  match s,this with
  | 0,_=>simp[C0]
  | 1,_=>simp[C0]
  | 2,_=>simp[C0]
 tgt:=λs E k G=>by
  have E:s<3:=E;have G:k<L.length:=G;show (C0 L p).ent2 s k<3;unfold Dfa.ent2 C0
  match s,E with
  | 0,_=>simp[Ζ,G];split<;>omega
  | 1,_=>simp[Ζ,G]
  | 2,_=>simp[Ζ,G]
 parts:=H
theorem PJ {L:List Cls} (G:Parts L) (p:Cls->Bool) (c:Cls) (T:∀ b,b<256->(p (L.getD (Am L b) 0#256)=Α↔c.getLsbD b=Α)) (w:List UInt8):(C0 L p).has w=Α↔∃ x:UInt8,w=[x]/\c.getLsbD x.toNat=Α:=by
 have X:∀ b,b<256->(C0 L p).stp 0 b=if p (L.getD (Am L b) 0#256) then 1 else 2:=λb hb=>by have E:=cell_lt G hb;show ((L.map λk=>if p k then 1 else 2).getD (Am L b) 0)=_;simp only[Ζ,ν,Ι E,æ,ϱ]
 have s1:∀ b,b<256->(C0 L p).stp 1 b=2:=λb hb=>by have E:=cell_lt G hb;show ((L.map λ_=>2).getD (Am L b) 0)=_;simp only[Ζ,ν,Ι E,æ,ϱ]
 have s2:∀ b,b<256->(C0 L p).stp 2 b=2:=λb hb=>by have E:=cell_lt G hb;show ((L.map λ_=>2).getD (Am L b) 0)=_;simp only[Ζ,ν,Ι E,æ,ϱ]
 have H:∀ u:List UInt8,(C0 L p).run 2 u=2:=λu=>by
  induction u with
  | nil=>rfl
  | cons x u ih=>show (C0 L p).run ((C0 L p).stp 2 x.toNat) u=2;rw[s2 _ x.toNat_lt];exact ih
 match w with
 | []=>
  constructor
  ·intro h;exact absurd h (by show ¬ (Ε=Α);decide)
  rintro⟨x,h,_⟩;cases h
 | x::u=>
  show (C0 L p).ok ((C0 L p).run ((C0 L p).stp 0 x.toNat) u)=Α↔_;rw[X _ x.toNat_lt];have hx:=T _ x.toNat_lt;cases hc:p (L.getD (Am L x.toNat) 0#256)
  ·simp only[Bool.false_eq_true,if_false];rw[H];constructor
   ·intro h;exact absurd h (by show ¬ (Ε=Α);decide)
   rintro⟨y,h,hy⟩;injection h with h1 h2
   subst h1;rw[hc] at hx;exact absurd (hx.2 hy) (by decide)
  simp only[if_true]
  match u with
  | []=>
   constructor
   ·intro _;exact⟨x,rfl,hx.1 hc⟩
   intro _;rfl
  | y::v=>
   show (C0 L p).ok ((C0 L p).run ((C0 L p).stp 1 y.toNat) v)=Α↔_;rw[s1 _ y.toNat_lt,H];constructor
   ·intro h;exact absurd h (by show ¬ (Ε=Α);decide)
   rintro⟨z,h,_⟩;injection h with _ h;cases h
def D7 (c:Cls) (a:Bool):Dfa:=⟨[c],[[0]],[a]⟩
theorem LX (c:Cls) (hc:∀ b,b<256->c.getLsbD b=Α) (a:Bool) (w:List UInt8):(D7 c a).has w=a:=by
 have E:∀ b,b<256->(D7 c a).stp 0 b=0:=λb hb=>by
  unfold Dfa.stp Dfa.ent2 D7;have:Am [c] b=0:=by unfold Am;simp[hc b hb]
  rw[this];rfl
 have:∀ w:List UInt8,(D7 c a).run 0 w=0:=λw=>by
  induction w with
  | nil=>rfl
  | cons x u G=>show (D7 c a).run ((D7 c a).stp 0 x.toNat) u=0;rw[E _ x.toNat_lt];exact G
 unfold Dfa.has;rw[this];rfl
theorem LY (c:Cls) (hc:∀ b,b<256->c.getLsbD b=Α) (a:Bool):Cano (D7 c a) where
 val:=by
  refine⟨by simp[D7],rfl,λs E=>?_,λs E k G=>?_,⟨λx hx=>?_,by simp[D7],λi hi=>⟨c,by simp[D7],hc i hi⟩⟩⟩
  ·have:s<1:=E;obtain rfl:s=0:=by omega
   rfl
  ·have:s<1:=E;have G:k<1:=G;obtain rfl:s=0:=by omega
   obtain rfl:k=0:=by omega
   show (0:Nat)<1;omega
  simp[D7] at hx;subst hx;exact Ln (hc 0 (by omega))
 reach:=λs E=>⟨[],by have:s<1:=E;show 0=s;omega⟩
 red:=λs t E H _=>by have:s<1:=E;have:t<1:=H;omega
 col:=λi j hi T _=>by have:i<1:=hi;have:j<1:=T;omega
 srt:=by simp[D7]
 rgf:=λp X=>by
  have:p<1*1:=X;obtain rfl:p=0:=by omega
  have:(D7 c a).ent 0=0:=by simp[Dfa.ent,Dfa.ent2,D7]
  rw[this];omega
def Cx {σ:Type} (nx:σ->Nat->σ) (st:σ) (m:Nat):Prop:=∃ l:List σ,l.Nodup/\(∀ s,s∈l->∃ w,Aq nx st w=s)/\m<l.length
theorem N3 {σ:Type} [DecidableEq σ] {nx:σ->Nat->σ} {st:σ} {m:Nat} (M:List σ) (hM:∀ w,Aq nx st w∈M) (hm:M.length<=m):¬ Cx nx st m:=by
 rintro⟨l,E,G,T⟩;have:=D8 l M E λs H=>by obtain⟨w,rfl⟩:=G s H;exact hM w
 omega
def Lim (L:List UInt8->Prop):Option Dfa->Prop
 | some d=>Cano d/\(∀ w,d.has w=Α↔L w)/\d.n.length<=64
 | none=>∃ d,Cano d/\(∀ w,d.has w=Α↔L w)/\64<d.n.length
theorem I4 {d e:Dfa} {L:List UInt8->Prop} (hd:Cano d) (he:Cano e) (h:∀ w,d.has w=Α↔L w) (k:∀ w,e.has w=Α↔L w):d=e:=
 E8 hd he λw=>by rw[Bool.eq_iff_iff,h,k]
theorem Lz {L:List UInt8->Prop} {r G:Option Dfa} (h:Lim L r) (E:Lim L G):r=G:=by
 cases r<;>cases G
 ·rfl
 ·obtain⟨d,h1,H,X⟩:=h;obtain⟨k1,T,k3⟩:=E;have:=I4 h1 k1 H T;subst this;omega
 ·obtain⟨d,h1,H,X⟩:=E;obtain⟨k1,T,k3⟩:=h;have:=I4 h1 k1 H T;subst this;omega
 rw[I4 h.1 E.1 h.2.1 E.2.1]
theorem Gm {L M:List UInt8->Prop} {r:Option Dfa} (h:Lim L r) (E:∀ w,L w↔M w):Lim M r:=by rw[show M=L from funext λw=>propext (E w).symm];exact h
def Cp (a b:Dfa) (r:Option Dfa):Prop:=∃ x y,Cano x/\Cano y/\(∀ w,x.has w=a.has w)/\(∀ w,y.has w=b.has w)/\(Cx (cnx (Ai x) (Ai y)) (cst (Ai x)) 4096->r=I)/\(¬ Cx (cnx (Ai x) (Ai y)) (cst (Ai x)) 4096->Lim (Cat (λw=>a.has w=Α) λw=>b.has w=Α) r)
theorem Mk {a b:Dfa} {r E:Option Dfa} (h:Cp a b r) (G:Cp a b E):r=E:=by
 obtain⟨x,y,hx,H,T,X,h1,h2⟩:=h;obtain⟨x',y',ab,ad,ae,af,ag,ah⟩:=G;obtain rfl:=E8 hx ab λw=>by rw[T,ae]
 obtain rfl:=E8 H ad λw=>by rw[X,af]
 by_cases hm:Cx (cnx (Ai x) (Ai y)) (cst (Ai x)) 4096
 ·rw[h1 hm,ag hm]
 exact Lz (h2 hm) (ah hm)
def Hv (a:Dfa) (r:Option Dfa):Prop:=∃ x,Cano x/\(∀ w,x.has w=a.has w)/\(Cx (snx (Ai x)) (1,1) 4096->r=I)/\(¬ Cx (snx (Ai x)) (1,1) 4096->Lim (Star λw=>a.has w=Α) r)
theorem GK {a:Dfa} {r E:Option Dfa} (h:Hv a r) (G:Hv a E):r=E:=by
 obtain⟨x,hx,H,h1,T⟩:=h;obtain⟨x',X,aa,ab,ad⟩:=G;obtain rfl:=E8 hx X λw=>by rw[H,aa]
 by_cases hm:Cx (snx (Ai x)) (1,1) 4096
 ·rw[h1 hm,ab hm]
 exact Lz (T hm) (ad hm)
theorem Pl {y:Tbl} (E:TVal y) (S c:Nat) (hc:c<256):∀ n,n<=y.n.length->A5 y S c n<2 ^ y.n.length
 | 0,_=>Nat.two_pow_pos _
 | n+1,h=>by
  have G:=Pl E S c hc n (by omega);simp only[A5];split
  ·exact Nat.or_lt_two_pow G (Nat.pow_lt_pow_right (by omega) (E.stp_lt (by omega) hc))
  exact G
theorem W8 {S m:Nat} (hm:0<m) (h:S<2 ^ m):S ||| 1<2 ^ m:=Nat.or_lt_two_pow h (by
 have:=Nat.pow_lt_pow_right (show 1<2 by omega) hm
 simpa using this)
theorem BO {x y:Tbl} (hx:TVal x) (E:TVal y) (w:List UInt8):(Aq (cnx x y) (cst x) w).1<x.n.length/\(Aq (cnx x y) (cst x) w).2<2 ^ y.n.length:=by
 have hc:∀ p S,p<x.n.length->S<2 ^ y.n.length->(Gv x p S).1<x.n.length/\(Gv x p S).2<2 ^ y.n.length:=λp S H G=>by
  refine⟨H,?_⟩;unfold Gv;simp only;split
  ·exact W8 E.pos G
  exact G
 induction w using Hb with
 | h0=>exact hc 0 0 hx.pos (Nat.two_pow_pos _)
 | h1 w b T=>rw[E9];exact hc _ _ (hx.stp_lt T.1 b.toNat_lt) (Pl E _ _ b.toNat_lt _ (Υ _))
theorem U2 {x:Tbl} (hx:TVal x) (w:List UInt8):(Aq (snx x) (1,1) w).1<2/\(Aq (snx x) (1,1) w).2<2 ^ x.n.length:=by
 induction w using Hb with
 | h0=>
  refine⟨by show 1<2;omega,?_⟩;have:=Nat.pow_lt_pow_right (show 1<2 by omega) hx.pos;show 1<_
  simpa using this
 | h1 w b E=>
  rw[E9];refine⟨by show 0<2;omega,?_⟩;unfold snx;have:=Pl hx (Aq (snx x) (1,1) w).2 b.toNat b.toNat_lt _ (Υ _);simp only;split
  ·exact W8 hx.pos this
  exact this
def box (n m:Nat):List (Nat × Nat):=(π n).flatMap λp=>(π m).map λq=>(p,q)
theorem Tr (n m:Nat):(box n m).length=n*m:=by unfold box;rw[List.length_flatMap];simp only[ι,List.length_range];rw[Uz,List.length_range]
theorem Tq {n m:Nat} {s:Nat × Nat} (h1:s.1<n) (E:s.2<m):s∈box n m:=by unfold box;rw[List.mem_flatMap];exact⟨s.1,ϔ.2 h1,List.mem_map.2 ⟨s.2,ϔ.2 E,rfl⟩⟩
theorem WI {x y:Tbl} (hx:TVal x) (E:TVal y) (h:x.n.length*2 ^ y.n.length<=4096):¬ Cx (cnx x y) (cst x) 4096:=
 N3 (box x.n.length (2 ^ y.n.length)) (λw=>Tq (BO hx E w).1 (BO hx E w).2) (by rw[Tr];exact h)
theorem GG {x:Tbl} (hx:TVal x) (h:2*2 ^ x.n.length<=4096):¬ Cx (snx x) (1,1) 4096:=
 N3 (box 2 (2 ^ x.n.length)) (λw=>Tq (U2 hx w).1 (U2 hx w).2) (by rw[Tr];exact h)
abbrev Ag:=List UInt8->Prop
def wd1 (d:Dfa):Ag:=λw=>d.has w=Α
theorem Ht {L G M H:Ag} (h:∀ w,L w↔G w) (k:∀ w,M w↔H w) (w:List UInt8):Cat L M w↔Cat G H w:=by
 unfold Cat;constructor
 ·rintro⟨u,v,e,hu,E⟩;exact⟨u,v,e,(h u).1 hu,(k v).1 E⟩
 rintro⟨u,v,e,hu,E⟩;exact⟨u,v,e,(h u).2 hu,(k v).2 E⟩
theorem BR (L M N:Ag) (w:List UInt8):Cat (Cat L M) N w↔Cat L (Cat M N) w:=by
 constructor
 ·rintro⟨_,v,rfl,⟨a,b,rfl,E,hb⟩,G⟩;exact⟨a,b++v,by simp,E,b,v,rfl,hb,G⟩
 rintro⟨a,_,rfl,E,b,v,rfl,hb,G⟩;exact⟨a++b,v,by simp,⟨a,b,rfl,E,hb⟩,G⟩
theorem Oz (L:Ag) (w:List UInt8):Cat (λu=>u=[]) L w↔L w:=by
 constructor
 ·rintro⟨u,v,rfl,rfl,E⟩;simpa using E
 intro h;exact⟨[],w,rfl,rfl,h⟩
theorem I0 (L:Ag) (w:List UInt8):Cat L (λu=>u=[]) w↔L w:=by
 constructor
 ·rintro⟨u,v,rfl,hu,rfl⟩;simpa using hu
 intro h;exact⟨w,[],by simp,h,rfl⟩
def pwc (P L:Ag):Nat->Ag
 | 0=>P
 | n+1=>pwc (Cat P L) L n
theorem Wi {P E L G:Ag} (h:∀ w,P w↔E w) (k:∀ w,L w↔G w) (n:Nat) (w:List UInt8):pwc P L n w↔pwc E G n w:=by rw[show P=E from funext λw=>propext (h w),show L=G from funext λw=>propext (k w)]
theorem Wj (A P L:Ag):∀ (n:Nat) (w:List UInt8),pwc (Cat A P) L n w↔Cat A (pwc P L n) w
 | 0,w=>Iff.rfl
 | n+1,w=>by show pwc (Cat (Cat A P) L) L n w↔Cat A (pwc (Cat P L) L n) w;rw[<-Wj A (Cat P L) L n w];exact Wi (λw=>BR A P L w) (λ_=>Iff.rfl) n w
def pw (L:Ag) (n:Nat):Ag:=pwc (λw=>w=[]) L n
theorem Wh (P L:Ag) (n:Nat) (w:List UInt8):pwc P L n w↔Cat P (pw L n) w:=by rw[pw,<-Wj];exact Wi (λw=>(I0 P w).symm) (λ_=>Iff.rfl) n w
theorem F6 (L:Ag) (n:Nat) (w:List UInt8):pw L (n+1) w↔Cat L (pw L n) w:=by show pwc (Cat (λw=>w=[]) L) L n w↔_;rw[Wh];exact Ht (Oz L) (λ_=>Iff.rfl) w
theorem Hf (L:Ag):∀ (m n:Nat) (w:List UInt8),pw L (m+n) w↔Cat (pw L m) (pw L n) w
 | 0,n,w=>by rw[Nat.zero_add];exact (Oz _ w).symm
 | m+1,n,w=>by rw[show m+1+n=(m+n)+1 by omega,F6];rw[Ht (λ_=>Iff.rfl) (Hf L m n) w,<-BR];exact Ht (λw=>(F6 L m w).symm) (λ_=>Iff.rfl) w
theorem Nl (L:Ag):∀ (n:Nat) (w:List UInt8),pw (λw=>L w\/w=[]) n w↔∃ k,k<=n/\pw L k w
 | 0,w=>by
  constructor
  ·intro h;exact⟨0,by omega,h⟩
  rintro⟨k,G,h⟩;obtain rfl:k=0:=by omega
  exact h
 | n+1,w=>by
  rw[F6];constructor
  ·rintro⟨u,v,rfl,hu,E⟩;obtain⟨k,G,h⟩:=(Nl L n v).1 E;rcases hu with hu|rfl
   ·exact⟨k+1,by omega,(F6 L k _).2 ⟨u,v,rfl,hu,h⟩⟩
   exact⟨k,by omega,by simpa using h⟩
  rintro⟨k,G,h⟩;by_cases e:k=n+1
  ·subst e;obtain⟨u,v,rfl,hu,E⟩:=(F6 L n w).1 h;exact⟨u,v,rfl,.inl hu,(Nl L n v).2 ⟨n,by omega,E⟩⟩
  exact⟨[],w,rfl,.inr rfl,(Nl L n w).2 ⟨k,by omega,h⟩⟩
theorem Pv (L:Ag) (w:List UInt8):Star L w↔∃ k,pw L k w:=by
 constructor
 ·intro h;induction h with
  | nil=>exact⟨0,rfl⟩
  | app hu E H=>obtain⟨k,G⟩:=H;refine⟨k+1,(Hf L k 1 _).2 ⟨_,_,rfl,G,?_⟩⟩;rw[F6];exact (I0 L _).2 E
 rintro⟨k,G⟩;induction k generalizing w with
 | zero=>have:w=[]:=G;subst this;exact .nil
 | succ k H=>
  obtain⟨u,v,rfl,hu,E⟩:=(Hf L k 1 w).1 G;have E:L v:=by rw[F6] at E;exact (I0 L _).1 E
  exact .app (H u hu) E
def rep (L:Ag) (E:Nat) (hi:Int):Ag:=λw=>∃ k,E<=k/\(hi<0\/(k:Int)<=hi)/\pw L k w
structure RNode where
 kind:Nat
 l:Nat
 r:Nat
 c:Cls
 min:Nat
 max:Int
def B6 (n:RNode) (l:List Ag):Ag:=
 if n.kind=1 then λ_=>False else if n.kind=2 then λw=>w=[] else if n.kind=3 then λw=>∃ x:UInt8,w=[x]/\n.c.getLsbD x.toNat=Α else
 if n.kind=4 then Cat (l.getD n.l λ_=>False) (l.getD n.r λ_=>False) else if n.kind=5 then λw=>l.getD n.l (λ_=>False) w\/l.getD n.r (λ_=>False) w else
 if n.kind=6 then λw=>l.getD n.l (λ_=>False) w/\l.getD n.r (λ_=>False) w else if n.kind=7 then λw=>¬ l.getD n.l (λ_=>False) w else rep (l.getD n.l λ_=>False) n.min n.max
def Cl:List RNode->List Ag->List Ag
 | [],l=>l
 | n::x,l=>Cl x (l++[B6 n l])
def Fb (L:Ag) (r:Option Dfa):Prop:=∃ d,r=J d/\Cano d/\∀ w,d.has w=Α↔L w
def Eo (r:Option Dfa) (f:Dfa->Option Dfa->Prop) (q:Option Dfa):Prop:=match r with|none=>q=I|some d=>f d q
def Dr (p d:Dfa):Nat->Option Dfa->Prop
 | 0,r=>r=J p
 | n+1,r=>∃ q,Cp p d q/\Eo q (λE=>Dr E d n) r
def Fa (d:Dfa) (E:Nat) (hi:Int) (r:Option Dfa):Prop:=
 ∃ e,(Cano e/\∀ w,e.has w=Α↔w=[])/\∃ q,Dr e d E q/\Eo q (λp r=>if hi=E then r=J p else
  if hi<0 then ∃ s,Hv d s/\Eo s (λs r=>Cp p s r) r else ∃ o,Lim (λw=>d.has w=Α\/e.has w=Α) o/\Eo o (λo r=>Dr p o (hi-E).toNat r) r) r
def dN:Dfa:=⟨[],[],[]⟩
def F2 (n:RNode) (l:List Dfa) (r:Option Dfa):Prop:=
 if n.kind=1 then Fb (λ_=>False) r else if n.kind=2 then Fb (λw=>w=[]) r else if n.kind=3 then Fb (λw=>∃ x:UInt8,w=[x]/\n.c.getLsbD x.toNat=Α) r else
 if n.kind=4 then Cp (l.getD n.l dN) (l.getD n.r dN) r else if n.kind=5 then Lim (λw=>(l.getD n.l dN).has w=Α\/(l.getD n.r dN).has w=Α) r else
 if n.kind=6 then Lim (λw=>(l.getD n.l dN).has w=Α/\(l.getD n.r dN).has w=Α) r else if n.kind=7 then Fb (λw=>¬ (l.getD n.l dN).has w=Α) r else Fa (l.getD n.l dN) n.min n.max r
def Dn:List RNode->List Dfa->Option Dfa->Prop
 | [],l,r=>r=J (l.getD (l.length-1) dN)
 | n::x,l,r=>∃ q,F2 n l q/\Eo q (λd=>Dn x (l++[d])) r
theorem Mn {L:Ag} {r E:Option Dfa} (h:Fb L r) (G:Fb L E):r=E:=by obtain⟨d,rfl,h1,H⟩:=h;obtain⟨d',rfl,T,X⟩:=G;rw[I4 h1 T H X]
theorem Kh {q:Option Dfa} {f:Dfa->Option Dfa->Prop} {r E:Option Dfa} (H:∀ d r E,f d r->f d E->r=E) (h:Eo q f r) (G:Eo q f E):r=E:=by
 cases q with
 | none=>exact h.trans G.symm
 | some d=>exact H d r E h G
theorem Ql (d:Dfa):∀ (n:Nat) (p:Dfa) {r E:Option Dfa},Dr p d n r->Dr p d n E->r=E
 | 0,p,r,E,h,G=>h.trans G.symm
 | n+1,p,r,E,⟨q,h1,H⟩,⟨q',T,X⟩=>by obtain rfl:=Mk h1 T;exact Kh (λd' _ _=>Ql d n d') H X
theorem JO {d:Dfa} {G:Nat} {hi:Int} {r E:Option Dfa} (h:Fa d G hi r) (H:Fa d G hi E):r=E:=by
 obtain⟨e,he,q,h1,h2⟩:=h;obtain⟨e',ad,q',af,ag⟩:=H;obtain rfl:=I4 he.1 ad.1 he.2 ad.2;obtain rfl:=Ql d G e h1 af;refine Kh (λp r E k k'=>?_) h2 ag;by_cases c1:hi=G
 ·rw[if_pos c1] at k k';exact k.trans k'.symm
 rw[if_neg c1] at k k';by_cases c2:hi<0
 ·rw[if_pos c2] at k k';obtain⟨s,T,X⟩:=k;obtain⟨s',aa,ab⟩:=k';obtain rfl:=GK T aa;exact Kh (λd r E (h:Cp p d r) (H:Cp p d E)=>Mk h H) X ab
 rw[if_neg c2] at k k';obtain⟨s,T,X⟩:=k;obtain⟨s',aa,ab⟩:=k';obtain rfl:=Lz T aa;exact Kh (λo _ _=>Ql o _ p) X ab
theorem MW {n:RNode} {l:List Dfa} {r G:Option Dfa} (h:F2 n l r) (E:F2 n l G):r=G:=by
 unfold F2 at h E;split at h
 ·rename_i c;rw[if_pos c] at E;exact Mn h E
 rename_i c1;rw[if_neg c1] at E
 split at h
 ·rename_i c;rw[if_pos c] at E;exact Mn h E
 rename_i c2;rw[if_neg c2] at E
 split at h
 ·rename_i c;rw[if_pos c] at E;exact Mn h E
 rename_i H;rw[if_neg H] at E
 split at h
 ·rename_i c;rw[if_pos c] at E;exact Mk h E
 rename_i T;rw[if_neg T] at E
 split at h
 ·rename_i c;rw[if_pos c] at E;exact Lz h E
 rename_i X;rw[if_neg X] at E
 split at h
 ·rename_i c;rw[if_pos c] at E;exact Lz h E
 rename_i c6;rw[if_neg c6] at E
 split at h
 ·rename_i c;rw[if_pos c] at E;exact Mn h E
 rename_i c7;rw[if_neg c7] at E
 exact JO h E
theorem Tp:∀ (x:List RNode) (l:List Dfa) {r E:Option Dfa},Dn x l r->Dn x l E->r=E
 | [],l,r,E,h,G=>h.trans G.symm
 | n::x,l,r,E,⟨q,h1,H⟩,⟨q',T,X⟩=>by obtain rfl:=MW h1 T;exact Kh (λd _ _=>Tp x (l++[d])) H X
def Fit (d:Dfa) (L:Ag):Prop:=Cano d/\∀ w,d.has w=Α↔L w
theorem Q9 {L:Ag} {d:Dfa} (h:Lim L (J d)):Fit d L:=⟨h.1,h.2.1⟩
theorem I3 {a b d:Dfa} {L M:Ag} (h:Cp a b (J d)) (E:∀ w,a.has w=Α↔L w) (hb:∀ w,b.has w=Α↔M w):Fit d (Cat L M)/\d.n.length<=64:=by
 obtain⟨x,y,hx,T,X,ey,h1,G⟩:=h;by_cases hm:Cx (cnx (Ai x) (Ai y)) (cst (Ai x)) 4096
 ·cases h1 hm
 obtain⟨k1,H,k3⟩:=G hm;exact⟨⟨k1,λw=>(H w).trans (Ht E hb w)⟩,k3⟩
theorem U3 {a d:Dfa} {L:Ag} (h:Hv a (J d)) (E:∀ w,a.has w=Α↔L w):Fit d (Star L)/\d.n.length<=64:=by
 obtain⟨x,hx,T,h1,G⟩:=h;by_cases hm:Cx (snx (Ai x)) (1,1) 4096
 ·cases h1 hm
 obtain⟨k1,H,k3⟩:=G hm;refine⟨⟨k1,λw=>?_⟩,k3⟩;rw[H,show L=λw=>a.has w=Α from funext λw=>propext (E w).symm]
theorem Qm {d:Dfa} {L:Ag} (hd:∀ w,d.has w=Α↔L w):∀ (n:Nat) (p:Dfa) (P:Ag) (q:Dfa),Fit p P->Dr p d n (J q)->Fit q (pwc P L n)
 | 0,p,P,q,E,h=>by
  injection (show J q=J p from h) with h
  subst h;exact E
 | n+1,p,P,q,E,⟨q',h1,G⟩=>by
  cases q' with
  | none=>cases (show J q=I from G)
  | some H=>exact Qm hd n H (Cat P L) q (I3 h1 E.2 hd).1 G
theorem JP {d q:Dfa} {L:Ag} {E:Nat} {hi:Int} (hd:∀ w,d.has w=Α↔L w) (af:hi<0\/(E:Int)<=hi) (h:Fa d E hi (J q)):Fit q (rep L E hi):=by
 obtain⟨e,he,p,h1,G⟩:=h;cases p with
 | none=>cases (show J q=I from G)
 | some p=>
  have hp:Fit p (pw L E):=Qm hd E e _ p ⟨he.1,he.2⟩ h1;change (if hi=(E:Int) then _ else _) at G
  by_cases c1:hi=E
  ·rw[if_pos c1] at G;injection G with G
   subst G;refine⟨hp.1,λw=>(hp.2 w).trans ?_⟩;constructor
   ·intro h;exact⟨E,Υ _,.inr (by omega),h⟩
   rintro⟨k,k1,k2,h⟩;obtain rfl:k=E:=by omega
   exact h
  rw[if_neg c1] at G;by_cases c2:hi<0
  ·rw[if_pos c2] at G;obtain⟨s,s1,T⟩:=G;cases s with
   | none=>cases (show J q=I from T)
   | some s=>
    have hs:=(U3 s1 hd).1;have X:=(I3 (show Cp p s (J q) from T) hp.2 hs.2).1;refine⟨X.1,λw=>(X.2 w).trans ?_⟩;rw[Ht (λ_=>Iff.rfl) (Pv L) w];constructor
    ·rintro⟨u,v,rfl,hu,k,H⟩;exact⟨E+k,by omega,.inl c2,(Hf L E k _).2 ⟨u,v,rfl,hu,H⟩⟩
    rintro⟨k,k1,_,h⟩;obtain⟨m,rfl⟩:∃ m,k=E+m:=⟨k-E,by omega⟩;obtain⟨u,v,rfl,hu,H⟩:=(Hf L E m w).1 h;exact⟨u,v,rfl,hu,m,H⟩
  rw[if_neg c2] at G;obtain⟨s,s1,T⟩:=G;cases s with
  | none=>cases (show J q=I from T)
  | some s=>
   have hs:∀ w,s.has w=Α↔L w\/w=[]:=λw=>by refine (s1.2.1 w).trans ?_;show (d.has w=Α\/e.has w=Α)↔_;rw[hd,he.2]
   have X:=Qm hs _ p _ q hp T;refine⟨X.1,λw=>(X.2 w).trans ?_⟩;rw[Wh,Ht (λ_=>Iff.rfl) (Nl L _) w];constructor
   ·rintro⟨u,v,rfl,hu,k,hk,H⟩;exact⟨E+k,by omega,.inr (by omega),(Hf L E k _).2 ⟨u,v,rfl,hu,H⟩⟩
   rintro⟨k,k1,k2,h⟩;obtain⟨m,rfl⟩:∃ m,k=E+m:=⟨k-E,by omega⟩;obtain⟨u,v,rfl,hu,H⟩:=(Hf L E m w).1 h;exact⟨u,v,rfl,hu,m,by omega,H⟩
def RNode.good (n:RNode) (i:Nat):Prop:=(n.kind=4\/n.kind=5\/n.kind=6->n.l<i/\n.r<i)/\(n.kind=7\/n.kind=8->n.l<i)/\(n.max<0\/(n.min:Int)<=n.max)/\1<=n.kind/\n.kind<=8
def Pd (ds:List Dfa) (ls:List Ag):Prop:=ds.length=ls.length/\∀ i,i<ds.length->Fit (ds.getD i dN) (ls.getD i λ_=>False)
theorem MY {n:RNode} {ds:List Dfa} {ls:List Ag} (G:Pd ds ls) (hg:n.good ds.length) {d:Dfa} (h:F2 n ds (J d)):Fit d (B6 n ls):=by
 obtain⟨X,g2,g3,g4,g5⟩:=hg;have T:∀ {L:Ag},Fb L (J d)->Fit d L:=fun⟨e,e1,e2,e3⟩=>by
  injection e1 with e1
  subst e1;exact⟨e2,e3⟩
 unfold F2 at h;unfold B6;split at h
 ·rename_i c;rw[if_pos c];exact T h
 rename_i c1;rw[if_neg c1]
 split at h
 ·rename_i c;rw[if_pos c];exact T h
 rename_i c2;rw[if_neg c2]
 split at h
 ·rename_i c;rw[if_pos c];exact T h
 rename_i c3;rw[if_neg c3]
 split at h
 ·rename_i c;rw[if_pos c]
  obtain⟨E,H⟩:=X (.inl c);exact (I3 h (G.2 _ E).2 (G.2 _ H).2).1
 rename_i c4;rw[if_neg c4]
 split at h
 ·rename_i c;rw[if_pos c]
  obtain⟨E,H⟩:=X (.inr (.inl c));refine⟨h.1,λw=>(h.2.1 w).trans ?_⟩;simp only;rw[(G.2 _ E).2,(G.2 _ H).2]
 rename_i c5;rw[if_neg c5]
 split at h
 ·rename_i c;rw[if_pos c]
  obtain⟨E,H⟩:=X (.inr (.inr c));refine⟨h.1,λw=>(h.2.1 w).trans ?_⟩;simp only;rw[(G.2 _ E).2,(G.2 _ H).2]
 rename_i c6;rw[if_neg c6]
 split at h
 ·rename_i c;rw[if_pos c]
  have E:=g2 (.inl c);have:=T h;refine⟨this.1,λw=>(this.2 w).trans ?_⟩;simp only;rw[(G.2 _ E).2]
 rename_i c7;rw[if_neg c7]
 have E:=g2 (.inr (by omega));exact JP (G.2 _ E).2 g3 h
theorem Og {α:Type} (l:List α) (x d:α) (i:Nat):(l++[x]).getD i d=if i<l.length then l.getD i d else if i=l.length then x else d:=by
 by_cases h:i<l.length
 ·rw[if_pos h,Ca _ _ _ _ h]
 rw[if_neg h];by_cases e:i=l.length
 ·rw[if_pos e,e,Dx]
 rw[if_neg e,Ζ,List.getElem?_eq_none (by simp;omega)];rfl
theorem TG {ds:List Dfa} {ls:List Ag} (h:Pd ds ls) {d:Dfa} {L:Ag} (hd:Fit d L):Pd (ds++[d]) (ls++[L]):=by
 refine⟨by rw[Ν,Ν,h.1];rfl,λi hi=>?_⟩;rw[Ν,Ϩ] at hi;rw[Og,Og,<-h.1];by_cases e:i<ds.length
 ·rw[if_pos e,if_pos e];exact h.2 i e
 rw[if_neg e,if_neg e,if_pos (by omega),if_pos (by omega)];exact hd
def Rx:List RNode->Nat->Prop
 | [],_=>True
 | n::x,i=>n.good i/\Rx x (i+1)
theorem CH:∀ (x:List RNode) (ds:List Dfa) (ls:List Ag),Pd ds ls->Rx x ds.length->(x=[]->0<ds.length)->∀ d,Dn x ds (J d)->Fit d ((Cl x ls).getD ((Cl x ls).length-1) λ_=>False)
 | [],ds,ls,E,_,h0,d,h=>by
  injection (show J d=J _ from h) with h
  subst h;show Fit _ (ls.getD (ls.length-1) _);rw[<-E.1];exact E.2 _ (by have:=h0 rfl;omega)
 | n::x,ds,ls,E,hg,_,d,⟨q,h1,G⟩=>by
  cases q with
  | none=>cases (show J d=I from G)
  | some e=>have he:=MY E hg.1 h1;exact CH x (ds++[e]) (ls++[B6 n ls]) (TG E he) (by rw[Ν];exact hg.2) (by intro _;simp) d G
open Go.RowKit Go.Shelf
theorem Sl.setRow {W:Γ} {v:Δ} {k n:Nat} {f:Nat->Δ} {g:Nat} {cs:Array Δ} {e:ϡ} {fr:Nat × Nat} (h:Sl W v k n f) (hg:W.heap[g]? = J (Β cs e fr)) (H:∀ i,i<n*k->∀ o:Nat,cs[o]?≠J (f i)) (h0:0<k) (G:Array Δ):Sl (W.setRow g G) v k n f:=by
 obtain⟨h1,h|⟨E,b,T,X,hv,hb,hc⟩⟩:=h
 ·exact⟨h1,.inl h⟩
 have ab:b≠g:=λe=>by subst e;have:=hc 0 (Nat.mul_pos E h0);rw[Τ W b _ cs _ fr hg] at this;exact H 0 (Nat.mul_pos E h0) _ this
 exact⟨h1,.inr ⟨E,b,T,X,hv,by rw[ù];exact hb,λi hi=>(BK W g G _ ab).trans (hc i hi)⟩⟩
theorem Em {P:Þ} {o:Oper} {a:Act} {w:Γ} (ty:ϡ) (x:Operand) (E:o.op=.load ty x) (g:Nat) (hx:a.eval x=.pointer (J ⟨g,0,I⟩)) (t:ϡ) (cs:Array Δ) (fr:Nat × Nat) (d:TypeDesc) (hg:w.heap[g]? = J (Β cs t fr))
  (hu:P.underlying ty=J d) (hd:(match d with|.struct _|.array _ _=>Α|_=>Ε)=Α) (hi:(P.info? ty).map (·.size)=J cs.size):(execOp a.eval o).run P w=.ok (.value (.agg cs)) w:=by
 unfold execOp;simp only[E,hx,Instr.loadAt,Instr.sureAddr,Sem.run_bind,Sem.run_pure,Result.andThen_ok,run_loadVar_row w g t ty cs fr d hg hu hd hi]
theorem Ae:(Η.info? 40).map (·.size)=J 3:=by kernel_rfl
def dA (vc E G:Δ):Array Δ:=#[vc,E,G]
theorem Av (vc E G:Δ) (h1:vc.oneCell'=Α) (H:E.oneCell'=Α) (T:G.oneCell'=Α):(dA vc E G).all (·.oneCell')=Α:=by simp[dA,h1,H,T]
theorem XF (a:Option Addr) (n c:Nat):Η.built 40 [(0,U a n c)]=J (dA (U a n c) (U I 0 0) (U I 0 0)):=by kernel_rfl
def RowsO (W:Γ) (base:Nat) (vs:List Δ) (N:List (List Nat)) (av:Option Nat->Prop):Prop:=
 vs.length=N.length/\∀ j,j<N.length->OwnI W base (vs.getD j undef) (N.getD j [])/\¬ av (vs.getD j undef).ownBlock
theorem RowsO.kept {W W':Γ} {base:Nat} {vs:List Δ} {N:List (List Nat)} {av:Option Nat->Prop} {row:Option Nat} (h:RowsO W base vs N av) (hg:W.grownBy W' row)
  (G:∀ v l,OwnI W base v l->¬ av v.ownBlock->v.ownBlock=I\/v.ownBlock≠row):RowsO W' base vs N av:=
 ⟨h.1,λj E=>⟨(h.2 j E).1.kept hg (G _ _ (h.2 j E).1 (h.2 j E).2),(h.2 j E).2⟩⟩
theorem RowsO.alloc {W:Γ} {base:Nat} {vs:List Δ} {N:List (List Nat)} {av:Option Nat->Prop} (h:RowsO W base vs N av) (o:Obj):RowsO (W.alloc o) base vs N av:=
 ⟨h.1,λj E=>⟨(h.2 j E).1.alloc o,(h.2 j E).2⟩⟩
theorem RowsO.av {W:Γ} {base:Nat} {vs:List Δ} {N:List (List Nat)} {av av':Option Nat->Prop} (h:RowsO W base vs N av) (G:∀ v l,OwnI W base v l->¬ av v.ownBlock->¬ av' v.ownBlock):RowsO W base vs N av':=
 ⟨h.1,λj E=>⟨(h.2 j E).1,G _ _ (h.2 j E).1 (h.2 j E).2⟩⟩
theorem RowsO.snoc {W:Γ} {base:Nat} {vs:List Δ} {N:List (List Nat)} {av:Option Nat->Prop} (h:RowsO W base vs N av) {v:Δ} {r:List Nat} (E:OwnI W base v r) (G:¬ av v.ownBlock):RowsO W base (vs++[v]) (N++[r]) av:=by
 refine⟨by simp[h.1],λj H=>?_⟩;rw[Ν,Ϩ] at H;by_cases e:j<N.length
 ·rw[Ca _ _ _ _ (by rw[h.1];exact e),Ca _ _ _ _ e];exact h.2 j e
 obtain rfl:j=N.length:=by omega
 have:(vs++[v]).getD N.length undef=v:=by rw[<-h.1];exact Dx _ _ _
 rw[this,Dx];exact⟨E,G⟩
theorem RowsO.rows {W:Γ} {base b':Nat} {vs:List Δ} {N:List (List Nat)} {av:Option Nat->Prop} (h:RowsO W base vs N av) {v:Δ} (E:W.ownsRow b' 54 1 v vs.length vs) (G:N.length<=4611686018427387904) (H:∀ j,j<N.length->(N.getD j []).length<=4611686018427387904):Rows W v N:=by refine⟨vs,h.1,?_,λi hi=>(h.2 i hi).1.ints (H i hi)⟩;have:=Sl.of_owns E (by rw[h.1];exact G) undef;rw[h.1] at this;exact this
def Near (W W':Γ):Prop:=W.heap.size<=W'.heap.size/\∀ k,k<W.heap.size->W'.heap[k]? = W.heap[k]?\/∃ cs fr,W.heap[k]? = J (Β cs 84 fr)/\∀ (o:Nat) x,cs[o]?≠J (.int ζ x)
theorem Near.of_ext {W W':Γ} (h:Ext W W'):Near W W':=⟨h.size,λ_ E=>.inl (h.block E)⟩
theorem Near.pre {W E G:Γ} (h:Ext W E) (h1:Near E G):Near W G:=⟨μ h.size h1.1,λk H=>by
 have:=h1.2 k (Ξ H h.size)
 rwa [h.block H] at this⟩
theorem Near.setRow {W W':Γ} (h:Near W W') {g:Nat} {E:Array Δ} {fr:Nat × Nat} (hg:W'.heap[g]? = J (Β E 84 fr)) (H:∀ (o:Nat) x,E[o]?≠J (.int ζ x)) (cs:Array Δ):Near W (W'.setRow g cs):=by
 refine⟨by rw[ù];exact h.1,λk G=>?_⟩;by_cases e:k=g
 ·subst e;rcases h.2 k G with h1|h1
  ·exact .inr ⟨E,fr,by rw[<-h1,hg],H⟩
  exact .inr h1
 rw[setRow_other _ _ _ _ e];exact h.2 k G
theorem Near.owns {W W':Γ} (h:Near W W') {base e size:Nat} {v:Δ} {n:Nat} {xs:List Δ} (G:W.ownsRow base e size v n xs) (he:e≠84):W'.ownsRow base e size v n xs:=by
 obtain⟨h1,H|⟨g,T,cur,X,hb,hg,rest⟩⟩:=G
 ·exact⟨h1,.inl H⟩
 refine⟨h1,.inr ⟨g,T,cur,X,hb,?_,rest⟩⟩;rcases h.2 g (Al hg) with E|⟨cs,fr,E,_⟩
 ·rw[E,hg]
 rw[hg] at E;injection E with E
 injection E with _ E
 exact absurd E he
theorem Near.rows {W W':Γ} (h:Near W W') {base:Nat} {vs:List Δ} {N:List (List Nat)} {av:Option Nat->Prop} (E:RowsO W base vs N av):RowsO W' base vs N av:=
 ⟨E.1,λj G=>⟨h.owns (E.2 j G).1 (by decide),(E.2 j G).2⟩⟩
theorem Near.cls {W W':Γ} (h:Near W W') {v:Δ} {C:List Cls} (hc:Cs W v C):Cs W' v C:=by
 obtain⟨h1,H|⟨T,b,X,aa,hv,hb,E⟩⟩:=hc
 ·exact⟨h1,.inl H⟩
 have ad:W'.heap[b]? = W.heap[b]? := by
  have ae:b<W.heap.size:=by
   have:=E 0 (by omega);rcases Nat.lt_or_ge b W.heap.size with h|h
   ·exact h
   simp[Γ.cell?,Array.getElem?_eq_none h] at this
  rcases h.2 b ae with G|⟨cs,fr,G,h4⟩
  ·exact G
  have:=E 0 (by omega);rw[Τ W b _ cs _ fr G] at this;exact absurd this (h4 _ _)
 exact⟨h1,.inr ⟨T,b,X,aa,hv,μ hb h.1,λi hi=>(Γ.cell?_of_block ad).trans (E i hi)⟩⟩
theorem Tf (t:Tbl) (hv:TVal t) (hn:t.n.length<=65536) (A:Array Δ) (w:Γ) (h:IsT w A t) :
  ϛ Η 39 #[.agg A] w λe w'=>∃ v d,e=Ψ v/\(∀ W,Near w' W->IsD W v d)/\Cano d/\(∀ u,d.has u=t.has u)/\Ext w w':=by
 obtain⟨bn,on,cn,ba,oa,ca,il,ei,lr,fl,bk,b7,hR,ir⟩:=h.opened hv;have fm:=hv.pos;have oq:=hv.cpos;have ot:=hv.cle;have HR:=Z hR;have HV:=Z hv;have lv:=Z ir;have fs:=Z h;have HS:=Z il;obtain⟨i0,hi,fu,fv,fw⟩:=ϓ Dw;obtain⟨i4,l2,l3,l4,l5⟩:=ϓ Fi;obtain⟨i6,l7,l8,l9,ma⟩:=ϓ (show (Η.info? 54).map (λi=>(i.zero,i.size,i.bytes))=J (J (U I 0 0),1,24) by kernel_rfl);have dk:=((Κ w).alloc (Β A 84)).alloc (Β #[U I 0 0,U I 0 0,U I 0 0] 40);have H0:=Ah (Ad w (Β A 84)) (Β #[U I 0 0,U I 0 0,U I 0 0] 40);have H1:=ϒ w (Β A 84) (Β #[U I 0 0,U I 0 0,U I 0 0] 40);have mc:=Z bk;have me:=Z b7;clear hR hv h fl bk b7 lr ei il ir;go_enter Tryz.func39,Tryz.ntmps39;go_upto_region 1 with (fail)
 obtain⟨w1,ej⟩:=Xq ((w.alloc (Β A 84)).alloc (Β #[U I 0 0,U I 0 0,U I 0 0] 40));have ou:w1.heap.size=w.heap.size+1+1:=by rw[<-ej,Ρ,Ρ]
 rw[ej] at dk H0 H1;simp only[ej];clear ej;have ek:=Z H0;have mf:=Z H1;clear H0 H1;have iu:(Η.info? 84).map (·.size)=J A.size:=by rw[HS.o];exact Ci
 refine Bl 8 [(0,Α),(1,Α),(2,Ε),(3,Ε),(4,Α),(5,Α),(6,Α),(7,Α),(8,Ε)] (by kernel_rfl) (by kernel_rfl) (λ_ _ _ _ h=>h)
  (λW=>Ext w1 W) (Κ w1).drew ?_
 have en:=(Κ w1).drew;obtain⟨w2,fz⟩:=Xq (w1.drew);rw[fz] at en;rw[fz];clear fz;iterate 2
  refine G5 (v:=.agg A) rfl rfl (λW hW=>Em 84 (δ 1) rfl _ rfl _ _ _ _ (hW.heap ek.o) ϸ rfl iu) ?_;simp only[η,Θ,Μ,Λ]
 refine D5 rfl (λK hK=>?_);go_simp;with_reducible refine (JU t HV.o hn A w2 (fs.o.ext (dk.t en))).mono ?_
 rintro e w3 ⟨vl,l,rfl,hl,ix,iy⟩;have eo:=en.t iy;have HL:=Z hl;clear hl;refine hK _ _ (λ_=>eo) ?_;clear hK K;refine D5 rfl (λK hK=>?_);go_simp;with_reducible refine (JS t HV.o hn l HL.o A vl w3 (fs.o.ext (dk.t eo)) ix).mono ?_
 rintro e w4 ⟨vN,vR,N,R,rfl,jb,hB,ga,gb,jd⟩;have c3:=eo.t jd;have je:=Z jb;have HB:=Z hB;clear hB jb ix;refine hK _ _ (λ_=>c3) ?_;clear hK K;iterate 4
  refine G5 (v:=?_) rfl rfl (λW hW=>?_) ?_
  rotate_left
  ·go_simp;first|done|with_reducible rfl
  simp only[η,Θ,Μ,Λ]
 refine D5 rfl (λK hK=>?_);go_simp;refine hK _ _ (λ_=>c3) ?_;clear hK K;refine Bj ?_;have jf:0<R.length:=by have:=HB.o.blk.lt 0 HL.o.zero;omega
 have ow:l.length<=t.n.length:=by
  have:=D8 l (π t.n.length) HL.o.nodup λs hs=>ϔ.2 (HL.o.lt s hs)
  simpa using this
 have jg:R.length<=65536:=by have:=CJ HB.o.blk;omega
 have jh:=Z (λi (hi:i<R.length)=>HL.o.lt _ (HB.o.blk.mem i hi));have ji:=Z (λi (hi:i<R.length) k (hk:k<t.cells)=>HB.o.blk.lt _ (HL.o.closed _ (HB.o.blk.mem i hi) k hk));have ml:=Z (λi (hi:i<R.length) k (hk:k<t.cells)=>Ξ (ji.o i hi k hk) jg);have gf:=HB.o.blk.lt 0 HL.o.zero;have gg:=dk.t c3;clear en iy jd;go_upto_region 2 with (fail)
 have jj:=Z (NR t HV.o hn N R je.o jf jg jh.o ml.o A vN vR w4 (fs.o.ext gg) ga gb);have jk:=Z (c3.heap ek.o);go_upto_region 3 with (first
  | (refine Lr 84 (δ 1) jk.o ϸ iu ?_)
  | (go_at_call 69;with_reducible refine jj.o.mono ?_;rintro e E ⟨vK,vC,G,C,rfl,hM,jl,gi,ep⟩))
 have jm:Sl w4 vN 1 t.n.length (λi=>iv (N.getD i 0)):=by rw[<-je.o];exact ga
 obtain⟨bN,oN,cN,rfl,jn⟩:=â jm fm;obtain⟨bR,oR,cR,rfl,jo⟩:=â gb jf;have jq:=hM.parts.pos;have mm:=hM.parts.le;have jr:0<G.length:=by rw[hM.len];exact jq
 have o5:G.length<=256:=by rw[hM.len];exact mm
 obtain⟨bK,oK,cK,rfl,js⟩:=â jl jr;have er:=gi;obtain⟨H,T,X,rfl,-⟩:=â er jq;have HM:=Z hM;have gm:=gg.t ep;have et:=c3.t ep;have o8:w.heap.size+1<E.heap.size:=by have:=et.size;omega
 have gp:=Z (λ(W:Γ) (hW:Ext E W) k (hk:k<t.n.length)=>(ep.t hW).cell (jn k (by omega)));have mo:=Z (λ(W:Γ) (hW:Ext E W) k (hk:k<R.length)=>(ep.t hW).cell (jo k (by omega)));have mq:=Z (λ(W:Γ) (hW:Ext E W) k (hk:k<G.length)=>hW.cell (js k (by omega)));have mr:=Z (λ(W:Γ) (hW:Ext E W)=>(Τ W w.heap.size 257 _ _ _ ((et.t hW).heap ek.o)).trans mc.o);have mu:=Z (λ(W:Γ) (hW:Ext E W)=>(Τ W w.heap.size 258 _ _ _ ((et.t hW).heap ek.o)).trans me.o);have mv:=Z (λ(W:Γ) (hW:Ext E W)=>HR.o.ext (gm.t hW));have mw:=Z (λ(W:Γ) (hW:Ext E W) s (hs:s<t.n.length)=>(gm.t hW).cell (lv.o s hs));have my:=Z (et.heap mf.o);have mz:=Z (XF (J ⟨H,T,I⟩) C.length X);have na:=Z gi;clear ga jm gb jl gi er hM jn jo js jj jk gg c3 eo dk;have jt:=Ad E (Β #[U I 0 0,U I 0 0,U I 0 0] 40);go_upto_region 4 with (first
  | (refine Bk rfl 40 _ rfl (dA (U (J ⟨H,T,I⟩) C.length X) (U I 0 0) (U I 0 0)) ?_ ?_;(simp[Act.eval];with_reducible exact mz.o))
  | (refine Sr 40 (δ 7) (δ 32) rfl jt Ae rfl (Av _ _ _ rfl rfl rfl) ?_))
 clear jt;have cg:=((Κ E).alloc (Β #[U I 0 0,U I 0 0,U I 0 0] 40)).setRow (Υ _) (dA (U (J ⟨H,T,I⟩) C.length X) (U I 0 0) (U I 0 0));have eu:=Χ (E.alloc (Β #[U I 0 0,U I 0 0,U I 0 0] 40)) E.heap.size _ (dA (U (J ⟨H,T,I⟩) C.length X) (U I 0 0) (U I 0 0)) _ _ (Ad E _);have gq:((E.alloc (Β #[U I 0 0,U I 0 0,U I 0 0] 40)).setRow E.heap.size (dA (U (J ⟨H,T,I⟩) C.length X) (U I 0 0) (U I 0 0))).heap.size=E.heap.size+1:=by rw[ù,Ρ]
 obtain⟨wa,cj⟩:=Xq ((E.alloc (Β #[U I 0 0,U I 0 0,U I 0 0] 40)).setRow E.heap.size (dA (U (J ⟨H,T,I⟩) C.length X) (U I 0 0) (U I 0 0)));rw[cj] at cg eu gq;simp only[cj];clear cj;go_upto_region 5 with (at_make;refine Ϟ _ rfl _ _ 54 rfl wa.heap.size 3 i0 (.int Φ 0) 1 Ϥ hi fu fv Φ Φ _ _ R.length rfl rfl rfl rfl (by rw[fw];omega) (by unfold ϐ;omega) (Υ _) ?_;intro wb ju gu)
 have jv:=cg.grown gu (λk e=>by cases e);have ev:wb.ownsRow wa.heap.size 3 1 (U (J ⟨wa.heap.size,0,I⟩) R.length R.length) R.length ((El R.length 0).map ov):=by rw[R8,<-B8];exact ju
 have jw:=(gu.block E.heap.size (Al eu) (by simp)).trans eu;have o9:E.heap.size+1<wb.heap.size:=by have:wa.heap.size<wb.heap.size:=(ev.lt _ rfl).2;omega
 rw[gq] at ev;clear ju gu;generalize nb:wa.heap.size=gn at *;obtain rfl:gn=E.heap.size+1:=gq;clear nb eu cg;have dm:=gp.o wb jv 0 fm;obtain⟨x0,ew⟩:=Xq (N.getD 0 0);rw[ew,è] at dm;rw[ew] at gf;have gv:=Z ew;clear ew;go_upto_region 6 with (fail)
 have bt:=jv.alloc (Β #[iv x0] 3);have a6:=ev.alloc (Β #[iv x0] 3);have c4:=Ah jw (Β #[iv x0] 3);have bm:OwnI (wb.alloc (Β #[iv x0] 3)) (E.heap.size+1+1) (U (J ⟨wb.heap.size,0,I⟩) 1 1) [x0]:=Γ.ownsRow_lit (base:=E.heap.size+1+1) (e:=3) (size:=1) wb #[iv x0] 1 (by omega) (by unfold ϐ;omega) rfl;have c5:E.heap.size+1+1<=(wb.alloc (Β #[iv x0] 3)).heap.size:=by rw[Ρ];omega
 obtain⟨wc,gw⟩:=Xq (wb.alloc (Β #[iv x0] 3));rw[gw] at bt a6 c4 bm c5;rw[gw];clear gw dm ev jw;generalize wb.heap.size=gx at *;go_wp2_with (fail);go_loopw [42] (λi W=>∃ k:Nat,k<=R.length/\i=.int Φ k/\Ext E W/\E.heap.size+1+1<=W.heap.size/\W.ownsRow (E.heap.size+1) 3 1 (U (J ⟨E.heap.size+1,0,I⟩) R.length R.length) R.length ((El R.length k).map ov)/\OwnI W (E.heap.size+1+1) (U (J ⟨gx,0,I⟩) 1 1) [x0]/\W.heap[E.heap.size]? = J (Β (dA (U (J ⟨H,T,I⟩) C.length X) (U I 0 0) (U I 0 0)) 40 (0,0)))
  (λi _=>R.length-(intOf i).toNat)
 case atStart=>exact⟨0,by omega,rfl,bt,c5,a6,bm,c4⟩
 clear bt c5 a6 bm c4;obtain⟨k,hk,rfl,bt,c5,a6,bm,c4⟩:=hrel;have dn:=Z c4;clear c4;by_cases c6:k<R.length
 ·have co:=Au I a6 (Iv _ _).symm k (by rw[Iv];exact c6);have fo:=a6.frozenAt k;obtain⟨c8,be⟩:=Ba a6 k I;rw[R9 _ _ c6] at c8;have dp:=bt.grown be (λk e=>by cases e;omega);have dq:=bm.kept be (A3 bm (by omega));have dr:=Z ((be.block E.heap.size (Al dn.o) (by simp)).trans dn.o);have dt:=μ c5 be.size;clear be a6 bt bm;go_wp2_with (fail);go_roundw
  case rel=>exact⟨k+1,by omega,by go_num,dp,dt,c8,dq,dr.o⟩
  simp[intOf];omega
 obtain rfl:k=R.length:=by omega
 rw[Sa] at a6;have dm:=gp.o wr bt 0 fm;rw[gv.o,è] at dm;have co:=Au I a6 (by simp) x0 (by simpa using gf);have fo:=a6.frozenAt x0;obtain⟨c8,be⟩:=Ba a6 x0 (J 0);have dp:=bt.grown be (λk e=>by cases e;omega);have dq:=bm.kept be (A3 bm (by omega));have dr:=Z ((be.block E.heap.size (Al dn.o) (by simp)).trans dn.o);have dt:=μ c5 be.size;clear be a6 bt bm dn;have gy:=Z (OY (t:=t) (B:=λs=>N.getD s 0) (R:=R) (K:=G) (show N.getD 0 0<R.length by rw[gv.o];exact gf) R.length rfl (θ G.length 0) (by simp));rw[gv.o] at gy;go_wp2_with (fail);clear co fo dm;obtain⟨ey,gz⟩:=Xq (wr.setCell ⟨E.heap.size+1,x0,I⟩ (ov (J 0)));rw[gz] at c8 dp dq dr dt;have jy:wr.setCell ⟨E.heap.size+1,x0,I⟩ (.int Φ 0)=ey:=gz;rw[jy];clear gz jy;have jz:=À ey (E.heap.size+1+1) 54 1;have ei:=À ey (E.heap.size+1+1) 4 1;have j0:RowsO ey (E.heap.size+1+1) [] [] (λo=>o=J gx):=⟨rfl,λj hj=>by simp at hj⟩;go_wp2_with (fail);go_loopw [9,11] (λvo vi W=>∃ (i:Nat) (O:List Nat) (P:List (Option Nat)) (N':List (List Nat)) (Ac:List Bool) (vs:List Δ) (go co:Nat) (vnx ai:Δ),i<=O.length/\vi=.int Φ i/\vo=U (J ⟨go,0,I⟩) O.length co/\Ext E W/\E.heap.size+1+1<=W.heap.size/\W.ownsRow (E.heap.size+1) 3 1 (U (J ⟨E.heap.size+1,0,I⟩) R.length R.length) R.length (P.map ov)/\OwnI W (E.heap.size+1+1) vo O/\Hid (W.heap[E.heap.size]? = J (Β (dA (U (J ⟨H,T,I⟩) C.length X) vnx ai) 40 (0,0)))/\W.ownsRow (E.heap.size+1+1) 54 1 vnx vs.length vs/\OwnB W (E.heap.size+1+1) ai Ac/\RowsO W (E.heap.size+1+1) vs N' (λo=>o=J go)/\Hid (LInv t (λs=>N.getD s 0) R G i 0 O P N' (θ G.length 0)/\Ac.length=i/\∀ j,j<i->Ac.getD j Ε=t.ok (R.getD (O.getD j 0) 0)))
  (λ_ vi _=>R.length-(intOf vi).toNat)
 case atStart=>exact⟨0,[x0],_,[],[],[],gx,1,_,_,by omega,rfl,rfl,dp,dt,c8,dq,dr,jz,ei,j0,Z ⟨gy.o,rfl,λj hj=>by omega⟩⟩
 clear dp dt c8 dq dr jz ei j0 gy;obtain⟨i,O,P,N',Ac,vs,go,co,vnx,ai,pa,rfl,rfl,hE,dv,hP,hI,HD,hN,hA,hV,HI⟩:=hrel;have pb:=HI.o.1.len_le;by_cases c6:i<O.length
 ·obtain⟨wo,nd⟩:∃ W,W=wr:=⟨_,rfl⟩;subst nd;have cO:=Au 0 hI rfl i c6;have ez:=HI.o.1.lt i c6;obtain⟨x,ha⟩:=Xq (O.getD i 0);rw[ha] at cO ez;have j2:=Z ha;clear ha;have cR:=mo.o wo hE x ez;have e0:=jh.o x ez;have j3:=Z (ji.o x ez);obtain⟨s,hf⟩:=Xq (R.getD x 0);rw[hf] at cR e0 j3;have j4:=Z hf;clear hf;go_upto_region 17 with (at_make;refine Ϟ _ rfl _ _ 54 rfl (E.heap.size+1+1) 3 i0 (.int Φ 0) 1 Ϥ hi fu fv Φ Φ _ _ G.length rfl rfl rfl rfl (by rw[fw];omega) (by unfold ϐ;omega) (by omega) ?_;intro w5 j5 bu)
  have j6:=hE.grown bu (λk e=>by cases e);have hh:w5.ownsRow (E.heap.size+1+1) 3 1 (U (J ⟨wo.heap.size,0,I⟩) G.length G.length) G.length ((θ G.length 0).map iv):=by rw[<-B8];exact j5
  have j7:=Bz hP bu;have j8:=Bz hI bu;have j9:=Z ((bu.block E.heap.size (Al HD.o) (by simp)).trans HD.o);have kb:=Bz hN bu;have kc:=Bz hA bu;have nf:=(hI.lt go rfl).2;have kd:=(hV.av (av':=λo=>o=J go\/o=J wo.heap.size) (λv l ho ak=>by
   rintro (e|e)
   ·exact ak e
   have:=(ho.lt _ e).2;omega)).kept bu (λv l ho ak=>by cases v.ownBlock<;>simp)
  have ke:=μ dv bu.size;have bb:go≠wo.heap.size:=by omega
  have pc:=(hh.lt wo.heap.size rfl).1;generalize wo.heap.size=gr at *;clear j5 bu hP hI HD hN hA hV hE dv cO cR nf;go_wp2_with (fail);go_loopw [9,72] (λvo vi W=>∃ (k:Nat) (O2:List Nat) (P2:List (Option Nat)) (r:List Nat) (a1 e1:Nat),k<=G.length/\vi=.int Φ k/\vo=U (J ⟨a1,0,I⟩) O2.length e1/\a1≠gr/\Ext E W/\E.heap.size+1+1<=W.heap.size/\W.ownsRow (E.heap.size+1) 3 1 (U (J ⟨E.heap.size+1,0,I⟩) R.length R.length) R.length (P2.map ov)/\OwnI W (E.heap.size+1+1) vo O2/\W.ownsRow (E.heap.size+1+1) 3 1 (U (J ⟨gr,0,I⟩) G.length G.length) G.length (r.map iv)/\Hid (W.heap[E.heap.size]? = J (Β (dA (U (J ⟨H,T,I⟩) C.length X) vnx ai) 40 (0,0)))/\W.ownsRow (E.heap.size+1+1) 54 1 vnx vs.length vs/\OwnB W (E.heap.size+1+1) ai Ac/\RowsO W (E.heap.size+1+1) vs N' (λo=>o=J a1\/o=J gr)/\Hid (LInv t (λs=>N.getD s 0) R G i k O2 P2 N' r/\i<O2.length/\∀ j,j<=i->O2.getD j 0=O.getD j 0))
   (λ_ vi _=>G.length-(intOf vi).toNat)
  case atStart=>exact⟨0,O,P,_,go,co,by omega,rfl,rfl,bb,j6,ke,j7,j8,hh,j9,kb,kc,kd,Z ⟨HI.o.1,c6,λ_ _=>rfl⟩⟩
  clear j6 ke j7 j8 hh j9 kb kc kd bb;obtain⟨k,O2,P2,r,a1,e1,hk,rfl,rfl,bb,hE,dv,hP,hI,hQ,HD,hN,hA,hV,HJ⟩:=hrel;have dw:=Z HJ.o.1.lenP;have dx:=Z HJ.o.1.lenr;have pd:=HJ.o.1.len_le;obtain⟨w5,ng⟩:∃ W,W=wr:=⟨_,rfl⟩;subst ng;by_cases da:k<G.length
  ·have cK:=mq.o w5 hE k da;have e2:=HM.o.lt k da;obtain⟨c,hq⟩:=Xq (G.getD k 0);have db:Hid (N.getD (t.ent2 (R.getD (O2.getD i 0) 0) (G.getD k 0)) 0=N.getD (t.ent2 s c) 0):=Z (by rw[HJ.o.2.2 i (Υ _),j2.o,j4.o,hq]);rw[hq] at cK e2;clear hq;have kf:=HV.o.tgt s e0 c e2;have cc:=j3.o c e2;obtain⟨br,or',pf,nh,kg⟩:=(mv.o w5 hE) s e0;have cy:=kg c e2;have k7:=mr.o w5 hE;obtain⟨y,ki⟩:=Xq (t.ent2 s c);have cc:N.getD (t.ent2 s c) 0<R.length:=cc;rw[ki] at cy kf cc db;clear ki kg;have cz:=gp.o w5 hE y kf;obtain⟨z,kk⟩:=Xq (N.getD y 0);rw[kk] at cz cc db;clear kk;have cp:=Au I hP dw.o.symm z (by rw[dw.o];exact cc);obtain⟨o,ho⟩:=Xq (P2.getD z I);rw[ho] at cp;have HO:=Z ho;clear ho;have km:J (E.heap.size+1)≠J gr:=λe=>by have:=ό e;omega
   go_upto_region 21 with (fail)
   clear cK cy cz k7 nh;cases o with
   | some v=>
    replace cp:w5.cell? ⟨E.heap.size+1,z,I⟩=J (iv v):=cp;have hr:=Z (PA HJ.o.1 da v (by show P2.getD (N.getD (t.ent2 (R.getD (O2.getD i 0) 0) (G.getD k 0)) 0) I=J v;rw[db.o];exact HO.o))
    have cq:=Au 0 hQ dx.o.symm k (by rw[dx.o];exact da);have fq:=hQ.frozenAt k;obtain⟨nl,bz⟩:=Ba hQ k v;have nm:=hE.grown bz (λk e=>by cases e;omega);have nn:=hP.kept bz (.inr km);have np:=hI.kept bz (.inr (λe=>bb (ό e)));have nq:=Z ((bz.block E.heap.size (Al HD.o) (λe=>by have:=ό e;omega)).trans HD.o);have nr:=hN.kept bz (Aj hN hQ (by decide));have fl:=hA.kept bz (Aj hA hQ (by decide));have ns:=hV.kept bz (λv l ho ak=>.inr (λe=>ak (.inr e)));have nt:=μ dv bz.size;clear bz hE hP hI hQ HD hN hA hV;go_wp2_with (fail);go_roundw
    case rel=>exact⟨k+1,O2,P2,r.set k v,a1,e1,by omega,by go_num,rfl,bb,nm,nt,nn,np,nl,nq,nr,fl,ns,Z ⟨hr.o,HJ.o.2⟩⟩
    simp[intOf];omega
   | none=>
    replace cp:w5.cell? ⟨E.heap.size+1,z,I⟩=J (.int Φ (-1)):=cp;have ht:=PB HJ.o.1 da HJ.o.2.1 (by
     show N.getD (t.ent2 (R.getD (O2.getD i 0) 0) (G.getD k 0)) 0<R.length;rw[db.o];exact cc) (by
     show P2.getD (N.getD (t.ent2 (R.getD (O2.getD i 0) 0) (G.getD k 0)) 0) I=I;rw[db.o];exact HO.o)
    rw[db.o] at ht;have hr:=Z ht;clear ht;have fp:=hP.frozenAt z;obtain⟨hy,b0⟩:=Ba hP z (J O2.length);have cg:=hE.grown b0 (λk e=>by cases e;omega);have ct:=hI.kept b0 (A3 hI (by omega));have e3:=hQ.kept b0 (A3 hQ (by omega));have e4:=Z ((b0.block E.heap.size (Al HD.o) (by simp)).trans HD.o);have e5:=hN.kept b0 (A3 hN (by omega));have e6:=hA.kept b0 (A3 hA (by omega));have hz:=hV.kept b0 (λv l ho ak=>A3 ho (by omega));have nv:=μ dv b0.size;clear b0 hE hP hI hQ HD hN hA hV;go_upto_region 23 with (fail)
    obtain⟨wa,cj⟩:=Xq (w5.setCell ⟨E.heap.size+1,z,I⟩ (ov (J O2.length)));rw[cj] at hy cg ct e3 e4 e5 e6 hz nv;have kn:w5.setCell ⟨E.heap.size+1,z,I⟩ (.int Φ (O2.length:Int))=wa:=cj;rw[kn];clear cj kn cp fp;go_upto_region 24 with (at_builtin;refine Ϙ _ rfl _ _ 54 rfl (E.heap.size+1+1) 3 i0 (.int Φ 0) 1 8 Ϥ hi fu fv fw rfl (by decide) _ _ _ rfl (ct.alloc _) _ 1 1 [iv z] rfl rfl (Ý _ _ _) (by simp[ξ]) (by decide) (by unfold ϐ;omega) (by omega) (by simp;omega) _ rfl ?_;intro g7 c7 w7 dc ah ko _)
    have h2:a1=g7\/g7=wa.heap.size+1:=by
     rcases ko with e|e
     ·exact .inl (ό e)
     rw[Ρ] at e;exact .inr e
    have pg:=(e3.lt gr rfl).2;have kq:g7≠gr:=by
     rcases h2 with e|e
     ·rw[<-e];exact bb
     omega
    have kr:=(ct.lt a1 rfl).1;have cu:=(hy.alloc (Β #[iv z] 3)).kept ah (.inr (λe=>by have:E.heap.size+1=a1:=ό e;have:E.heap.size+1+1<=a1:=kr;omega));have bg:=(e3.alloc (Β #[iv z] 3)).kept ah (.inr (λe=>bb (ό e).symm));have b4:=Z ((ah.block E.heap.size (Ξ (Al e4.o) (by rw[Ρ];omega)) (λe=>by have:E.heap.size=a1:=ό e;have:E.heap.size+1+1<=a1:=kr;omega)).trans (Ah e4.o _));have bh:=(e5.alloc (Β #[iv z] 3)).kept ah (Aj e5 ct (by decide));have bk:=(e6.alloc (Β #[iv z] 3)).kept ah (Aj e6 ct (by decide));have dz:=(cg.alloc (Β #[iv z] 3)).grown ah (λk e=>by have:=(ct.lt k e).1;omega);have ea:=(((hz.alloc (Β #[iv z] 3)).av (av':=λo=>(o=J a1\/o=J gr)\/o=J g7) (λv l ho ak=>by
     rintro (e|e)
     ·exact ak e
     ·rcases h2 with e7|e7
      ·exact ak (.inl (by rw[e,e7]))
      have:=(ho.lt _ e).2;rw[Ρ] at this;omega)).kept ah (λv l ho ak=>.inr (λe=>ak (.inl (.inl e))))).av (av':=λo=>o=J g7\/o=J gr) (λv l ho ak=>by
     rintro (e|e)
     ·exact ak (.inr e)
     exact ak (.inl (.inr e)))
    have e8:E.heap.size+1+1<=w7.heap.size:=by have:=ah.size;rw[Ρ] at this;omega
    have kt:Hid (OwnI w7 (E.heap.size+1+1) (U (J ⟨g7,0,I⟩) (O2++[z]).length c7) (O2++[z])):=Z (by show ϥ _ _ _ _ _ _ _;rw[Ν,ϩ];exact dc)
    clear ah ko cg hy ct e3 e4 e5 e6 hz dc h2;have cp:=Au I cu (by rw[υ];exact dw.o.symm) z (by rw[υ,dw.o];exact cc);rw[Cf _ _ _ _ _ (by rw[dw.o];exact cc),if_pos rfl] at cp;replace cp:w7.cell? ⟨E.heap.size+1,z,I⟩=J (iv O2.length):=cp;have cq:=Au 0 bg dx.o.symm k (by rw[dx.o];exact da);have fq:=bg.frozenAt k;obtain⟨eb,ao⟩:=Ba bg k O2.length;have dd:=dz.grown ao (λk e=>by cases e;omega);have ec:=cu.kept ao (.inr km);have nw:=Z (kt.o.kept ao (.inr (λe=>kq (ό e))));have de:=Z ((ao.block E.heap.size (Al b4.o) (λe=>by have:=ό e;omega)).trans b4.o);have ed:=bh.kept ao (Aj bh bg (by decide));have b7:=bk.kept ao (Aj bk bg (by decide));have ee:=ea.kept ao (λv l ho ak=>.inr (λe=>ak (.inr e)));have ef:=μ e8 ao.size;clear ao dz cu kt bg b4 bh bk ea;go_wp2_with (fail);go_roundw
    case rel=>
     refine⟨k+1,O2++[z],P2.set z (J O2.length),r.set k O2.length,g7,c7,by omega,by go_num,?_,kq,dd,ef,ec,?_,eb,de,ed,b7,ee,Z ⟨hr.o,?_,λj hj=>?_⟩⟩
     ·rw[Ν];rfl
     ·have h9:ϥ _ _ _ _ _ _ _:=nw.o;show ϥ _ _ _ _ _ _ _;rw[show (O2++[z]).length=O2.length+1 by simp] at h9 ⊢;exact h9
     ·rw[Ν];have:=HJ.o.2.1;omega
     rw[Ca _ _ _ _ (by have:=HJ.o.2.1;omega)];exact HJ.o.2.2 j hj
    case measure=>simp[intOf];omega
  obtain rfl:k=G.length:=by omega
  have c1:=(Τ w5 E.heap.size 1 _ _ _ HD.o).trans (show (dA (U (J ⟨H,T,I⟩) C.length X) vnx ai)[1]? = J vnx from rfl);have ph:=(hQ.lt gr rfl).1;have pj:vs.length<=65536:=by rw[hV.1,HJ.o.1.lenN];omega
  go_upto_region 27 with (at_builtin;refine Ϙ _ rfl _ _ 37 rfl (E.heap.size+1+1) 54 i6 (U I 0 0) 1 24 Tryz.underlying37 l7 l8 l9 ma rfl (by decide) vnx vs.length vs rfl (hN.alloc _) _ 1 1 [U (J ⟨gr,0,I⟩) G.length G.length] rfl rfl (Ý _ _ _) (by simp[ξ]) (by decide) (by unfold ϐ;omega) (by omega) (by simp;omega) _ rfl ?_;intro g7 c7 w7 bh ah _ _;have b4:Hid (w7.heap[E.heap.size]? = _):=Z ((ah.block E.heap.size (Ξ (Al HD.o) (by rw[Ρ];omega)) (λe=>by have:=(hN.lt _ e.symm).1;omega)).trans (Ah HD.o _));have ny:=(Τ w7 E.heap.size 1 _ _ _ b4.o).trans (show (dA (U (J ⟨H,T,I⟩) C.length X) vnx ai)[1]? = J vnx from rfl);have f17:=È w7 E.heap.size 1 _ _ b4.o)
  clear c1 ny f17;have pk:∀ (o:Obj),(w5.alloc o).heap.size=w5.heap.size+1:=λo=>Ρ _ _
  have cu:=(hP.alloc (Β #[U (J ⟨gr,0,I⟩) G.length G.length] 54)).kept ah (Aj hP hN (by decide));have dc:=(hI.alloc (Β #[U (J ⟨gr,0,I⟩) G.length G.length] 54)).kept ah (Aj hI hN (by decide));have bg:=(hQ.alloc (Β #[U (J ⟨gr,0,I⟩) G.length G.length] 54)).kept ah (Aj hQ hN (by decide));have bk:=(hA.alloc (Β #[U (J ⟨gr,0,I⟩) G.length G.length] 54)).kept ah (Aj hA hN (by decide));have ea:=(hV.alloc (Β #[U (J ⟨gr,0,I⟩) G.length G.length] 54)).kept ah (λv l ho _=>Aj ho (hN.alloc (Β #[U (J ⟨gr,0,I⟩) G.length G.length] 54)) (by decide));have dz:=(hE.alloc (Β #[U (J ⟨gr,0,I⟩) G.length G.length] 54)).grown ah (λk e=>by have:=(hN.lt k e).1;omega);have e8:E.heap.size+1+1<=w7.heap.size:=by have:=ah.size;rw[Ρ] at this;omega
  clear ah hP hI hQ hA hV hE hN HD;have bh:w7.ownsRow (E.heap.size+1+1) 54 1 (U (J ⟨g7,0,I⟩) (vs.length+1) c7) (vs++[Ϗ (J ⟨gr,0,I⟩) G.length G.length]).length (vs++[Ϗ (J ⟨gr,0,I⟩) G.length G.length]):=by rw[Ν];exact bh
  obtain⟨row,h3⟩:=Xq (Ϗ (J ⟨gr,0,I⟩) G.length G.length);have n0:row.ownBlock=J gr:=by rw[<-h3];rfl
  rw[h3] at bh bg;clear h3;obtain⟨aq,kv⟩:=Xq (Ϗ (J ⟨g7,0,I⟩) (vs.length+1) c7);rw[kv] at bh;have ao:=Cc w7 E.heap.size (dA (U (J ⟨H,T,I⟩) C.length X) aq ai);have eg:w7.setCell ⟨E.heap.size,1,I⟩ aq=w7.setRow E.heap.size (dA (U (J ⟨H,T,I⟩) C.length X) aq ai):=Ϭ w7 _ _ _ _ _ _ b4.o;have dd:=dz.setRow (Υ _) (dA (U (J ⟨H,T,I⟩) C.length X) aq ai);have ec:=cu.kept ao (A3 cu (by omega));have h4:=dc.kept ao (A3 dc (by omega));have eb:=bg.kept ao (A3 bg (by omega));have ed:=bh.kept ao (A3 bh (by omega));have b7:=bk.kept ao (A3 bk (by omega));have ee:=ea.kept ao (λv l ho _=>A3 ho (by omega));have de:=Z (Χ w7 E.heap.size _ (dA (U (J ⟨H,T,I⟩) C.length X) aq ai) _ _ b4.o);have ef:E.heap.size+1+1<=(w7.setRow E.heap.size (dA (U (J ⟨H,T,I⟩) C.length X) aq ai)).heap.size:=by rw[ù];exact e8
  rw[kv,eg];clear ao cu dc bg bh bk ea dz e8 b4 eg;obtain⟨w8,h5⟩:=Xq (w7.setRow E.heap.size (dA (U (J ⟨H,T,I⟩) C.length X) aq ai));rw[h5] at ec h4 eb ed b7 ee de dd ef;rw[h5];clear h5;have c2:∀ W:Γ,W.heap[E.heap.size]? = J (Β (dA (U (J ⟨H,T,I⟩) C.length X) aq ai) 40 (0,0))->W.cell? ⟨E.heap.size,2,I⟩=J ai:=λW hW=>(Τ W E.heap.size 2 _ _ _ hW).trans rfl
  refine Bl 10 [(0,Α),(1,Α),(2,Α),(3,Α),(4,Α),(5,Α),(6,Α),(7,Ε),(8,Ε),(9,Α),(10,Ε)] (by kernel_rfl) (by kernel_rfl) (λ_ _ _ _ h=>h)
   (λW=>Ext E W/\W.heap[E.heap.size]? = J (Β (dA (U (J ⟨H,T,I⟩) C.length X) aq ai) 40 (0,0))) ⟨dd.drew,de.o⟩ ?_
  iterate 7
   refine G5 (v:=?_) rfl rfl (λW hW=>?_) ?_
   rotate_left
   ·obtain⟨kx,ky⟩:=hW;have k2:=c2 W ky;have k8:=mu.o W kx;have ka:=mw.o W kx s e0;clear ky;go_simp;first|done|with_reducible rfl
   simp only[η,Θ,Μ,Λ]
  have e9:=Aa ec (Κ w8).drew;have fa:=Aa h4 (Κ w8).drew;have fb:=Aa eb (Κ w8).drew;have fc:=Aa ed (Κ w8).drew;have bq:=Aa b7 (Κ w8).drew;have h6:=ee.kept ((Κ w8).drew.grownBy I) (λv l _ _=>by cases v.ownBlock<;>simp);have eh:Hid (w8.drew.heap[E.heap.size]? = J (Β (dA (U (J ⟨H,T,I⟩) C.length X) aq ai) 40 (0,0))):=Z de.o;have fe:=dd.drew;have k0:E.heap.size+1+1<=w8.drew.heap.size:=ef;obtain⟨w9,h7⟩:=Xq (w8.drew);rw[h7] at e9 fa fb fc bq h6 eh fe k0;rw[h7];clear h7 ec h4 eb ed b7 ee de dd ef;have pq:Ac.length<=65536:=by rw[HI.o.2.1];omega
  refine D5 rfl (λK hK=>?_);go_simp;refine hK _ _ (λ_=>⟨fe.alloc _,Ah eh.o _⟩) ?_;clear hK K;refine D5 rfl (λK hK=>?_);refine step_append_lies _ rfl _ _ 38 rfl (E.heap.size+1+1) 4 i4 (.bool Ε) 1 1 ä l2 l3 l4 l5 rfl (by decide) ai Ac.length (Ac.map ϊ) rfl (bq.alloc _) _ 1 1 [.bool (t.ok s)] rfl rfl (Ý _ _ _) (by simp[ξ]) (by decide) (by unfold ϐ;omega) (by omega) (by simp;omega) _ rfl ?_;intro k5 k6 bj df b6 _ _;have h8:=(fe.alloc (Β #[.bool (t.ok s)] 4)).grown b6 (λk e=>by have:=(bq.lt k e).1;omega);have dg:=Z ((b6.block E.heap.size (Ξ (Al eh.o) (by rw[Ρ];omega)) (λe=>by have:=(bq.lt _ e.symm).1;omega)).trans (Ah eh.o _));have ia:=(e9.alloc (Β #[.bool (t.ok s)] 4)).kept b6 (Aj e9 bq (by decide));have ib:=(fa.alloc (Β #[.bool (t.ok s)] 4)).kept b6 (Aj fa bq (by decide));have ic:=(fb.alloc (Β #[.bool (t.ok s)] 4)).kept b6 (Aj fb bq (by decide));have ie:=(fc.alloc (Β #[.bool (t.ok s)] 4)).kept b6 (Aj fc bq (by decide));have k9:=(h6.alloc (Β #[.bool (t.ok s)] 4)).kept b6 (λv l ho _=>Aj ho (bq.alloc (Β #[.bool (t.ok s)] 4)) (by decide));have la:E.heap.size+1+1<=bj.heap.size:=by have:=b6.size;rw[Ρ] at this;omega
  have df:OwnB bj (E.heap.size+1+1) (U (J ⟨k5,0,I⟩) (Ac.length+1) k6) (Ac++[t.ok s]):=by show ϥ _ _ _ _ _ _ _;rw[Ν,ϩ];exact df
  clear b6 e9 fa fb fc bq h6 eh fe k0;refine hK _ _ (λ_=>⟨h8,dg.o⟩) ?_;clear hK K;refine G5 (v:=?_) rfl rfl (λW hW=>?_) ?_
  rotate_left
  ·clear hW;go_simp;first|done|with_reducible rfl
  simp only[η,Θ,Μ,Λ];have k2:=c2 bj dg.o;have f2:=È bj E.heap.size 2 _ _ dg.o;refine D5 rfl (λK hK=>?_);go_simp;refine hK _ _ (λh=>absurd h (by omega)) ?_;clear hK K k2 f2 c2;refine Bj ?_;obtain⟨cd,lb⟩:=Xq (Ϗ (J ⟨k5,0,I⟩) (Ac.length+1) k6);rw[lb] at df;have cv:=Cc bj E.heap.size (dA (U (J ⟨H,T,I⟩) C.length X) aq cd);have eg:bj.setCell ⟨E.heap.size,2,I⟩ cd=bj.setRow E.heap.size (dA (U (J ⟨H,T,I⟩) C.length X) aq cd):=Ϭ bj _ _ _ _ _ _ dg.o;have lf:=h8.setRow (Υ _) (dA (U (J ⟨H,T,I⟩) C.length X) aq cd);have lg:=ia.kept cv (A3 ia (by omega));have lh:=ib.kept cv (A3 ib (by omega));have ig:=ic.kept cv (A3 ic (by omega));have lj:=ie.kept cv (A3 ie (by omega));have lk:=df.kept cv (A3 df (by omega));have ih:=k9.kept cv (λv l ho _=>A3 ho (by omega));have ll:=Z (Χ bj E.heap.size _ (dA (U (J ⟨H,T,I⟩) C.length X) aq cd) _ _ dg.o);have ln:E.heap.size+1+1<=(bj.setRow E.heap.size (dA (U (J ⟨H,T,I⟩) C.length X) aq cd)).heap.size:=by rw[ù];exact la
  rw[lb,eg];clear cv ia ib ic ie df k9 h8 la dg eg;obtain⟨n1,ij⟩:=Xq (bj.setRow E.heap.size (dA (U (J ⟨H,T,I⟩) C.length X) aq cd));rw[ij] at lg lh ig lj lk ih ll lf ln;rw[ij];clear ij;have lo:OwnI n1 (E.heap.size+1+1) row r:=by show ϥ _ _ _ _ _ _ _;rw[dx.o];exact ig
  have n2:=(ih.av (av':=λo=>o=J a1) (λv l _ ak e=>ak (.inl e))).snoc lo (by rw[n0];exact λe=>bb (ό e).symm);have n3:=Z (OZ HJ.o.1 HJ.o.2.1 (θ G.length 0) (by simp));have n4:Hid ((Ac++[t.ok s]).length=i+1/\∀ j,j<i+1->(Ac++[t.ok s]).getD j Ε=t.ok (R.getD (O2.getD j 0) 0)):=Z ⟨by rw[Ν,HI.o.2.1];rfl,λj hj=>by
   rw[HJ.o.2.2 j (by omega),Og,HI.o.2.1];by_cases lp:j<i
   ·rw[if_pos lp];exact HI.o.2.2 j lp
   obtain rfl:j=i:=by omega
   rw[if_neg (by omega),if_pos rfl,j2.o,j4.o]⟩
  have pr:=HJ.o.2.1;clear ig ih lo bb;go_wp2;go_roundw
  case rel=>exact⟨i+1,O2,P2,N'++[r],Ac++[t.ok s],vs++[row],a1,e1,aq,cd,by omega,by go_num,rfl,lf,ln,lg,lh,ll,lj,lk,n2,Z ⟨n3.o,n4.o⟩⟩
  simp[intOf];omega
 obtain rfl:i=O.length:=by omega
 have n5:=Z (PC (L:=C) HM.o.len jr HI.o.1 rfl HI.o.2.1 HI.o.2.2);have lq:=Z (QA HV.o HL.o HB.o HM.o n5.o);have ik:=Z (hE.heap my.o);obtain⟨an,fg,rfl⟩:=Nr hN;obtain⟨aa,fj,rfl⟩:=Nr hA;go_wp2_with (first
  | (refine Lr 40 (δ 7) HD.o Ο Ae ?_)
  | (refine Sr 40 (δ 2) (δ 126) rfl ik.o Ae rfl (Av _ _ _ rfl rfl rfl) ?_))
 refine ω (v:=.agg (dA (U (J ⟨H,T,I⟩) C.length X) (U an vs.length fg) (U aa Ac.length fj))) (results_cell_row rfl _ _ _ _ _ _ _ rfl (Χ wr _ _ (dA (U (J ⟨H,T,I⟩) C.length X) (U an vs.length fg) (U aa Ac.length fj)) 40 (0,0) ik.o) Ο rfl Ae) rfl ?_;have bb:=Cc wr (w.heap.size+1) (dA (U (J ⟨H,T,I⟩) C.length X) (U an vs.length fg) (U aa Ac.length fj));have n9:=hN.kept bb (A3 hN (by omega));have ob:=hA.kept bb (A3 hA (by omega));have oc:=hV.kept bb (λv l ho _=>A3 ho (by omega));have er:=Sl.setRow (na.o.ext hE) ik.o (λi _ o=>by
  intro h;have:o=0\/o=1\/o=2\/3<=o:=by omega
  rcases this with rfl|rfl|rfl|ho
  ·simp at h
  ·simp at h
  ·simp at h
  rw[Array.getElem?_eq_none (by simpa using ho)] at h;cases h) (by omega) (dA (U (J ⟨H,T,I⟩) C.length X) (U an vs.length fg) (U aa Ac.length fj))
 refine⟨_,⟨C,N',Ac⟩,rfl,λW hW=>⟨_,_,_,rfl,hW.cls er,(hW.rows oc).rows (hW.owns n9 (by decide)) (by rw[HI.o.1.lenN];omega) (λj hj=>by rw[HI.o.1.rows j (by rw[<-HI.o.1.lenN];exact hj)];omega),OwnB.bools (hW.owns ob (by decide)) (by rw[HI.o.2.1];omega)⟩,lq.o.1,lq.o.2,?_⟩;exact (gm.t hE).setRow (by omega) _
theorem Mm (t:Tbl) (E:TVal t) (G:t.n.length<=65536) (A:Array Δ) (w:Γ) (h:IsT w A t):ϛ Η 39 #[.agg A] w λe w'=>∃ v d,e=Ψ v/\IsD w' v d/\Cano d/\(∀ u,d.has u=t.has u)/\Ext w w':=
 (Tf t E G A w h).mono λ_ _ ⟨v,d,he,H,h1,T,X⟩=>⟨v,d,he,H _ (Near.of_ext (Κ _)),h1,T,X⟩
def zD:Δ:=.agg #[U I 0 0,U I 0 0,U I 0 0]
def ResOf (W:Γ) (e:Ending):Option Dfa->Prop
 | some d=>∃ v,e=Ψ (ϗ #[v,.int Φ 0])/\IsD W v d
 | none=>e=Ψ (ϗ #[zD,.int Φ 2])
theorem Nv {o:Nat} {x:Δ} (h:(#[Ϗ I 0 0,Ϗ I 0 0,Ϗ I 0 0])[o]? = J x):x=U I 0 0:=by
 have:o=0\/o=1\/o=2\/3<=o:=by omega
 rcases this with rfl|rfl|rfl|E
 ·simpa using h.symm
 ·simpa using h.symm
 ·simpa using h.symm
 rw[Array.getElem?_eq_none (by simpa using E)] at h;cases h
theorem IsD.setRow {W:Γ} {v:Δ} {d:Dfa} (G:Val d) (h:IsD W v d) {g:Nat} {e:ϡ} {fr:Nat × Nat} (hg:W.heap[g]? = J (Β #[U I 0 0,U I 0 0,U I 0 0] e fr)) (cs:Array Δ):IsD (W.setRow g cs) v d:=by
 obtain⟨vc,T,X,rfl,h1,⟨vs,aa,hN,H⟩,h3⟩:=h;refine⟨vc,T,X,rfl,Sl.setRow h1 hg (λi _ o E=>by cases Nv E) (by omega) cs,⟨vs,aa,Sl.setRow hN hg (λi hi o E=>?_) (by omega) cs,λi hi=>Sl.setRow (H i hi) hg (λi _ o E=>by cases Nv E) (by omega) cs⟩,Sl.setRow h3 hg (λi _ o E=>by cases Nv E) (by omega) cs⟩;have hi:i<d.n.length:=by simpa using hi
 obtain⟨b,af,ag,ae,_⟩:=â (H i hi) (by rw[G.row i hi];exact G.parts.pos);have:=Nv E;rw[ae] at this;cases this
theorem IsD.agg {W:Γ} {v:Δ} {d:Dfa} (h:IsD W v d):∃ ac lc E G H T la X,v=.agg (dA (U ac lc E) (U G d.n.length H) (U T la X)):=by obtain⟨vc,vn,va,rfl,h1,⟨vs,ai,hN,hr⟩,h3⟩:=h;obtain⟨ac,E,rfl⟩:=Sl.len h1;obtain⟨G,H,rfl⟩:=Sl.len hN;obtain⟨T,X,rfl⟩:=Sl.len h3;exact⟨_,_,_,_,_,_,_,_,rfl⟩
theorem Ga:Η.built 40 []=J #[U I 0 0,U I 0 0,U I 0 0]:=by kernel_rfl
theorem Fg:(#[Ϗ I 0 0,Ϗ I 0 0,Ϗ I 0 0]).all (·.oneCell')=Α:=by simp[ξ]
theorem Q8 (t:Tbl) (hv:TVal t) (hn:t.n.length<=65536) (A:Array Δ) (w:Γ) (h:IsT w A t) :
  ϛ Η 49 #[.agg A] w λe w'=>∃ r,ResOf w' e r/\Lim (λu=>t.has u=Α) r/\Ext w w':=by
 obtain⟨_,_,_,_,_,_,az,bc,_⟩:=h.opened hv;have bd:(Η.info? 84).map (·.size)=J A.size:=by rw[az];exact Ci
 have be:=Z h;have HV:=Z hv;have ag:=((Κ w).alloc (Β A 84)).alloc (Β #[U I 0 0,U I 0 0,U I 0 0] 40);have H0:=Ah (Ad w (Β A 84)) (Β #[U I 0 0,U I 0 0,U I 0 0] 40);have H1:=ϒ w (Β A 84) (Β #[U I 0 0,U I 0 0,U I 0 0] 40);clear h hv az bc;go_enter Tryz.func49,Tryz.ntmps49;go_upto_region 1 with (fail)
 obtain⟨w1,ah⟩:=Xq ((w.alloc (Β A 84)).alloc (Β #[U I 0 0,U I 0 0,U I 0 0] 40));have bn:w1.heap.size=w.heap.size+1+1:=by rw[<-ah,Ρ,Ρ]
 rw[ah] at ag H0 H1;simp only[ah];clear ah;have bg:=Z H0;have bh:=Z H1;clear H0 H1;have hC:=Z (Mm t HV.o hn A w1 (be.o.ext ag));go_upto_region 2 with (first
  | (refine Lr 84 (δ 1) bg.o ϸ bd ?_)
  | (go_at_call 39;with_reducible refine hC.o.mono ?_;rintro e E ⟨v,d,rfl,hD,a6,a7,a8⟩;obtain⟨ac,T,X,G,H,aa,la,ca,rfl⟩:=hD.agg)
  | (refine Sr 40 (δ 4) (δ 6) rfl (Ad E _) Ae rfl (Av _ _ _ rfl rfl rfl) ?_))
 have ai:=a8.t (((Κ E).alloc (Β #[U I 0 0,U I 0 0,U I 0 0] 40)).setRow (Υ _) (dA (U ac T X) (U G d.n.length H) (U aa la ca)));have au:=hD.ext (((Κ E).alloc (Β #[U I 0 0,U I 0 0,U I 0 0] 40)).setRow (Υ _) (dA (U ac T X) (U G d.n.length H) (U aa la ca)));have aj:=Χ (E.alloc (Β #[U I 0 0,U I 0 0,U I 0 0] 40)) E.heap.size _ (dA (U ac T X) (U G d.n.length H) (U aa la ca)) _ _ (Ad E _);obtain⟨w3,ax⟩:=Xq ((E.alloc (Β #[U I 0 0,U I 0 0,U I 0 0] 40)).setRow E.heap.size (dA (U ac T X) (U G d.n.length H) (U aa la ca)));rw[ax] at ai au aj;simp only[ax];clear ax hD a8;have af:=Z (ai.heap bh.o);have bj:=Z au;have ay:=Z a6;have HH:=Z a7;have c1:=(Τ w3 E.heap.size 1 _ _ _ aj).trans (show (dA (U ac T X) (U G d.n.length H) (U aa la ca))[1]? = J (U G d.n.length H) from rfl);have bk:=Z aj;clear au a6 a7 aj hC;by_cases bl:64<d.n.length
 ·have bm:=Z Ga;go_wp2_with (first
   | (refine Bk rfl 40 _ rfl #[U I 0 0,U I 0 0,U I 0 0] ?_ ?_;(simp;with_reducible exact bm.o))
   | (refine Sr 40 (δ 2) (δ 11) rfl af.o Ae rfl Fg ?_))
  refine ω (v:=ϗ #[zD,.int Φ 2]) (Bi rfl _ _ _ _ _ _ _ rfl _ rfl (Χ w3 _ _ #[U I 0 0,U I 0 0,U I 0 0] 40 (0,0) af.o) Ο rfl Ae) rfl ?_;exact⟨I,rfl,⟨d,ay.o,λu=>by rw[HH.o],bl⟩,(ag.t ai).setRow (by omega) _⟩
 go_wp2_with (first
  | (refine Lr 40 (δ 4) bk.o Ο Ae ?_)
  | (refine Sr 40 (δ 2) (δ 12) rfl af.o Ae rfl (Av _ _ _ rfl rfl rfl) ?_))
 refine ω (v:=ϗ #[.agg (dA (U ac T X) (U G d.n.length H) (U aa la ca)),.int Φ 0]) (Bi rfl _ _ _ _ _ _ _ rfl _ rfl (Χ w3 _ _ (dA (U ac T X) (U G d.n.length H) (U aa la ca)) 40 (0,0) af.o) Ο rfl Ae) rfl ?_;exact⟨J d,⟨_,rfl,bj.o.setRow ay.o.val af.o _⟩,⟨ay.o,λu=>by rw[HH.o],by omega⟩,(ag.t ai).setRow (by omega) _⟩
theorem Tg (d:Dfa) (hv:Val d) (hn:d.n.length<=64) (v:Δ) (w:Γ) (hT:Tab w) (aw:0<w.heap.size) (h:IsD w v d) :
  ϛ Η 80 #[v] w λe w'=>∃ r,ResOf w' e (J r)/\Cano r/\(∀ u,r.has u=d.has u)/\Ext w w':=by
 have HD:=Z h;have HV:=Z hv;obtain⟨ac,G,H,T,X,aa,la,ca,rfl⟩:=h.agg;have aj:=((Κ w).alloc (Β (dA (U ac G H) (U T d.n.length X) (U aa la ca)) 40)).alloc (Β #[U I 0 0,U I 0 0,U I 0 0] 40);have H0:=Ah (Ad w (Β (dA (U ac G H) (U T d.n.length X) (U aa la ca)) 40)) (Β #[U I 0 0,U I 0 0,U I 0 0] 40);have H1:=ϒ w (Β (dA (U ac G H) (U T d.n.length X) (U aa la ca)) 40) (Β #[U I 0 0,U I 0 0,U I 0 0] 40);have f47:=λW (hW:Ext w W)=>Z (Fp d hv hn _ W (HD.o.ext hW))
 have f68:=λW (hW:Ext w W)=>Z (Jc d hv _ W (hT.below hW.below aw) (Ξ aw hW.size) (HD.o.ext hW))
 clear h hv hT;go_enter Tryz.func80,Tryz.ntmps80;go_upto_region 1 with (fail)
 obtain⟨w1,ag⟩:=Xq ((w.alloc (Β (dA (U ac G H) (U T d.n.length X) (U aa la ca)) 40)).alloc (Β #[U I 0 0,U I 0 0,U I 0 0] 40));have bl:(w.alloc (Β #[U ac G H,U T d.n.length X,U aa la ca] 40)).alloc (Β #[U I 0 0,U I 0 0,U I 0 0] 40)=w1:=ag;rw[ag] at aj H0 H1;simp only[ag];have bw:w1.heap.size=w.heap.size+1+1:=by rw[<-ag,Ρ,Ρ]
 clear ag bl;have ak:=Z H0;have E:=Z H1;clear H0 H1;go_upto_region 3 with (first
  | (refine Lr 40 (δ 1) ak.o Ο Ae ?_)
  | (go_at_call 33;with_reducible refine (f47 _ aj).o.mono ?_;rintro e w2 ⟨rfl,ah⟩))
 have ak:=Z (ah.heap ak.o);have E:=Z (ah.heap E.o);have ay:=aj.t ah;have b0:=ah.size;clear f47 aj ah;go_wp2_with (first
  | (refine Lr 40 (δ 1) ak.o Ο Ae ?_)
  | (go_at_call 34;(with_reducible refine (f68 _ ay).o.mono ?_);rintro e w3 ⟨A,rfl,hA,az⟩;have bo:=ay.t az;have E:=Z (az.heap E.o);have hC:=Z (Mm (Ai d) (Bu HV.o) (show d.n.length<=65536 by omega) A w3 hA))
  | (go_at_call 39;with_reducible refine hC.o.mono ?_;rintro e w4 ⟨v,r,rfl,hr,a1,a6,a7⟩;have HR:=Z hr;have a8:=Z a1;have HH:=Z a6;clear a1 a6;obtain⟨ba,bb,bc,bd,be,bf,bg,bh,rfl⟩:=hr.agg;clear hr;have bu:=bo.t a7;have E:=Z (a7.heap E.o))
  | (refine Sr 40 (δ 2) (δ 10) rfl E.o Ae rfl (Av _ _ _ rfl rfl rfl) ?_))
 refine ω (v:=ϗ #[.agg (dA (U ba bb bc) (U bd r.n.length be) (U bf bg bh)),.int Φ 0]) (Bi rfl _ _ _ _ _ _ _ rfl _ rfl (Χ w4 _ _ (dA (U ba bb bc) (U bd r.n.length be) (U bf bg bh)) 40 (0,0) E.o) Ο rfl Ae) rfl ?_;exact⟨r,⟨_,rfl,HR.o.setRow a8.o.val E.o _⟩,a8.o,λu=>by rw[HH.o,Eg],bu.setRow (by omega) _⟩
def Fs (n:Nat) (A:List Bool) (k:Nat):List Bool:=(π n).map λj=>if j<k then !A.getD j Ε else Ε
theorem Qx (n:Nat) (A:List Bool) (k:Nat):(Fs n A k).length=n:=by simp[Fs]
theorem MG (n:Nat) (A:List Bool):Fs n A 0=θ n Ε:=by
 apply Ϯ;intro i;simp only[Fs,ν,List.getElem?_replicate,Nat.not_lt_zero,if_false];by_cases h:i<n
 ·simp[h]
 simp[h]
theorem MI (n:Nat) (A:List Bool) (E:A.length=n):Fs n A n=A.map (!·):=by
 subst E;apply Ϯ;intro i;simp only[Fs,ν];by_cases h:i<A.length
 ·simp[h,Ζ]
 simp[h]
theorem MH (n:Nat) (A:List Bool) (k:Nat) (E:k<n):(Fs n A k).set k (!A.getD k Ε)=Fs n A (k+1):=by
 apply Ϯ;intro i;rw[Ú,Qx];simp only[Fs,ν];by_cases h:i<n
 ·rw[List.getElem?_range h];by_cases e:k=i
  ·subst e;simp[E]
  simp only[e,if_false,æ];by_cases h1:i<k
  ·rw[if_pos h1,if_pos (by omega)]
  rw[if_neg h1,if_neg (by omega)]
 rw[if_neg (by omega)];simp[h]
theorem Pm (c:Nat->Nat) (n:Nat) (E G v:Δ):(Ak c n E G).setIfInBounds 258 v=Ak c n E v:=by
 apply Array.ext';rw[Array.toList_setIfInBounds];unfold Ak;simp only;apply Ϯ;intro i;unfold Es;rw[Ú];by_cases hi:i<256
 ·have:258≠i:=by omega
  rw[if_neg this,χ (by simpa using hi),χ (by simpa using hi)]
 by_cases e:258=i
 ·subst e;simp[ς]
 rw[if_neg e,ς (by simp;omega),ς (by simp;omega)];obtain⟨j,rfl⟩:∃ j,i=256+j:=⟨i-256,by omega⟩;have H:j≠2:=by omega
 simp only[ι,List.length_range,Nat.add_sub_cancel_left]
 match j,H with
 | 0,_=>rfl
 | 1,_=>rfl
 | j+3,_=>rfl
theorem MJ (d:Dfa) (hv:Val d) (hn:d.n.length<=64) (v:Δ) (w:Γ) (hT:Tab w) (bz:0<w.heap.size) (h:IsD w v d) :
  ϛ Η 75 #[v] w λe w'=>∃ r,ResOf w' e (J r)/\Cano r/\(∀ u,r.has u=!d.has u)/\Ext w w':=by
 have HD:=Z h;have HV:=Z hv;obtain⟨ac,lc,cc,an,cn,aa,la,ca,rfl⟩:=h.agg;have be:=((Κ w).alloc (Β (dA (U ac lc cc) (U an d.n.length cn) (U aa la ca)) 40)).alloc (Β #[U I 0 0,U I 0 0,U I 0 0] 40);have H0:=Ah (Ad w (Β (dA (U ac lc cc) (U an d.n.length cn) (U aa la ca)) 40)) (Β #[U I 0 0,U I 0 0,U I 0 0] 40);have H1:=ϒ w (Β (dA (U ac lc cc) (U an d.n.length cn) (U aa la ca)) 40) (Β #[U I 0 0,U I 0 0,U I 0 0] 40);have f47:=λW (hW:Ext w W)=>Z (Fp d hv hn _ W (HD.o.ext hW))
 have f68:=λW (hW:Ext w W)=>Z (Jc d hv _ W (hT.below hW.below bz) (Ξ bz hW.size) (HD.o.ext hW))
 obtain⟨j0,hj,de,df,dg⟩:=ϓ Fi;have dh:=hv.pos;clear h hv hT;go_enter Tryz.func75,Tryz.ntmps75;go_upto_region 1 with (fail)
 obtain⟨w1,bf⟩:=Xq ((w.alloc (Β (dA (U ac lc cc) (U an d.n.length cn) (U aa la ca)) 40)).alloc (Β #[U I 0 0,U I 0 0,U I 0 0] 40));rw[bf] at be H0 H1;simp only[bf];have eb:w1.heap.size=w.heap.size+1+1:=by rw[<-bf,Ρ,Ρ]
 clear bf;have bg:=Z H0;have X:=Z H1;clear H0 H1;go_upto_region 3 with (first
  | (refine Lr 40 (δ 1) bg.o Ο Ae ?_)
  | (go_at_call 33;with_reducible refine (f47 _ be).o.mono ?_;rintro e w2 ⟨rfl,ax⟩))
 have bg:=Z (ax.heap bg.o);have X:=Z (ax.heap X.o);have b4:=be.t ax;have ed:=ax.size;clear f47 be ax;go_upto_region 4 with (first
  | (refine Lr 40 (δ 1) bg.o Ο Ae ?_)
  | (go_at_call 34;((with_reducible refine (f68 _ b4).o.mono ?_);rintro e w3 ⟨A,rfl,hA,bh⟩;have b5:=b4.t bh;have ee:=bh.size;have X:=Z (bh.heap X.o);obtain⟨vn,va,rfl,bn,b6⟩:=hA;obtain⟨ba,oa,ao,rfl,b7⟩:=O4 b6 (show 0<d.acc.length by rw[HV.o.accL];exact dh);obtain⟨G,H,T,rfl⟩:∃ a n c,vn=U a n c:=(by obtain⟨vs,_,hs,_⟩:=bn;obtain⟨a,c,rfl⟩:=hs.len;exact⟨_,_,_,rfl⟩);have b8:γ.size=(Ak (Ai d).cell (Ai d).cells (U G H T) (U (J ⟨ba,oa,I⟩) (Ai d).acc.length ao)).size:=(by rw[Dd,Ex]);have b9:(Η.info? 84).map (·.size)=J (Ak (Ai d).cell (Ai d).cells (U G H T) (U (J ⟨ba,oa,I⟩) (Ai d).acc.length ao)).size:=(by rw[Ex];exact Ci);have cb:=Ic (Ai d).cell (Ai d).cells (U G H T) (U (J ⟨ba,oa,I⟩) (Ai d).acc.length ao) rfl rfl))
  | (refine Sr 84 (δ 4) (δ 13) rfl (Ad w3 (Β γ 84)) b9 b8 cb ?_))
 have hm:(Ai d).acc.length=d.n.length:=HV.o.accL;have aq:=((Κ w3).alloc (Β γ 84)).setRow (Υ w3.heap.size) (Ak (Ai d).cell (Ai d).cells (U G H T) (U (J ⟨ba,oa,I⟩) (Ai d).acc.length ao));have H5:=Χ (w3.alloc (Β γ 84)) _ _ (Ak (Ai d).cell (Ai d).cells (U G H T) (U (J ⟨ba,oa,I⟩) (Ai d).acc.length ao)) 84 (0,0) (Ad w3 (Β γ 84));obtain⟨w4,bj⟩:=Xq ((w3.alloc (Β γ 84)).setRow w3.heap.size (Ak (Ai d).cell (Ai d).cells (U G H T) (U (J ⟨ba,oa,I⟩) (Ai d).acc.length ao)));have eg:w3.heap.size<w4.heap.size:=by rw[<-bj,ù,Ρ];omega
 rw[bj] at aq H5;simp only[bj];clear bj;rw[hm] at H5 b9 cb;simp only[hm];have dp:=Z (λ(W:Γ) (hW:Ext w4 W) j (hj:j<d.n.length)=>(aq.t hW).cell (b7 j (by rw[hm];exact hj)));have dq:=Z bn;have cd:=Z H5;have X:=Z (aq.heap X.o);have eh:=b5.size;have k8:=(Τ w4 w3.heap.size 258 _ _ _ H5).trans (Ie _ _ _ _);clear b7 bn b6 H5 bh b8 f68 hm;generalize cf:w3.heap.size=B4 at *;have dr:=Ô cf;clear cf;go_upto_region 5 with (at_make;refine Ϟ _ rfl _ _ 38 rfl w4.heap.size 4 j0 (.bool Ε) 1 ä hj de df Φ Φ _ _ d.n.length rfl rfl rfl rfl (by rw[dg];omega) (by unfold ϐ;omega) (Υ _) ?_;intro w5 cg cj)
 have ae:Ext w4 w5:=(Κ w4).grown cj (λk e=>by cases e);have ag:w5.ownsRow w4.heap.size 4 1 (U (J ⟨w4.heap.size,0,I⟩) d.n.length d.n.length) d.n.length ((Fs d.n.length d.acc 0).map ϊ):=by rw[MG,<-B8];exact cg
 clear cg cj k8;have k8:=(Τ w5 B4 258 _ _ _ (ae.heap cd.o)).trans (Ie _ _ _ _);generalize ck:w4.heap.size=E at *;have dt:=Z ck;clear ck;go_wp2_with (fail);clear k8;go_loopw [21] (λi W=>∃ k:Nat,k<=d.n.length/\i=.int Φ k/\Ext w4 W/\W.ownsRow E 4 1 (U (J ⟨E,0,I⟩) d.n.length d.n.length) d.n.length ((Fs d.n.length d.acc k).map ϊ)) (λi _=>d.n.length-(intOf i).toNat)
 case atStart=>exact⟨0,by omega,rfl,ae,ag⟩
 clear ae ag;obtain⟨k,hk,rfl,ae,ag⟩:=hrel;have du:w4.heap.size<=E:=Ô dt.o;by_cases bp:k<d.n.length
 ·have ca:wr.cell? ⟨ba,oa+k,I⟩=J (.bool (d.acc.getD k Ε)):=dp.o wr ae k bp;have cv:=Au Ε ag (Qx _ _ _).symm k (by rw[Qx];exact bp);have fv:=ag.frozenAt k;obtain⟨ar,cl⟩:=Ba ag k (!d.acc.getD k Ε);rw[MH _ _ _ bp] at ar;have az:=ae.grown cl (λk e=>by cases e;exact du);clear cl ag ae;generalize d.acc.getD k Ε=bx at *;cases bx
  ·go_wp2_with (fail);go_roundw
   case rel=>exact⟨k+1,by omega,by go_num,az,ar⟩
   simp[intOf];omega
  go_wp2_with (fail);go_roundw
  case rel=>exact⟨k+1,by omega,by go_num,az,ar⟩
  simp[intOf];omega
 obtain rfl:k=d.n.length:=by omega
 rw[MI _ _ HV.o.accL] at ag;have a1:=ae.heap cd.o;have k8:=(Τ wr B4 258 _ _ _ a1).trans (Ie _ _ _ _);have f8:=È wr B4 258 _ _ a1;have cm:=Cc wr B4 (Ak (Ai d).cell (Ai d).cells (U G H T) (U (J ⟨E,0,I⟩) d.n.length d.n.length));have dv:wr.setCell ⟨B4,258,I⟩ (U (J ⟨E,0,I⟩) d.n.length d.n.length)=wr.setRow B4 (Ak (Ai d).cell (Ai d).cells (U G H T) (U (J ⟨E,0,I⟩) d.n.length d.n.length)):=by rw[Ϭ wr _ _ _ _ _ _ a1,Pm]
 have en:B4<E:=by omega
 have ar:=ag.kept cm (.inr (λe=>by have:E=B4:=ό e;omega));have bq:=Χ wr B4 _ (Ak (Ai d).cell (Ai d).cells (U G H T) (U (J ⟨E,0,I⟩) d.n.length d.n.length)) _ _ a1;have az:=((b5.t aq).trans ae);have cp:=az.setRow (by omega) (Ak (Ai d).cell (Ai d).cells (U G H T) (U (J ⟨E,0,I⟩) d.n.length d.n.length));have br:IsT (wr.setRow B4 (Ak (Ai d).cell (Ai d).cells (U G H T) (U (J ⟨E,0,I⟩) d.n.length d.n.length))) (Ak (Ai d).cell (Ai d).cells (U G H T) (U (J ⟨E,0,I⟩) d.n.length d.n.length)) (Im (Ai d)):=by
  refine⟨_,_,rfl,?_,OwnB.bools (base:=E) (l:=d.acc.map (!·)) (by show ϥ _ _ _ _ _ _ _;rw[ι,HV.o.accL];exact ar) (by rw[ι,HV.o.accL];omega)⟩
  exact dq.o.ext ((aq.t ae).setRow dr _)
 have X:=Z (Bm (ae.heap X.o) (show w.heap.size+1≠B4 by omega) (Ak (Ai d).cell (Ai d).cells (U G H T) (U (J ⟨E,0,I⟩) d.n.length d.n.length)));clear a1 ag ar aq az cm;go_upto_region 11 with (fail)
 clear k8 f8 dv;obtain⟨w6,bt⟩:=Xq (wr.setRow B4 (Ak (Ai d).cell (Ai d).cells (U G H T) (U (J ⟨E,0,I⟩) d.n.length d.n.length)));rw[bt] at br bq cp X;rw[bt];clear bt;have cq:=Z bq;have hiB:(Η.info? 84).map (·.size)=J (Ak (Ai d).cell (Ai d).cells (U G H T) (U (J ⟨E,0,I⟩) d.n.length d.n.length)).size:=by rw[Ex];exact Ci
 have hC:=Z (Mm (Im (Ai d)) (Xj (Bu HV.o)) (show d.n.length<=65536 by omega) _ w6 br);clear bq br;obtain⟨A6,cu⟩:=Xq (Ak (Ai d).cell (Ai d).cells (U G H T) (U (J ⟨E,0,I⟩) d.n.length d.n.length));rw[cu] at cq hiB hC;clear cu;go_wp2_with (first
  | (refine Lr 84 (δ 4) cq.o ϸ hiB ?_)
  | (go_at_call 39;(with_reducible refine hC.o.mono ?_);rintro e w7 ⟨v,r,rfl,hr,cw,cy,cz⟩;have HR:=Z hr;have c3:=Z cw;have HH:=Z cy;clear cw cy;obtain⟨c4,c5,c6,c7,c8,c9,da,db,rfl⟩:=hr.agg;clear hr;have ea:=cp.t cz;have X:=Z (cz.heap X.o))
  | (refine Sr 40 (δ 2) (δ 35) rfl X.o Ae rfl (Av _ _ _ rfl rfl rfl) ?_))
 refine ω (v:=ϗ #[.agg (dA (U c4 c5 c6) (U c7 r.n.length c8) (U c9 da db)),.int Φ 0]) (Bi rfl _ _ _ _ _ _ _ rfl _ rfl (Χ w7 _ _ (dA (U c4 c5 c6) (U c7 r.n.length c8) (U c9 da db)) 40 (0,0) X.o) Ο rfl Ae) rfl ?_;exact⟨r,⟨_,rfl,HR.o.setRow c3.o.val X.o _⟩,c3.o,λu=>by rw[HH.o,Xk (Bu HV.o),Eg],ea.setRow (by omega) _⟩
open Go.RowKit Go.Shelf Go.WideMaps
open Go.Maps (Keyed)
structure Sta where
 p:Nat
 q:Nat
 s:Nat
deriving DecidableEq
def stL (x:Sta):List Δ:=[iv x.p,iv x.q,.int ζ (x.s:Int)]
def stA (x:Sta):Array Δ:=#[iv x.p,iv x.q,.int ζ (x.s:Int)]
def stV (x:Sta):Δ:=.agg (stA x)
theorem U8 (x y:Sta) (h:stV x=stV y):x=y:=by
 cases x;cases y
 simp[stV,stA] at h;simp;omega
def Sta.ok (x:Sta):Prop:=x.p<9223372036854775808/\x.q<9223372036854775808/\x.s<18446744073709551616
theorem ER (i:Nat) (hi:i<18446744073709551616):(Lit.int ζ (i:Int)).wf=Α:=by have E:ϯ.min=0:=rfl;have G:ϯ.max=18446744073709551615:=rfl;simp[Lit.wf,IntKind.wrap,IntKind.signed,IntKind.bits,E,G];omega
theorem N8:Keyed Η 103:=Keyed.of_law (deep_law_laid N9 (m:=3) (by omega) (of_decide_eq_true (by kernel_rfl)) (by kernel_rfl) (by rw[Î]))
theorem P4:∃ m,Η.types.size=m+3:=⟨Η.types.size-3,by have:3<=Η.types.size:=of_decide_eq_true (by kernel_rfl);omega⟩
theorem QI:Η.keyType 103=Α:=by kernel_rfl
theorem BA:Η.cellsOf 103=3:=by kernel_rfl
theorem BB:Η.cellsOf 101=1:=by kernel_rfl
theorem co3:Η.cellsOf 3=1:=by kernel_rfl
theorem AW:Η.cellsOf 89=1:=by kernel_rfl
theorem kl3 (d i:Nat) (h:i<9223372036854775808):Η.keyLits (d+1) 3 [iv i]=J [.int Φ i]:=by unfold Þ.keyLits;simp only[Tryz.underlying3];rw[if_pos ⟨trivial,M2 _ h⟩]
theorem Yw (d i:Nat) (h:i<18446744073709551616):Η.keyLits (d+1) 89 [.int ζ (i:Int)]=J [.int ζ i]:=by unfold Þ.keyLits;simp only[Tryz.underlying89];rw[if_pos ⟨trivial,ER _ h⟩]
theorem QJ (d i:Nat) (h:i<18446744073709551616):Η.keyLits (d+2) 101 [.int ζ (i:Int)]=J [.int ζ i]:=by show Þ.keyLits Η ((d+1)+1) 101 _=_;unfold Þ.keyLits;simp only[Tryz.underlying101];rw[if_pos (by rw[BB];rfl),show π 1=[0] from rfl,List.mapM_cons,List.mapM_nil,AW];simp only[Nat.zero_mul,ϰ,ú,List.take_zero];rw[Yw _ _ h];rfl
theorem U7 (x:Sta) (h:x.ok):∃ l,keyOf Η 103 (stV x)=J l:=by
 obtain⟨h1,E,G⟩:=h;obtain⟨m,hm⟩:=P4;refine⟨.string (keyBytes [.int Φ x.p,.int Φ x.q,.int ζ x.s]),?_⟩;unfold keyOf;simp only[Î];rw[if_pos (by simp[QI,Δ.formed,stV,stA,Î,BA]),hm];have e:(stV x).cells.toList=[iv x.p,iv x.q,.int ζ (x.s:Int)]:=rfl;rw[e];have:Η.keyLits (m+3+1) 103 [iv x.p,iv x.q,.int ζ (x.s:Int)]=J [.int Φ x.p,.int Φ x.q,.int ζ x.s]:=by show Þ.keyLits Η ((m+3)+1) 103 _=_;unfold Þ.keyLits;simp only[Î];rw[if_pos (by rw[BA];exact⟨rfl,by kernel_rfl⟩)];rw[List.mapM_cons,List.mapM_cons,List.mapM_cons,List.mapM_nil];simp only[co3,BB,ϰ,List.drop_succ_cons,ú,List.take_zero];rw[show m+3=(m+2)+1 by omega,kl3 _ _ h1,kl3 _ _ E,show m+2+1=(m+1)+2 by omega,QJ _ _ G];rfl
 rw[this];rfl
theorem Ea:(Η.info? 103).map (·.size)=J 3:=by kernel_rfl
theorem RI:(Η.info? 103).map (λi=>(i.zero,i.size,i.bytes))=J (J (.agg #[.int Φ 0,.int Φ 0,.int ζ 0]),3,24):=by kernel_rfl
theorem Vc (x:Sta):(stA x).all (·.oneCell')=Α:=by simp[stA,ξ]
end Go.Proofs.YtilncahcpjlfnaaGreatDoor
