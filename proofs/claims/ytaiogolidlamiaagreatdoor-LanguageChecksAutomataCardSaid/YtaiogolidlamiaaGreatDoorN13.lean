import Derived.Test.YtaiogolidlamiaaGreatDoorN12
import Derived.Great.BuildSlice
import Derived.Deep.MidRow
set_option linter.unusedVariables false
set_option linter.unusedSimpArgs false
open And renaming intro → ß
open Array renaming getElem?_eq_none → ÿ
open Bool renaming true → Ξ, false → Τ
open Classical renaming byContradiction → ϧ
open Go renaming Value → Ν, World → Λ, TypeId → Á, Operand → ϵ, maxLen → ϛ, undef → ς, info_parts → Ϟ, wpList_make_full → ϩ, wpList_store_row → Φ, bodyPost_ret → ω, setRow_heap → μ, Program → ã
open Go.IntKind renaming i64 → ε
open Go.Lib renaming hid → Α
open Go.Obj renaming cells → Ε
open Go.Operand renaming tmp → η
open Go.Proofs.Tryz renaming prog → Ζ, underlying68 → ϔ, underlying22 → ϻ, underlying155 → ñ, underlying30 → Κ
open Go.RowKit renaming Hid → À
open Go.Value renaming int → ö, slice → Β, bool → ο, pointer → Ω, oneCell' → ό
open Go.World renaming size_alloc → Ρ
open List renaming range → ι, nodup_iff_pairwise_ne → ϣ, mem_range → υ, replicate → ζ, getD_eq_getElem?_getD → Η, getElem?_range → Õ, length_range → Î, length_append → Υ, length_set → ϒ, getElem?_toArray → Ü, getElem?_cons_zero → ä, getElem?_cons_succ → È, setIfInBounds_toArray → Ι, set_cons_zero → Χ, set_cons_succ → Ψ, length_map → ϋ, getElem?_append_left → Ϣ, getElem?_append_right → ϗ, getElem?_eq_some_iff → ϊ, ext_getElem? → ϥ, getElem?_replicate → Ϭ, getElem?_eq_none → Ϩ, length_replicate → Ò, map_cons → Æ
open List.Pairwise renaming imp_of_mem → á
open Nat renaming le_of_eq → à, lt_of_lt_of_le → δ, le_refl → ν
open Option renaming some → Δ, none → Γ
namespace Go.Proofs.YtaiogolidlamiaaGreatDoor
set_option maxRecDepth 100000
set_option maxHeartbeats 4000000
open Go.RowKit Go.Shelf
theorem Ahb (l:List Nat) (J:0<l.length) (D:∀ i,i<l.length->l.getD i 0<9223372036854775808) (ag:l.length<9223372036854775808) (v:Ν) (w:Λ) (h:Ints w v l) :
  Calls Ζ 104 #[v] w λe w'=>∃ m:Nat,e=.returned (iv m)/\w'=w/\(∀ i,i<l.length->l.getD i 0<=m)/\∃ i,i<l.length/\l.getD i 0=m:=by
 obtain⟨b,o,c,rfl,M⟩:=Û h J;have T:=Α (λi (hi:i<l.length)=>M i (by omega));have HL:=Α D;have c0:=T.out 0 J;obtain⟨x0,G⟩:∃ x,l.getD 0 0=x:=⟨_,rfl⟩;have U:=Α G;simp only[G,Nat.add_zero] at c0;clear M h D G;go_enter Tryz.func104,Tryz.ntmps104;have ai:¬ ((l.length:Int)<1):=by omega
 go_wp2_with (fail);go_loopw [3,4] (λm i W=>∃ (j x:Nat),j<=l.length/\1<=j/\i=.int ε j/\m=iv x/\W=w/\À ((∀ q,q<j->l.getD q 0<=x)/\∃ q,q<j/\l.getD q 0=x))
  (λ_ i _=>l.length-(intOf i).toNat)
 case atStart=>
  refine⟨1,x0,by omega,by omega,rfl,rfl,rfl,Α ⟨λq hq=>?_,0,by omega,U.out⟩⟩;obtain rfl:q=0:=by omega
  exact à U.out
 case round=>
  obtain⟨j,x,hj,ak,rfl,rfl,rfl,E⟩:=hrel;by_cases D:j<l.length
  ·have cj:=T.out j D;obtain⟨y,I⟩:∃ y,l.getD j 0=y:=⟨_,rfl⟩;have HY:=Α I;simp only[I] at cj;clear I;go_wp2_with (fail);go_roundw
   case rel=>
    refine⟨j+1,max x y,by omega,by omega,by go_num,?_,trivial,Α ⟨λq hq=>?_,?_⟩⟩
    ·show ö _ _=ö _ _
     congr 1
     first
      | omega
      | (split<;>omega)
    ·by_cases e:q=j
     ·subst e;rw[HY.out];omega
     ·have:=E.out.1 q (by omega);omega
    ·rcases Nat.le_total y x with h1|h1
     ·obtain⟨q,hq,al⟩:=E.out.2;exact⟨q,by omega,by omega⟩
     ·exact⟨j,by omega,by rw[HY.out];omega⟩
   case measure=>simp[intOf];omega
  ·obtain rfl:j=l.length:=by omega
   go_wp2;go_ret;exact⟨x,rfl,rfl,E.out.1,E.out.2⟩
open Go.Maps (Keyed)
theorem Xi {κ:Type} {key:Nat->κ} {x:Nat} {c J:Nat->Nat} {bs:List Nat} {f:κ->Option Nat} (h:FInv key x c bs f) (E:∀ y,y<x->J y=c y):FInv key x J bs f where
 le:=h.le
 lt:=λy D=>by rw[E y D];exact h.lt y D
 byte:=λk T=>by
  obtain⟨G,I⟩:=h.byte k T;exact⟨G,by rw[E _ G];exact I⟩
 same:=λy z D M=>by rw[E y D,E z M];exact h.same y z D M
 has:=λy D=>by rw[E y D];exact h.has y D
 from_:=λp i U=>by
  obtain⟨y,D,G,I⟩:=h.from_ p i U;exact⟨y,D,G,by rw[E y D];exact I⟩
 first:=λy D=>by rw[E y D];exact h.first y D
 inc:=h.inc
theorem Aki {κ:Type} {key:Nat->κ} {x:Nat} {N bs:List Nat} {f:κ->Option Nat} (h:FInv key x (λs=>N.getD s 0) bs f) (D:x<N.length) (i:Nat) (hi:f (key x)=Δ i):FInv key (x+1) (λs=>(N.set x i).getD s 0) bs f:=
 Xi (M6 h i hi) λy _=>by
  rw[Bb _ _ _ _ _ D]
theorem Akj {κ:Type} [DecidableEq κ] {key:Nat->κ} {x:Nat} {N bs:List Nat} {f:κ->Option Nat} (h:FInv key x (λs=>N.getD s 0) bs f) (D:x<N.length) (hi:f (key x)=Γ) :
  FInv key (x+1) (λs=>(N.set x bs.length).getD s 0) (bs++[x]) (λp=>if p=key x then Δ bs.length else f p):=
 Xi (Ql h hi) λy _=>by
  rw[Bb _ _ _ _ _ D]
def Big (L:List UInt8->Prop):Prop:=∃ U:List (List UInt8),64<U.length/\U.Pairwise λu v=>∃ x,¬ (L (u++x)↔L (v++x))
def F8 (L:List UInt8->Prop):Option Dfa->Prop
 | some d=>Cano d/\(∀ w,d.has w=Ξ↔L w)/\d.n.length<=64
 | none=>Big L
theorem Y9 {L:List UInt8->Prop} (h:Big L) {d:Dfa} (hv:Val d) (hd:∀ w,d.has w=Ξ↔L w):64<d.n.length:=by
 obtain⟨U,D,E⟩:=h;refine δ D (Ni hv U (E.imp λ{u v} ⟨x,G⟩=>⟨x,λe=>G ?_⟩));rw[<-hd,<-hd,e]
theorem Aif {L:List UInt8->Prop} {r E:Option Dfa} (h:F8 L r) (D:F8 L E):r=E:=by
 cases r<;>cases E
 ·rfl
 ·have:=Y9 h D.1.val D.2.1;have:=D.2.2;omega
 ·have:=Y9 D h.1.val h.2.1;have:=h.2.2;omega
 ·rw[Amp h.1 D.1 h.2.1 D.2.1]
theorem Anj {t:Tbl} (hv:TVal t) {R:List Nat} {B:Nat->Nat} {l:List Nat} (J:Reached t l) (D:Blocks t l B R) (M:64<R.length):Big λw=>t.has w=Ξ:=by
 classical
 have E:∀ s:Nat,∃ w,s∈l->t.run 0 w=s:=λs=>by
  by_cases hs:s∈l
  ·obtain⟨w,E⟩:=J.all s hs;exact⟨w,λ_=>E⟩
  ·exact⟨[],λh=>absurd h hs⟩
 refine⟨(ι R.length).map λi=>(E (R.getD i 0)).choose,by simpa using M,?_⟩;rw[List.pairwise_map];refine á (λ{i j} hi G T=>?_) (ϣ.1 List.nodup_range);have hi:=υ.1 hi;have G:=υ.1 G;refine ϧ λI=>T ?_
 have I:∀ x,(t.has ((E (R.getD i 0)).choose++x)=Ξ↔t.has ((E (R.getD j 0)).choose++x)=Ξ):=λx=>ϧ λU=>I ⟨x,U⟩
 rw[<-D.blk.rep i hi,<-D.blk.rep j G];refine (D.leq _ (D.blk.mem i hi) _ (D.blk.mem j G)).2 λx=>?_
 have:=I x;rw[<-Bool.eq_iff_iff] at this;unfold Tbl.has at this;rw[Ct,Ct,(E (R.getD i 0)).choose_spec (D.blk.mem i hi),(E (R.getD j 0)).choose_spec (D.blk.mem j G)] at this;exact this
def IsMq {κ:Type} (W:Λ) (k:Á) (key:κ->Ν) (b n:Nat) (f:κ->Option Nat):Prop:=
 ∃ D:DataW Unit,W.ownsMap Ζ k (plainElem Ζ 3) b n D/\Maps.size D=n/\∀ x l,keyOf Ζ k (key x)=Δ l->Maps.has D l=(f x).isSome/\D.atKey l (.lit (.int ε 0))=.lit (.int ε ((f x).getD 0:Nat))
section
variable {κ:Type} {W:World} {k:TypeId} {key:κ->Value} {b n:Nat} {f:κ->Option Nat}
theorem Ajb (W:Λ) (k:Á) (key:κ->Ν):IsMq (W.alloc (.map #[] 0)) k key W.heap.size 0 (λ_=>Γ):=
 ⟨.map [],Λ.ownsMap_made W _ _ _,rfl,λ_ _ _=>⟨rfl,rfl⟩⟩
theorem IsMq.mp (h:IsMq W k key b n f):IsMp W k key b n f:=by
 obtain⟨D,E,_,G⟩:=h;exact⟨D,E,G⟩
theorem IsMq.kept {W':Λ} {row:Option Nat} (h:IsMq W k key b n f) (hg:W.grownBy W' row) (E:Δ b≠row):IsMq W' k key b n f:=by
 obtain⟨D,G,I⟩:=h;exact⟨D,G.kept hg E,I⟩
theorem IsMq.ext {W':Λ} (h:IsMq W k key b n f) (D:Ext W W'):IsMq W' k key b n f:=h.kept (D.grownBy Γ) (by simp)
theorem IsMq.alloc (h:IsMq W k key b n f) (o:Obj):IsMq (W.alloc o) k key b n f:=by
 obtain⟨D,E,G⟩:=h;exact⟨D,E.alloc o,G⟩
theorem IsMq.ne_row {base e size:Nat} {v:Ν} {m:Nat} {xs:List Ν} (h:IsMq W k key b n f) (D:W.ownsRow base e size v m xs):Δ b≠v.ownBlock:=h.mp.ne_row D
theorem IsMq.far {base e size:Nat} {v:Ν} {m:Nat} {xs:List Ν} (h:IsMq W k key b n f) (D:W.ownsRow base e size v m xs):v.ownBlock=Γ\/v.ownBlock≠Δ b:=h.mp.far D
variable {ops:Array Oper} {rest:List Oper} {o:Oper} {a:Act} {Q:Exit->Act->World->Prop}
theorem N3 (hg:o.guard=Γ) (m:ϵ) (t:Á) (E:o.op=Op.call { callee:=Callee.builtin Builtin.len,args:=#[m],argTypes:=#[t] })
  (G:Ζ.underlying t=Δ (.map k 3)) (hm:a.eval m=.map (Δ b)) (h:IsMq W k key b n f)
  (I:wpList Ζ ops Q rest (a.put o.dst (iv n)) W):wpList Ζ ops Q (o::rest) a W:=by
 obtain⟨D,J,M,_⟩:=h;refine wpList_len_own W hg m t E k 3 G _ b n D hm J ?_;rw[M];exact I
theorem Aaa [DecidableEq κ] (hg:o.guard=Γ) (m x v:ϵ) (t:Á) (U:o.op=Op.mapUpdate t m x v) (K:Keyed Ζ k) (ht:Ζ.underlying t=Δ (.map k 3)) (hm:a.eval m=.map (Δ b)) (h:IsMq W k key b n f) (hn:n<ϛ)
  (ab:∀ y z,key y=key z->y=z) (y:κ) (hf:f y=Γ) (hx:a.eval x=key y) (E:∃ l,keyOf Ζ k (key y)=Δ l) (i:Nat) (hv:a.eval v=iv i) (hi:i<9223372036854775808)
  (hK:∀ W',IsMq W' k key b (n+1) (λz=>if z=y then Δ i else f z)->W.grownBy W' (Δ b)->wpList Ζ ops Q rest (a.put o.dst ς) W'):wpList Ζ ops Q (o::rest) a W:=by
 obtain⟨D,G,hs,J⟩:=h;obtain⟨l,E⟩:=E;refine wpList_mapUpdate_own W hg m x v t U k 3 K ht (plainElem Ζ 3) b n D hm G hn (key y) (iv i) l hx hv E (.lit (.int ε i)) [] (plainElem_int Tryz.underlying3 (Jz i hi)) ?_;intro W' hW ah;refine hK W' ⟨_,hW,?_,λz M I=>?_⟩ ah
 ·rw[Maps.size_put (G.tidy K),(J y l E).1,hf,hs];rfl
 by_cases e:z=y
 ·subst e;rw[E] at I;cases I
  simp only[if_true];exact⟨Maps.has_put_same G.isMap (K.key E) _,Maps.atKey_put_same G.isMap (K.key E) _ _⟩
 ·have T:M≠l:=λe'=>e (ab _ _ (K.inj I (e'▸E)))
  simp only[e,if_false];rw[Maps.has_put_other T,Maps.atKey_put_other T];exact J z M I
end
theorem Aha {t:Tbl} {N R:List Nat} (D:Blk (ι t.n.length) (λs=>N.getD s 0) R) (I:N.length=t.n.length) (J:0<t.n.length) {m:Nat} (E:∀ i,i<N.length->N.getD i 0<=m) (G:∃ i,i<N.length/\N.getD i 0=m):m+1=R.length:=by
 obtain⟨i,hi,hm⟩:=G;have M:N.getD i 0<R.length:=D.lt i (υ.2 (by omega));have T:=υ.1 (D.mem (R.length-1) (by omega));have U:N.getD (R.getD (R.length-1) 0) 0=R.length-1:=D.rep (R.length-1) (by omega);have h6:=E _ (show R.getD (R.length-1) 0<N.length by omega);omega
theorem Rd {t:Tbl} (hv:TVal t) {N R:List Nat} (E:Blocks t (ι t.n.length) (λs=>N.getD s 0) R) {s s':Nat} (hs:s<t.n.length) (G:s'<t.n.length) (h:N.getD s 0=N.getD s' 0) :
  ((ι t.cells).map λk=>N.getD (t.ent2 s k) 0)=((ι t.cells).map λk=>N.getD (t.ent2 s' k) 0)/\t.ok s=t.ok s':=by
 have I:Leq t s s':=(E.leq s (υ.2 hs) s' (υ.2 G)).1 h;refine⟨List.map_congr_left λk D=>?_,I []⟩;have D:=υ.1 D;obtain⟨b,J,rfl⟩:=hv.onto k D;exact (E.leq _ (υ.2 (hv.tgt s hs _ D)) _ (υ.2 (hv.tgt s' G _ D))).2 (I.step b J)
def Pp (D r:Nat) (E:Ν):Nat->Ν->Λ->Prop
 | 0,v,_=>v=E
 | 1,v,_=>v=iv r
 | 2,v,W=>∃ g,v=Β (Δ ⟨g,0,Γ⟩) r r/\W.ownsRow D 68 1 v r (ζ r (Β Γ 0 0))
 | 3,v,_=>v=iv r
 | 4,v,W=>∃ g,v=Β (Δ ⟨g,0,Γ⟩) r r/\W.ownsRow D 4 1 v r ((ζ r Τ).map ο)
 | 5,v,W=>∃ G I,v=.agg (dA E (Β (Δ ⟨G,0,Γ⟩) r r) (Β (Δ ⟨I,0,Γ⟩) r r))/\W.ownsRow D 68 1 (Β (Δ ⟨G,0,Γ⟩) r r) r (ζ r (Β Γ 0 0))/\W.ownsRow D 4 1 (Β (Δ ⟨I,0,Γ⟩) r r) r ((ζ r Τ).map ο)
 | _,v,W=>∃ g,v=Ω (Δ ⟨g,0,Γ⟩)/\W.heap[g]? = Δ (Ε #[Β Γ 0 0,Β Γ 0 0,Β Γ 0 0] 30 (0,0))/\D<=g
theorem Agw (J r:Nat) (M:Ν):∀ (i:Nat) (v:Ν) (w w':Λ),Pp J r M i v w->Ext w w'->Pp J r M i v w'
 | 0,_,_,_,h,_=>h
 | 1,_,_,_,h,_=>h
 | 2,_,_,_,⟨g,E,G⟩,D=>⟨g,E,Ah G D⟩
 | 3,_,_,_,h,_=>h
 | 4,_,_,_,⟨g,E,G⟩,D=>⟨g,E,Ah G D⟩
 | 5,_,_,_,⟨g,T,E,G,I⟩,D=>⟨g,T,E,Ah G D,Ah I D⟩
 | _+6,_,_,_,⟨g,E,G,I⟩,D=>⟨g,E,D.heap G,I⟩
def Po (wF:Λ) (r n D I E G J M T s x:Nat) (U:Ν) (ok:Bool):Nat->Ν->Λ->Prop
 | 0,v,_=>v=Ω (Δ ⟨I,1,Γ⟩)
 | 1,v,_=>v=Β (Δ ⟨D,0,Γ⟩) r r
 | 2,v,_=>v=Β (Δ ⟨G,0,Γ⟩) n n
 | 3,v,_=>v=iv s
 | 4,v,_=>v=Ω (Δ ⟨G,s,Γ⟩)
 | 5,v,_=>v=iv x
 | 6,v,_=>v=Ω (Δ ⟨I,2,Γ⟩)
 | 7,v,_=>v=Β (Δ ⟨E,0,Γ⟩) r r
 | 8,v,_=>v=Β (Δ ⟨G,0,Γ⟩) n n
 | 9,v,_=>v=iv s
 | 10,v,_=>v=Ω (Δ ⟨G,s,Γ⟩)
 | 11,v,_=>v=iv x
 | 12,v,_=>v=U
 | 13,v,_=>v=Β (Δ ⟨J,M,Γ⟩) n T
 | 14,v,_=>v=iv s
 | 15,v,_=>v=Ω (Δ ⟨J,M+s,Γ⟩)
 | 16,v,_=>v=.bool ok
 | 17,v,_=>v=Ω (Δ ⟨D,x,Γ⟩)
 | 18,_,W=>W.heap[D]? = wF.heap[D]?
 | 19,v,_=>v=Ω (Δ ⟨E,x,Γ⟩)
 | _,_,W=>W.heap[E]? = wF.heap[E]?
theorem Agv {w1:Λ} (wF:Λ) (r n D I E J M T U s x:Nat) (vx:Ν) (ok:Bool) (h5:D<w1.heap.size) (h9:E<w1.heap.size):∀ (i:Nat) (v:Ν) (w w':Λ),Po wF r n D I E J M T U s x vx ok i v w->Prg w1 wF w w'->Po wF r n D I E J M T U s x vx ok i v w'
 | 0,_,_,_,h,_=>h
 | 1,_,_,_,h,_=>h
 | 2,_,_,_,h,_=>h
 | 3,_,_,_,h,_=>h
 | 4,_,_,_,h,_=>h
 | 5,_,_,_,h,_=>h
 | 6,_,_,_,h,_=>h
 | 7,_,_,_,h,_=>h
 | 8,_,_,_,h,_=>h
 | 9,_,_,_,h,_=>h
 | 10,_,_,_,h,_=>h
 | 11,_,_,_,h,_=>h
 | 12,_,_,_,h,_=>h
 | 13,_,_,_,h,_=>h
 | 14,_,_,_,h,_=>h
 | 15,_,_,_,h,_=>h
 | 16,_,_,_,h,_=>h
 | 17,_,_,_,h,_=>h
 | 18,_,_,_,h,G=>G.turned h5 h
 | 19,_,_,_,h,_=>h
 | _+20,_,_,_,h,G=>G.turned h9 h
theorem Ahm (i:Nat) (h:i<21):i=0\/i=1\/i=2\/i=3\/i=4\/i=5\/i=6\/i=7\/i=8\/i=9\/i=10\/i=11\/i=12\/i=13\/i=14\/i=15\/i=16\/i=17\/i=18\/i=19\/i=20:=by omega
theorem Ag5 (t:Tbl) (hv:TVal t) (hn:t.n.length<=65536) (hl:Reached t (ι t.n.length)) (L:List Cls) (hL:Parts L) (hc:t.cells=L.length) (iy:∀ b,b<256->t.cell b=Ak L b) (vC vN vA:Ν) (w:Λ) (hT:Tab w) (jd:0<w.heap.size)
  (hC:Cs w vC L) (hN:Rows w vN t.n) (hA:Bools w vA t.acc) :
  Calls Ζ 58 #[vC,vN,vA] w λe w'=>∃ r,ResOf w' e r/\F8 (λu=>t.has u=Ξ) r/\Ext w w':=by
 have ej:=hv.pos;have nh:=hv.cpos;have p9:=hv.cle;obtain⟨bn,on,cn,rfl,hR⟩:=L5 hN t.cells ej nh hv.row;obtain⟨ba,oa,ca,rfl,jg⟩:=Le hA (by rw[hv.accL];exact ej);obtain⟨bc,oc,cc,rfl,-⟩:=Û hC hL.pos;have nk:=Α (λW (D:Ext w W)=>hT.below D.below jd);have jh:RowsAt w bn on t.n.length t.cells t.ent2:=hR;have ji:∀ s,s<t.n.length->w.cell? ⟨ba,oa+s,Γ⟩=Δ (.bool (t.ok s)):=λs hs=>jg s (by rw[hv.accL];exact hs)
 have HR:=Α jh;have HV:=Α hv;have HL:=Α hl;have jk:=Α ji;have e8:=hv.accL;have HC:=Α hC;have nm:=Α hL;have nn:=Α iy;have np:=Α hc;rw[e8];have e8:=Α e8;obtain⟨lc,e9⟩:∃ x,L.length=x:=⟨_,rfl⟩;rw[e9];have nq:=Α e9;obtain⟨i0,hi,fb,fc,fe⟩:=Ϟ Cp;obtain⟨i5,fg,fh,fj,fk⟩:=Ϟ (show (Ζ.info? 5).map (λi=>(i.zero,i.size,i.bytes))=Δ (Δ (.int .u8 0),1,1) by kernel_rfl);have bf:=(Θ w).alloc (Ε #[Β Γ 0 0,Β Γ 0 0,Β Γ 0 0] 30);have H0:=Aa w (Ε #[Β Γ 0 0,Β Γ 0 0,Β Γ 0 0] 30);clear hR jh hv hC hN hA jg ji hl hL hc iy hT e9;go_enter Tryz.func58,Tryz.ntmps58;go_upto_region 1 with (fail)
 obtain⟨w1,en⟩:∃ W,w.alloc (Ε #[Β Γ 0 0,Β Γ 0 0,Β Γ 0 0] 30)=W:=⟨_,rfl⟩;have qa:w.heap.size<w1.heap.size:=by rw[<-en,Ρ];omega
 rw[en] at bf H0;simp only[en];clear en;have HB:=Α H0;clear H0;go_upto_region 2 with (at_make;refine ϩ _ rfl _ _ 68 rfl w1.heap.size 3 i0 (.int ε 0) 1 ϔ hi fb fc ε ε _ _ t.n.length rfl rfl rfl rfl (by rw[fe];omega) (by unfold ϛ;omega) (ν _) ?_;intro w2 jm jn)
 have jo:Ext w1 w2:=(Θ w1).grown jn (λk e=>by cases e);have jq:w2.ownsRow w1.heap.size 3 1 (Β (Δ ⟨w1.heap.size,0,Γ⟩) t.n.length t.n.length) t.n.length ((ζ t.n.length 0).map iv):=by rw[<-B6];exact jm
 clear jm jn;generalize jr:w1.heap.size=gb at *;have js:=Α jr;clear jr;go_wp2_with (fail);go_loopw [32] (λi W=>∃ (j:Nat) (B:List Nat),j<=t.n.length/\i=.int ε j/\Ext w1 W/\
   W.ownsRow gb 3 1 (Β (Δ ⟨gb,0,Γ⟩) t.n.length t.n.length) t.n.length (B.map iv)/\À (AInv t (ι t.n.length) j B))
  (λi _=>t.n.length-(intOf i).toNat)
 case atStart=>exact⟨0,_,by omega,rfl,jo,jq,Α (Zk t _)⟩
 case round=>
  clear jo jq;obtain⟨j,B,hj,rfl,hE,hB,HI⟩:=hrel;by_cases af:j<t.n.length
  ·have jt:=(bf.trans hE).cell (jk.out j af);have ju:=Α HI.out.len;have jv:w1.heap.size<=gb:=à js.out;have fm:(ι t.n.length).getD j 0=j:=(by rw[Η,Õ af];rfl);have HY:=Α (λho=>Zj HI.out (by simpa using af) (by rw[fm];exact af) ho);have HN:=Α (λho=>Zl HI.out (by simpa using af) ho);rw[fm] at HY HN;clear fm;cases da:t.ok j
   ·rw[da] at jt;have bl:=Α (HN.out da);clear da;go_wp2_with (fail);go_roundw
    case rel=>exact⟨j+1,B,by omega,by go_num,hE,hB,bl⟩
    case measure=>simp[intOf];omega
   ·rw[da] at jt;have nt:=Α (HY.out da);clear da;obtain⟨nu,b4⟩:=Bk hB j 1;have cs:=Am 0 hB ju.out.symm j (by rw[ju.out];exact af);have fs:=hB.frozenAt j;go_wp2_with (fail);go_roundw
    case rel=>exact⟨j+1,B.set j 1,by omega,by go_num,hE.grown b4 (λk e=>by cases e;exact jv),nu,nt⟩
    case measure=>simp[intOf];omega
  ·obtain rfl:j=t.n.length:=by omega
   have HO:=Α (U3 (by rw[Î];exact HI.out));clear HI;have jv:w1.heap.size<=gb:=à js.out;go_upto_region 8 with (fail)
   obtain⟨w3,eo⟩:∃ W,W=wr:=⟨_,rfl⟩;subst eo;have cl:À (∀ s,s<t.n.length->w3.cell? ⟨gb,s,Γ⟩=Δ (iv (B.getD s 0))):=Α λs hs=>Am 0 hB HO.out.len.symm s (by rw[HO.out.len];exact hs)
   have jx:gb<w3.heap.size:=(hB.lt gb rfl).2;clear hB;go_wp2_with (fail);go_loopw [8,11] (λv c W=>∃ (B:List Nat) (n g:Nat),v=Β (Δ ⟨g,0,Γ⟩) t.n.length t.n.length/\c=.int ε n/\Ext w1 W/\g<W.heap.size/\
     À (∀ s,s<t.n.length->W.cell? ⟨g,s,Γ⟩=Δ (iv (B.getD s 0)))/\À (OInv t (ι t.n.length) B n))
    (λ_ c _=>t.n.length-(intOf c).toNat)
   case atStart=>exact⟨B,0,gb,rfl,rfl,hE,jx,cl,HO⟩
   case round=>
    clear cl HO jx hE;clear B;obtain⟨B,n,g,rfl,rfl,hE,qc,cl,HO⟩:=hrel;have nv:=HO.out.le;rw[Î] at nv;obtain⟨I,nw⟩:∃ W,W=wr:=⟨_,rfl⟩;subst nw;have ny:=bf.trans hE;have jy:=Α (λ(W:Λ) (D:Ext I W)=>HR.out.ext (ny.trans D));have n0:=Α (λ(W:Λ) (D:Ext I W) s (hs:s<t.n.length)=>D.cell (cl.out s hs));have n2:=@run_makeMap Ζ;go_upto_region 10 with (fail)
    clear n2;have jz:=(Θ I).alloc (.map #[] 0);have j1:=Ajb I 9 Dj;have j2:(I.alloc (.map #[] 0)).heap.size=I.heap.size+1:=Ρ _ _;obtain⟨w3,eo⟩:∃ W,I.alloc (.map #[] 0)=W:=⟨_,rfl⟩;simp only[eo] at *;clear eo;go_upto_region 11 with (at_make;refine ϩ _ rfl _ _ 68 rfl w3.heap.size 3 i0 (.int ε 0) 1 ϔ hi fb fc ε ε _ _ t.n.length rfl rfl rfl rfl (by rw[fe];omega) (by unfold ϛ;omega) (ν _) ?_;intro w4 j3 fq)
    have cm:=jz.grown fq (λk e=>by cases e);have a8:w4.ownsRow w3.heap.size 3 1 (Β (Δ ⟨w3.heap.size,0,Γ⟩) t.n.length t.n.length) t.n.length ((ζ t.n.length 0).map iv):=by rw[<-B6];exact j3
    have bq:=j1.kept fq (by simp);have dq:I.heap.size+1<w4.heap.size:=by have:w3.heap.size<w4.heap.size:=(a8.lt _ rfl).2;omega
    rw[j2] at a8;clear j3 fq j1 jz;generalize ep:w3.heap.size=gn at *;obtain rfl:gn=I.heap.size+1:=j2;go_wp2_with (fail);go_loopw [48] (λi W=>∃ (j:Nat) (N R:List Nat) (f:List UInt8->Option Nat),j<=t.n.length/\i=.int ε j/\Ext I W/\I.heap.size+1<W.heap.size/\
      W.ownsRow (I.heap.size+1) 3 1 (Β (Δ ⟨I.heap.size+1,0,Γ⟩) t.n.length t.n.length) t.n.length (N.map iv)/\IsMq W 9 Dj I.heap.size R.length f/\
      À (FInv (Bu t λs=>B.getD s 0) j (λs=>N.getD s 0) R f/\N.length=t.n.length))
     (λi _=>t.n.length-(intOf i).toNat)
    case atStart=>exact⟨0,_,[],_,by omega,rfl,cm,dq,a8,bq,Α ⟨Qk _ _,by simp⟩⟩
    case round=>
     clear a8 bq cm dq;obtain⟨j,N,R,f,hj,rfl,cm,dq,a8,bq,HN⟩:=hrel;have qd:=HN.out.1.le;obtain⟨w4,ft⟩:∃ W,W=wr:=⟨_,rfl⟩;subst ft;by_cases af:j<t.n.length
     ·have fu:j∈ι t.n.length:=υ.2 af;have hx:=HO.out.lt _ fu;have n3:=Α (λk (hk:k<t.cells)=>HO.out.lt _ (HL.out.closed _ fu k hk));clear fu;obtain⟨br,or',cr,dt,du⟩:=jy.out I (Θ I) j af;have fv:=cm.cell dt;have fw:=Α (λ(W:Λ) (D:Ext I W) k (hk:k<t.cells)=>D.cell (du k hk));have ob:=Α (λk (hk:k<t.cells)=>HV.out.tgt j af k hk);clear dt du;obtain⟨x,er⟩:∃ x,B.getD j 0=x:=⟨_,rfl⟩;rw[er] at hx;have HX:=Α (λ(W:Λ) (D:Ext I W)=>(D.cell (cl.out j af)).trans (by rw[er]));have od:=Α er;clear er;go_upto_region 14 with (fail)
      clear fv;go_upto_region 15 with (at_make;refine wpList_make_own _ rfl _ _ 22 rfl (I.heap.size+1+1) 5 i5 (.int .u8 0) 1 ϻ fg fh fj ε ε _ (2*t.cells+2) rfl rfl (by push_cast;rfl) (by rw[fk];omega) (by unfold ϛ;omega) (by omega) ?_;intro w5 ay a6)
      have ak:=cm.grown a6 (λk e=>by cases e);have az:=Cb a8 a6;have a1:=bq.kept a6 (by simp);have cp:I.heap.size+1<w5.heap.size:=δ dq a6.size;have G:∀ W,Ext I W->Ext I W/\W.cell? ⟨g,j,Γ⟩=Δ (iv x):=λW D=>⟨D,HX.out W D⟩
      have cx:=HX.out w5 ak;clear a6 a8 bq;go_region_held_law (λW=>Ext I W/\W.cell? ⟨g,j,Γ⟩=Δ (iv x))
       (first|exact G _ aq|exact G _ (ak.drew.alloc _)|exact G _ ak.drew)
       ((refine step_append_lies _ rfl _ _ 22 rfl (I.heap.size+1+1) 5 i5 (.int .u8 0) 1 1 ϻ fg fh fj fk rfl (by decide) _ _ _ rfl ((Ah ay (Θ w5).drew).alloc _) _ 2 2 ((Bm x).map bv) rfl rfl (Jk _ _ _ _) (by simp[Bm,ό]) (by decide) (by unfold ϛ;omega) (by omega) (by simp;omega) _ rfl ?_
         intro g6 c6 w6 b8 ai fx fy;have aq:Ext I w6:=(ak.drew.alloc _).grown ai (λk e=>by have:=(ay.lt k e).1;omega)))
      have bh:=((Ah az (Θ w5).drew).alloc _).kept ai (Aj az ay (by decide));have bt:=((a1.ext (Θ w5).drew).alloc _).kept ai (a1.ne_row ay);have bu:I.heap.size+1<w6.heap.size:=by
       have J:(w5.drew.alloc (Ε _ 5)).heap.size<=w6.heap.size:=ai.size;rw[Ρ] at J;have h2:w5.heap.size<=w5.drew.heap.size:=(Θ w5).drew.size;omega
      obtain⟨gf,j4⟩:∃ gf:Nat->Nat,(λk=>B.getD (t.ent2 j k) 0)=gf:=⟨_,rfl⟩;have j5:=Α j4;have b8:w6.ownsRow (I.heap.size+1+1) 5 1 (Β (Δ ⟨g6,0,Γ⟩) (2+2*0) c6) (2+2*0) ((Bm x++Bg gf 0).map bv):=by
       rw[show Bm x++Bg gf 0=Bm x by simp[Bg]];exact b8
      clear j4 az a1 ay ai fx fy cx G ak cp;go_wp2_with (fail);go_loopw [16,74] (λv i W=>∃ (k gk ck:Nat),k<=t.cells/\i=.int ε k/\v=Β (Δ ⟨gk,0,Γ⟩) (2+2*k) ck/\Ext I W/\I.heap.size+1<W.heap.size/\
        W.ownsRow (I.heap.size+1) 3 1 (Β (Δ ⟨I.heap.size+1,0,Γ⟩) t.n.length t.n.length) t.n.length (N.map iv)/\IsMq W 9 Dj I.heap.size R.length f/\
        W.ownsRow (I.heap.size+1+1) 5 1 v (2+2*k) ((Bm x++Bg gf k).map bv))
       (λ_ i _=>t.cells-(intOf i).toNat)
      case atStart=>exact⟨0,g6,c6,by omega,rfl,rfl,aq,bu,bh,bt,b8⟩
      case round=>
       clear aq bu bh bt b8;obtain⟨k,gk,ck,hk,rfl,rfl,ak,cp,az,a1,ay⟩:=hrel;obtain⟨w5,og⟩:∃ W,W=wr:=⟨_,rfl⟩;subst og;by_cases gd:k<t.cells
       ·have et:=ob.out k gd;have hz:=n3.out k gd;have cy:=fw.out w5 ak k gd;obtain⟨y,gg⟩:∃ y,t.ent2 j k=y:=⟨_,rfl⟩;have j8:À (gf k=B.getD y 0):=Α (by rw[<-j5.out,<-gg]);rw[gg] at cy et hz;clear gg;obtain⟨z,gh⟩:∃ z,B.getD y 0=z:=⟨_,rfl⟩;rw[gh] at hz j8;have HZ:=Α (λ(W:Λ) (D:Ext I W)=>(D.cell (cl.out y et)).trans (by rw[gh]));clear gh;have G:∀ W,Ext I W->Ext I W/\W.cell? ⟨g,y,Γ⟩=Δ (iv z):=λW D=>⟨D,HZ.out W D⟩
        have cz:=HZ.out w5 ak;go_upto_region 19 with (fail)
        clear cy;go_region_held_law (λW=>Ext I W/\W.cell? ⟨g,y,Γ⟩=Δ (iv z))
         (first|exact G _ aq|exact G _ (ak.drew.alloc _)|exact G _ ak.drew)
         ((refine step_append_lies _ rfl _ _ 22 rfl (I.heap.size+1+1) 5 i5 (.int .u8 0) 1 1 ϻ fg fh fj fk rfl (by decide) _ _ _ rfl ((Ah ay (Θ w5).drew).alloc _) _ 2 2 ((Bm z).map bv) rfl rfl (Jk _ _ _ _) (by simp[Bm,ό]) (by decide) (by unfold ϛ;omega) (by omega) (by simp;omega) _ rfl ?_
           intro g6 c6 w6 b8 ai fx fy;have aq:Ext I w6:=(ak.drew.alloc _).grown ai (λk e=>by have:=(ay.lt k e).1;omega)))
        have bh:=((Ah az (Θ w5).drew).alloc _).kept ai (Aj az ay (by decide));have bt:=((a1.ext (Θ w5).drew).alloc _).kept ai (a1.ne_row ay);have bu:I.heap.size+1<w6.heap.size:=by
         have J:(w5.drew.alloc (Ε _ 5)).heap.size<=w6.heap.size:=ai.size;rw[Ρ] at J;have h2:w5.heap.size<=w5.drew.heap.size:=(Θ w5).drew.size;omega
        have b8:w6.ownsRow (I.heap.size+1+1) 5 1 (Β (Δ ⟨g6,0,Γ⟩) (2+2*(k+1)) c6) (2+2*(k+1)) ((Bm x++Bg gf (k+1)).map bv):=by
         rw[show Bm x++Bg gf (k+1)=(Bm x++Bg gf k)++Bm z by rw[Bg,j8.out,List.append_assoc],List.map_append];exact b8
        clear az a1 ay ai fx fy cz G ak cp;go_wp2;go_roundw
        case rel=>exact⟨k+1,g6,c6,by omega,by go_num,rfl,aq,bu,bh,bt,b8⟩
        case measure=>simp[intOf];omega
       ·obtain rfl:k=t.cells:=by omega
        have db:(Bm x++Bg gf t.cells).length=2+2*t.cells:=by rw[Υ,Jj,Pr]
        have gi:Bu t (λs=>B.getD s 0) j=Bm x++Bg gf t.cells:=by
         show Bm (B.getD j 0)++Bg (λk=>B.getD (t.ent2 j k) 0) t.cells=_;rw[od.out,j5.out]
        obtain⟨ky,ka⟩:∃ ky,Bm x++Bg gf t.cells=ky:=⟨_,rfl⟩;rw[ka] at db gi ay;have gj:=Α gi;clear ka gi;have om:(convert 22 9 (Β (Δ ⟨gk,0,Γ⟩) (2+2*t.cells) ck)).run Ζ w5=.ok (Dj ky) w5:=Ik _ _ _ (By.of_owns (by rw[db];exact ay) (by rw[db];omega));have gl:=Oe ky (by rw[db];unfold ϛ;omega);have qe:=Α db;clear db;have cn:=Am 0 az HN.out.2.symm j (by rw[HN.out.2];exact af);have fn:=az.frozenAt j;cases hf:f ky with
        | some i=>
         have bl:=Aki HN.out.1 (by rw[HN.out.2];exact af) i (by rw[gj.out];exact hf);have bl:=Α (ß bl (show (N.set j i).length=t.n.length by rw[ϒ];exact HN.out.2));obtain⟨bh,ai⟩:=Bk az j i;have aq:=ak.grown ai (λk e=>by cases e;omega);have bt:=a1.kept ai (by simp);have bu:=δ cp ai.size;clear ai az ak cp;go_wp2_with (at_lookup;refine Er rfl _ _ 155 rfl Fz ñ rfl a1.mp ky rfl gl ?_;rw[hf];dsimp only [Option.isSome,Option.getD]);go_roundw
         case rel=>exact⟨j+1,N.set j i,R,f,by omega,by go_num,aq,bu,bh,bt,bl⟩
         case measure=>simp[intOf];omega
        | none=>
         have bl:=Akj HN.out.1 (by rw[HN.out.2];exact af) (by rw[gj.out];exact hf);rw[gj.out] at bl;have bl:=Α (ß bl (show (N.set j R.length).length=t.n.length by rw[ϒ];exact HN.out.2));clear cn fn;go_upto_region 23 with (at_lookup;refine Er rfl _ _ 155 rfl Fz ñ rfl a1.mp ky rfl gl ?_;rw[hf];dsimp only [Option.isSome,Option.getD])
         go_upto_region 24 with (at_len;refine N3 rfl _ 155 rfl ñ rfl a1 ?_)
         go_upto_region 25 with (at_mapUpdate;refine Aaa rfl _ _ _ 155 rfl Fz ñ rfl a1 (by unfold ϛ;omega) Of ky hf rfl gl R.length rfl (by omega) ?_;intro w6 bt ai)
         clear om;have bh:=az.kept ai (a1.far az);have aq:=ak.grown ai (λk e=>by cases e;omega);have bu:=δ cp ai.size;clear ai az ak cp a1 ay;have cn:=Am 0 bh HN.out.2.symm j (by rw[HN.out.2];exact af);have fn:=bh.frozenAt j;obtain⟨oo,eu⟩:=Bk bh j R.length;have oq:=aq.grown eu (λk e=>by cases e;omega);have ot:=bt.kept eu (by simp);have ou:=δ bu eu.size;clear eu bh aq bu bt;go_wp2;go_roundw
         case rel=>exact⟨j+1,N.set j R.length,R++[j],_,by omega,by go_num,oq,ou,oo,by rw[Υ];exact ot,bl⟩
         case measure=>simp[intOf];omega
     ·obtain rfl:j=t.n.length:=by omega
      by_cases he:R.length=n
      ·have kb:((R.length:Int)==(n:Int))=Ξ:=by simp[he]
       have bm:=Α (Aj6 HV.out HL.out HO.out HN.out.1 he);have ow:=Α (Akh HN.out.1 HV.out.pos);have kc:Ints w4 (Β (Δ ⟨I.heap.size+1,0,Γ⟩) t.n.length t.n.length) N:=OwnI.ints (base:=I.heap.size+1) (by
        show Λ.ownsRow _ _ _ _ _ _ _;rw[HN.out.2];exact a8) (by rw[HN.out.2];omega)
       have dy:=Α HN.out.2;have bw:=Α (hE.trans cm);have ox:=Α kc;have kd:=Α (λs (hs:s<t.n.length)=>Am 0 a8 HN.out.2.symm s (by rw[HN.out.2];exact hs));have ev:=bq;clear he HO HN a8 bq cl jy n0 kc;go_upto_region 30 with (at_len;refine N3 rfl _ 155 rfl ñ rfl ev ?_)
       clear ev kb;have ew:=bm.out.blk;have oy:R.length<=t.n.length:=by have:=Jq ew;rwa [Î] at this
       have f104:=Α (Ahb N (by rw[dy.out];exact ej) (λi hi=>by have h:N.getD i 0<R.length:=ew.lt i (υ.2 (by rw[<-dy.out];exact hi));omega) (by rw[dy.out];omega) _ w4 ox.out);have HM:=Α (λ(m:Nat) (J:∀ i,i<N.length->N.getD i 0<=m) (h2:∃ i,i<N.length/\N.getD i 0=m)=>Aha ew dy.out ej J h2);obtain⟨r,hr⟩:∃ r,R.length=r:=⟨_,rfl⟩;rw[hr] at HM oy;have ct:=Α hr;have qf:=dy.out;clear hr ew;go_upto_region 31 with (go_at_call 104;(with_reducible refine f104.out.mono ?_);rintro e w5 ⟨m,rfl,rfl,J,h2⟩;have oz:=HM.out m J h2;clear J h2)
       have ke:(m:Int)+1=(r:Int):=by omega
       simp only[ke];clear ke;obtain⟨gB,o0⟩:∃ x,I.heap.size+1=x:=⟨_,rfl⟩;simp only[o0] at *;have bx:=Α (bw.out.heap HB.out);clear f104 oz HM;by_cases o1:64<r
       ·have o2:=Α Dn;go_wp2_with (first
         | (refine Bw rfl 30 _ rfl #[Β Γ 0 0,Β Γ 0 0,Β Γ 0 0] ?_ ?_;(simp;with_reducible exact o2.out))
         | (refine Φ rfl 30 (η 6) (η 125) rfl _ _ rfl rfl _ _ bx.out Ad rfl C8 ?_))
        refine ω (v:=.tuple #[zD,.int ε 2]) (A3 rfl _ _ _ _ _ _ _ rfl _ rfl (μ _ _ _ #[Β Γ 0 0,Β Γ 0 0,Β Γ 0 0] 30 (0,0) bx.out) Κ rfl Ad) rfl ?_;exact⟨Γ,rfl,Anj HV.out HL.out bm.out (by rw[ct.out];exact o1),(bf.trans bw.out).setRow (by omega) _⟩
       ·obtain⟨w4,ft⟩:∃ W,W=w5:=⟨_,rfl⟩;subst ft;obtain⟨j0,o4,o5,o6,o7⟩:=Ϟ D8;obtain⟨k0,o9,pa,pb,pc⟩:=Ϟ M1;go_upto_region 33 with (fail)
        refine Ic 7 182 (by kernel_rfl) (by kernel_rfl) rfl (Pp w4.heap.size r (Β (Δ ⟨bc,oc,Γ⟩) lc cc)) Gk It (Agw _ _ _) (λi dc=>?_) (λvs w5 ak hF hN=>?_)
        ·have gq:=(Θ w4).drew
         match i,dc with
         | 0,_=>
          refine Ap _ _ rfl rfl rfl λc W D E G=>?_
          have T:c.tmps.getD 0 ς=Β (Δ ⟨bc,oc,Γ⟩) lc cc:=G 0 (by kernel_rfl);go_simp;exact⟨_,rfl,Θ W,rfl,λ_ _ _ _ _=>trivial⟩
         | 1,_=>
          refine Ap _ _ rfl rfl rfl λc W D E G=>?_
          have T:c.tmps.getD 21 ς=iv r:=G 21 (by kernel_rfl);go_simp;exact⟨_,rfl,Θ W,rfl,λ_ _ _ _ _=>trivial⟩
         | 2,_=>
          refine Ap _ _ rfl rfl rfl λc W D E G=>?_
          have T:c.tmps.getD 127 ς=iv r:=E 1 127 (by kernel_rfl);refine Id W _ _ 27 rfl w4.heap.size 68 k0 (Β Γ 0 0) 1 Tryz.underlying27 o9 pa pb ε ε _ _ r T T rfl rfl (by rw[pc];omega) (by unfold ϛ;omega) (gq.trans D).size ?_;intro W' gr b4;refine⟨_,rfl,(Θ W).grown b4 (λk e=>by cases e),⟨_,rfl,?_⟩,λ_ _ _ _ _=>trivial⟩;have:(madeCells (Ν.slice Γ 0 0).cells (r*1)).toList=ζ r (Β Γ 0 0):=by
           rw[Nat.mul_one];exact toList_madeCells_one _ _
          rw[<-this];exact gr
         | 3,_=>
          refine Ap _ _ rfl rfl rfl λc W D E G=>?_
          have T:c.tmps.getD 21 ς=iv r:=G 21 (by kernel_rfl);go_simp;exact⟨_,rfl,Θ W,rfl,λ_ _ _ _ _=>trivial⟩
         | 4,_=>
          refine Ap _ _ rfl rfl rfl λc W D E G=>?_
          have T:c.tmps.getD 129 ς=iv r:=E 3 129 (by kernel_rfl);refine Id W _ _ 28 rfl w4.heap.size 4 j0 (.bool Τ) 1 Tryz.underlying28 o4 o5 o6 ε ε _ _ r T T rfl rfl (by rw[o7];omega) (by unfold ϛ;omega) (gq.trans D).size ?_;intro W' gr b4;refine⟨_,rfl,(Θ W).grown b4 (λk e=>by cases e),⟨_,rfl,?_⟩,λ_ _ _ _ _=>trivial⟩;rw[<-B6];exact gr
         | 5,_=>
          refine Ap _ _ rfl rfl rfl λc W D E G=>?_
          have T:c.tmps.getD 126 ς=Β (Δ ⟨bc,oc,Γ⟩) lc cc:=E 0 126 (by kernel_rfl);obtain⟨M,kf,h5⟩:∃ g,c.tmps.getD 128 ς=Β (Δ ⟨g,0,Γ⟩) r r/\W.ownsRow w4.heap.size 68 1 (c.tmps.getD 128 ς) r (ζ r (Β Γ 0 0)):=E 2 128 (by kernel_rfl);obtain⟨U,kh,h9⟩:∃ g,c.tmps.getD 130 ς=Β (Δ ⟨g,0,Γ⟩) r r/\W.ownsRow w4.heap.size 4 1 (c.tmps.getD 130 ς) r ((ζ r Τ).map ο):=E 4 130 (by kernel_rfl);rw[kf] at h5;rw[kh] at h9;refine C4 (Hm 30 _ rfl (A:=dA (Β (Δ ⟨bc,oc,Γ⟩) lc cc) (Β (Δ ⟨M,0,Γ⟩) r r) (Β (Δ ⟨U,0,Γ⟩) r r)) ?_ W) ?_
          ·have e:(Array.map (λ(i,x)=>(i,c.eval x)) #[(0,ϵ.tmp 126),(1,ϵ.tmp 128),(2,ϵ.tmp 130)]).toList=[(0,c.eval (η 126)),(1,c.eval (η 128)),(2,c.eval (η 130))]:=by simp
           rw[e,show c.eval (η 126)=_ from T,show c.eval (η 128)=_ from kf,show c.eval (η 130)=_ from kh];exact Rb _ _ _ _ _ _ _ _ _
          ·exact⟨_,rfl,Θ W,⟨M,U,rfl,h5,h9⟩,λ_ _ _ _ _=>trivial⟩
         | 6,_=>
          refine Ap _ _ rfl rfl rfl λc W D E G=>?_
          go_simp;exact⟨_,rfl,(Θ W).alloc _,⟨_,rfl,Aa W _,(gq.trans D).size⟩,λ_ _ _ _ _=>trivial⟩
        ·have ki:vs 0=Β (Δ ⟨bc,oc,Γ⟩) lc cc:=hF 0 (by omega);have kj:vs 1=iv r:=hF 1 (by omega);obtain⟨qg,kk,-⟩:∃ g,vs 2=Β (Δ ⟨g,0,Γ⟩) r r/\_:=hF 2 (by omega);have kl:vs 3=iv r:=hF 3 (by omega);obtain⟨qh,km,-⟩:∃ g,vs 4=Β (Δ ⟨g,0,Γ⟩) r r/\_:=hF 4 (by omega);obtain⟨M,U,ea,bj,bk⟩:∃ M U,vs 5=.agg (dA (Β (Δ ⟨bc,oc,Γ⟩) lc cc) (Β (Δ ⟨M,0,Γ⟩) r r) (Β (Δ ⟨U,0,Γ⟩) r r))/\_/\_:=hF 5 (by omega);obtain⟨g8,kn,H8,eb⟩:∃ g,vs 6=Ω (Δ ⟨g,0,Γ⟩)/\_/\_:=hF 6 (by omega);simp only[Bq,List.drop_succ_cons,List.drop_zero,ki,kj,kk,kl,km,ea,kn,Ü,ä,È,Option.bind_some,Act.put,Ι,Χ,Ψ];clear hF hN ki kj kk kl km ea kn;go_upto_region 34 with (refine Φ rfl 30 (η 22) (η 131) rfl _ _ rfl rfl _ _ H8 Ad rfl (Aq _ _ _ rfl rfl rfl) ?_)
         have aq:=((Θ w4).drew.trans ak).setRow eb (dA (Β (Δ ⟨bc,oc,Γ⟩) lc cc) (Β (Δ ⟨M,0,Γ⟩) r r) (Β (Δ ⟨U,0,Γ⟩) r r));have gu:=μ w5 g8 _ (dA (Β (Δ ⟨bc,oc,Γ⟩) lc cc) (Β (Δ ⟨M,0,Γ⟩) r r) (Β (Δ ⟨U,0,Γ⟩) r r)) _ _ H8;have gv:=bj.kept (Cd w5 g8 (dA (Β (Δ ⟨bc,oc,Γ⟩) lc cc) (Β (Δ ⟨M,0,Γ⟩) r r) (Β (Δ ⟨U,0,Γ⟩) r r))) (Dr bj H8 (by decide));have gw:=bk.kept (Cd w5 g8 (dA (Β (Δ ⟨bc,oc,Γ⟩) lc cc) (Β (Δ ⟨M,0,Γ⟩) r r) (Β (Δ ⟨U,0,Γ⟩) r r))) (Dr bk H8 (by decide));obtain⟨w6,gx⟩:∃ W,w5.setRow g8 (dA (Β (Δ ⟨bc,oc,Γ⟩) lc cc) (Β (Δ ⟨M,0,Γ⟩) r r) (Β (Δ ⟨U,0,Γ⟩) r r))=W:=⟨_,rfl⟩;rw[gx] at aq gu gv gw;simp only[gx];clear gx H8 bj bk ak;have cu:w4.heap.size<=w6.heap.size:=aq.size;have H8:=Α gu;clear gu;have ko:=Α (λs (hs:s<t.n.length)=>(show N.getD s 0<r from by rw[<-ct.out];exact bm.out.blk.lt s (υ.2 hs)));go_upto_region 35 with (fail)
         go_loopw [134] (λi W=>∃ (s:Nat) (NX:List Ν) (AC:List Bool),s<=t.n.length/\i=.int ε s/\Ext w4 W/\w4.heap.size<=W.heap.size/\À (NX.length=r/\AC.length=r)/\
           W.ownsRow w4.heap.size 68 1 (Β (Δ ⟨M,0,Γ⟩) r r) r NX/\W.ownsRow w4.heap.size 4 1 (Β (Δ ⟨U,0,Γ⟩) r r) r (AC.map ο)/\
           À (W.heap[g8]? = Δ (Ε (dA (Β (Δ ⟨bc,oc,Γ⟩) lc cc) (Β (Δ ⟨M,0,Γ⟩) r r) (Β (Δ ⟨U,0,Γ⟩) r r)) 30 (0,0)))/\
           À (∀ q,q<s->OwnI W w4.heap.size (NX.getD (N.getD q 0) ς) ((ι t.cells).map λk=>N.getD (t.ent2 q k) 0))/\
           À (∀ q,q<s->AC.getD (N.getD q 0) Τ=t.ok q))
          (λi _=>t.n.length-(intOf i).toNat)
         case atStart=>exact⟨0,_,_,by omega,rfl,aq,cu,Α ⟨by simp,by simp⟩,gv,gw,H8,Α (λj h=>by omega),Α (λj h=>by omega)⟩
         case round=>
          clear aq cu gv gw H8;obtain⟨s,NX,AC,hs,rfl,hE,cu,bo,bj,bk,H8,HQ,gy⟩:=hrel;by_cases af:s<t.n.length
          ·obtain⟨br,or',cr,dt,du⟩:=HR.out s af;have kq:=(bf.trans bw.out).trans hE;have fv:=kq.cell dt;have fw:=Α du;clear dt du kq;go_upto_region 37 with (fail)
           clear fv;go_upto_region 38 with (at_make;refine ϩ _ rfl _ _ 68 rfl wr.heap.size 3 i0 (.int ε 0) 1 ϔ hi fb fc ε ε _ _ t.cells rfl rfl rfl rfl (by rw[fe];omega) (by unfold ϛ;omega) (ν _) ?_;intro w7 kr cw)
           have hb:=hE.grown cw (λk e=>by cases e);have bj:=Cb bj cw;have bk:=Cb bk cw;have H8:=Α ((cw.block g8 (An H8.out) (by simp)).trans H8.out);have HQ:=Α (λq J=>ß (Cb (HQ.out q J) cw) (λe=>(show ∀ k,(NX.getD (N.getD q 0) ς).ownBlock=Δ k->k<wr.heap.size from λk e=>((HQ.out q J).lt k e).2) wr.heap.size e));have de:w7.ownsRow wr.heap.size 3 1 (Β (Δ ⟨wr.heap.size,0,Γ⟩) t.cells t.cells) t.cells ((Br (λk=>N.getD (t.ent2 s k) 0) t.cells 0).map iv):=by rw[Hl,<-B6];exact kr
           have qi:=Nat.le_trans cu cw.size;have qj:wr.heap.size<w7.heap.size:=(de.lt _ rfl).2;clear kr cw;generalize ep:wr.heap.size=gn at *;clear ep;go_upto_region 39 with (fail)
           go_loopw [144] (λi W=>∃ k:Nat,k<=t.cells/\i=.int ε k/\w7.grownBy W (Δ gn)/\W.ownsRow gn 3 1 (Β (Δ ⟨gn,0,Γ⟩) t.cells t.cells) t.cells ((Br (λk=>N.getD (t.ent2 s k) 0) t.cells k).map iv))
            (λi _=>t.cells-(intOf i).toNat)
           case atStart=>exact⟨0,by omega,rfl,Λ.grownBy.refl _ _,de⟩
           case round=>
            obtain⟨k,qk,rfl,hg,hX⟩:=hrel;have df:=hb.grown hg (λk e=>by cases e;exact cu);by_cases ez:k<t.cells
            ·have cq:=((bf.trans bw.out).trans df).cell (fw.out k ez);have et:=HV.out.tgt s af k ez;have cB:=df.cell (kd.out (t.ent2 s k) et);have co:=Am 0 hX (C2 _ _ _).symm k (by rw[C2];exact ez);have fo:=hX.frozenAt k;obtain⟨cd,b4⟩:=Bk hX k (N.getD (t.ent2 s k) 0);rw[F1 (λk=>N.getD (t.ent2 s k) 0) _ _ ez] at cd;have ep:=hg.trans b4;clear b4 df hg hX;generalize t.ent2 s k=y at *;generalize N.getD y 0=z at *;go_wp2_with (fail);go_roundw
             case rel=>exact⟨k+1,by omega,by go_num,ep,cd⟩
             case measure=>simp[intOf];omega
            ·obtain rfl:k=t.cells:=by omega
             rw[Jd] at hX;have ec:=ko.out s af;have ks:=bj.kept hg (Aj bj de (by decide));have kt:=bk.kept hg (Aj bk de (by decide));have df:=hb.grown hg (λk e=>by cases e;exact cu);have ku:g8≠gn:=λe=>by
              have J:=H8.out;obtain⟨C,hC,-⟩:=Gi de;rw[e,hC] at J;injection J with J
              injection J with _ h2 _
              exact absurd h2 (by decide)
             have kv:=(hg.block g8 (An H8.out) (by simp[ku])).trans H8.out;have kx:=Α (λq J=>(HQ.out q J).1.kept hg (.inr λe=>absurd ((HQ.out q J).2 e) (Nat.lt_irrefl _)));clear HQ bj bk H8 de hb;obtain⟨x,hx⟩:∃ x,N.getD s 0=x:=⟨_,rfl⟩;rw[hx] at ec;have HX:=Α hx;clear hx;have cf:=(Θ wr).drew;go_upto_region 43 with (fail)
             obtain⟨wd,hp⟩:∃ W,wr.drew=W:=⟨_,rfl⟩;rw[hp] at cf;have bp:=Ah ks cf;have ed:=Ah kt cf;have ee:=Ah hX cf;have dg:=df.trans cf;have c2:=cf.heap kv;have ef:=Α (λq J=>Ah (kx.out q J) cf);clear ks kt hX df kv kx;obtain⟨C5,cg,pe⟩:=Gi bp;obtain⟨C9,c3,pf⟩:=Gi ed;have ht:M≠U:=λe=>by
              rw[e,c3] at cg;injection cg with J
              injection J with _ h2 _
              exact absurd h2 (by decide)
             have e0:g8≠M:=λe=>by
              rw[<-e,c2] at cg;injection cg with J
              injection J with _ h2 _
              exact absurd h2 (by decide)
             have e3:g8≠U:=λe=>by
              rw[<-e,c2] at c3;injection c3 with J
              injection J with _ h2 _
              exact absurd h2 (by decide)
             have kz:w4.heap.size<=M:=(bp.lt M rfl).1;have k5:w4.heap.size<=U:=(ed.lt U rfl).1;obtain⟨p1,p2,p3,p4,p5,p6⟩:=Ly wd M x (Β (Δ ⟨gn,0,Γ⟩) t.cells t.cells) cg;have lf:=(p6 U (Ne.symm ht)).trans c3;obtain⟨q1,q2,q3,q4,q5,q6⟩:=Ly (wd.setCell ⟨M,x,Γ⟩ (Β (Δ ⟨gn,0,Γ⟩) t.cells t.cells)) U x (.bool (t.ok s)) lf;have ch:=(bp.stored x (Β (Δ ⟨gn,0,Γ⟩) t.cells t.cells)).1;have a6:=(bp.stored x (Β (Δ ⟨gn,0,Γ⟩) t.cells t.cells)).2;have eg:=ed.kept a6 (Aj ed bp (by decide));obtain⟨eh,ei⟩:=Bk eg x (t.ok s);have ch:=ch.kept ei (Aj ch eg (by decide));have cd:=(ee.kept a6 (Aj ee bp (by decide))).kept ei (Aj (ee.kept a6 (Aj ee bp (by decide))) eg (by decide));have h7:=Α (λq J=>((ef.out q J).kept a6 (Aj (ef.out q J) bp (by decide))).kept ei (Aj ((ef.out q J).kept a6 (Aj (ef.out q J) bp (by decide))) eg (by decide)));have dh:=(dg.grown a6 (λk e=>by cases e;exact kz)).grown ei (λk e=>by cases e;exact k5);obtain⟨wF,lg⟩:∃ W,(wd.setCell ⟨M,x,Γ⟩ (Β (Δ ⟨gn,0,Γ⟩) t.cells t.cells)).setCell ⟨U,x,Γ⟩ (.bool (t.ok s))=W:=⟨_,rfl⟩;rw[lg] at q1 q2 q3 q4 q5 q6 ch eh cd h7 dh;have ea:wF.heap[M]? = Δ (Ε (C5.setIfInBounds x (Β (Δ ⟨gn,0,Γ⟩) t.cells t.cells)) 68 (0,0)):=(q6 M ht).trans p5;have lh:∀ k,k≠M->k≠U->wF.heap[k]? = wd.heap[k]? := λk J h2=>(q6 k h2).trans (p6 k J)
             have c4:=Α lh;have h8:=An cg;have ia:=An c3;have eb:=An c2;have ib:=kd.out s af;have pg:gB<w4.heap.size:=Gu ib;have HP:=Α (λ(W:Λ) (D:Prg wd wF wd W)=>show W.cell? ⟨g8,1,Γ⟩=Δ (Β (Δ ⟨M,0,Γ⟩) r r)/\W.cell? ⟨g8,2,Γ⟩=Δ (Β (Δ ⟨U,0,Γ⟩) r r)/\W.cell? ⟨gB,s,Γ⟩=Δ (iv x)/\W.cell? ⟨ba,oa+s,Γ⟩=Δ (.bool (t.ok s)) from
              ⟨D.cell ((cell_of_row wd g8 1 _ _ _ c2).trans rfl) eb (c4.out _ e0 e3),D.cell ((cell_of_row wd g8 2 _ _ _ c2).trans rfl) eb (c4.out _ e0 e3),
               by
                have hh:=dg.cell ib;rw[HX.out] at hh;exact D.cell hh (by have:=dg.size;show gB<_;omega) (c4.out _ (by show gB≠M;omega) (by show gB≠U;omega)),
               by
                have lk:=(bf.trans bw.out).cell (jk.out s af);have qp:ba<w4.heap.size:=Gu lk;exact D.cell (dg.cell lk) (by have:=dg.size;show ba<_;omega) (c4.out _ (by show ba≠M;omega) (by show ba≠U;omega))⟩)
             have ic:=Α (λ(W:Λ) (D:Prg wd wF wd W) (J:W.heap[M]? = wF.heap[M]?) (h2:W.heap[U]? = wF.heap[U]?)=>show Ext wF W from
              D.done (by rw[q1,p1]) (by rw[q2,p2]) (by rw[q3,p3]) (by rw[q4,p4]) (λk _=>by
               by_cases e1:k=M
               ·subst e1;exact .inr J
               ·by_cases e2:k=U
                ·subst e2;exact .inr h2
                ·exact .inl (c4.out k e1 e2)))
             have ie:=Α (λ(W:Λ) (D:Prg wd wF wd W)=>D.store cg ea (by omega));have ig:=Α (λ(W:Λ) (D:Prg wd wF wd W)=>D.store c3 q5 (by omega));have lo:=Α ch;have lp:=Α eh;have lq:=Α cd;have lr:=Α dh;rw[<-hp] at HP ic ie ig h8 ia;have ls:=Α ((c4.out g8 e0 e3).trans c2);clear cg c3 lf ea p1 p2 p3 p4 p5 p6 q1 q2 q3 q4 q5 q6 lh ch eh cd dh bp ed ee dg c2 ef a6 ei eg lg hp cf pe pf ht e0 e3 kz k5 eb pg ib hg ku;refine N0 21 182 rfl (by kernel_rfl) (by kernel_rfl) rfl (Prg wr.drew wF) (Ö _ _) (Prg.trans _ _) (Po wF r t.n.length M g8 U gB ba oa ca s x (Β (Δ ⟨gn,0,Γ⟩) t.cells t.cells) (t.ok s)) Gk It (Agv _ _ _ _ _ _ _ _ _ _ _ _ _ _ h8 ia) (λi dc=>?_) (λvs w8 lv hF hN=>?_)
             ·rcases Ahm i dc with rfl|rfl|rfl|rfl|rfl|rfl|rfl|rfl|rfl|rfl|rfl|rfl|rfl|rfl|rfl|rfl|rfl|rfl|rfl|rfl|rfl
              ·refine Bh _ _ rfl rfl rfl λc W D E aj G=>?_
               have T:c.tmps.getD 22 ς=Ω (Δ ⟨g8,0,Γ⟩):=G 22 (by kernel_rfl);go_simp;exact⟨_,rfl,Ö _ _ _,rfl,λ_ _ _ _=>trivial⟩
              ·refine Bh _ _ rfl rfl rfl λc W D E aj G=>?_
               have T:c.tmps.getD 158 ς=Ω (Δ ⟨g8,1,Γ⟩):=E 0 158 (by kernel_rfl);have c0:=(HP.out W D).1;go_simp;exact⟨_,rfl,Ö _ _ _,rfl,λ_ _ _ _=>trivial⟩
              ·refine Bh _ _ rfl rfl rfl λc W D E aj G=>?_
               have T:c.tmps.getD 8 ς=Β (Δ ⟨gB,0,Γ⟩) t.n.length t.n.length:=G 8 (by kernel_rfl);go_simp;exact⟨_,rfl,Ö _ _ _,rfl,λ_ _ _ _=>trivial⟩
              ·refine Bh _ _ rfl rfl rfl λc W D E aj G=>?_
               have T:c.tmps.getD 23 ς=iv s:=G 23 (by kernel_rfl);go_simp;exact⟨_,rfl,Ö _ _ _,rfl,λ_ _ _ _=>trivial⟩
              ·refine Bh _ _ rfl rfl rfl λc W D E aj G=>?_
               have T:c.tmps.getD 160 ς=Β (Δ ⟨gB,0,Γ⟩) t.n.length t.n.length:=E 2 160 (by kernel_rfl);have h4:c.tmps.getD 161 ς=iv s:=E 3 161 (by kernel_rfl);go_simp;exact⟨_,rfl,Ö _ _ _,rfl,λ_ _ _ _=>trivial⟩
              ·refine Bh _ _ rfl rfl rfl λc W D E aj G=>?_
               have T:c.tmps.getD 162 ς=Ω (Δ ⟨gB,s,Γ⟩):=E 4 162 (by kernel_rfl);have c0:=(HP.out W D).2.2.1;go_simp;exact⟨_,rfl,Ö _ _ _,rfl,λ_ _ _ _=>trivial⟩
              ·refine Bh _ _ rfl rfl rfl λc W D E aj G=>?_
               have T:c.tmps.getD 22 ς=Ω (Δ ⟨g8,0,Γ⟩):=G 22 (by kernel_rfl);go_simp;exact⟨_,rfl,Ö _ _ _,rfl,λ_ _ _ _=>trivial⟩
              ·refine Bh _ _ rfl rfl rfl λc W D E aj G=>?_
               have T:c.tmps.getD 164 ς=Ω (Δ ⟨g8,2,Γ⟩):=E 6 164 (by kernel_rfl);have c0:=(HP.out W D).2.1;go_simp;exact⟨_,rfl,Ö _ _ _,rfl,λ_ _ _ _=>trivial⟩
              ·refine Bh _ _ rfl rfl rfl λc W D E aj G=>?_
               have T:c.tmps.getD 8 ς=Β (Δ ⟨gB,0,Γ⟩) t.n.length t.n.length:=G 8 (by kernel_rfl);go_simp;exact⟨_,rfl,Ö _ _ _,rfl,λ_ _ _ _=>trivial⟩
              ·refine Bh _ _ rfl rfl rfl λc W D E aj G=>?_
               have T:c.tmps.getD 23 ς=iv s:=G 23 (by kernel_rfl);go_simp;exact⟨_,rfl,Ö _ _ _,rfl,λ_ _ _ _=>trivial⟩
              ·refine Bh _ _ rfl rfl rfl λc W D E aj G=>?_
               have T:c.tmps.getD 166 ς=Β (Δ ⟨gB,0,Γ⟩) t.n.length t.n.length:=E 8 166 (by kernel_rfl);have h4:c.tmps.getD 167 ς=iv s:=E 9 167 (by kernel_rfl);go_simp;exact⟨_,rfl,Ö _ _ _,rfl,λ_ _ _ _=>trivial⟩
              ·refine Bh _ _ rfl rfl rfl λc W D E aj G=>?_
               have T:c.tmps.getD 168 ς=Ω (Δ ⟨gB,s,Γ⟩):=E 10 168 (by kernel_rfl);have c0:=(HP.out W D).2.2.1;go_simp;exact⟨_,rfl,Ö _ _ _,rfl,λ_ _ _ _=>trivial⟩
              ·refine Bh _ _ rfl rfl rfl λc W D E aj G=>?_
               have T:c.tmps.getD 25 ς=(Β (Δ ⟨gn,0,Γ⟩) t.cells t.cells):=G 25 (by kernel_rfl);go_simp;exact⟨_,rfl,Ö _ _ _,rfl,λ_ _ _ _=>trivial⟩
              ·refine Bh _ _ rfl rfl rfl λc W D E aj G=>?_
               have T:c.tmps.getD 2 ς=Β (Δ ⟨ba,oa,Γ⟩) t.n.length ca:=G 2 (by kernel_rfl);go_simp;exact⟨_,rfl,Ö _ _ _,rfl,λ_ _ _ _=>trivial⟩
              ·refine Bh _ _ rfl rfl rfl λc W D E aj G=>?_
               have T:c.tmps.getD 23 ς=iv s:=G 23 (by kernel_rfl);go_simp;exact⟨_,rfl,Ö _ _ _,rfl,λ_ _ _ _=>trivial⟩
              ·refine Bh _ _ rfl rfl rfl λc W D E aj G=>?_
               have T:c.tmps.getD 171 ς=Β (Δ ⟨ba,oa,Γ⟩) t.n.length ca:=E 13 171 (by kernel_rfl);have h4:c.tmps.getD 172 ς=iv s:=E 14 172 (by kernel_rfl);go_simp;exact⟨_,rfl,Ö _ _ _,rfl,λ_ _ _ _=>trivial⟩
              ·refine Bh _ _ rfl rfl rfl λc W D E aj G=>?_
               have T:c.tmps.getD 173 ς=Ω (Δ ⟨ba,oa+s,Γ⟩):=E 15 173 (by kernel_rfl);have c0:=(HP.out W D).2.2.2;go_simp;exact⟨_,rfl,Ö _ _ _,rfl,λ_ _ _ _=>trivial⟩
              ·refine Bh _ _ rfl rfl rfl λc W D E aj G=>?_
               have T:c.tmps.getD 159 ς=Β (Δ ⟨M,0,Γ⟩) r r:=E 1 159 (by kernel_rfl);have h4:c.tmps.getD 163 ς=iv x:=E 5 163 (by kernel_rfl);go_simp;exact⟨_,rfl,Ö _ _ _,rfl,λ_ _ _ _=>trivial⟩
              ·refine Mh _ rfl rfl rfl λc W D E aj G=>?_
               have ph:c.tmps.getD 175 ς=Ω (Δ ⟨M,x,Γ⟩):=E 17 175 (by kernel_rfl);have pj:c.tmps.getD 170 ς=(Β (Δ ⟨gn,0,Γ⟩) t.cells t.cells):=E 12 170 (by kernel_rfl);obtain⟨⟨old,pk⟩,pn,po,ih⟩:=ie.out W D;go_simp;exact⟨ih,λ_ _ _ _=>trivial⟩
              ·refine Bh _ _ rfl rfl rfl λc W D E aj G=>?_
               have T:c.tmps.getD 165 ς=Β (Δ ⟨U,0,Γ⟩) r r:=E 7 165 (by kernel_rfl);have h4:c.tmps.getD 169 ς=iv x:=E 11 169 (by kernel_rfl);go_simp;exact⟨_,rfl,Ö _ _ _,rfl,λ_ _ _ _=>trivial⟩
              ·refine Mh _ rfl rfl rfl λc W D E aj G=>?_
               have ph:c.tmps.getD 176 ς=Ω (Δ ⟨U,x,Γ⟩):=E 19 176 (by kernel_rfl);have pj:c.tmps.getD 174 ς=.bool (t.ok s):=E 16 174 (by kernel_rfl);obtain⟨⟨old,pk⟩,pn,po,ih⟩:=ig.out W D;go_simp;exact⟨ih,λ_ _ _ _=>trivial⟩
             ·have c7:=ic.out w8 lv (hF 18 (by omega)) (hF 20 (by omega));have v0:vs 0=Ω (Δ ⟨g8,1,Γ⟩):=hF 0 (by omega);have v1:vs 1=Β (Δ ⟨M,0,Γ⟩) r r:=hF 1 (by omega);have v2:vs 2=Β (Δ ⟨gB,0,Γ⟩) t.n.length t.n.length:=hF 2 (by omega);have v3:vs 3=iv s:=hF 3 (by omega);have v4:vs 4=Ω (Δ ⟨gB,s,Γ⟩):=hF 4 (by omega);have v5:vs 5=iv x:=hF 5 (by omega);have v6:vs 6=Ω (Δ ⟨g8,2,Γ⟩):=hF 6 (by omega);have v7:vs 7=Β (Δ ⟨U,0,Γ⟩) r r:=hF 7 (by omega);have v8:vs 8=Β (Δ ⟨gB,0,Γ⟩) t.n.length t.n.length:=hF 8 (by omega);have v9:vs 9=iv s:=hF 9 (by omega);have ma:vs 10=Ω (Δ ⟨gB,s,Γ⟩):=hF 10 (by omega);have mb:vs 11=iv x:=hF 11 (by omega);have mc:vs 12=(Β (Δ ⟨gn,0,Γ⟩) t.cells t.cells):=hF 12 (by omega);have me:vs 13=Β (Δ ⟨ba,oa,Γ⟩) t.n.length ca:=hF 13 (by omega);have mf:vs 14=iv s:=hF 14 (by omega);have mg:vs 15=Ω (Δ ⟨ba,oa+s,Γ⟩):=hF 15 (by omega);have mh:vs 16=.bool (t.ok s):=hF 16 (by omega);have mi:vs 17=Ω (Δ ⟨M,x,Γ⟩):=hF 17 (by omega);have mj:vs 19=Ω (Δ ⟨U,x,Γ⟩):=hF 19 (by omega);simp only[Bq,v0,v1,v2,v3,v4,v5,v6,v7,v8,v9,ma,mb,mc,me,mf,mg,mh,mi,mj,Ü,ä,È,Option.bind_some,Act.put,Ι,Χ,Ψ];clear v0 v1 v2 v3 v4 v5 v6 v7 v8 v9 ma mb mc me mf mg mh mi mj hF hN lv;have dh:=lr.out.trans c7;have ch:=Ah lo.out c7;have eh:=Ah lp.out c7;have cd:=Ah lq.out c7;have pq:=Α (λq J=>Ah (h7.out q J) c7);have pr:À (w8.heap[g8]? = Δ (Ε (dA (Β (Δ ⟨bc,oc,Γ⟩) lc cc) (Β (Δ ⟨M,0,Γ⟩) r r) (Β (Δ ⟨U,0,Γ⟩) r r)) 30 (0,0))):=Α (c7.heap ls.out);clear c7 lr lo lp lq h7 ic ie ig HP c4 ls h8 ia;go_wp2;go_roundw
              case rel=>
               refine⟨s+1,_,_,by omega,by go_num,dh,dh.size,Α ⟨by rw[ϒ];exact bo.out.1,by rw[ϒ];exact bo.out.2⟩,ch,eh,pr,Α (λq hq=>?_),Α (λq hq=>?_)⟩
               ·have dk:q<t.n.length:=by omega
                by_cases e:N.getD q 0=x
                ·rw[e,Bb _ _ _ _ _ (by rw[bo.out.1];exact ec),if_pos rfl];have:=Mk cd (show w4.heap.size<=gn by omega);unfold OwnI;rw[(Rd HV.out bm.out dk af (by rw[e,HX.out])).1,ϋ,Î];exact this
                ·rw[Bb _ _ _ _ _ (by rw[bo.out.1];exact ec),if_neg e];refine pq.out q ?_;have:q≠s:=λh=>e (by rw[h,HX.out])
                 omega
               ·have dk:q<t.n.length:=by omega
                by_cases e:N.getD q 0=x
                ·rw[e,Bb _ _ _ _ _ (by rw[bo.out.2];exact ec),if_pos rfl];exact (Rd HV.out bm.out dk af (by rw[e,HX.out])).2.symm
                ·rw[Bb _ _ _ _ _ (by rw[bo.out.2];exact ec),if_neg e];refine gy.out q ?_;have:q≠s:=λh=>e (by rw[h,HX.out])
                 omega
              case measure=>simp[intOf];omega
          ·obtain rfl:s=t.n.length:=by omega
           have ij:∀ i,i<r->R.getD i 0<t.n.length/\N.getD (R.getD i 0) 0=i:=λi hi=>⟨υ.1 (bm.out.blk.mem i (by rw[ct.out];exact hi)),bm.out.blk.rep i (by rw[ct.out];exact hi)⟩
           have ik:∀ s,s<t.n.length->((ι r).map λi=>(ι t.cells).map λk=>N.getD (t.ent2 (R.getD i 0) k) 0).getD (N.getD s 0) []=(ι t.cells).map λk=>N.getD (t.ent2 s k) 0:=λs hs=>by
            have J:=ko.out s hs;rw[Dg _ _ _ _ J];obtain⟨h2,T⟩:=ij _ J;exact (Rd HV.out bm.out h2 hs T).1
           have hM:Mrg t (λs=>N.getD s 0) R.length L ⟨L,(ι r).map λi=>(ι t.cells).map λk=>N.getD (t.ent2 (R.getD i 0) k) 0,AC⟩:=by
            refine⟨rfl,by rw[ct.out];simp,by rw[ct.out];exact bo.out.2,λs hs=>?_,λs hs k hk=>?_,λs hs=>?_⟩
            ·rw[ik s hs];simp
            ·show (((ι r).map λi=>(ι t.cells).map λk=>N.getD (t.ent2 (R.getD i 0) k) 0).getD (N.getD s 0) []).getD k 0=_;rw[ik s hs,Dg _ _ _ _ hk]
            ·exact gy.out s hs
           obtain⟨il,im⟩:=Agu HV.out nm.out np.out nn.out bm.out ow.out hM;obtain⟨q,hq⟩:∃ q:Dfa,Dfa.mk L ((ι r).map λi=>(ι t.cells).map λk=>N.getD (t.ent2 (R.getD i 0) k) 0) AC=q:=⟨_,rfl⟩;have dk:q.n.length=r:=by rw[<-hq];simp
           have mm:IsD wr (.agg (dA (Β (Δ ⟨bc,oc,Γ⟩) lc cc) (Β (Δ ⟨M,0,Γ⟩) r r) (Β (Δ ⟨U,0,Γ⟩) r r))) q:=by
            refine⟨Β (Δ ⟨bc,oc,Γ⟩) lc cc,_,_,rfl,?_,?_,?_⟩
            ·rw[<-hq,<-nq.out];exact HC.out.ext ((bf.trans bw.out).trans hE)
            ·rw[<-hq];refine⟨NX,by rw[bo.out.1];simp,?_,λi hi=>?_⟩
             ·have:=Sl.of_owns bj (show r<=4611686018427387904 by omega) ς;simp only[ϋ,Î];exact this
             ·have dc:i<r:=by simpa using hi
              obtain⟨J,h2⟩:=ij i dc;have T:=HQ.out _ J;rw[h2] at T;simp only;rw[Dg _ _ _ _ dc];exact T.ints (by simp;omega)
            ·have h9:OwnB wr w4.heap.size (Β (Δ ⟨U,0,Γ⟩) r r) AC:=by
              unfold OwnB;rw[bo.out.2];exact bk
             rw[<-hq];exact h9.bools (by rw[bo.out.2];omega)
           rw[hq] at il im;have ps:=Α (Jn q il (by rw[dk];omega) _ wr (nk.out wr ((bf.trans bw.out).trans hE)) (δ jd ((bf.trans bw.out).trans hE).size) mm);have bx:=Α (hE.heap bx.out);have pt:=Α im;have HE:=Α ((bf.trans bw.out).trans hE);clear il dk im mm hM ij ik bj bk HQ gy hE cu;go_wp2_with (first
            | (refine wpList_load_row rfl 30 (η 22) rfl _ rfl _ _ _ _ H8.out Κ rfl Ad ?_)
            | (go_at_call 28;(with_reducible refine ps.out.mono ?_);rintro e w9 ⟨r',iq,mq,mr,mu⟩;obtain⟨mv,mw,my,mz,na,nb,nc,nd,nf,k2,rfl⟩:=iq.form;have p0:=Α iq;have ir:=Α mq;have p7:=Α mr;clear iq mq mr;have bx:=Α (mu.heap bx.out))
            | (refine Φ rfl 30 (η 6) (η 180) rfl _ _ rfl rfl _ _ bx.out Ad rfl (Aq _ _ _ rfl rfl rfl) ?_))
           refine ω (v:=.tuple #[.agg (dA (Β mv mw my) (Β mz na nb) (Β nc nd nf)),.int ε k2]) (A3 rfl _ _ _ _ _ _ _ rfl _ rfl (μ w9 _ _ (dA (Β mv mw my) (Β mz na nb) (Β nc nd nf)) 30 (0,0) bx.out) Κ rfl Ad) rfl ?_;have ng:∀ u,r'.has u=t.has u:=λu=>by rw[p7.out,pt.out]
           exact⟨Δ r',p0.out.setRow (λd' h=>by injection h with h;subst h;exact ir.out.val) bx.out _,⟨ir.out,λu=>by rw[ng],by rw[Ani HV.out HL.out bm.out ir.out ng,ct.out];omega⟩,(HE.out.trans mu).setRow (by omega) _⟩
      ·have kb:((R.length:Int)==(n:Int))=Τ:=by simp;omega
       obtain⟨iu,qs⟩:=Aj5 HV.out HL.out HO.out hn HN.out.2 HN.out.1 he;have iu:=Α iu;have p8:À (∀ s,s<t.n.length->w4.cell? ⟨I.heap.size+1,s,Γ⟩=Δ (iv (N.getD s 0))):=Α λs hs=>Am 0 a8 HN.out.2.symm s (by rw[HN.out.2];exact hs)
       have ev:=bq;clear he a8 bq;go_wp2_with (at_len;refine N3 rfl _ 155 rfl ñ rfl ev ?_);go_roundw
       case rel=>exact⟨N,R.length,I.heap.size+1,rfl,rfl,hE.trans cm,dq,p8,iu⟩
       case measure=>simp[intOf];omega
open Go.RowKit Go.Shelf Go.WideMaps
def Ck (S:List Bool):List Ν:=S.map ο
def Au (S:List Bool):Array Ν:=(S.map ο).toArray
def Dq (S:List Bool):Ν:=.agg (Au S)
theorem Hb (S:List Bool):(Ck S).length=S.length:=by simp[Ck]
theorem To (x y:List Bool) (h:Dq x=Dq y):x=y:=by
 simp only[Dq,Au,Ν.agg.injEq] at h;have D:x.map ο=y.map ο:=congrArg Array.toList h;exact (List.map_inj_right (λx y (e:ο x=ο y)=>by injection e)).1 D
theorem Mv:Keyed Ζ 88:=Keyed.of_law (deep_law_laid P6 (m:=2) (by omega) (of_decide_eq_true (by kernel_rfl)) (by kernel_rfl) (by rw[Tryz.underlying88]))
theorem Aiw:Ζ.keyType 88=Ξ:=by kernel_rfl
theorem X1:Ζ.cellsOf 88=64:=by kernel_rfl
theorem co4:Ζ.cellsOf 4=1:=by kernel_rfl
theorem kl4 (d:Nat) (b:Bool):Ζ.keyLits (d+1) 4 [.bool b]=Δ [.bool b]:=by
 unfold ã.keyLits;simp only[Tryz.underlying4]
theorem We (S:List Bool) (d:Nat):∀ L:List Nat,(∀ i,i∈L->i<S.length)->∃ r,(L.mapM λi=>Ζ.keyLits (d+1) 4 (((Ck S).drop (i*1)).take 1))=Δ r
 | [],_=>⟨[],rfl⟩
 | i::L,h=>by
  obtain⟨r,D⟩:=We S d L λj E=>h j (List.mem_cons_of_mem _ E)
  have hi:i<(Ck S).length:=by rw[Hb];exact h i List.mem_cons_self
  have e:((Ck S).drop (i*1)).take 1=[.bool (S.getD i Τ)]:=by
   have G:i<S.length:=h i List.mem_cons_self;rw[Nat.mul_one,List.drop_eq_getElem_cons hi];simp[Ck,Η,G]
  refine⟨[.bool (S.getD i Τ)]::r,?_⟩;rw[List.mapM_cons,D,e,kl4];rfl
theorem Tn (S:List Bool) (h:S.length=64):∃ l,keyOf Ζ 88 (Dq S)=Δ l:=by
 obtain⟨m,hm⟩:=Tk;obtain⟨r,D⟩:=We S (m+2) (ι 64) λi hi=>by rw[h];exact υ.1 hi
 unfold keyOf;simp only[Tryz.underlying88];rw[if_pos (by simp[Aiw,Ν.formed,Dq,Au,Tryz.underlying88,X1,h]),hm];have e:(Dq S).cells.toList=Ck S:=rfl;rw[e];have:Ζ.keyLits (m+3+1) 88 (Ck S)=Δ r.flatten:=by
  show ã.keyLits Ζ ((m+3)+1) 88 _=_;unfold ã.keyLits;simp only[Tryz.underlying88];rw[if_pos (by rw[X1,Hb,h]),co4,D];rfl
 rw[this];exact⟨_,rfl⟩
theorem Wk:(Ζ.info? 88).map (·.size)=Δ 64:=by kernel_rfl
theorem Il (S:List Bool):(Au S).size=S.length:=by simp[Au]
theorem Acj (S:List Bool):(Au S).all (·.oneCell')=Ξ:=by
 simp[Au,ό,Array.all_eq_true]
def flB (l:List (List Bool)):List Ν:=l.flatMap Ck
theorem Akd (l m:List (List Bool)):flB (l++m)=flB l++flB m:=by simp[flB]
theorem Xa (x:List Bool):flB [x]=Ck x:=by simp[flB]
theorem Akc (l:List (List Bool)) (h:∀ S,S∈l->S.length=64) (k:Nat) (S:List Bool) (D:l[k]? = Δ S) (q:Nat) (G:q<64):(flB l)[k*64+q]? = Δ (.bool (S.getD q Τ)):=by
 induction l generalizing k with
 | nil=>simp at D
 | cons y l I=>
  have e:flB (y::l)=Ck y++flB l:=rfl;have E:(Ck y).length=64:=by rw[Hb];exact h y List.mem_cons_self
  cases k with
  | zero=>
   have:y=S:=by simpa using D
   subst this;have J:=h y List.mem_cons_self;rw[e,Ϣ (by omega)];simp[Ck,Η,J,G]
  | succ k=>
   have M:l[k]? = Δ S:=by simpa using D
   have:=I (λS T=>h S (List.mem_cons_of_mem _ T)) k M;rw[e,ϗ (by rw[E];omega),E,show (k+1)*64+q-64=k*64+q by omega];exact this
abbrev Ll (W:Λ) (base:Nat) (v:Ν) (l:List (List Bool)):Prop:=W.ownsRow base 88 64 v l.length (flB l)
theorem Tm {W:Λ} {base g E:Nat} {l:List (List Bool)} (h:Ll W base (Β (Δ ⟨g,0,Γ⟩) l.length E) l) (G:∀ S,S∈l->S.length=64) (k:Nat) (S:List Bool) (D:l[k]? = Δ S) (q:Nat) (I:q<64) :
  W.cell? ⟨g,k*64+q,Γ⟩=Δ (.bool (S.getD q Τ)):=by
 have J:k<l.length:=(ϊ.1 D).1;rw[h.cellAt _ (by omega)];exact Akc l G k S D q I
def Ju (a:Dfa) (r:Option Dfa):Prop:=∃ x,Cano x/\(∀ w,x.has w=a.has w)/\
 (B8 (rnx x) (rst x) 4096->r=Γ)/\(¬ B8 (rnx x) (rst x) 4096->F8 (λw=>a.has w.reverse=Ξ) r)
theorem Adt {a:Dfa} {r D:Option Dfa} (h:Ju a r) (E:Ju a D):r=D:=by
 obtain⟨x,G,I,J,M⟩:=h;obtain⟨x',T,U,aa,ab⟩:=E;obtain rfl:=Gw G T λw=>by rw[I,U]
 by_cases hm:B8 (rnx x) (rst x) 4096
 ·rw[J hm,aa hm]
 ·exact Aif (M hm) (ab hm)
theorem Ac9 (q:Dfa) (h:q.acc.length<=64):Ck (rst q)=q.acc.map ο++(ζ 64 (ο Τ)).drop q.acc.length:=by
 apply ϥ;intro i;by_cases hi:i<64
 ·have E:(Ck (rst q))[i]? = Δ (.bool (q.acc.getD i Τ)):=by
   simp[Ck,rst,hi,Dfa.ok]
  rw[E];by_cases D:i<q.acc.length
  ·rw[Ϣ (by simpa using D)];simp[Η,D]
  ·rw[ϗ (by simp;omega),List.getElem?_drop,ϋ,show q.acc.length+(i-q.acc.length)=i by omega,Ϭ,if_pos hi,Η,Ϩ (show q.acc.length<=i by omega)];rfl
 ·rw[Ϩ (by rw[Hb,Ka];omega),Ϩ (by rw[Υ,List.length_drop,Ò,ϋ];omega)]
def Dh (q:Dfa) (S:List Bool) (j k:Nat):List Bool:=(ι 64).map λs=>decide (s<k)&&S.getD (q.ent2 s j) Τ
theorem Xk (q:Dfa) (S:List Bool) (j k:Nat):(Dh q S j k).length=64:=by simp[Dh]
theorem Akn (q:Dfa) (S:List Bool) (j:Nat):Dh q S j 0=ζ 64 Τ:=by
 apply ϥ;intro i;by_cases hi:i<64
 ·rw[Ϭ,if_pos hi];simp[Dh,hi]
 ·rw[Ϩ (by rw[Xk];omega),Ϩ (by rw[Ò];omega)]
theorem Ako (q:Dfa) (S:List Bool) (j k:Nat) (D:k<64):(Au (Dh q S j k)).setIfInBounds k (.bool (S.getD (q.ent2 k j) Τ))=Au (Dh q S j (k+1)):=by
 apply Array.ext';rw[Array.toList_setIfInBounds];simp only[Au];apply ϥ;intro i;rw[List.getElem?_set];by_cases e:k=i
 ·subst e;simp[Dh,D]
 ·rw[if_neg e];by_cases hi:i<64
  ·simp only[Dh,List.map_map,List.getElem?_map,Õ hi,Option.map_some,Function.comp]
   congr 3
   simp;omega
  ·rw[Ϩ (by simp[Dh];omega),Ϩ (by simp[Dh];omega)]
theorem Akp (q:Dfa) (S:List Bool) (j:Nat) {x:Nat} (D:Ak q.cls x=j):Dh q S j q.n.length=rnx q S x:=by
 unfold Dh rnx Dfa.stp;rw[D]
open Classical in
noncomputable def Ce (L:List Cls):List Nat:=(ι L.length).map λk=>if h:∃ b,b<256/\Ak L b=k then h.choose else 0
theorem Hd (L:List Cls):(Ce L).length=L.length:=by simp[Ce]
theorem Io {L:List Cls} (E:Parts L) {k:Nat} (D:k<L.length):(Ce L).getD k 0<256/\Ak L ((Ce L).getD k 0)=k:=by
 have h:=Jl E D;have e:(Ce L).getD k 0=h.choose:=by
  unfold Ce;rw[Dg _ _ _ _ D,dif_pos h]
 rw[e];exact h.choose_spec
theorem P7 {L:List Cls} (D:Parts L):Joint (Ak L) (Ak L) (Ak L) (Ce L) where
 lt:=λx E=>by rw[Hd];exact cell_lt D E
 byte:=λk G=>Io D (by rw[<-Hd];exact G)
 same:=λx y _ _=>⟨λh=>⟨h,h⟩,λh=>h.1⟩
theorem Aky {σ:Type} {c:Nat->Nat} {bs:List Nat} {st:σ} {nx:σ->Nat->σ} {ac:σ->Bool} {l:List σ} {t:Tbl} (h:Expl c bs st nx ac l t) {a b:Nat->Nat} (I:Joint a b c bs)
  (hn:∀ s x,x<256->nx s (bs.getD (c x) 0)=nx s x):Reached t (ι t.n.length):=by
 have h0:=h.pos;have hl:=h.len;refine⟨by rw[Η,Õ (by omega)];rfl,by simp;omega,List.nodup_range,λs hs=>υ.1 hs,λs hs k U=>?_,λs hs=>?_⟩
 ·exact υ.2 ((h.tval I).tgt s (υ.1 hs) k U)
 ·have hs:=υ.1 hs;have E:s<l.length:=by omega
  obtain⟨w,hw⟩:=h.reach s _ (List.getElem?_eq_getElem E);refine⟨w,?_⟩;have run:∀ (w:List UInt8) i s,l[i]? = Δ s->l[t.run i w]? = Δ (Ax nx s w):=λw=>by
   induction w with
   | nil=>intro i s hi;exact hi
   | cons x w ih=>
    intro i s hi;have D:=(h.tgt i s hi _ (I.lt _ x.toNat_lt)).2;rw[hn s _ x.toNat_lt] at D;refine ih (t.stp i x.toNat) _ ?_;unfold Tbl.stp;rw[h.cell];exact D
  have D:=run w 0 st h.zero;rw[hw] at D;have h2:=ϊ.1 D;obtain⟨J,M⟩:=h2;have T:=List.pairwise_iff_getElem.1 (ϣ.1 h.nodup);rcases Nat.lt_trichotomy (t.run 0 w) s with G|he|G
  ·exact absurd M (T _ _ J E G)
  ·exact he
  ·exact absurd M.symm (T _ _ E J G)
theorem Qb (S:List Bool) (h:S.length=64):(Ζ.info? 88).map (·.size)=Δ (Au S).size:=by rw[Il,h];exact Wk
theorem Wj:(Ζ.info? 88).map (λi=>(i.zero,i.size,i.bytes))=Δ (Δ (Dq (ζ 64 Τ)),64,64):=by kernel_rfl
theorem z64:(#[ο Τ,ο Τ,ο Τ,ο Τ,ο Τ,ο Τ,ο Τ,ο Τ,ο Τ,ο Τ,ο Τ,ο Τ,ο Τ,ο Τ,ο Τ,ο Τ,ο Τ,ο Τ,ο Τ,ο Τ,ο Τ,ο Τ,ο Τ,ο Τ,ο Τ,ο Τ,ο Τ,ο Τ,ο Τ,ο Τ,ο Τ,ο Τ,ο Τ,ο Τ,ο Τ,ο Τ,ο Τ,ο Τ,ο Τ,ο Τ,ο Τ,ο Τ,ο Τ,ο Τ,ο Τ,ο Τ,ο Τ,ο Τ,ο Τ,ο Τ,ο Τ,ο Τ,ο Τ,ο Τ,ο Τ,ο Τ,ο Τ,ο Τ,ο Τ,ο Τ,ο Τ,ο Τ,ο Τ,ο Τ]:Array Ν)=Au (ζ 64 Τ):=by rfl
theorem Akt (cells:Array Ν) (J:cells.size=64) (S:List Bool) (h:S.length=64):Instr.fill (λi=>Δ (i*64,64)) cells [(0,Dq S)]=Δ (Au S):=by
 have hs:(Au S).size=64:=by rw[Il,h]
 obtain⟨r,D,M,E⟩:=Great.fill_dense (s:=64) (by omega) [Dq S] 0 cells (λv hv=>by
  have:v=Dq S:=by simpa using hv
  subst this;exact hs) (by simp;omega)
 rw[show (([Dq S].zipIdx 0).map λx=>(x.2,x.1))=[(0,Dq S)] from rfl] at D;rw[D]
 congr 1
 apply Array.ext_getElem?;intro k;rw[E];by_cases G:k<64
 ·rw[if_pos (by simp;omega)];have I:k / 64-0=0:=by omega
  rw[I,Nat.mod_eq_of_lt G];rfl
 ·rw[if_neg (by simp;omega),ÿ (by omega),ÿ (by omega)]
theorem Ry {ops:Array Oper} {rest:List Oper} {o:Oper} {a:Act} {w:Λ} {Q:Exit->Act->Λ->Prop} (hg:o.guard=Γ) (x:ϵ) (D:o.op=.buildSlice 90 1 #[(0,x)]) (S:List Bool) (E:S.length=64) (G:a.eval x=Dq S)
  (h:wpList Ζ ops Q rest (a.put o.dst (Β (Δ ⟨w.heap.size,0,Γ⟩) 1 1)) (w.alloc (Ε (Au S) 88))):wpList Ζ ops Q (o::rest) a w:=by
 obtain⟨i,hi,I,hs,J⟩:=Ϟ Wj;refine wpList_buildSlice hg 90 88 1 _ D (Au S) i _ Tryz.underlying90 hi I (by rw[hs];omega) (by rw[hs];omega) ?_ h;rw[hs];simp only[Array.toList_map,Æ,List.map_nil,G];exact Akt _ (by simp) S E
theorem Z7 {P:ã} {w:Λ} {o:Oper} {a:Act} {K:Act->Λ->Prop} {Q:Exit->Act->Λ->Prop} (d s:ϵ) (t D:Á)
  (E:o.op=.call { callee:=.builtin .copy,args:=#[d,s],argTypes:=#[t,D] }) (v u:Ν) (hd:a.eval d=v) (hs:a.eval s=u) {v':Ν} {w':Λ}
  (G:(Builtin.copy_ #[t,D] o.type #[v,u]).run P w=.ok v' w') (h:K (a.put o.dst v') w'):o.wp P a w K Q:=by
 unfold Oper.wp execOp;simp only[E,resolve,invoke,builtin,Sem.run_bind,Sem.run_pure,Result.andThen_ok,List.map_toArray,Æ,List.map_nil,hd,hs,G];exact h
theorem Tp (S:List Bool) (k:Nat) (D:k<S.length):(Au S)[k]? = Δ (.bool (S.getD k Τ)):=by
 simp[Au,Η,D]
end Go.Proofs.YtaiogolidlamiaaGreatDoor
