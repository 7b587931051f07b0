import Derived.Test.YtaiogolidlamiaaGreatDoorM12
import Derived.Great.BuildSlice
import Derived.Deep.MidRow
set_option linter.unusedVariables false
set_option linter.unusedSimpArgs false
open And renaming intro → ã
open Array renaming getElem?_eq_none → ü
open Bool renaming true → Ξ, false → Τ
open Classical renaming byContradiction → ϩ
open Go renaming Value → Ρ, World → Κ, TypeId → Á, Operand → ϻ, maxLen → ϙ, undef → ς, info_parts → ϕ, wpList_make_full → ϫ, wpList_store_row → Φ, bodyPost_ret → ϋ, setRow_heap → μ, Program → é
open Go.IntKind renaming i64 → ζ
open Go.Lib renaming hid → Α
open Go.Obj renaming cells → Ε
open Go.Operand renaming tmp → η
open Go.Proofs.Tryz renaming prog → Η, underlying68 → ϓ, underlying22 → Ϸ, underlying155 → ñ, underlying30 → Ν
open Go.RowKit renaming Hid → Ϻ
open Go.Value renaming slice → Β, bool → ο, pointer → γ, oneCell' → ϊ
open Go.World renaming size_alloc → Λ
open List renaming range → ι, nodup_iff_pairwise_ne → Ϧ, mem_range → υ, replicate → δ, getD_eq_getElem?_getD → Ζ, getElem?_range → ì, length_range → Þ, length_append → Ο, length_set → ύ, getElem?_toArray → Ü, getElem?_cons_zero → Ö, getElem?_cons_succ → É, setIfInBounds_toArray → Θ, set_cons_zero → Χ, set_cons_succ → Ψ, length_map → Ϗ, getElem?_append_left → Ϣ, getElem?_append_right → ϑ, getElem?_eq_some_iff → ό, ext_getElem? → ϡ, getElem?_replicate → ϧ, getElem?_eq_none → Ϩ, length_replicate → Î, map_cons → Ç
open List.Pairwise renaming imp_of_mem → æ
open Nat renaming le_of_eq → å, lt_of_lt_of_le → ε, le_refl → θ
open Option renaming some → Δ, none → Γ
namespace Go.Proofs.YtaiogolidlamiaaGreatDoor
set_option maxRecDepth 100000
set_option maxHeartbeats 4000000
open Go.RowKit Go.Shelf
theorem Agy (l:List Nat) (I:0<l.length) (D:∀ i,i<l.length->l.getD i 0<9223372036854775808) (af:l.length<9223372036854775808) (v:Ρ) (w:Κ) (h:Ints w v l) :
  Calls Η 104 #[v] w λe w'=>∃ m:Nat,e=.returned (iv m)/\w'=w/\(∀ i,i<l.length->l.getD i 0<=m)/\∃ i,i<l.length/\l.getD i 0=m:=by
 obtain⟨b,o,c,rfl,J⟩:=ä h I;have M:=Α (λi (hi:i<l.length)=>J i (by omega));have HL:=Α D;have c0:=M.out 0 I;obtain⟨x0,G⟩:∃ x,l.getD 0 0=x:=⟨_,rfl⟩;have T:=Α G;simp only[G,Nat.add_zero] at c0;clear J h D G;go_enter Tryz.func104,Tryz.ntmps104;have ah:¬ ((l.length:Int)<1):=by omega
 go_wp2_with (fail);go_loopw [3,4] (λm i W=>∃ (j x:Nat),j<=l.length/\1<=j/\i=.int ζ j/\m=iv x/\W=w/\Ϻ ((∀ q,q<j->l.getD q 0<=x)/\∃ q,q<j/\l.getD q 0=x))
  (λ_ i _=>l.length-(intOf i).toNat)
 case atStart=>
  refine⟨1,x0,by omega,by omega,rfl,rfl,rfl,Α ⟨λq U=>?_,0,by omega,T.out⟩⟩;obtain rfl:q=0:=by omega
  exact å T.out
 case round=>
  obtain⟨j,x,hj,aj,rfl,rfl,rfl,E⟩:=hrel;by_cases D:j<l.length
  ·have cj:=M.out j D;obtain⟨y,H⟩:∃ y,l.getD j 0=y:=⟨_,rfl⟩;have HY:=Α H;simp only[H] at cj;clear H;go_wp2_with (fail);go_roundw
   case rel=>
    refine⟨j+1,max x y,by omega,by omega,by go_num,?_,trivial,Α ⟨λq U=>?_,?_⟩⟩
    ·show Ρ.int _ _=Ρ.int _ _
     congr 1
     first
      | omega
      | (split<;>omega)
    ·by_cases e:q=j
     ·subst e;rw[HY.out];omega
     ·have:=E.out.1 q (by omega);omega
    ·rcases Nat.le_total y x with h1|h1
     ·obtain⟨q,U,ak⟩:=E.out.2;exact⟨q,by omega,by omega⟩
     ·exact⟨j,by omega,by rw[HY.out];omega⟩
   case measure=>simp[intOf];omega
  ·obtain rfl:j=l.length:=by omega
   go_wp2;go_ret;exact⟨x,rfl,rfl,E.out.1,E.out.2⟩
open Go.Maps (Keyed)
theorem Xc {κ:Type} {key:Nat->κ} {x:Nat} {c I:Nat->Nat} {bs:List Nat} {f:κ->Option Nat} (h:FInv key x c bs f) (E:∀ y,y<x->I y=c y):FInv key x I bs f where
 le:=h.le
 lt:=λy D=>by rw[E y D];exact h.lt y D
 byte:=λk M=>by
  obtain⟨G,H⟩:=h.byte k M;exact⟨G,by rw[E _ G];exact H⟩
 same:=λy z D J=>by rw[E y D,E z J];exact h.same y z D J
 has:=λy D=>by rw[E y D];exact h.has y D
 from_:=λp i T=>by
  obtain⟨y,D,G,H⟩:=h.from_ p i T;exact⟨y,D,G,by rw[E y D];exact H⟩
 first:=λy D=>by rw[E y D];exact h.first y D
 inc:=h.inc
theorem Aj1 {κ:Type} {key:Nat->κ} {x:Nat} {N bs:List Nat} {f:κ->Option Nat} (h:FInv key x (λs=>N.getD s 0) bs f) (D:x<N.length) (i:Nat) (hi:f (key x)=Δ i):FInv key (x+1) (λs=>(N.set x i).getD s 0) bs f:=
 Xc (Mt h i hi) λy _=>by
  rw[Bb _ _ _ _ _ D]
theorem Aj2 {κ:Type} [DecidableEq κ] {key:Nat->κ} {x:Nat} {N bs:List Nat} {f:κ->Option Nat} (h:FInv key x (λs=>N.getD s 0) bs f) (D:x<N.length) (hi:f (key x)=Γ) :
  FInv key (x+1) (λs=>(N.set x bs.length).getD s 0) (bs++[x]) (λp=>if p=key x then Δ bs.length else f p):=
 Xc (P5 h hi) λy _=>by
  rw[Bb _ _ _ _ _ D]
def Big (L:List UInt8->Prop):Prop:=∃ U:List (List UInt8),64<U.length/\U.Pairwise λu v=>∃ x,¬ (L (u++x)↔L (v++x))
def F5 (L:List UInt8->Prop):Option Dfa->Prop
 | some d=>Cano d/\(∀ w,d.has w=Ξ↔L w)/\d.n.length<=64
 | none=>Big L
theorem Y3 {L:List UInt8->Prop} (h:Big L) {d:Dfa} (hv:Val d) (hd:∀ w,d.has w=Ξ↔L w):64<d.n.length:=by
 obtain⟨U,D,E⟩:=h;refine ε D (M3 hv U (E.imp λ{u v} ⟨x,G⟩=>⟨x,λe=>G ?_⟩));rw[<-hd,<-hd,e]
theorem Ahx {L:List UInt8->Prop} {r E:Option Dfa} (h:F5 L r) (D:F5 L E):r=E:=by
 cases r<;>cases E
 ·rfl
 ·have:=Y3 h D.1.val D.2.1;have:=D.2.2;omega
 ·have:=Y3 D h.1.val h.2.1;have:=h.2.2;omega
 ·rw[Al2 h.1 D.1 h.2.1 D.2.1]
theorem Amu {t:Tbl} (hv:TVal t) {R:List Nat} {B:Nat->Nat} {l:List Nat} (I:Reached t l) (D:Blocks t l B R) (J:64<R.length):Big λw=>t.has w=Ξ:=by
 classical
 have E:∀ s:Nat,∃ w,s∈l->t.run 0 w=s:=λs=>by
  by_cases hs:s∈l
  ·obtain⟨w,E⟩:=I.all s hs;exact⟨w,λ_=>E⟩
  ·exact⟨[],λh=>absurd h hs⟩
 refine⟨(ι R.length).map λi=>(E (R.getD i 0)).choose,by simpa using J,?_⟩;rw[List.pairwise_map];refine æ (λ{i j} hi G M=>?_) (Ϧ.1 List.nodup_range);have hi:=υ.1 hi;have G:=υ.1 G;refine ϩ λH=>M ?_
 have H:∀ x,(t.has ((E (R.getD i 0)).choose++x)=Ξ↔t.has ((E (R.getD j 0)).choose++x)=Ξ):=λx=>ϩ λT=>H ⟨x,T⟩
 rw[<-D.blk.rep i hi,<-D.blk.rep j G];refine (D.leq _ (D.blk.mem i hi) _ (D.blk.mem j G)).2 λx=>?_
 have:=H x;rw[<-Bool.eq_iff_iff] at this;unfold Tbl.has at this;rw[Ct,Ct,(E (R.getD i 0)).choose_spec (D.blk.mem i hi),(E (R.getD j 0)).choose_spec (D.blk.mem j G)] at this;exact this
def IsMq {κ:Type} (W:Κ) (k:Á) (key:κ->Ρ) (b n:Nat) (f:κ->Option Nat):Prop:=
 ∃ D:DataW Unit,W.ownsMap Η k (plainElem Η 3) b n D/\Maps.size D=n/\∀ x l,keyOf Η k (key x)=Δ l->Maps.has D l=(f x).isSome/\D.atKey l (.lit (.int ζ 0))=.lit (.int ζ ((f x).getD 0:Nat))
section
variable {κ:Type} {W:World} {k:TypeId} {key:κ->Value} {b n:Nat} {f:κ->Option Nat}
theorem Aiw (W:Κ) (k:Á) (key:κ->Ρ):IsMq (W.alloc (.map #[] 0)) k key W.heap.size 0 (λ_=>Γ):=
 ⟨.map [],Κ.ownsMap_made W _ _ _,rfl,λ_ _ _=>⟨rfl,rfl⟩⟩
theorem IsMq.mp (h:IsMq W k key b n f):IsMp W k key b n f:=by
 obtain⟨D,E,_,G⟩:=h;exact⟨D,E,G⟩
theorem IsMq.kept {W':Κ} {row:Option Nat} (h:IsMq W k key b n f) (hg:W.grownBy W' row) (E:Δ b≠row):IsMq W' k key b n f:=by
 obtain⟨D,G,H⟩:=h;exact⟨D,G.kept hg E,H⟩
theorem IsMq.ext {W':Κ} (h:IsMq W k key b n f) (D:Ext W W'):IsMq W' k key b n f:=h.kept (D.grownBy Γ) (by simp)
theorem IsMq.alloc (h:IsMq W k key b n f) (o:Obj):IsMq (W.alloc o) k key b n f:=by
 obtain⟨D,E,G⟩:=h;exact⟨D,E.alloc o,G⟩
theorem IsMq.ne_row {base e size:Nat} {v:Ρ} {m:Nat} {xs:List Ρ} (h:IsMq W k key b n f) (D:W.ownsRow base e size v m xs):Δ b≠v.ownBlock:=h.mp.ne_row D
theorem IsMq.far {base e size:Nat} {v:Ρ} {m:Nat} {xs:List Ρ} (h:IsMq W k key b n f) (D:W.ownsRow base e size v m xs):v.ownBlock=Γ\/v.ownBlock≠Δ b:=h.mp.far D
variable {ops:Array Oper} {rest:List Oper} {o:Oper} {a:Act} {Q:Exit->Act->World->Prop}
theorem Nj (hg:o.guard=Γ) (m:ϻ) (t:Á) (E:o.op=Op.call { callee:=Callee.builtin Builtin.len,args:=#[m],argTypes:=#[t] })
  (G:Η.underlying t=Δ (.map k 3)) (hm:a.eval m=.map (Δ b)) (h:IsMq W k key b n f)
  (H:wpList Η ops Q rest (a.put o.dst (iv n)) W):wpList Η ops Q (o::rest) a W:=by
 obtain⟨D,I,J,_⟩:=h;refine wpList_len_own W hg m t E k 3 G _ b n D hm I ?_;rw[J];exact H
theorem Z7 [DecidableEq κ] (hg:o.guard=Γ) (m x v:ϻ) (t:Á) (T:o.op=Op.mapUpdate t m x v) (K:Keyed Η k) (U:Η.underlying t=Δ (.map k 3)) (hm:a.eval m=.map (Δ b)) (h:IsMq W k key b n f) (hn:n<ϙ)
  (aa:∀ y z,key y=key z->y=z) (y:κ) (hf:f y=Γ) (hx:a.eval x=key y) (E:∃ l,keyOf Η k (key y)=Δ l) (i:Nat) (hv:a.eval v=iv i) (hi:i<9223372036854775808)
  (hK:∀ W',IsMq W' k key b (n+1) (λz=>if z=y then Δ i else f z)->W.grownBy W' (Δ b)->wpList Η ops Q rest (a.put o.dst ς) W'):wpList Η ops Q (o::rest) a W:=by
 obtain⟨D,G,hs,I⟩:=h;obtain⟨l,E⟩:=E;refine wpList_mapUpdate_own W hg m x v t T k 3 K U (plainElem Η 3) b n D hm G hn (key y) (iv i) l hx hv E (.lit (.int ζ i)) [] (plainElem_int Tryz.underlying3 (Jo i hi)) ?_;intro W' hW ag;refine hK W' ⟨_,hW,?_,λz J H=>?_⟩ ag
 ·rw[Maps.size_put (G.tidy K),(I y l E).1,hf,hs];rfl
 by_cases e:z=y
 ·subst e;rw[E] at H;cases H
  simp only[if_true];exact⟨Maps.has_put_same G.isMap (K.key E) _,Maps.atKey_put_same G.isMap (K.key E) _ _⟩
 ·have M:J≠l:=λe'=>e (aa _ _ (K.inj H (e'▸E)))
  simp only[e,if_false];rw[Maps.has_put_other M,Maps.atKey_put_other M];exact I z J H
end
theorem Agx {t:Tbl} {N R:List Nat} (D:Blk (ι t.n.length) (λs=>N.getD s 0) R) (H:N.length=t.n.length) (I:0<t.n.length) {m:Nat} (E:∀ i,i<N.length->N.getD i 0<=m) (G:∃ i,i<N.length/\N.getD i 0=m):m+1=R.length:=by
 obtain⟨i,hi,hm⟩:=G;have J:N.getD i 0<R.length:=D.lt i (υ.2 (by omega));have M:=υ.1 (D.mem (R.length-1) (by omega));have T:N.getD (R.getD (R.length-1) 0) 0=R.length-1:=D.rep (R.length-1) (by omega);have U:=E _ (show R.getD (R.length-1) 0<N.length by omega);omega
theorem Q1 {t:Tbl} (hv:TVal t) {N R:List Nat} (E:Blocks t (ι t.n.length) (λs=>N.getD s 0) R) {s s':Nat} (hs:s<t.n.length) (G:s'<t.n.length) (h:N.getD s 0=N.getD s' 0) :
  ((ι t.cells).map λk=>N.getD (t.ent2 s k) 0)=((ι t.cells).map λk=>N.getD (t.ent2 s' k) 0)/\t.ok s=t.ok s':=by
 have H:Leq t s s':=(E.leq s (υ.2 hs) s' (υ.2 G)).1 h;refine⟨List.map_congr_left λk D=>?_,H []⟩;have D:=υ.1 D;obtain⟨b,I,rfl⟩:=hv.onto k D;exact (E.leq _ (υ.2 (hv.tgt s hs _ D)) _ (υ.2 (hv.tgt s' G _ D))).2 (H.step b I)
def O7 (D r:Nat) (E:Ρ):Nat->Ρ->Κ->Prop
 | 0,v,_=>v=E
 | 1,v,_=>v=iv r
 | 2,v,W=>∃ g,v=Β (Δ ⟨g,0,Γ⟩) r r/\W.ownsRow D 68 1 v r (δ r (Β Γ 0 0))
 | 3,v,_=>v=iv r
 | 4,v,W=>∃ g,v=Β (Δ ⟨g,0,Γ⟩) r r/\W.ownsRow D 4 1 v r ((δ r Τ).map ο)
 | 5,v,W=>∃ G H,v=.agg (dA E (Β (Δ ⟨G,0,Γ⟩) r r) (Β (Δ ⟨H,0,Γ⟩) r r))/\W.ownsRow D 68 1 (Β (Δ ⟨G,0,Γ⟩) r r) r (δ r (Β Γ 0 0))/\W.ownsRow D 4 1 (Β (Δ ⟨H,0,Γ⟩) r r) r ((δ r Τ).map ο)
 | _,v,W=>∃ g,v=γ (Δ ⟨g,0,Γ⟩)/\W.heap[g]? = Δ (Ε #[Β Γ 0 0,Β Γ 0 0,Β Γ 0 0] 30 (0,0))/\D<=g
theorem Agj (I r:Nat) (J:Ρ):∀ (i:Nat) (v:Ρ) (w w':Κ),O7 I r J i v w->Ext w w'->O7 I r J i v w'
 | 0,_,_,_,h,_=>h
 | 1,_,_,_,h,_=>h
 | 2,_,_,_,⟨g,E,G⟩,D=>⟨g,E,Ah G D⟩
 | 3,_,_,_,h,_=>h
 | 4,_,_,_,⟨g,E,G⟩,D=>⟨g,E,Ah G D⟩
 | 5,_,_,_,⟨g,M,E,G,H⟩,D=>⟨g,M,E,Ah G D,Ah H D⟩
 | _+6,_,_,_,⟨g,E,G,H⟩,D=>⟨g,E,D.heap G,H⟩
def O6 (wF:Κ) (r n D H E G I J M s x:Nat) (T:Ρ) (ok:Bool):Nat->Ρ->Κ->Prop
 | 0,v,_=>v=γ (Δ ⟨H,1,Γ⟩)
 | 1,v,_=>v=Β (Δ ⟨D,0,Γ⟩) r r
 | 2,v,_=>v=Β (Δ ⟨G,0,Γ⟩) n n
 | 3,v,_=>v=iv s
 | 4,v,_=>v=γ (Δ ⟨G,s,Γ⟩)
 | 5,v,_=>v=iv x
 | 6,v,_=>v=γ (Δ ⟨H,2,Γ⟩)
 | 7,v,_=>v=Β (Δ ⟨E,0,Γ⟩) r r
 | 8,v,_=>v=Β (Δ ⟨G,0,Γ⟩) n n
 | 9,v,_=>v=iv s
 | 10,v,_=>v=γ (Δ ⟨G,s,Γ⟩)
 | 11,v,_=>v=iv x
 | 12,v,_=>v=T
 | 13,v,_=>v=Β (Δ ⟨I,J,Γ⟩) n M
 | 14,v,_=>v=iv s
 | 15,v,_=>v=γ (Δ ⟨I,J+s,Γ⟩)
 | 16,v,_=>v=.bool ok
 | 17,v,_=>v=γ (Δ ⟨D,x,Γ⟩)
 | 18,_,W=>W.heap[D]? = wF.heap[D]?
 | 19,v,_=>v=γ (Δ ⟨E,x,Γ⟩)
 | _,_,W=>W.heap[E]? = wF.heap[E]?
theorem Agi {w1:Κ} (wF:Κ) (r n D H E I J M T s x:Nat) (U:Ρ) (ok:Bool) (h5:D<w1.heap.size) (h9:E<w1.heap.size):∀ (i:Nat) (v:Ρ) (w w':Κ),O6 wF r n D H E I J M T s x U ok i v w->Prg w1 wF w w'->O6 wF r n D H E I J M T s x U ok i v w'
 | 0,_,_,_,h,_=>h
 | 1,_,_,_,h,_=>h
 | 2,_,_,_,h,_=>h
 | 3,_,_,_,h,_=>h
 | 4,_,_,_,h,_=>h
 | 5,_,_,_,h,_=>h
 | 6,_,_,_,h,_=>h
 | 7,_,_,_,h,_=>h
 | 8,_,_,_,h,_=>h
 | 9,_,_,_,h,_=>h
 | 10,_,_,_,h,_=>h
 | 11,_,_,_,h,_=>h
 | 12,_,_,_,h,_=>h
 | 13,_,_,_,h,_=>h
 | 14,_,_,_,h,_=>h
 | 15,_,_,_,h,_=>h
 | 16,_,_,_,h,_=>h
 | 17,_,_,_,h,_=>h
 | 18,_,_,_,h,G=>G.turned h5 h
 | 19,_,_,_,h,_=>h
 | _+20,_,_,_,h,G=>G.turned h9 h
theorem Aha (i:Nat) (h:i<21):i=0\/i=1\/i=2\/i=3\/i=4\/i=5\/i=6\/i=7\/i=8\/i=9\/i=10\/i=11\/i=12\/i=13\/i=14\/i=15\/i=16\/i=17\/i=18\/i=19\/i=20:=by omega
theorem Ags (t:Tbl) (hv:TVal t) (hn:t.n.length<=65536) (hl:Reached t (ι t.n.length)) (L:List Cls) (hL:Parts L) (hc:t.cells=L.length) (ix:∀ b,b<256->t.cell b=Ak L b) (vC vN vA:Ρ) (w:Κ) (hT:Tab w) (jc:0<w.heap.size)
  (hC:Cs w vC L) (hN:Rows w vN t.n) (hA:Bools w vA t.acc) :
  Calls Η 58 #[vC,vN,vA] w λe w'=>∃ r,ResOf w' e r/\F5 (λu=>t.has u=Ξ) r/\Ext w w':=by
 have ei:=hv.pos;have ng:=hv.cpos;have p8:=hv.cle;obtain⟨bn,on,cn,rfl,hR⟩:=Lu hN t.cells ei ng hv.row;obtain⟨ba,oa,ca,rfl,jf⟩:=K2 hA (by rw[hv.accL];exact ei);obtain⟨bc,oc,cc,rfl,-⟩:=ä hC hL.pos;have nj:=Α (λW (D:Ext w W)=>hT.below D.below jc);have jg:RowsAt w bn on t.n.length t.cells t.ent2:=hR;have jh:∀ s,s<t.n.length->w.cell? ⟨ba,oa+s,Γ⟩=Δ (.bool (t.ok s)):=λs hs=>jf s (by rw[hv.accL];exact hs)
 have HR:=Α jg;have HV:=Α hv;have HL:=Α hl;have jj:=Α jh;have e7:=hv.accL;have HC:=Α hC;have nl:=Α hL;have nm:=Α ix;have nn:=Α hc;rw[e7];have e7:=Α e7;obtain⟨lc,e8⟩:∃ x,L.length=x:=⟨_,rfl⟩;rw[e8];have np:=Α e8;obtain⟨i0,hi,fa,fb,fc⟩:=ϕ Cg;obtain⟨i5,ff,fg,fh,fj⟩:=ϕ (show (Η.info? 5).map (λi=>(i.zero,i.size,i.bytes))=Δ (Δ (.int .u8 0),1,1) by kernel_rfl);have be:=(Ι w).alloc (Ε #[Β Γ 0 0,Β Γ 0 0,Β Γ 0 0] 30);have H0:=Ab w (Ε #[Β Γ 0 0,Β Γ 0 0,Β Γ 0 0] 30);clear hR jg hv hC hN hA jf jh hl hL hc ix hT e8;go_enter Tryz.func58,Tryz.ntmps58;go_upto_region 1 with (fail)
 obtain⟨w1,ek⟩:∃ W,w.alloc (Ε #[Β Γ 0 0,Β Γ 0 0,Β Γ 0 0] 30)=W:=⟨_,rfl⟩;have p9:w.heap.size<w1.heap.size:=by rw[<-ek,Λ];omega
 rw[ek] at be H0;simp only[ek];clear ek;have HB:=Α H0;clear H0;go_upto_region 2 with (at_make;refine ϫ _ rfl _ _ 68 rfl w1.heap.size 3 i0 (.int ζ 0) 1 ϓ hi fa fb ζ ζ _ _ t.n.length rfl rfl rfl rfl (by rw[fc];omega) (by unfold ϙ;omega) (θ _) ?_;intro w2 jl jm)
 have jn:Ext w1 w2:=(Ι w1).grown jm (λk e=>by cases e);have jo:w2.ownsRow w1.heap.size 3 1 (Β (Δ ⟨w1.heap.size,0,Γ⟩) t.n.length t.n.length) t.n.length ((δ t.n.length 0).map iv):=by rw[<-B7];exact jl
 clear jl jm;generalize jq:w1.heap.size=gb at *;have jr:=Α jq;clear jq;go_wp2_with (fail);go_loopw [32] (λi W=>∃ (j:Nat) (B:List Nat),j<=t.n.length/\i=.int ζ j/\Ext w1 W/\
   W.ownsRow gb 3 1 (Β (Δ ⟨gb,0,Γ⟩) t.n.length t.n.length) t.n.length (B.map iv)/\Ϻ (AInv t (ι t.n.length) j B))
  (λi _=>t.n.length-(intOf i).toNat)
 case atStart=>exact⟨0,_,by omega,rfl,jn,jo,Α (Ze t _)⟩
 case round=>
  clear jn jo;obtain⟨j,B,hj,rfl,hE,hB,HI⟩:=hrel;by_cases ae:j<t.n.length
  ·have js:=(be.trans hE).cell (jj.out j ae);have jt:=Α HI.out.len;have ju:w1.heap.size<=gb:=å jr.out;have fl:(ι t.n.length).getD j 0=j:=(by rw[Ζ,ì ae];rfl);have HY:=Α (λho=>Zd HI.out (by simpa using ae) (by rw[fl];exact ae) ho);have HN:=Α (λho=>Zf HI.out (by simpa using ae) ho);rw[fl] at HY HN;clear fl;cases c9:t.ok j
   ·rw[c9] at js;have bk:=Α (HN.out c9);clear c9;go_wp2_with (fail);go_roundw
    case rel=>exact⟨j+1,B,by omega,by go_num,hE,hB,bk⟩
    case measure=>simp[intOf];omega
   ·rw[c9] at js;have ns:=Α (HY.out c9);clear c9;obtain⟨nt,b0⟩:=Bj hB j 1;have cs:=Am 0 hB jt.out.symm j (by rw[jt.out];exact ae);have fs:=hB.frozenAt j;go_wp2_with (fail);go_roundw
    case rel=>exact⟨j+1,B.set j 1,by omega,by go_num,hE.grown b0 (λk e=>by cases e;exact ju),nt,ns⟩
    case measure=>simp[intOf];omega
  ·obtain rfl:j=t.n.length:=by omega
   have HO:=Α (Us (by rw[Þ];exact HI.out));clear HI;have ju:w1.heap.size<=gb:=å jr.out;go_upto_region 8 with (fail)
   obtain⟨w3,en⟩:∃ W,W=wr:=⟨_,rfl⟩;subst en;have cj:Ϻ (∀ s,s<t.n.length->w3.cell? ⟨gb,s,Γ⟩=Δ (iv (B.getD s 0))):=Α λs hs=>Am 0 hB HO.out.len.symm s (by rw[HO.out.len];exact hs)
   have jw:gb<w3.heap.size:=(hB.lt gb rfl).2;clear hB;go_wp2_with (fail);go_loopw [8,11] (λv c W=>∃ (B:List Nat) (n g:Nat),v=Β (Δ ⟨g,0,Γ⟩) t.n.length t.n.length/\c=.int ζ n/\Ext w1 W/\g<W.heap.size/\
     Ϻ (∀ s,s<t.n.length->W.cell? ⟨g,s,Γ⟩=Δ (iv (B.getD s 0)))/\Ϻ (OInv t (ι t.n.length) B n))
    (λ_ c _=>t.n.length-(intOf c).toNat)
   case atStart=>exact⟨B,0,gb,rfl,rfl,hE,jw,cj,HO⟩
   case round=>
    clear cj HO jw hE;clear B;obtain⟨B,n,g,rfl,rfl,hE,qb,cj,HO⟩:=hrel;have nu:=HO.out.le;rw[Þ] at nu;obtain⟨H,nv⟩:∃ W,W=wr:=⟨_,rfl⟩;subst nv;have nw:=be.trans hE;have jx:=Α (λ(W:Κ) (D:Ext H W)=>HR.out.ext (nw.trans D));have ny:=Α (λ(W:Κ) (D:Ext H W) s (hs:s<t.n.length)=>D.cell (cj.out s hs));have n0:=@run_makeMap Η;go_upto_region 10 with (fail)
    clear n0;have jy:=(Ι H).alloc (.map #[] 0);have jz:=Aiw H 9 Dj;have j1:(H.alloc (.map #[] 0)).heap.size=H.heap.size+1:=Λ _ _;obtain⟨w3,en⟩:∃ W,H.alloc (.map #[] 0)=W:=⟨_,rfl⟩;simp only[en] at *;clear en;go_upto_region 11 with (at_make;refine ϫ _ rfl _ _ 68 rfl w3.heap.size 3 i0 (.int ζ 0) 1 ϓ hi fa fb ζ ζ _ _ t.n.length rfl rfl rfl rfl (by rw[fc];omega) (by unfold ϙ;omega) (θ _) ?_;intro w4 j2 fp)
    have cl:=jy.grown fp (λk e=>by cases e);have a7:w4.ownsRow w3.heap.size 3 1 (Β (Δ ⟨w3.heap.size,0,Γ⟩) t.n.length t.n.length) t.n.length ((δ t.n.length 0).map iv):=by rw[<-B7];exact j2
    have bp:=jz.kept fp (by simp);have dp:H.heap.size+1<w4.heap.size:=by have:w3.heap.size<w4.heap.size:=(a7.lt _ rfl).2;omega
    rw[j1] at a7;clear j2 fp jz jy;generalize eo:w3.heap.size=gn at *;obtain rfl:gn=H.heap.size+1:=j1;go_wp2_with (fail);go_loopw [48] (λi W=>∃ (j:Nat) (N R:List Nat) (f:List UInt8->Option Nat),j<=t.n.length/\i=.int ζ j/\Ext H W/\H.heap.size+1<W.heap.size/\
      W.ownsRow (H.heap.size+1) 3 1 (Β (Δ ⟨H.heap.size+1,0,Γ⟩) t.n.length t.n.length) t.n.length (N.map iv)/\IsMq W 9 Dj H.heap.size R.length f/\
      Ϻ (FInv (Bu t λs=>B.getD s 0) j (λs=>N.getD s 0) R f/\N.length=t.n.length))
     (λi _=>t.n.length-(intOf i).toNat)
    case atStart=>exact⟨0,_,[],_,by omega,rfl,cl,dp,a7,bp,Α ⟨P4 _ _,by simp⟩⟩
    case round=>
     clear a7 bp cl dp;obtain⟨j,N,R,f,hj,rfl,cl,dp,a7,bp,HN⟩:=hrel;have qc:=HN.out.1.le;obtain⟨w4,fq⟩:∃ W,W=wr:=⟨_,rfl⟩;subst fq;by_cases ae:j<t.n.length
     ·have ft:j∈ι t.n.length:=υ.2 ae;have hx:=HO.out.lt _ ft;have n2:=Α (λk (hk:k<t.cells)=>HO.out.lt _ (HL.out.closed _ ft k hk));clear ft;obtain⟨br,or',cr,dr,dt⟩:=jx.out H (Ι H) j ae;have fu:=cl.cell dr;have fv:=Α (λ(W:Κ) (D:Ext H W) k (hk:k<t.cells)=>D.cell (dt k hk));have n9:=Α (λk (hk:k<t.cells)=>HV.out.tgt j ae k hk);clear dr dt;obtain⟨x,ep⟩:∃ x,B.getD j 0=x:=⟨_,rfl⟩;rw[ep] at hx;have HX:=Α (λ(W:Κ) (D:Ext H W)=>(D.cell (cj.out j ae)).trans (by rw[ep]));have ob:=Α ep;clear ep;go_upto_region 14 with (fail)
      clear fu;go_upto_region 15 with (at_make;refine wpList_make_own _ rfl _ _ 22 rfl (H.heap.size+1+1) 5 i5 (.int .u8 0) 1 Ϸ ff fg fh ζ ζ _ (2*t.cells+2) rfl rfl (by push_cast;rfl) (by rw[fj];omega) (by unfold ϙ;omega) (by omega) ?_;intro w5 ax a1)
      have aj:=cl.grown a1 (λk e=>by cases e);have ay:=Cb a7 a1;have az:=bp.kept a1 (by simp);have cm:H.heap.size+1<w5.heap.size:=ε dp a1.size;have G:∀ W,Ext H W->Ext H W/\W.cell? ⟨g,j,Γ⟩=Δ (iv x):=λW D=>⟨D,HX.out W D⟩
      have cx:=HX.out w5 aj;clear a1 a7 bp;go_region_held_law (λW=>Ext H W/\W.cell? ⟨g,j,Γ⟩=Δ (iv x))
       (first|exact G _ ao|exact G _ (aj.drew.alloc _)|exact G _ aj.drew)
       ((refine step_append_lies _ rfl _ _ 22 rfl (H.heap.size+1+1) 5 i5 (.int .u8 0) 1 1 Ϸ ff fg fh fj rfl (by decide) _ _ _ rfl ((Ah ax (Ι w5).drew).alloc _) _ 2 2 ((Bo x).map bv) rfl rfl (Jc _ _ _ _) (by simp[Bo,ϊ]) (by decide) (by unfold ϙ;omega) (by omega) (by simp;omega) _ rfl ?_
         intro g6 c6 w6 b7 ah fw fx;have ao:Ext H w6:=(aj.drew.alloc _).grown ah (λk e=>by have:=(ax.lt k e).1;omega)))
      have bg:=((Ah ay (Ι w5).drew).alloc _).kept ah (Ai ay ax (by decide));have bq:=((az.ext (Ι w5).drew).alloc _).kept ah (az.ne_row ax);have bt:H.heap.size+1<w6.heap.size:=by
       have I:(w5.drew.alloc (Ε _ 5)).heap.size<=w6.heap.size:=ah.size;rw[Λ] at I;have h2:w5.heap.size<=w5.drew.heap.size:=(Ι w5).drew.size;omega
      obtain⟨gf,j3⟩:∃ gf:Nat->Nat,(λk=>B.getD (t.ent2 j k) 0)=gf:=⟨_,rfl⟩;have j4:=Α j3;have b7:w6.ownsRow (H.heap.size+1+1) 5 1 (Β (Δ ⟨g6,0,Γ⟩) (2+2*0) c6) (2+2*0) ((Bo x++Bh gf 0).map bv):=by
       rw[show Bo x++Bh gf 0=Bo x by simp[Bh]];exact b7
      clear j3 ay az ax ah fw fx cx G aj cm;go_wp2_with (fail);go_loopw [16,74] (λv i W=>∃ (k gk ck:Nat),k<=t.cells/\i=.int ζ k/\v=Β (Δ ⟨gk,0,Γ⟩) (2+2*k) ck/\Ext H W/\H.heap.size+1<W.heap.size/\
        W.ownsRow (H.heap.size+1) 3 1 (Β (Δ ⟨H.heap.size+1,0,Γ⟩) t.n.length t.n.length) t.n.length (N.map iv)/\IsMq W 9 Dj H.heap.size R.length f/\
        W.ownsRow (H.heap.size+1+1) 5 1 v (2+2*k) ((Bo x++Bh gf k).map bv))
       (λ_ i _=>t.cells-(intOf i).toNat)
      case atStart=>exact⟨0,g6,c6,by omega,rfl,rfl,ao,bt,bg,bq,b7⟩
      case round=>
       clear ao bt bg bq b7;obtain⟨k,gk,ck,hk,rfl,rfl,aj,cm,ay,az,ax⟩:=hrel;obtain⟨w5,oe⟩:∃ W,W=wr:=⟨_,rfl⟩;subst oe;by_cases ga:k<t.cells
       ·have er:=n9.out k ga;have hz:=n2.out k ga;have cy:=fv.out w5 aj k ga;obtain⟨y,gd⟩:∃ y,t.ent2 j k=y:=⟨_,rfl⟩;have j7:Ϻ (gf k=B.getD y 0):=Α (by rw[<-j4.out,<-gd]);rw[gd] at cy er hz;clear gd;obtain⟨z,gg⟩:∃ z,B.getD y 0=z:=⟨_,rfl⟩;rw[gg] at hz j7;have HZ:=Α (λ(W:Κ) (D:Ext H W)=>(D.cell (cj.out y er)).trans (by rw[gg]));clear gg;have G:∀ W,Ext H W->Ext H W/\W.cell? ⟨g,y,Γ⟩=Δ (iv z):=λW D=>⟨D,HZ.out W D⟩
        have cz:=HZ.out w5 aj;go_upto_region 19 with (fail)
        clear cy;go_region_held_law (λW=>Ext H W/\W.cell? ⟨g,y,Γ⟩=Δ (iv z))
         (first|exact G _ ao|exact G _ (aj.drew.alloc _)|exact G _ aj.drew)
         ((refine step_append_lies _ rfl _ _ 22 rfl (H.heap.size+1+1) 5 i5 (.int .u8 0) 1 1 Ϸ ff fg fh fj rfl (by decide) _ _ _ rfl ((Ah ax (Ι w5).drew).alloc _) _ 2 2 ((Bo z).map bv) rfl rfl (Jc _ _ _ _) (by simp[Bo,ϊ]) (by decide) (by unfold ϙ;omega) (by omega) (by simp;omega) _ rfl ?_
           intro g6 c6 w6 b7 ah fw fx;have ao:Ext H w6:=(aj.drew.alloc _).grown ah (λk e=>by have:=(ax.lt k e).1;omega)))
        have bg:=((Ah ay (Ι w5).drew).alloc _).kept ah (Ai ay ax (by decide));have bq:=((az.ext (Ι w5).drew).alloc _).kept ah (az.ne_row ax);have bt:H.heap.size+1<w6.heap.size:=by
         have I:(w5.drew.alloc (Ε _ 5)).heap.size<=w6.heap.size:=ah.size;rw[Λ] at I;have h2:w5.heap.size<=w5.drew.heap.size:=(Ι w5).drew.size;omega
        have b7:w6.ownsRow (H.heap.size+1+1) 5 1 (Β (Δ ⟨g6,0,Γ⟩) (2+2*(k+1)) c6) (2+2*(k+1)) ((Bo x++Bh gf (k+1)).map bv):=by
         rw[show Bo x++Bh gf (k+1)=(Bo x++Bh gf k)++Bo z by rw[Bh,j7.out,List.append_assoc],List.map_append];exact b7
        clear ay az ax ah fw fx cz G aj cm;go_wp2;go_roundw
        case rel=>exact⟨k+1,g6,c6,by omega,by go_num,rfl,ao,bt,bg,bq,b7⟩
        case measure=>simp[intOf];omega
       ·obtain rfl:k=t.cells:=by omega
        have da:(Bo x++Bh gf t.cells).length=2+2*t.cells:=by rw[Ο,Jb,O9]
        have gh:Bu t (λs=>B.getD s 0) j=Bo x++Bh gf t.cells:=by
         show Bo (B.getD j 0)++Bh (λk=>B.getD (t.ent2 j k) 0) t.cells=_;rw[ob.out,j4.out]
        obtain⟨ky,j9⟩:∃ ky,Bo x++Bh gf t.cells=ky:=⟨_,rfl⟩;rw[j9] at da gh ax;have gi:=Α gh;clear j9 gh;have oh:(convert 22 9 (Β (Δ ⟨gk,0,Γ⟩) (2+2*t.cells) ck)).run Η w5=.ok (Dj ky) w5:=Ib _ _ _ (By.of_owns (by rw[da];exact ax) (by rw[da];omega));have gj:=Nt ky (by rw[da];unfold ϙ;omega);have qd:=Α da;clear da;have cn:=Am 0 ay HN.out.2.symm j (by rw[HN.out.2];exact ae);have fn:=ay.frozenAt j;cases hf:f ky with
        | some i=>
         have bk:=Aj1 HN.out.1 (by rw[HN.out.2];exact ae) i (by rw[gi.out];exact hf);have bk:=Α (ã bk (show (N.set j i).length=t.n.length by rw[ύ];exact HN.out.2));obtain⟨bg,ah⟩:=Bj ay j i;have ao:=aj.grown ah (λk e=>by cases e;omega);have bq:=az.kept ah (by simp);have bt:=ε cm ah.size;clear ah ay aj cm;go_wp2_with (at_lookup;refine Er rfl _ _ 155 rfl Fy ñ rfl az.mp ky rfl gj ?_;rw[hf];dsimp only [Option.isSome,Option.getD]);go_roundw
         case rel=>exact⟨j+1,N.set j i,R,f,by omega,by go_num,ao,bt,bg,bq,bk⟩
         case measure=>simp[intOf];omega
        | none=>
         have bk:=Aj2 HN.out.1 (by rw[HN.out.2];exact ae) (by rw[gi.out];exact hf);rw[gi.out] at bk;have bk:=Α (ã bk (show (N.set j R.length).length=t.n.length by rw[ύ];exact HN.out.2));clear cn fn;go_upto_region 23 with (at_lookup;refine Er rfl _ _ 155 rfl Fy ñ rfl az.mp ky rfl gj ?_;rw[hf];dsimp only [Option.isSome,Option.getD])
         go_upto_region 24 with (at_len;refine Nj rfl _ 155 rfl ñ rfl az ?_)
         go_upto_region 25 with (at_mapUpdate;refine Z7 rfl _ _ _ 155 rfl Fy ñ rfl az (by unfold ϙ;omega) Nu ky hf rfl gj R.length rfl (by omega) ?_;intro w6 bq ah)
         clear oh;have bg:=ay.kept ah (az.far ay);have ao:=aj.grown ah (λk e=>by cases e;omega);have bt:=ε cm ah.size;clear ah ay aj cm az ax;have cn:=Am 0 bg HN.out.2.symm j (by rw[HN.out.2];exact ae);have fn:=bg.frozenAt j;obtain⟨om,et⟩:=Bj bg j R.length;have oo:=ao.grown et (λk e=>by cases e;omega);have oq:=bq.kept et (by simp);have ot:=ε bt et.size;clear et bg ao bt bq;go_wp2;go_roundw
         case rel=>exact⟨j+1,N.set j R.length,R++[j],_,by omega,by go_num,oo,ot,om,by rw[Ο];exact oq,bk⟩
         case measure=>simp[intOf];omega
     ·obtain rfl:j=t.n.length:=by omega
      by_cases he:R.length=n
      ·have ka:((R.length:Int)==(n:Int))=Ξ:=by simp[he]
       have bl:=Α (Ajp HV.out HL.out HO.out HN.out.1 he);have ou:=Α (Aj0 HN.out.1 HV.out.pos);have kb:Ints w4 (Β (Δ ⟨H.heap.size+1,0,Γ⟩) t.n.length t.n.length) N:=OwnI.ints (base:=H.heap.size+1) (by
        show Κ.ownsRow _ _ _ _ _ _ _;rw[HN.out.2];exact a7) (by rw[HN.out.2];omega)
       have dx:=Α HN.out.2;have bu:=Α (hE.trans cl);have ow:=Α kb;have kc:=Α (λs (hs:s<t.n.length)=>Am 0 a7 HN.out.2.symm s (by rw[HN.out.2];exact hs));have eu:=bp;clear he HO HN a7 bp cj jx ny kb;go_upto_region 30 with (at_len;refine Nj rfl _ 155 rfl ñ rfl eu ?_)
       clear eu ka;have ev:=bl.out.blk;have ox:R.length<=t.n.length:=by have:=Jh ev;rwa [Þ] at this
       have f104:=Α (Agy N (by rw[dx.out];exact ei) (λi hi=>by have h:N.getD i 0<R.length:=ev.lt i (υ.2 (by rw[<-dx.out];exact hi));omega) (by rw[dx.out];omega) _ w4 ow.out);have HM:=Α (λ(m:Nat) (I:∀ i,i<N.length->N.getD i 0<=m) (h2:∃ i,i<N.length/\N.getD i 0=m)=>Agx ev dx.out ei I h2);obtain⟨r,hr⟩:∃ r,R.length=r:=⟨_,rfl⟩;rw[hr] at HM ox;have cp:=Α hr;have qe:=dx.out;clear hr ev;go_upto_region 31 with (go_at_call 104;(with_reducible refine f104.out.mono ?_);rintro e w5 ⟨m,rfl,rfl,I,h2⟩;have oy:=HM.out m I h2;clear I h2)
       have kd:(m:Int)+1=(r:Int):=by omega
       simp only[kd];clear kd;obtain⟨gB,oz⟩:∃ x,H.heap.size+1=x:=⟨_,rfl⟩;simp only[oz] at *;have bw:=Α (bu.out.heap HB.out);clear f104 oy HM;by_cases o0:64<r
       ·have o1:=Α Fa;go_wp2_with (first
         | (refine B3 rfl 30 _ rfl #[Β Γ 0 0,Β Γ 0 0,Β Γ 0 0] ?_ ?_;(simp;with_reducible exact o1.out))
         | (refine Φ rfl 30 (η 6) (η 125) rfl _ _ rfl rfl _ _ bw.out Ad rfl Ew ?_))
        refine ϋ (v:=.tuple #[zD,.int ζ 2]) (Ba rfl _ _ _ _ _ _ _ rfl _ rfl (μ _ _ _ #[Β Γ 0 0,Β Γ 0 0,Β Γ 0 0] 30 (0,0) bw.out) Ν rfl Ad) rfl ?_;exact⟨Γ,rfl,Amu HV.out HL.out bl.out (by rw[cp.out];exact o0),(be.trans bu.out).setRow (by omega) _⟩
       ·obtain⟨w4,fq⟩:∃ W,W=w5:=⟨_,rfl⟩;subst fq;obtain⟨j0,o3,o4,o5,o6⟩:=ϕ Dt;obtain⟨k0,o8,o9,pa,pb⟩:=ϕ Mo;go_upto_region 33 with (fail)
        refine Ht 7 182 (by kernel_rfl) (by kernel_rfl) rfl (O7 w4.heap.size r (Β (Δ ⟨bc,oc,Γ⟩) lc cc)) Gh Ik (Agj _ _ _) (λi db=>?_) (λvs w5 aj U hN=>?_)
        ·have gp:=(Ι w4).drew
         match i,db with
         | 0,_=>
          refine Ar _ _ rfl rfl rfl λc W D E G=>?_
          have M:c.tmps.getD 0 ς=Β (Δ ⟨bc,oc,Γ⟩) lc cc:=G 0 (by kernel_rfl);go_simp;exact⟨_,rfl,Ι W,rfl,λ_ _ _ _ _=>trivial⟩
         | 1,_=>
          refine Ar _ _ rfl rfl rfl λc W D E G=>?_
          have M:c.tmps.getD 21 ς=iv r:=G 21 (by kernel_rfl);go_simp;exact⟨_,rfl,Ι W,rfl,λ_ _ _ _ _=>trivial⟩
         | 2,_=>
          refine Ar _ _ rfl rfl rfl λc W D E G=>?_
          have M:c.tmps.getD 127 ς=iv r:=E 1 127 (by kernel_rfl);refine Hu W _ _ 27 rfl w4.heap.size 68 k0 (Β Γ 0 0) 1 Tryz.underlying27 o8 o9 pa ζ ζ _ _ r M M rfl rfl (by rw[pb];omega) (by unfold ϙ;omega) (gp.trans D).size ?_;intro W' gq b0;refine⟨_,rfl,(Ι W).grown b0 (λk e=>by cases e),⟨_,rfl,?_⟩,λ_ _ _ _ _=>trivial⟩;have:(madeCells (Ρ.slice Γ 0 0).cells (r*1)).toList=δ r (Β Γ 0 0):=by
           rw[Nat.mul_one];exact toList_madeCells_one _ _
          rw[<-this];exact gq
         | 3,_=>
          refine Ar _ _ rfl rfl rfl λc W D E G=>?_
          have M:c.tmps.getD 21 ς=iv r:=G 21 (by kernel_rfl);go_simp;exact⟨_,rfl,Ι W,rfl,λ_ _ _ _ _=>trivial⟩
         | 4,_=>
          refine Ar _ _ rfl rfl rfl λc W D E G=>?_
          have M:c.tmps.getD 129 ς=iv r:=E 3 129 (by kernel_rfl);refine Hu W _ _ 28 rfl w4.heap.size 4 j0 (.bool Τ) 1 Tryz.underlying28 o3 o4 o5 ζ ζ _ _ r M M rfl rfl (by rw[o6];omega) (by unfold ϙ;omega) (gp.trans D).size ?_;intro W' gq b0;refine⟨_,rfl,(Ι W).grown b0 (λk e=>by cases e),⟨_,rfl,?_⟩,λ_ _ _ _ _=>trivial⟩;rw[<-B7];exact gq
         | 5,_=>
          refine Ar _ _ rfl rfl rfl λc W D E G=>?_
          have M:c.tmps.getD 126 ς=Β (Δ ⟨bc,oc,Γ⟩) lc cc:=E 0 126 (by kernel_rfl);obtain⟨J,ke,h5⟩:∃ g,c.tmps.getD 128 ς=Β (Δ ⟨g,0,Γ⟩) r r/\W.ownsRow w4.heap.size 68 1 (c.tmps.getD 128 ς) r (δ r (Β Γ 0 0)):=E 2 128 (by kernel_rfl);obtain⟨T,kg,h9⟩:∃ g,c.tmps.getD 130 ς=Β (Δ ⟨g,0,Γ⟩) r r/\W.ownsRow w4.heap.size 4 1 (c.tmps.getD 130 ς) r ((δ r Τ).map ο):=E 4 130 (by kernel_rfl);rw[ke] at h5;rw[kg] at h9;refine C4 (Hh 30 _ rfl (A:=dA (Β (Δ ⟨bc,oc,Γ⟩) lc cc) (Β (Δ ⟨J,0,Γ⟩) r r) (Β (Δ ⟨T,0,Γ⟩) r r)) ?_ W) ?_
          ·have e:(Array.map (λ(i,x)=>(i,c.eval x)) #[(0,ϻ.tmp 126),(1,ϻ.tmp 128),(2,ϻ.tmp 130)]).toList=[(0,c.eval (η 126)),(1,c.eval (η 128)),(2,c.eval (η 130))]:=by simp
           rw[e,show c.eval (η 126)=_ from M,show c.eval (η 128)=_ from ke,show c.eval (η 130)=_ from kg];exact Qy _ _ _ _ _ _ _ _ _
          ·exact⟨_,rfl,Ι W,⟨J,T,rfl,h5,h9⟩,λ_ _ _ _ _=>trivial⟩
         | 6,_=>
          refine Ar _ _ rfl rfl rfl λc W D E G=>?_
          go_simp;exact⟨_,rfl,(Ι W).alloc _,⟨_,rfl,Ab W _,(gp.trans D).size⟩,λ_ _ _ _ _=>trivial⟩
        ·have kh:vs 0=Β (Δ ⟨bc,oc,Γ⟩) lc cc:=U 0 (by omega);have ki:vs 1=iv r:=U 1 (by omega);obtain⟨qf,kj,-⟩:∃ g,vs 2=Β (Δ ⟨g,0,Γ⟩) r r/\_:=U 2 (by omega);have kk:vs 3=iv r:=U 3 (by omega);obtain⟨qg,kl,-⟩:∃ g,vs 4=Β (Δ ⟨g,0,Γ⟩) r r/\_:=U 4 (by omega);obtain⟨J,T,dy,bh,bj⟩:∃ J T,vs 5=.agg (dA (Β (Δ ⟨bc,oc,Γ⟩) lc cc) (Β (Δ ⟨J,0,Γ⟩) r r) (Β (Δ ⟨T,0,Γ⟩) r r))/\_/\_:=U 5 (by omega);obtain⟨g8,km,H8,ea⟩:∃ g,vs 6=γ (Δ ⟨g,0,Γ⟩)/\_/\_:=U 6 (by omega);simp only[Bq,List.drop_succ_cons,List.drop_zero,kh,ki,kj,kk,kl,dy,km,Ü,Ö,É,Option.bind_some,Act.put,Θ,Χ,Ψ];clear U hN kh ki kj kk kl dy km;go_upto_region 34 with (refine Φ rfl 30 (η 22) (η 131) rfl _ _ rfl rfl _ _ H8 Ad rfl (Ap _ _ _ rfl rfl rfl) ?_)
         have ao:=((Ι w4).drew.trans aj).setRow ea (dA (Β (Δ ⟨bc,oc,Γ⟩) lc cc) (Β (Δ ⟨J,0,Γ⟩) r r) (Β (Δ ⟨T,0,Γ⟩) r r));have gr:=μ w5 g8 _ (dA (Β (Δ ⟨bc,oc,Γ⟩) lc cc) (Β (Δ ⟨J,0,Γ⟩) r r) (Β (Δ ⟨T,0,Γ⟩) r r)) _ _ H8;have gu:=bh.kept (Bx w5 g8 (dA (Β (Δ ⟨bc,oc,Γ⟩) lc cc) (Β (Δ ⟨J,0,Γ⟩) r r) (Β (Δ ⟨T,0,Γ⟩) r r))) (Dq bh H8 (by decide));have gv:=bj.kept (Bx w5 g8 (dA (Β (Δ ⟨bc,oc,Γ⟩) lc cc) (Β (Δ ⟨J,0,Γ⟩) r r) (Β (Δ ⟨T,0,Γ⟩) r r))) (Dq bj H8 (by decide));obtain⟨w6,gw⟩:∃ W,w5.setRow g8 (dA (Β (Δ ⟨bc,oc,Γ⟩) lc cc) (Β (Δ ⟨J,0,Γ⟩) r r) (Β (Δ ⟨T,0,Γ⟩) r r))=W:=⟨_,rfl⟩;rw[gw] at ao gr gu gv;simp only[gw];clear gw H8 bh bj aj;have ct:w4.heap.size<=w6.heap.size:=ao.size;have H8:=Α gr;clear gr;have kn:=Α (λs (hs:s<t.n.length)=>(show N.getD s 0<r from by rw[<-cp.out];exact bl.out.blk.lt s (υ.2 hs)));go_upto_region 35 with (fail)
         go_loopw [134] (λi W=>∃ (s:Nat) (NX:List Ρ) (AC:List Bool),s<=t.n.length/\i=.int ζ s/\Ext w4 W/\w4.heap.size<=W.heap.size/\Ϻ (NX.length=r/\AC.length=r)/\
           W.ownsRow w4.heap.size 68 1 (Β (Δ ⟨J,0,Γ⟩) r r) r NX/\W.ownsRow w4.heap.size 4 1 (Β (Δ ⟨T,0,Γ⟩) r r) r (AC.map ο)/\
           Ϻ (W.heap[g8]? = Δ (Ε (dA (Β (Δ ⟨bc,oc,Γ⟩) lc cc) (Β (Δ ⟨J,0,Γ⟩) r r) (Β (Δ ⟨T,0,Γ⟩) r r)) 30 (0,0)))/\
           Ϻ (∀ q,q<s->OwnI W w4.heap.size (NX.getD (N.getD q 0) ς) ((ι t.cells).map λk=>N.getD (t.ent2 q k) 0))/\
           Ϻ (∀ q,q<s->AC.getD (N.getD q 0) Τ=t.ok q))
          (λi _=>t.n.length-(intOf i).toNat)
         case atStart=>exact⟨0,_,_,by omega,rfl,ao,ct,Α ⟨by simp,by simp⟩,gu,gv,H8,Α (λj h=>by omega),Α (λj h=>by omega)⟩
         case round=>
          clear ao ct gu gv H8;obtain⟨s,NX,AC,hs,rfl,hE,ct,bm,bh,bj,H8,HQ,gx⟩:=hrel;by_cases ae:s<t.n.length
          ·obtain⟨br,or',cr,dr,dt⟩:=HR.out s ae;have ko:=(be.trans bu.out).trans hE;have fu:=ko.cell dr;have fv:=Α dt;clear dr dt ko;go_upto_region 37 with (fail)
           clear fu;go_upto_region 38 with (at_make;refine ϫ _ rfl _ _ 68 rfl wr.heap.size 3 i0 (.int ζ 0) 1 ϓ hi fa fb ζ ζ _ _ t.cells rfl rfl rfl rfl (by rw[fc];omega) (by unfold ϙ;omega) (θ _) ?_;intro w7 kq cv)
           have gz:=hE.grown cv (λk e=>by cases e);have bh:=Cb bh cv;have bj:=Cb bj cv;have H8:=Α ((cv.block g8 (An H8.out) (by simp)).trans H8.out);have HQ:=Α (λq I=>ã (Cb (HQ.out q I) cv) (λe=>(show ∀ k,(NX.getD (N.getD q 0) ς).ownBlock=Δ k->k<wr.heap.size from λk e=>((HQ.out q I).lt k e).2) wr.heap.size e));have dd:w7.ownsRow wr.heap.size 3 1 (Β (Δ ⟨wr.heap.size,0,Γ⟩) t.cells t.cells) t.cells ((Br (λk=>N.getD (t.ent2 s k) 0) t.cells 0).map iv):=by rw[Hg,<-B7];exact kq
           have qh:=Nat.le_trans ct cv.size;have qi:wr.heap.size<w7.heap.size:=(dd.lt _ rfl).2;clear kq cv;generalize eo:wr.heap.size=gn at *;clear eo;go_upto_region 39 with (fail)
           go_loopw [144] (λi W=>∃ k:Nat,k<=t.cells/\i=.int ζ k/\w7.grownBy W (Δ gn)/\W.ownsRow gn 3 1 (Β (Δ ⟨gn,0,Γ⟩) t.cells t.cells) t.cells ((Br (λk=>N.getD (t.ent2 s k) 0) t.cells k).map iv))
            (λi _=>t.cells-(intOf i).toNat)
           case atStart=>exact⟨0,by omega,rfl,Κ.grownBy.refl _ _,dd⟩
           case round=>
            obtain⟨k,qj,rfl,hg,hX⟩:=hrel;have de:=gz.grown hg (λk e=>by cases e;exact ct);by_cases ey:k<t.cells
            ·have cq:=((be.trans bu.out).trans de).cell (fv.out k ey);have er:=HV.out.tgt s ae k ey;have cB:=de.cell (kc.out (t.ent2 s k) er);have co:=Am 0 hX (C2 _ _ _).symm k (by rw[C2];exact ey);have fo:=hX.frozenAt k;obtain⟨cb,b0⟩:=Bj hX k (N.getD (t.ent2 s k) 0);rw[F0 (λk=>N.getD (t.ent2 s k) 0) _ _ ey] at cb;have eo:=hg.trans b0;clear b0 de hg hX;generalize t.ent2 s k=y at *;generalize N.getD y 0=z at *;go_wp2_with (fail);go_roundw
             case rel=>exact⟨k+1,by omega,by go_num,eo,cb⟩
             case measure=>simp[intOf];omega
            ·obtain rfl:k=t.cells:=by omega
             rw[I5] at hX;have eb:=kn.out s ae;have kr:=bh.kept hg (Ai bh dd (by decide));have ks:=bj.kept hg (Ai bj dd (by decide));have de:=gz.grown hg (λk e=>by cases e;exact ct);have kt:g8≠gn:=λe=>by
              have I:=H8.out;obtain⟨C,hC,-⟩:=Gf dd;rw[e,hC] at I;injection I with I
              injection I with _ h2 _
              exact absurd h2 (by decide)
             have ku:=(hg.block g8 (An H8.out) (by simp[kt])).trans H8.out;have kv:=Α (λq I=>(HQ.out q I).1.kept hg (.inr λe=>absurd ((HQ.out q I).2 e) (Nat.lt_irrefl _)));clear HQ bh bj H8 dd gz;obtain⟨x,hx⟩:∃ x,N.getD s 0=x:=⟨_,rfl⟩;rw[hx] at eb;have HX:=Α hx;clear hx;have cd:=(Ι wr).drew;go_upto_region 43 with (fail)
             obtain⟨wd,hb⟩:∃ W,wr.drew=W:=⟨_,rfl⟩;rw[hb] at cd;have bo:=Ah kr cd;have ec:=Ah ks cd;have ed:=Ah hX cd;have df:=de.trans cd;have c1:=cd.heap ku;have ee:=Α (λq I=>Ah (kv.out q I) cd);clear kr ks hX de ku kv;obtain⟨C5,cf,pd⟩:=Gf bo;obtain⟨C9,c2,pe⟩:=Gf ec;have hp:J≠T:=λe=>by
              rw[e,c2] at cf;injection cf with I
              injection I with _ h2 _
              exact absurd h2 (by decide)
             have ez:g8≠J:=λe=>by
              rw[<-e,c1] at cf;injection cf with I
              injection I with _ h2 _
              exact absurd h2 (by decide)
             have e0:g8≠T:=λe=>by
              rw[<-e,c1] at c2;injection c2 with I
              injection I with _ h2 _
              exact absurd h2 (by decide)
             have kx:w4.heap.size<=J:=(bo.lt J rfl).1;have kz:w4.heap.size<=T:=(ec.lt T rfl).1;obtain⟨p1,p2,p3,p4,p5,p6⟩:=Lm wd J x (Β (Δ ⟨gn,0,Γ⟩) t.cells t.cells) cf;have lb:=(p6 T (Ne.symm hp)).trans c2;obtain⟨q1,q2,q3,q4,q5,q6⟩:=Lm (wd.setCell ⟨J,x,Γ⟩ (Β (Δ ⟨gn,0,Γ⟩) t.cells t.cells)) T x (.bool (t.ok s)) lb;have cg:=(bo.stored x (Β (Δ ⟨gn,0,Γ⟩) t.cells t.cells)).1;have a1:=(bo.stored x (Β (Δ ⟨gn,0,Γ⟩) t.cells t.cells)).2;have ef:=ec.kept a1 (Ai ec bo (by decide));obtain⟨eg,eh⟩:=Bj ef x (t.ok s);have cg:=cg.kept eh (Ai cg ef (by decide));have cb:=(ed.kept a1 (Ai ed bo (by decide))).kept eh (Ai (ed.kept a1 (Ai ed bo (by decide))) ef (by decide));have h6:=Α (λq I=>((ee.out q I).kept a1 (Ai (ee.out q I) bo (by decide))).kept eh (Ai ((ee.out q I).kept a1 (Ai (ee.out q I) bo (by decide))) ef (by decide)));have dg:=(df.grown a1 (λk e=>by cases e;exact kx)).grown eh (λk e=>by cases e;exact kz);obtain⟨wF,lf⟩:∃ W,(wd.setCell ⟨J,x,Γ⟩ (Β (Δ ⟨gn,0,Γ⟩) t.cells t.cells)).setCell ⟨T,x,Γ⟩ (.bool (t.ok s))=W:=⟨_,rfl⟩;rw[lf] at q1 q2 q3 q4 q5 q6 cg eg cb h6 dg;have dy:wF.heap[J]? = Δ (Ε (C5.setIfInBounds x (Β (Δ ⟨gn,0,Γ⟩) t.cells t.cells)) 68 (0,0)):=(q6 J hp).trans p5;have lg:∀ k,k≠J->k≠T->wF.heap[k]? = wd.heap[k]? := λk I h2=>(q6 k h2).trans (p6 k I)
             have c3:=Α lg;have h7:=An cf;have h8:=An c2;have ea:=An c1;have ia:=kc.out s ae;have pf:gB<w4.heap.size:=Gr ia;have HP:=Α (λ(W:Κ) (D:Prg wd wF wd W)=>show W.cell? ⟨g8,1,Γ⟩=Δ (Β (Δ ⟨J,0,Γ⟩) r r)/\W.cell? ⟨g8,2,Γ⟩=Δ (Β (Δ ⟨T,0,Γ⟩) r r)/\W.cell? ⟨gB,s,Γ⟩=Δ (iv x)/\W.cell? ⟨ba,oa+s,Γ⟩=Δ (.bool (t.ok s)) from
              ⟨D.cell ((cell_of_row wd g8 1 _ _ _ c1).trans rfl) ea (c3.out _ ez e0),D.cell ((cell_of_row wd g8 2 _ _ _ c1).trans rfl) ea (c3.out _ ez e0),
               by
                have hh:=df.cell ia;rw[HX.out] at hh;exact D.cell hh (by have:=df.size;show gB<_;omega) (c3.out _ (by show gB≠J;omega) (by show gB≠T;omega)),
               by
                have lj:=(be.trans bu.out).cell (jj.out s ae);have qo:ba<w4.heap.size:=Gr lj;exact D.cell (df.cell lj) (by have:=df.size;show ba<_;omega) (c3.out _ (by show ba≠J;omega) (by show ba≠T;omega))⟩)
             have ib:=Α (λ(W:Κ) (D:Prg wd wF wd W) (I:W.heap[J]? = wF.heap[J]?) (h2:W.heap[T]? = wF.heap[T]?)=>show Ext wF W from
              D.done (by rw[q1,p1]) (by rw[q2,p2]) (by rw[q3,p3]) (by rw[q4,p4]) (λk _=>by
               by_cases e1:k=J
               ·subst e1;exact .inr I
               ·by_cases e2:k=T
                ·subst e2;exact .inr h2
                ·exact .inl (c3.out k e1 e2)))
             have ic:=Α (λ(W:Κ) (D:Prg wd wF wd W)=>D.store cf dy (by omega));have ie:=Α (λ(W:Κ) (D:Prg wd wF wd W)=>D.store c2 q5 (by omega));have ln:=Α cg;have lo:=Α eg;have lp:=Α cb;have lq:=Α dg;rw[<-hb] at HP ib ic ie h7 h8;have lr:=Α ((c3.out g8 ez e0).trans c1);clear cf c2 lb dy p1 p2 p3 p4 p5 p6 q1 q2 q3 q4 q5 q6 lg cg eg cb dg bo ec ed df c1 ee a1 eh ef lf hb cd pd pe hp ez e0 kx kz ea pf ia hg kt;refine Ni 21 182 rfl (by kernel_rfl) (by kernel_rfl) rfl (Prg wr.drew wF) (Ø _ _) (Prg.trans _ _) (O6 wF r t.n.length J g8 T gB ba oa ca s x (Β (Δ ⟨gn,0,Γ⟩) t.cells t.cells) (t.ok s)) Gh Ik (Agi _ _ _ _ _ _ _ _ _ _ _ _ _ _ h7 h8) (λi db=>?_) (λvs w8 lu U hN=>?_)
             ·rcases Aha i db with rfl|rfl|rfl|rfl|rfl|rfl|rfl|rfl|rfl|rfl|rfl|rfl|rfl|rfl|rfl|rfl|rfl|rfl|rfl|rfl|rfl
              ·refine Bi _ _ rfl rfl rfl λc W D E ai G=>?_
               have M:c.tmps.getD 22 ς=γ (Δ ⟨g8,0,Γ⟩):=G 22 (by kernel_rfl);go_simp;exact⟨_,rfl,Ø _ _ _,rfl,λ_ _ _ _=>trivial⟩
              ·refine Bi _ _ rfl rfl rfl λc W D E ai G=>?_
               have M:c.tmps.getD 158 ς=γ (Δ ⟨g8,1,Γ⟩):=E 0 158 (by kernel_rfl);have c0:=(HP.out W D).1;go_simp;exact⟨_,rfl,Ø _ _ _,rfl,λ_ _ _ _=>trivial⟩
              ·refine Bi _ _ rfl rfl rfl λc W D E ai G=>?_
               have M:c.tmps.getD 8 ς=Β (Δ ⟨gB,0,Γ⟩) t.n.length t.n.length:=G 8 (by kernel_rfl);go_simp;exact⟨_,rfl,Ø _ _ _,rfl,λ_ _ _ _=>trivial⟩
              ·refine Bi _ _ rfl rfl rfl λc W D E ai G=>?_
               have M:c.tmps.getD 23 ς=iv s:=G 23 (by kernel_rfl);go_simp;exact⟨_,rfl,Ø _ _ _,rfl,λ_ _ _ _=>trivial⟩
              ·refine Bi _ _ rfl rfl rfl λc W D E ai G=>?_
               have M:c.tmps.getD 160 ς=Β (Δ ⟨gB,0,Γ⟩) t.n.length t.n.length:=E 2 160 (by kernel_rfl);have h4:c.tmps.getD 161 ς=iv s:=E 3 161 (by kernel_rfl);go_simp;exact⟨_,rfl,Ø _ _ _,rfl,λ_ _ _ _=>trivial⟩
              ·refine Bi _ _ rfl rfl rfl λc W D E ai G=>?_
               have M:c.tmps.getD 162 ς=γ (Δ ⟨gB,s,Γ⟩):=E 4 162 (by kernel_rfl);have c0:=(HP.out W D).2.2.1;go_simp;exact⟨_,rfl,Ø _ _ _,rfl,λ_ _ _ _=>trivial⟩
              ·refine Bi _ _ rfl rfl rfl λc W D E ai G=>?_
               have M:c.tmps.getD 22 ς=γ (Δ ⟨g8,0,Γ⟩):=G 22 (by kernel_rfl);go_simp;exact⟨_,rfl,Ø _ _ _,rfl,λ_ _ _ _=>trivial⟩
              ·refine Bi _ _ rfl rfl rfl λc W D E ai G=>?_
               have M:c.tmps.getD 164 ς=γ (Δ ⟨g8,2,Γ⟩):=E 6 164 (by kernel_rfl);have c0:=(HP.out W D).2.1;go_simp;exact⟨_,rfl,Ø _ _ _,rfl,λ_ _ _ _=>trivial⟩
              ·refine Bi _ _ rfl rfl rfl λc W D E ai G=>?_
               have M:c.tmps.getD 8 ς=Β (Δ ⟨gB,0,Γ⟩) t.n.length t.n.length:=G 8 (by kernel_rfl);go_simp;exact⟨_,rfl,Ø _ _ _,rfl,λ_ _ _ _=>trivial⟩
              ·refine Bi _ _ rfl rfl rfl λc W D E ai G=>?_
               have M:c.tmps.getD 23 ς=iv s:=G 23 (by kernel_rfl);go_simp;exact⟨_,rfl,Ø _ _ _,rfl,λ_ _ _ _=>trivial⟩
              ·refine Bi _ _ rfl rfl rfl λc W D E ai G=>?_
               have M:c.tmps.getD 166 ς=Β (Δ ⟨gB,0,Γ⟩) t.n.length t.n.length:=E 8 166 (by kernel_rfl);have h4:c.tmps.getD 167 ς=iv s:=E 9 167 (by kernel_rfl);go_simp;exact⟨_,rfl,Ø _ _ _,rfl,λ_ _ _ _=>trivial⟩
              ·refine Bi _ _ rfl rfl rfl λc W D E ai G=>?_
               have M:c.tmps.getD 168 ς=γ (Δ ⟨gB,s,Γ⟩):=E 10 168 (by kernel_rfl);have c0:=(HP.out W D).2.2.1;go_simp;exact⟨_,rfl,Ø _ _ _,rfl,λ_ _ _ _=>trivial⟩
              ·refine Bi _ _ rfl rfl rfl λc W D E ai G=>?_
               have M:c.tmps.getD 25 ς=(Β (Δ ⟨gn,0,Γ⟩) t.cells t.cells):=G 25 (by kernel_rfl);go_simp;exact⟨_,rfl,Ø _ _ _,rfl,λ_ _ _ _=>trivial⟩
              ·refine Bi _ _ rfl rfl rfl λc W D E ai G=>?_
               have M:c.tmps.getD 2 ς=Β (Δ ⟨ba,oa,Γ⟩) t.n.length ca:=G 2 (by kernel_rfl);go_simp;exact⟨_,rfl,Ø _ _ _,rfl,λ_ _ _ _=>trivial⟩
              ·refine Bi _ _ rfl rfl rfl λc W D E ai G=>?_
               have M:c.tmps.getD 23 ς=iv s:=G 23 (by kernel_rfl);go_simp;exact⟨_,rfl,Ø _ _ _,rfl,λ_ _ _ _=>trivial⟩
              ·refine Bi _ _ rfl rfl rfl λc W D E ai G=>?_
               have M:c.tmps.getD 171 ς=Β (Δ ⟨ba,oa,Γ⟩) t.n.length ca:=E 13 171 (by kernel_rfl);have h4:c.tmps.getD 172 ς=iv s:=E 14 172 (by kernel_rfl);go_simp;exact⟨_,rfl,Ø _ _ _,rfl,λ_ _ _ _=>trivial⟩
              ·refine Bi _ _ rfl rfl rfl λc W D E ai G=>?_
               have M:c.tmps.getD 173 ς=γ (Δ ⟨ba,oa+s,Γ⟩):=E 15 173 (by kernel_rfl);have c0:=(HP.out W D).2.2.2;go_simp;exact⟨_,rfl,Ø _ _ _,rfl,λ_ _ _ _=>trivial⟩
              ·refine Bi _ _ rfl rfl rfl λc W D E ai G=>?_
               have M:c.tmps.getD 159 ς=Β (Δ ⟨J,0,Γ⟩) r r:=E 1 159 (by kernel_rfl);have h4:c.tmps.getD 163 ς=iv x:=E 5 163 (by kernel_rfl);go_simp;exact⟨_,rfl,Ø _ _ _,rfl,λ_ _ _ _=>trivial⟩
              ·refine L6 _ rfl rfl rfl λc W D E ai G=>?_
               have pg:c.tmps.getD 175 ς=γ (Δ ⟨J,x,Γ⟩):=E 17 175 (by kernel_rfl);have ph:c.tmps.getD 170 ς=(Β (Δ ⟨gn,0,Γ⟩) t.cells t.cells):=E 12 170 (by kernel_rfl);obtain⟨⟨old,pj⟩,pk,pn,ig⟩:=ic.out W D;go_simp;exact⟨ig,λ_ _ _ _=>trivial⟩
              ·refine Bi _ _ rfl rfl rfl λc W D E ai G=>?_
               have M:c.tmps.getD 165 ς=Β (Δ ⟨T,0,Γ⟩) r r:=E 7 165 (by kernel_rfl);have h4:c.tmps.getD 169 ς=iv x:=E 11 169 (by kernel_rfl);go_simp;exact⟨_,rfl,Ø _ _ _,rfl,λ_ _ _ _=>trivial⟩
              ·refine L6 _ rfl rfl rfl λc W D E ai G=>?_
               have pg:c.tmps.getD 176 ς=γ (Δ ⟨T,x,Γ⟩):=E 19 176 (by kernel_rfl);have ph:c.tmps.getD 174 ς=.bool (t.ok s):=E 16 174 (by kernel_rfl);obtain⟨⟨old,pj⟩,pk,pn,ig⟩:=ie.out W D;go_simp;exact⟨ig,λ_ _ _ _=>trivial⟩
             ·have c5:=ib.out w8 lu (U 18 (by omega)) (U 20 (by omega));have v0:vs 0=γ (Δ ⟨g8,1,Γ⟩):=U 0 (by omega);have v1:vs 1=Β (Δ ⟨J,0,Γ⟩) r r:=U 1 (by omega);have v2:vs 2=Β (Δ ⟨gB,0,Γ⟩) t.n.length t.n.length:=U 2 (by omega);have v3:vs 3=iv s:=U 3 (by omega);have v4:vs 4=γ (Δ ⟨gB,s,Γ⟩):=U 4 (by omega);have v5:vs 5=iv x:=U 5 (by omega);have v6:vs 6=γ (Δ ⟨g8,2,Γ⟩):=U 6 (by omega);have v7:vs 7=Β (Δ ⟨T,0,Γ⟩) r r:=U 7 (by omega);have v8:vs 8=Β (Δ ⟨gB,0,Γ⟩) t.n.length t.n.length:=U 8 (by omega);have v9:vs 9=iv s:=U 9 (by omega);have l9:vs 10=γ (Δ ⟨gB,s,Γ⟩):=U 10 (by omega);have ma:vs 11=iv x:=U 11 (by omega);have mb:vs 12=(Β (Δ ⟨gn,0,Γ⟩) t.cells t.cells):=U 12 (by omega);have mc:vs 13=Β (Δ ⟨ba,oa,Γ⟩) t.n.length ca:=U 13 (by omega);have me:vs 14=iv s:=U 14 (by omega);have mf:vs 15=γ (Δ ⟨ba,oa+s,Γ⟩):=U 15 (by omega);have mg:vs 16=.bool (t.ok s):=U 16 (by omega);have mh:vs 17=γ (Δ ⟨J,x,Γ⟩):=U 17 (by omega);have mi:vs 19=γ (Δ ⟨T,x,Γ⟩):=U 19 (by omega);simp only[Bq,v0,v1,v2,v3,v4,v5,v6,v7,v8,v9,l9,ma,mb,mc,me,mf,mg,mh,mi,Ü,Ö,É,Option.bind_some,Act.put,Θ,Χ,Ψ];clear v0 v1 v2 v3 v4 v5 v6 v7 v8 v9 l9 ma mb mc me mf mg mh mi U hN lu;have dg:=lq.out.trans c5;have cg:=Ah ln.out c5;have eg:=Ah lo.out c5;have cb:=Ah lp.out c5;have po:=Α (λq I=>Ah (h6.out q I) c5);have pq:Ϻ (w8.heap[g8]? = Δ (Ε (dA (Β (Δ ⟨bc,oc,Γ⟩) lc cc) (Β (Δ ⟨J,0,Γ⟩) r r) (Β (Δ ⟨T,0,Γ⟩) r r)) 30 (0,0))):=Α (c5.heap lr.out);clear c5 lq ln lo lp h6 ib ic ie HP c3 lr h7 h8;go_wp2;go_roundw
              case rel=>
               refine⟨s+1,_,_,by omega,by go_num,dg,dg.size,Α ⟨by rw[ύ];exact bm.out.1,by rw[ύ];exact bm.out.2⟩,cg,eg,pq,Α (λq hq=>?_),Α (λq hq=>?_)⟩
               ·have dh:q<t.n.length:=by omega
                by_cases e:N.getD q 0=x
                ·rw[e,Bb _ _ _ _ _ (by rw[bm.out.1];exact eb),if_pos rfl];have:=L9 cb (show w4.heap.size<=gn by omega);unfold OwnI;rw[(Q1 HV.out bl.out dh ae (by rw[e,HX.out])).1,Ϗ,Þ];exact this
                ·rw[Bb _ _ _ _ _ (by rw[bm.out.1];exact eb),if_neg e];refine po.out q ?_;have:q≠s:=λh=>e (by rw[h,HX.out])
                 omega
               ·have dh:q<t.n.length:=by omega
                by_cases e:N.getD q 0=x
                ·rw[e,Bb _ _ _ _ _ (by rw[bm.out.2];exact eb),if_pos rfl];exact (Q1 HV.out bl.out dh ae (by rw[e,HX.out])).2.symm
                ·rw[Bb _ _ _ _ _ (by rw[bm.out.2];exact eb),if_neg e];refine gx.out q ?_;have:q≠s:=λh=>e (by rw[h,HX.out])
                 omega
              case measure=>simp[intOf];omega
          ·obtain rfl:s=t.n.length:=by omega
           have ih:∀ i,i<r->R.getD i 0<t.n.length/\N.getD (R.getD i 0) 0=i:=λi hi=>⟨υ.1 (bl.out.blk.mem i (by rw[cp.out];exact hi)),bl.out.blk.rep i (by rw[cp.out];exact hi)⟩
           have ij:∀ s,s<t.n.length->((ι r).map λi=>(ι t.cells).map λk=>N.getD (t.ent2 (R.getD i 0) k) 0).getD (N.getD s 0) []=(ι t.cells).map λk=>N.getD (t.ent2 s k) 0:=λs hs=>by
            have I:=kn.out s hs;rw[Da _ _ _ _ I];obtain⟨h2,M⟩:=ih _ I;exact (Q1 HV.out bl.out h2 hs M).1
           have hM:Mrg t (λs=>N.getD s 0) R.length L ⟨L,(ι r).map λi=>(ι t.cells).map λk=>N.getD (t.ent2 (R.getD i 0) k) 0,AC⟩:=by
            refine⟨rfl,by rw[cp.out];simp,by rw[cp.out];exact bm.out.2,λs hs=>?_,λs hs k hk=>?_,λs hs=>?_⟩
            ·rw[ij s hs];simp
            ·show (((ι r).map λi=>(ι t.cells).map λk=>N.getD (t.ent2 (R.getD i 0) k) 0).getD (N.getD s 0) []).getD k 0=_;rw[ij s hs,Da _ _ _ _ hk]
            ·exact gx.out s hs
           obtain⟨ik,il⟩:=Agh HV.out nl.out nn.out nm.out bl.out ou.out hM;obtain⟨q,hq⟩:∃ q:Dfa,Dfa.mk L ((ι r).map λi=>(ι t.cells).map λk=>N.getD (t.ent2 (R.getD i 0) k) 0) AC=q:=⟨_,rfl⟩;have dh:q.n.length=r:=by rw[<-hq];simp
           have ml:IsD wr (.agg (dA (Β (Δ ⟨bc,oc,Γ⟩) lc cc) (Β (Δ ⟨J,0,Γ⟩) r r) (Β (Δ ⟨T,0,Γ⟩) r r))) q:=by
            refine⟨Β (Δ ⟨bc,oc,Γ⟩) lc cc,_,_,rfl,?_,?_,?_⟩
            ·rw[<-hq,<-np.out];exact HC.out.ext ((be.trans bu.out).trans hE)
            ·rw[<-hq];refine⟨NX,by rw[bm.out.1];simp,?_,λi hi=>?_⟩
             ·have:=Sl.of_owns bh (show r<=4611686018427387904 by omega) ς;simp only[Ϗ,Þ];exact this
             ·have db:i<r:=by simpa using hi
              obtain⟨I,h2⟩:=ih i db;have M:=HQ.out _ I;rw[h2] at M;simp only;rw[Da _ _ _ _ db];exact M.ints (by simp;omega)
            ·have h9:OwnB wr w4.heap.size (Β (Δ ⟨T,0,Γ⟩) r r) AC:=by
              unfold OwnB;rw[bm.out.2];exact bj
             rw[<-hq];exact h9.bools (by rw[bm.out.2];omega)
           rw[hq] at ik il;have pr:=Α (Jf q ik (by rw[dh];omega) _ wr (nj.out wr ((be.trans bu.out).trans hE)) (ε jc ((be.trans bu.out).trans hE).size) ml);have bw:=Α (hE.heap bw.out);have ps:=Α il;have HE:=Α ((be.trans bu.out).trans hE);clear ik dh il ml hM ih ij bh bj HQ gx hE ct;go_wp2_with (first
            | (refine wpList_load_row rfl 30 (η 22) rfl _ rfl _ _ _ _ H8.out Ν rfl Ad ?_)
            | (go_at_call 28;(with_reducible refine pr.out.mono ?_);rintro e w9 ⟨r',im,mo,mq,mr⟩;obtain⟨mu,mv,mw,my,mz,na,nb,nc,nd,k2,rfl⟩:=im.form;have pz:=Α im;have iq:=Α mo;have p0:=Α mq;clear im mo mq;have bw:=Α (mr.heap bw.out))
            | (refine Φ rfl 30 (η 6) (η 180) rfl _ _ rfl rfl _ _ bw.out Ad rfl (Ap _ _ _ rfl rfl rfl) ?_))
           refine ϋ (v:=.tuple #[.agg (dA (Β mu mv mw) (Β my mz na) (Β nb nc nd)),.int ζ k2]) (Ba rfl _ _ _ _ _ _ _ rfl _ rfl (μ w9 _ _ (dA (Β mu mv mw) (Β my mz na) (Β nb nc nd)) 30 (0,0) bw.out) Ν rfl Ad) rfl ?_;have nf:∀ u,r'.has u=t.has u:=λu=>by rw[p0.out,ps.out]
           exact⟨Δ r',pz.out.setRow (λd' h=>by injection h with h;subst h;exact iq.out.val) bw.out _,⟨iq.out,λu=>by rw[nf],by rw[Amt HV.out HL.out bl.out iq.out nf,cp.out];omega⟩,(HE.out.trans mr).setRow (by omega) _⟩
      ·have ka:((R.length:Int)==(n:Int))=Τ:=by simp;omega
       obtain⟨ir,qq⟩:=Ajo HV.out HL.out HO.out hn HN.out.2 HN.out.1 he;have ir:=Α ir;have p7:Ϻ (∀ s,s<t.n.length->w4.cell? ⟨H.heap.size+1,s,Γ⟩=Δ (iv (N.getD s 0))):=Α λs hs=>Am 0 a7 HN.out.2.symm s (by rw[HN.out.2];exact hs)
       have eu:=bp;clear he a7 bp;go_wp2_with (at_len;refine Nj rfl _ 155 rfl ñ rfl eu ?_);go_roundw
       case rel=>exact⟨N,R.length,H.heap.size+1,rfl,rfl,hE.trans cl,dp,p7,ir⟩
       case measure=>simp[intOf];omega
open Go.RowKit Go.Shelf Go.WideMaps
def Ck (S:List Bool):List Ρ:=S.map ο
def Av (S:List Bool):Array Ρ:=(S.map ο).toArray
def Dp (S:List Bool):Ρ:=.agg (Av S)
theorem G2 (S:List Bool):(Ck S).length=S.length:=by simp[Ck]
theorem S9 (x y:List Bool) (h:Dp x=Dp y):x=y:=by
 simp only[Dp,Av,Ρ.agg.injEq] at h;have D:x.map ο=y.map ο:=congrArg Array.toList h;exact (List.map_inj_right (λx y (e:ο x=ο y)=>by injection e)).1 D
theorem Mj:Keyed Η 88:=Keyed.of_law (deep_law_laid Pn (m:=2) (by omega) (of_decide_eq_true (by kernel_rfl)) (by kernel_rfl) (by rw[Tryz.underlying88]))
theorem Aih:Η.keyType 88=Ξ:=by kernel_rfl
theorem Xu:Η.cellsOf 88=64:=by kernel_rfl
theorem co4:Η.cellsOf 4=1:=by kernel_rfl
theorem kl4 (d:Nat) (b:Bool):Η.keyLits (d+1) 4 [.bool b]=Δ [.bool b]:=by
 unfold é.keyLits;simp only[Tryz.underlying4]
theorem V1 (S:List Bool) (d:Nat):∀ L:List Nat,(∀ i,i∈L->i<S.length)->∃ r,(L.mapM λi=>Η.keyLits (d+1) 4 (((Ck S).drop (i*1)).take 1))=Δ r
 | [],_=>⟨[],rfl⟩
 | i::L,h=>by
  obtain⟨r,D⟩:=V1 S d L λj E=>h j (List.mem_cons_of_mem _ E)
  have hi:i<(Ck S).length:=by rw[G2];exact h i List.mem_cons_self
  have e:((Ck S).drop (i*1)).take 1=[.bool (S.getD i Τ)]:=by
   have G:i<S.length:=h i List.mem_cons_self;rw[Nat.mul_one,List.drop_eq_getElem_cons hi];simp[Ck,Ζ,G]
  refine⟨[.bool (S.getD i Τ)]::r,?_⟩;rw[List.mapM_cons,D,e,kl4];rfl
theorem S8 (S:List Bool) (h:S.length=64):∃ l,keyOf Η 88 (Dp S)=Δ l:=by
 obtain⟨m,hm⟩:=S5;obtain⟨r,D⟩:=V1 S (m+2) (ι 64) λi hi=>by rw[h];exact υ.1 hi
 unfold keyOf;simp only[Tryz.underlying88];rw[if_pos (by simp[Aih,Ρ.formed,Dp,Av,Tryz.underlying88,Xu,h]),hm];have e:(Dp S).cells.toList=Ck S:=rfl;rw[e];have:Η.keyLits (m+3+1) 88 (Ck S)=Δ r.flatten:=by
  show é.keyLits Η ((m+3)+1) 88 _=_;unfold é.keyLits;simp only[Tryz.underlying88];rw[if_pos (by rw[Xu,G2,h]),co4,D];rfl
 rw[this];exact⟨_,rfl⟩
theorem Wd:(Η.info? 88).map (·.size)=Δ 64:=by kernel_rfl
theorem Ic (S:List Bool):(Av S).size=S.length:=by simp[Av]
theorem Acj (S:List Bool):(Av S).all (·.oneCell')=Ξ:=by
 simp[Av,ϊ,Array.all_eq_true]
def flB (l:List (List Bool)):List Ρ:=l.flatMap Ck
theorem Ajw (l m:List (List Bool)):flB (l++m)=flB l++flB m:=by simp[flB]
theorem W4 (x:List Bool):flB [x]=Ck x:=by simp[flB]
theorem Ajv (l:List (List Bool)) (h:∀ S,S∈l->S.length=64) (k:Nat) (S:List Bool) (D:l[k]? = Δ S) (q:Nat) (G:q<64):(flB l)[k*64+q]? = Δ (.bool (S.getD q Τ)):=by
 induction l generalizing k with
 | nil=>simp at D
 | cons y l H=>
  have e:flB (y::l)=Ck y++flB l:=rfl;have E:(Ck y).length=64:=by rw[G2];exact h y List.mem_cons_self
  cases k with
  | zero=>
   have:y=S:=by simpa using D
   subst this;have I:=h y List.mem_cons_self;rw[e,Ϣ (by omega)];simp[Ck,Ζ,I,G]
  | succ k=>
   have J:l[k]? = Δ S:=by simpa using D
   have:=H (λS M=>h S (List.mem_cons_of_mem _ M)) k J;rw[e,ϑ (by rw[E];omega),E,show (k+1)*64+q-64=k*64+q by omega];exact this
abbrev Lb (W:Κ) (base:Nat) (v:Ρ) (l:List (List Bool)):Prop:=W.ownsRow base 88 64 v l.length (flB l)
theorem S7 {W:Κ} {base g E:Nat} {l:List (List Bool)} (h:Lb W base (Β (Δ ⟨g,0,Γ⟩) l.length E) l) (G:∀ S,S∈l->S.length=64) (k:Nat) (S:List Bool) (D:l[k]? = Δ S) (q:Nat) (H:q<64) :
  W.cell? ⟨g,k*64+q,Γ⟩=Δ (.bool (S.getD q Τ)):=by
 have I:k<l.length:=(ό.1 D).1;rw[h.cellAt _ (by omega)];exact Ajv l G k S D q H
def Jl (a:Dfa) (r:Option Dfa):Prop:=∃ x,Cano x/\(∀ w,x.has w=a.has w)/\
 (B9 (rnx x) (rst x) 4096->r=Γ)/\(¬ B9 (rnx x) (rst x) 4096->F5 (λw=>a.has w.reverse=Ξ) r)
theorem Adq {a:Dfa} {r D:Option Dfa} (h:Jl a r) (E:Jl a D):r=D:=by
 obtain⟨x,G,H,I,J⟩:=h;obtain⟨x',M,T,U,aa⟩:=E;obtain rfl:=Gt G M λw=>by rw[H,T]
 by_cases hm:B9 (rnx x) (rst x) 4096
 ·rw[I hm,U hm]
 ·exact Ahx (J hm) (aa hm)
theorem Ac9 (q:Dfa) (h:q.acc.length<=64):Ck (rst q)=q.acc.map ο++(δ 64 (ο Τ)).drop q.acc.length:=by
 apply ϡ;intro i;by_cases hi:i<64
 ·have E:(Ck (rst q))[i]? = Δ (.bool (q.acc.getD i Τ)):=by
   simp[Ck,rst,hi,Dfa.ok]
  rw[E];by_cases D:i<q.acc.length
  ·rw[Ϣ (by simpa using D)];simp[Ζ,D]
  ·rw[ϑ (by simp;omega),List.getElem?_drop,Ϗ,show q.acc.length+(i-q.acc.length)=i by omega,ϧ,if_pos hi,Ζ,Ϩ (show q.acc.length<=i by omega)];rfl
 ·rw[Ϩ (by rw[G2,Jz];omega),Ϩ (by rw[Ο,List.length_drop,Î,Ϗ];omega)]
def Dh (q:Dfa) (S:List Bool) (j k:Nat):List Bool:=(ι 64).map λs=>decide (s<k)&&S.getD (q.ent2 s j) Τ
theorem Xe (q:Dfa) (S:List Bool) (j k:Nat):(Dh q S j k).length=64:=by simp[Dh]
theorem Aj6 (q:Dfa) (S:List Bool) (j:Nat):Dh q S j 0=δ 64 Τ:=by
 apply ϡ;intro i;by_cases hi:i<64
 ·rw[ϧ,if_pos hi];simp[Dh,hi]
 ·rw[Ϩ (by rw[Xe];omega),Ϩ (by rw[Î];omega)]
theorem Aj7 (q:Dfa) (S:List Bool) (j k:Nat) (D:k<64):(Av (Dh q S j k)).setIfInBounds k (.bool (S.getD (q.ent2 k j) Τ))=Av (Dh q S j (k+1)):=by
 apply Array.ext';rw[Array.toList_setIfInBounds];simp only[Av];apply ϡ;intro i;rw[List.getElem?_set];by_cases e:k=i
 ·subst e;simp[Dh,D]
 ·rw[if_neg e];by_cases hi:i<64
  ·simp only[Dh,List.map_map,List.getElem?_map,ì hi,Option.map_some,Function.comp]
   congr 3
   simp;omega
  ·rw[Ϩ (by simp[Dh];omega),Ϩ (by simp[Dh];omega)]
theorem Aj8 (q:Dfa) (S:List Bool) (j:Nat) {x:Nat} (D:Ak q.cls x=j):Dh q S j q.n.length=rnx q S x:=by
 unfold Dh rnx Dfa.stp;rw[D]
open Classical in
noncomputable def Cf (L:List Cls):List Nat:=(ι L.length).map λk=>if h:∃ b,b<256/\Ak L b=k then h.choose else 0
theorem G9 (L:List Cls):(Cf L).length=L.length:=by simp[Cf]
theorem Ie {L:List Cls} (E:Parts L) {k:Nat} (D:k<L.length):(Cf L).getD k 0<256/\Ak L ((Cf L).getD k 0)=k:=by
 have h:=Jd E D;have e:(Cf L).getD k 0=h.choose:=by
  unfold Cf;rw[Da _ _ _ _ D,dif_pos h]
 rw[e];exact h.choose_spec
theorem Po {L:List Cls} (D:Parts L):Joint (Ak L) (Ak L) (Ak L) (Cf L) where
 lt:=λx E=>by rw[G9];exact cell_lt D E
 byte:=λk G=>Ie D (by rw[<-G9];exact G)
 same:=λx y _ _=>⟨λh=>⟨h,h⟩,λh=>h.1⟩
theorem Akh {σ:Type} {c:Nat->Nat} {bs:List Nat} {st:σ} {nx:σ->Nat->σ} {ac:σ->Bool} {l:List σ} {t:Tbl} (h:Expl c bs st nx ac l t) {a b:Nat->Nat} (H:Joint a b c bs)
  (hn:∀ s x,x<256->nx s (bs.getD (c x) 0)=nx s x):Reached t (ι t.n.length):=by
 have h0:=h.pos;have hl:=h.len;refine⟨by rw[Ζ,ì (by omega)];rfl,by simp;omega,List.nodup_range,λs hs=>υ.1 hs,λs hs k T=>?_,λs hs=>?_⟩
 ·exact υ.2 ((h.tval H).tgt s (υ.1 hs) k T)
 ·have hs:=υ.1 hs;have E:s<l.length:=by omega
  obtain⟨w,U⟩:=h.reach s _ (List.getElem?_eq_getElem E);refine⟨w,?_⟩;have run:∀ (w:List UInt8) i s,l[i]? = Δ s->l[t.run i w]? = Δ (Aw nx s w):=λw=>by
   induction w with
   | nil=>intro i s hi;exact hi
   | cons x w ih=>
    intro i s hi;have D:=(h.tgt i s hi _ (H.lt _ x.toNat_lt)).2;rw[hn s _ x.toNat_lt] at D;refine ih (t.stp i x.toNat) _ ?_;unfold Tbl.stp;rw[h.cell];exact D
  have D:=run w 0 st h.zero;rw[U] at D;have h2:=ό.1 D;obtain⟨I,J⟩:=h2;have M:=List.pairwise_iff_getElem.1 (Ϧ.1 h.nodup);rcases Nat.lt_trichotomy (t.run 0 w) s with G|he|G
  ·exact absurd J (M _ _ I E G)
  ·exact he
  ·exact absurd J.symm (M _ _ E I G)
theorem Pr (S:List Bool) (h:S.length=64):(Η.info? 88).map (·.size)=Δ (Av S).size:=by rw[Ic,h];exact Wd
theorem Wc:(Η.info? 88).map (λi=>(i.zero,i.size,i.bytes))=Δ (Δ (Dp (δ 64 Τ)),64,64):=by kernel_rfl
theorem z64:(#[ο Τ,ο Τ,ο Τ,ο Τ,ο Τ,ο Τ,ο Τ,ο Τ,ο Τ,ο Τ,ο Τ,ο Τ,ο Τ,ο Τ,ο Τ,ο Τ,ο Τ,ο Τ,ο Τ,ο Τ,ο Τ,ο Τ,ο Τ,ο Τ,ο Τ,ο Τ,ο Τ,ο Τ,ο Τ,ο Τ,ο Τ,ο Τ,ο Τ,ο Τ,ο Τ,ο Τ,ο Τ,ο Τ,ο Τ,ο Τ,ο Τ,ο Τ,ο Τ,ο Τ,ο Τ,ο Τ,ο Τ,ο Τ,ο Τ,ο Τ,ο Τ,ο Τ,ο Τ,ο Τ,ο Τ,ο Τ,ο Τ,ο Τ,ο Τ,ο Τ,ο Τ,ο Τ,ο Τ,ο Τ]:Array Ρ)=Av (δ 64 Τ):=by rfl
theorem Akc (cells:Array Ρ) (I:cells.size=64) (S:List Bool) (h:S.length=64):Instr.fill (λi=>Δ (i*64,64)) cells [(0,Dp S)]=Δ (Av S):=by
 have hs:(Av S).size=64:=by rw[Ic,h]
 obtain⟨r,D,J,E⟩:=Great.fill_dense (s:=64) (by omega) [Dp S] 0 cells (λv hv=>by
  have:v=Dp S:=by simpa using hv
  subst this;exact hs) (by simp;omega)
 rw[show (([Dp S].zipIdx 0).map λx=>(x.2,x.1))=[(0,Dp S)] from rfl] at D;rw[D]
 congr 1
 apply Array.ext_getElem?;intro k;rw[E];by_cases G:k<64
 ·rw[if_pos (by simp;omega)];have H:k / 64-0=0:=by omega
  rw[H,Nat.mod_eq_of_lt G];rfl
 ·rw[if_neg (by simp;omega),ü (by omega),ü (by omega)]
theorem Rh {ops:Array Oper} {rest:List Oper} {o:Oper} {a:Act} {w:Κ} {Q:Exit->Act->Κ->Prop} (hg:o.guard=Γ) (x:ϻ) (D:o.op=.buildSlice 90 1 #[(0,x)]) (S:List Bool) (E:S.length=64) (G:a.eval x=Dp S)
  (h:wpList Η ops Q rest (a.put o.dst (Β (Δ ⟨w.heap.size,0,Γ⟩) 1 1)) (w.alloc (Ε (Av S) 88))):wpList Η ops Q (o::rest) a w:=by
 obtain⟨i,hi,H,hs,I⟩:=ϕ Wc;refine wpList_buildSlice hg 90 88 1 _ D (Av S) i _ Tryz.underlying90 hi H (by rw[hs];omega) (by rw[hs];omega) ?_ h;rw[hs];simp only[Array.toList_map,Ç,List.map_nil,G];exact Akc _ (by simp) S E
theorem Z4 {P:é} {w:Κ} {o:Oper} {a:Act} {K:Act->Κ->Prop} {Q:Exit->Act->Κ->Prop} (d s:ϻ) (t D:Á)
  (E:o.op=.call { callee:=.builtin .copy,args:=#[d,s],argTypes:=#[t,D] }) (v u:Ρ) (hd:a.eval d=v) (hs:a.eval s=u) {v':Ρ} {w':Κ}
  (G:(Builtin.copy_ #[t,D] o.type #[v,u]).run P w=.ok v' w') (h:K (a.put o.dst v') w'):o.wp P a w K Q:=by
 unfold Oper.wp execOp;simp only[E,resolve,invoke,builtin,Sem.run_bind,Sem.run_pure,Result.andThen_ok,List.map_toArray,Ç,List.map_nil,hd,hs,G];exact h
theorem Ta (S:List Bool) (k:Nat) (D:k<S.length):(Av S)[k]? = Δ (.bool (S.getD k Τ)):=by
 simp[Av,Ζ,D]
end Go.Proofs.YtaiogolidlamiaaGreatDoor
