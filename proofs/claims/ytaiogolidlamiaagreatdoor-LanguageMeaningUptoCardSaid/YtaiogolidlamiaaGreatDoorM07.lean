import Derived.Test.YtaiogolidlamiaaGreatDoorM04
import Derived.Deep.RegionHeldLaw
import Derived.Test.YtaiogolidlamiaaGreatDoorM06
import Derived.Maps.OwnSet
import Derived.WideKeyPair
import Derived.DeepKeys4
set_option linter.unusedVariables false
set_option linter.unusedSimpArgs false
namespace Go.Proofs.YtaiogolidlamiaaGreatDoor
structure BInv (t:Tbl) (l:List Nat) (k q:Nat):Prop where
 pos:0<l.length
 head:l.getD 0 0=0
 nodup:l.Nodup
 lt:∀ s∈l,s<t.nxt.length
 all:∀ s∈l,∃ w,t.run 0 w=s
 done:∀ j,j<k→∀ c,c<t.cells→t.ent2 (l.getD j 0) c∈l
 cur:∀ c,c<q→t.ent2 (l.getD k 0) c∈l
theorem C3 {α:Type} (l:List α) (k:Nat) (d:α) (h:k<l.length):l.getD k d∈l:=by
 rw [List.getD_eq_getElem?_getD,List.getElem?_eq_getElem h];exact List.getElem_mem h
theorem Ai5 {t:Tbl} (hv:TVal t):BInv t [0] 0 0 where
 pos:=by simp
 head:=rfl
 nodup:=by simp
 lt:=fun s hs=>by rw [List.mem_singleton] at hs;subst hs;exact hv.pos
 all:=fun s hs=>by rw [List.mem_singleton] at hs;subst hs;exact ⟨[],rfl⟩
 done:=fun j hj=>by omega
 cur:=fun c hc=>by omega
theorem Ai6 {t:Tbl} {l:List Nat} {k q:Nat} (h:BInv t l k q) (hm:t.ent2 (l.getD k 0) q∈l):BInv t l k (q+1):=
 ⟨h.pos,h.head,h.nodup,h.lt,h.all,h.done,fun c hc=>by
  by_cases e:c=q
  ·subst e;exact hm
  ·exact h.cur c (by omega)⟩
theorem Ai8 {t:Tbl} (hv:TVal t) {l:List Nat} {k q:Nat} (h:BInv t l k q) (hk:k<l.length) (hq:q<t.cells) (hm:t.ent2 (l.getD k 0) q∉l):BInv t (l++[t.ent2 (l.getD k 0) q]) k (q+1):=by
 have hs:=C3 l k 0 hk;have hg:∀ j,j<l.length→(l++[t.ent2 (l.getD k 0) q]).getD j 0=l.getD j 0:=fun j hj=>Bi _ _ _ _ hj
 refine ⟨by simp,by rw [hg 0 h.pos];exact h.head,?_,fun s hs'=>?_,fun s hs'=>?_,fun j hj c hc=>?_,fun c hc=>?_⟩
 ·rw [List.nodup_append];exact ⟨h.nodup,by simp,fun a ha b hb=>by rw [List.mem_singleton] at hb;subst hb;rintro rfl;exact hm ha⟩
 ·rw [List.mem_append,List.mem_singleton] at hs';rcases hs' with hs'|rfl
  ·exact h.lt s hs'
  ·exact hv.tgt _ (h.lt _ hs) q hq
 ·rw [List.mem_append,List.mem_singleton] at hs';rcases hs' with hs'|rfl
  ·exact h.all s hs'
  ·obtain ⟨w,hw⟩:=h.all _ hs;obtain ⟨b,hb,hbq⟩:=hv.onto q hq;refine ⟨w++[UInt8.ofNat b],?_⟩;rw [E8,hw,u8n b hb];unfold Tbl.stp;rw [hbq]
 ·have hjl:j<l.length:=by omega
  rw [hg j hjl,List.mem_append];exact .inl (h.done j hj c hc)
 ·rw [hg k hk,List.mem_append,List.mem_singleton];by_cases e:c=q
  ·subst e;exact .inr rfl
  ·exact .inl (h.cur c (by omega))
theorem Ai7 {t:Tbl} {l:List Nat} {k:Nat} (h:BInv t l k t.cells):BInv t l (k+1) 0:=
 ⟨h.pos,h.head,h.nodup,h.lt,h.all,fun j hj c hc=>by
  by_cases e:j=k
  ·subst e;exact h.cur c hc
  ·exact h.done j (by omega) c hc,fun c hc=>by omega⟩
theorem Ai9 {t:Tbl} {l:List Nat} (h:BInv t l l.length 0):Reached t l where
 head:=h.head
 ne:=h.pos
 nodup:=h.nodup
 lt:=h.lt
 closed:=fun s hs k hk=>by
  obtain ⟨j,hj,rfl⟩:=Gk (d:=0) hs;exact h.done j hj k hk
 all:=h.all
theorem BInv.le {t:Tbl} {l:List Nat} {k q:Nat} (h:BInv t l k q):l.length≤t.nxt.length:=by
 have:=Db l (List.range t.nxt.length) h.nodup fun s hs=>List.mem_range.2 (h.lt s hs)
 simpa using this
def Ea (n:Nat) (l:List Nat):List Bool:=(List.range n).map fun s=>decide (s∈l)
theorem Kl (n:Nat) (l:List Nat):(Ea n l).length=n:=by simp [Ea]
theorem Z4 (n:Nat) (l:List Nat) (s:Nat) (h:s<n):(Ea n l).getD s false=decide (s∈l):=by
 simp [Ea,List.getD_eq_getElem?_getD,h]
theorem Z3 (n:Nat):Ea n []=List.replicate n false:=by
 unfold Ea;rw [List.eq_replicate_iff];exact ⟨by simp,fun x hx=>by obtain ⟨b,_,rfl⟩:=List.mem_map.1 hx;simp⟩
theorem R7 (n:Nat) (l:List Nat) (s:Nat):(Ea n l).set s true=Ea n (l++[s]):=by
 unfold Ea;apply List.ext_getElem?;intro i;rw [List.getElem?_set];by_cases hi:i<n
 ·by_cases e:s=i
  ·subst e;simp [hi]
  ·simp [hi,e,Ne.symm e]
 ·by_cases e:s=i
  ·subst e;simp [hi]
  ·simp [hi,e]
set_option maxRecDepth 100000
open Go.RowKit Go.Shelf
def RowsAt (W:World) (bn on n m:Nat) (f:Nat→Nat→Nat):Prop:=
 ∀ s,s<n→∃ b off cap,W.cell? ⟨bn,on+s,none⟩=some (.slice (some ⟨b,off,none⟩) m cap)∧∀ k,k<m→W.cell? ⟨b,off+k,none⟩=some (iv (f s k))
theorem RowsAt.ext {W W':World} {bn on n m:Nat} {f:Nat→Nat→Nat} (h:RowsAt W bn on n m f) (hE:Ext W W'):RowsAt W' bn on n m f:=fun s hs=>by
 obtain ⟨b,off,cap,h1,h2⟩:=h s hs;exact ⟨b,off,cap,hE.cell h1,fun k hk=>hE.cell (h2 k hk)⟩
theorem Nf {W:World} {v:Value} {N:List (List Nat)} (h:Rows W v N) (m:Nat) (h0:0<N.length) (hm:0<m) (hr:∀ s,s<N.length→(N.getD s []).length=m) :
  ∃ bn on cn,v=.slice (some ⟨bn,on,none⟩) N.length cn∧RowsAt W bn on N.length m (fun s k=>(N.getD s []).getD k 0):=by
 obtain ⟨vs,_,hN,hrows⟩:=h;obtain ⟨bn,on,cn,rfl,hnc⟩:=Sl.form hN h0;refine ⟨bn,on,cn,rfl,fun s hs=>?_⟩;obtain ⟨b,off,cap,hv1,hc1⟩:=Sl.form (hrows s hs) (by rw [hr s hs];exact hm);refine ⟨b,off,cap,?_,fun k hk=>hc1 k (by rw [hr s hs];omega)⟩;rw [hnc s (by omega),hv1,hr s hs]
theorem L9 {W:World} {v:Value} {l:List Bool} (h:Bools W v l) (h0:0<l.length):∃ ba oa ca,v=.slice (some ⟨ba,oa,none⟩) l.length ca∧∀ s,s<l.length→W.cell? ⟨ba,oa+s,none⟩=some (.bool (l.getD s false)):=by
 obtain ⟨b,o,c,rfl,hc⟩:=Sl.form h h0;exact ⟨b,o,c,rfl,fun s hs=>hc s (by omega)⟩
theorem TVal.cpos {t:Tbl} (hv:TVal t):0<t.cells:=by have:=hv.cell_lt 0 (by omega);omega
theorem TVal.cle {t:Tbl} (hv:TVal t):t.cells≤256:=Hj t.cell 256 t.cells hv.onto
theorem IsT.opened {W:World} {A:Array Value} {t:Tbl} (h:IsT W A t) (hv:TVal t):∃ bn on cn ba oa ca,A.size=259∧A.all (·.oneCell')=true∧(∀ b,b<256→A[b]? = some (iv (t.cell b)))∧A[256]? = some (iv t.cells)∧
  A[257]? = some (.slice (some ⟨bn,on,none⟩) t.nxt.length cn)∧A[258]? = some (.slice (some ⟨ba,oa,none⟩) t.nxt.length ca)∧RowsAt W bn on t.nxt.length t.cells t.ent2∧∀ s,s<t.nxt.length→W.cell? ⟨ba,oa+s,none⟩=some (.bool (t.ok s)):=by
 obtain ⟨vn,va,rfl,hN,hA⟩:=h;obtain ⟨bn,on,cn,rfl,hr⟩:=Nf hN t.cells hv.pos hv.cpos hv.row;obtain ⟨ba,oa,ca,rfl,ha⟩:=L9 hA (by rw [hv.accL];exact hv.pos);refine ⟨bn,on,cn,ba,oa,ca,D1 _ _ _ _,Ga _ _ _ _ rfl rfl,fun b hb=>M3 _ _ _ _ b hb,Yo _ _ _ _,Iq _ _ _ _,by rw [Gc,hv.accL],hr,fun s hs=>ha s (by rw [hv.accL];exact hs)⟩
abbrev OwnI (W:World) (base:Nat) (v:Value) (l:List Nat):Prop:=W.ownsRow base 3 1 v l.length (l.map iv)
abbrev OwnB (W:World) (base:Nat) (v:Value) (l:List Bool):Prop:=W.ownsRow base 4 1 v l.length (l.map Value.bool)
theorem Ap {α:Type} {W:World} {base e g n cap:Nat} {l:List α} {f:α→Value} (d:α) (h:W.ownsRow base e 1 (.slice (some ⟨g,0,none⟩) n cap) n (l.map f)) (hn:n=l.length) (k:Nat) (hk:k<l.length) :
  W.cell? ⟨g,k,none⟩=some (f (l.getD k d)):=by
 subst hn;rw [World.ownsRow.cellAt h k (by omega)];simp [List.getD_eq_getElem?_getD,hk]
theorem A3 {α:Type} {W:World} {base e g n cap:Nat} {l:List α} {f:α→Value} (h:W.ownsRow base e 1 (.slice (some ⟨g,0,none⟩) n cap) n (l.map f)) (k:Nat) (x:α) :
  (W.setCell ⟨g,k,none⟩ (f x)).ownsRow base e 1 (.slice (some ⟨g,0,none⟩) n cap) n ((l.set k x).map f)∧W.grownBy (W.setCell ⟨g,k,none⟩ (f x)) (some g):=by
 have:=h.stored k (f x);rw [List.map_set];exact this
theorem OwnI.ints {W:World} {base:Nat} {v:Value} {l:List Nat} (h:OwnI W base v l) (hn:l.length≤4611686018427387904):Ints W v l:=
 (Sl.of_owns h hn (iv 0)).congr fun i hi=>by
  simp only [List.getD_eq_getElem?_getD,List.getElem?_map];cases l[i]?<;>rfl
theorem OwnB.bools {W:World} {base:Nat} {v:Value} {l:List Bool} (h:OwnB W base v l) (hn:l.length≤4611686018427387904):Bools W v l:=
 (Sl.of_owns h hn (.bool false)).congr fun i hi=>by
  simp only [List.getD_eq_getElem?_getD,List.getElem?_map];cases l[i]?<;>rfl
theorem Dm:(Tryz.prog.info? 3).map (fun i=>(i.zero,i.size,i.bytes))=some (some (.int .i64 0),1,8):=by kernel_rfl
theorem Fd:(Tryz.prog.info? 4).map (fun i=>(i.zero,i.size,i.bytes))=some (some (.bool false),1,1):=by kernel_rfl
theorem Ca {α:Type} (f:α→Value) (x:α) (n:Nat):(madeCells #[f x] (n*1)).toList=(List.replicate n x).map f:=by
 rw [Nat.mul_one,toList_madeCells_one,List.map_replicate]
open Go.Maps (Keyed)
def IsMp {κ:Type} (W:World) (k:TypeId) (key:κ→Value) (b n:Nat) (f:κ→Option Nat):Prop:=
 ∃ D:DataW Unit,W.ownsMap Tryz.prog k (plainElem Tryz.prog 3) b n D∧∀ x l,keyOf Tryz.prog k (key x)=some l→Maps.has D l=(f x).isSome∧D.atKey l (.lit (.int .i64 0))=.lit (.int .i64 ((f x).getD 0:Nat))
section
variable {κ:Type} {W:World} {k:TypeId} {key:κ→Value} {b n:Nat} {f:κ→Option Nat}
theorem I8 (W:World) (k:TypeId) (key:κ→Value):IsMp (W.alloc (.map #[] 0)) k key W.heap.size 0 (fun _=>none):=
 ⟨.map [],World.ownsMap_made W _ _ _,fun _ _ _=>⟨rfl,rfl⟩⟩
theorem IsMp.kept {W':World} {row:Option Nat} (h:IsMp W k key b n f) (hg:W.grownBy W' row) (hne:some b≠row):IsMp W' k key b n f:=by
 obtain ⟨D,h1,h2⟩:=h;exact ⟨D,h1.kept hg hne,h2⟩
theorem IsMp.ext {W':World} (h:IsMp W k key b n f) (hE:Ext W W'):IsMp W' k key b n f:=h.kept (hE.grownBy none) (by simp)
theorem IsMp.alloc (h:IsMp W k key b n f) (o:Obj):IsMp (W.alloc o) k key b n f:=by
 obtain ⟨D,h1,h2⟩:=h;exact ⟨D,h1.alloc o,h2⟩
theorem IsMp.lt (h:IsMp W k key b n f):b<W.heap.size:=by
 obtain ⟨D,h1,_⟩:=h;exact h1.lt
theorem IsMp.setCell (h:IsMp W k key b n f) {a:Addr} (ha:b≠a.block) (u:Value):IsMp (W.setCell a u) k key b n f:=by
 obtain ⟨D,h1,h2⟩:=h;exact ⟨D,h1.setCell ha u,h2⟩
theorem IsMp.congr {g:κ→Option Nat} (h:IsMp W k key b n f) (hg:∀ x,f x=g x):IsMp W k key b n g:=by
 obtain ⟨D,h1,h2⟩:=h;exact ⟨D,h1,fun x l hl=>by rw [← hg];exact h2 x l hl⟩
theorem IsMp.ne_row {base e size:Nat} {v:Value} {m:Nat} {xs:List Value} (h:IsMp W k key b n f) (ho:W.ownsRow base e size v m xs):some b≠v.ownBlock:=by
 obtain ⟨_,⟨es,clock,hb,_⟩,_⟩:=h;obtain ⟨hl,⟨rfl,rfl⟩|⟨g,cap,cur,rfl,_,hg,_⟩⟩:=ho
 ·simp [Value.ownBlock]
 ·intro e;simp only [Value.ownBlock,Option.some.injEq] at e;rw [e,hg] at hb;cases hb
theorem Ao {W:World} {base e size:Nat} {v:Value} {m:Nat} {xs:List Value} (ho:W.ownsRow base e size v m xs) {g:Nat} (hg:g<base):v.ownBlock=none∨v.ownBlock≠some g:=
 .inr fun e=>by have:=(ho.lt _ e).1;omega
theorem IsMp.far {base e size:Nat} {v:Value} {m:Nat} {xs:List Value} (h:IsMp W k key b n f) (ho:W.ownsRow base e size v m xs):v.ownBlock=none∨v.ownBlock≠some b:=.inr (fun e=>h.ne_row ho e.symm)
theorem Bt {W W':World} {base e size:Nat} {v:Value} {m:Nat} {xs:List Value} (ho:W.ownsRow base e size v m xs) (hg:W.grownBy W' none):W'.ownsRow base e size v m xs:=ho.kept hg (by cases v.ownBlock<;>simp)
theorem Xo (W:World):(zeroValue 3).run Tryz.prog W=.ok (.int .i64 0) W:=by kernel_rfl
end
section
variable {κ:Type} {W:World} {k:TypeId} {key:κ→Value} {b n:Nat} {f:κ→Option Nat} {ops:Array Oper} {rest:List Oper} {o:Oper} {a:Act} {Q:Exit→Act→World→Prop}
theorem D8 (hg:o.guard=none) (m x:Operand) (t:TypeId) (hop:o.op=Op.lookup t m x true) (K:Keyed Tryz.prog k) (ht:Tryz.prog.underlying t=some (.map k 3)) (hm:a.eval m=.map (some b)) (h:IsMp W k key b n f)
  (y:κ) (hx:a.eval x=key y) (hl:∃ l,keyOf Tryz.prog k (key y)=some l) (hK:wpList Tryz.prog ops Q rest (a.put o.dst (.tuple #[iv ((f y).getD 0),.bool (f y).isSome])) W):wpList Tryz.prog ops Q (o::rest) a W:=by
 obtain ⟨D,h1,h2⟩:=h;obtain ⟨l,hl⟩:=hl;obtain ⟨e1,e2⟩:=h2 y l hl;refine wpList_lookup_own_ok_int W hg m x t hop k 3 .i64 K ht Tryz.underlying3 (Xo W) b n D hm h1 (key y) l hx hl ?_;intro c hc _;rw [e2] at hc;rw [e1];injection hc with hc
 injection hc with _ hc
 rw [← hc];exact hK
theorem Ik [DecidableEq κ] (hg:o.guard=none) (m x v:Operand) (t:TypeId) (hop:o.op=Op.mapUpdate t m x v) (K:Keyed Tryz.prog k) (ht:Tryz.prog.underlying t=some (.map k 3)) (hm:a.eval m=.map (some b)) (h:IsMp W k key b n f) (hn:n<maxLen)
  (hinj:∀ y z,key y=key z→y=z) (y:κ) (hx:a.eval x=key y) (hl:∃ l,keyOf Tryz.prog k (key y)=some l) (i:Nat) (hv:a.eval v=iv i) (hi:i<9223372036854775808)
  (hK:∀ W',IsMp W' k key b (n+1) (fun z=>if z=y then some i else f z)→W.grownBy W' (some b)→wpList Tryz.prog ops Q rest (a.put o.dst undef) W'):wpList Tryz.prog ops Q (o::rest) a W:=by
 obtain ⟨D,h1,h2⟩:=h;obtain ⟨l,hl⟩:=hl;have hwf:(Lit.int .i64 (i:Int)).wf=true:=by
  have e1:IntKind.i64.min=-9223372036854775808:=rfl;simp [Lit.wf,IntKind.wrap,IntKind.signed,IntKind.bits,e1];omega
 refine wpList_mapUpdate_own W hg m x v t hop k 3 K ht (plainElem Tryz.prog 3) b n D hm h1 hn (key y) (iv i) l hx hv hl (.lit (.int .i64 i)) [] (plainElem_int Tryz.underlying3 hwf) ?_;intro W' hW hgr;refine hK W' ⟨_,hW,fun z lz hz=>?_⟩ hgr;by_cases e:z=y
 ·subst e;rw [hl] at hz;cases hz
  simp only [if_true];exact ⟨Maps.has_put_same h1.isMap (K.key hl) _,Maps.atKey_put_same h1.isMap (K.key hl) _ _⟩
 ·have hne:lz≠l:=fun e'=>e (hinj _ _ (K.inj hz (e'▸hl)))
  simp only [e,if_false];rw [Maps.has_put_other hne,Maps.atKey_put_other hne];exact h2 z lz hz
end
open Go.RowKit Go.Shelf Go.WideMaps
theorem O3:laidOutB Tryz.prog=true:=by kernel_rfl
theorem Ajb:ArrKey Tryz.prog 166 3 2:=⟨Tryz.underlying166,by kernel_rfl,by kernel_rfl,by kernel_rfl⟩
theorem Zx:∃ m,Tryz.prog.types.size=m+1:=⟨_,(Nat.succ_pred_eq_of_pos (of_decide_eq_true (by kernel_rfl))).symm⟩
theorem O0:Keyed Tryz.prog 166:=Keyed.of_law (deep_law_laid O3 (m:=2) (by omega) (of_decide_eq_true (by kernel_rfl)) (by kernel_rfl) (by rw [Tryz.underlying166]))
def Hi (x:Nat × Nat):Value:=.agg #[iv x.1,iv x.2]
theorem Acl (x y:Nat × Nat) (h:Hi x=Hi y):x=y:=by
 simp [Hi] at h;exact Prod.ext (by omega) (by omega)
theorem Il (i:Nat) (hi:i<9223372036854775808):(Lit.int .i64 (i:Int)).wf=true:=by
 have e1:IntKind.i64.min=-9223372036854775808:=rfl;simp [Lit.wf,IntKind.wrap,IntKind.signed,IntKind.bits,e1];omega
theorem Ack (x:Nat × Nat) (h1:x.1<9223372036854775808) (h2:x.2<9223372036854775808):∃ l,keyOf Tryz.prog 166 (Hi x)=some l:=
 ⟨_,keyOf_pair Ajb Tryz.underlying3 Zx (Il _ h1) (Il _ h2)⟩
theorem Fc:Keyed Tryz.prog 9:=Go.Maps.string_keyed Tryz.underlying9
structure JInv (a b:Nat→Nat) (x:Nat) (c:Nat→Nat) (bs:List Nat) (f:Nat × Nat→Option Nat):Prop where
 le:bs.length≤x
 lt:∀ y,y<x→c y<bs.length
 byte:∀ k,k<bs.length→bs.getD k 0<x∧c (bs.getD k 0)=k
 same:∀ y z,y<x→z<x→(c y=c z↔a y=a z∧b y=b z)
 has:∀ y,y<x→f (a y,b y)=some (c y)
 from_:∀ p i,f p=some i→∃ y,y<x∧p=(a y,b y)∧i=c y
theorem Afm (a b:Nat→Nat):JInv a b 0 (fun _=>0) [] (fun _=>none) where
 le:=by simp
 lt:=fun y hy=>by omega
 byte:=fun k hk=>by simp at hk
 same:=fun y z hy=>by omega
 has:=fun y hy=>by omega
 from_:=fun p i h=>by simp at h
theorem Afn {a b:Nat→Nat} {x:Nat} {c:Nat→Nat} {bs:List Nat} {f:Nat × Nat→Option Nat} (h:JInv a b x c bs f) (i:Nat) (hi:f (a x,b x)=some i):JInv a b (x+1) (fun y=>if y=x then i else c y) bs f:=by
 obtain ⟨z,hz,hp,rfl⟩:=h.from_ _ _ hi;simp only [Prod.mk.injEq] at hp;refine ⟨by have:=h.le;omega,fun y hy=>?_,fun k hk=>?_,fun y y' hy hy'=>?_,fun y hy=>?_,fun p i hp=>?_⟩
 ·split
  ·exact h.lt z hz
  ·exact h.lt y (by omega)
 ·obtain ⟨h1,h2⟩:=h.byte k hk;rw [if_neg (by omega)];exact ⟨by omega,h2⟩
 ·by_cases e:y=x<;>by_cases e':y'=x
  ·subst e;subst e';simp
  ·subst e;rw [if_pos rfl,if_neg e',h.same z y' hz (by omega),hp.1,hp.2]
  ·subst e';rw [if_neg e,if_pos rfl,h.same y z (by omega) hz,hp.1,hp.2]
  ·rw [if_neg e,if_neg e'];exact h.same y y' (by omega) (by omega)
 ·by_cases e:y=x
  ·subst e;rw [if_pos rfl];exact hi
  ·rw [if_neg e];exact h.has y (by omega)
 ·obtain ⟨y,hy,h1,h2⟩:=h.from_ p i hp;exact ⟨y,by omega,h1,by rw [if_neg (by omega)];exact h2⟩
theorem Afo {a b:Nat→Nat} {x:Nat} {c:Nat→Nat} {bs:List Nat} {f:Nat × Nat→Option Nat} (h:JInv a b x c bs f) (hi:f (a x,b x)=none) :
  JInv a b (x+1) (fun y=>if y=x then bs.length else c y) (bs++[x]) (fun p=>if p=(a x,b x) then some bs.length else f p):=by
 have hno:∀ y,y<x→¬ (a y=a x∧b y=b x):=fun y hy he=>by
  have:=h.has y hy;rw [he.1,he.2,hi] at this;cases this
 have hl:(bs++[x]).length=bs.length+1:=by simp
 refine ⟨by have:=h.le;omega,fun y hy=>?_,fun k hk=>?_,fun y y' hy hy'=>?_,fun y hy=>?_,fun p i hp=>?_⟩
 ·rw [hl];split
  ·omega
  ·have:=h.lt y (by omega);omega
 ·rw [hl] at hk;by_cases e:k=bs.length
  ·subst e;have:(bs++[x]).getD bs.length 0=x:=by simp [List.getD_eq_getElem?_getD]
   rw [this,if_pos rfl];exact ⟨by omega,rfl⟩
  ·have hk':k<bs.length:=by omega
   obtain ⟨h1,h2⟩:=h.byte k hk';rw [Bi _ _ _ _ hk',if_neg (by omega)];exact ⟨by omega,h2⟩
 ·by_cases e:y=x<;>by_cases e':y'=x
  ·subst e;subst e';simp
  ·subst e;have h1:=h.lt y' (by omega);rw [if_pos rfl,if_neg e'];exact ⟨fun h2=>by omega,fun h2=>absurd ⟨h2.1.symm,h2.2.symm⟩ (hno y' (by omega))⟩
  ·subst e';have h1:=h.lt y (by omega);rw [if_neg e,if_pos rfl];exact ⟨fun h2=>by omega,fun h2=>absurd h2 (hno y (by omega))⟩
  ·rw [if_neg e,if_neg e'];exact h.same y y' (by omega) (by omega)
 ·by_cases e:y=x
  ·subst e;simp
  ·have h1:=hno y (by omega);rw [if_neg e,if_neg (by simpa using h1)];exact h.has y (by omega)
 ·by_cases e:p=(a x,b x)
  ·simp only [e,if_true] at hp;cases hp
   exact ⟨x,by omega,e,by rw [if_pos rfl]⟩
  ·simp only [e,if_false] at hp;obtain ⟨y,hy,h1,h2⟩:=h.from_ p i hp;exact ⟨y,by omega,h1,by rw [if_neg (by omega)];exact h2⟩
theorem Afp {a b c:Nat→Nat} {bs:List Nat} {f:Nat × Nat→Option Nat} (h:JInv a b 256 c bs f):Joint a b c bs:=
 ⟨h.lt,h.byte,h.same⟩
def Bk (c:Nat→Nat):Array Value:=((List.range 256).map (fun b=>iv (c b))).toArray
theorem Ij:Tryz.zeroCells77=Bk (fun _=>0):=by kernel_rfl
theorem D7 (c:Nat→Nat):(Bk c).size=256:=by simp [Bk]
theorem Wf (c:Nat→Nat) (b:Nat) (hb:b<256):(Bk c)[b]? = some (iv (c b)):=by simp [Bk,hb]
theorem We (c:Nat→Nat) (b x:Nat) (hb:b<256):(Bk c).setIfInBounds b (iv x)=Bk (fun y=>if y=b then x else c y):=by
 apply Array.ext';rw [Array.toList_setIfInBounds];unfold Bk;simp only;apply List.ext_getElem?;intro i;rw [List.getElem?_set];by_cases hi:i<256
 ·by_cases e:b=i
  ·subst e;simp [hb]
  ·simp [hi,e,Ne.symm e]
 ·have:b≠i:=by omega
  rw [if_neg this];simp [hi]
theorem Lz (c:Nat→Nat):(Bk c).all (·.oneCell')=true:=by
 rw [Array.all_eq_true_iff_forall_mem];intro x hx;simp only [Bk,List.mem_toArray,List.mem_map] at hx;obtain ⟨b,_,rfl⟩:=hx;rfl
theorem I9:(Tryz.prog.info? 77).map (·.size)=some 256:=by kernel_rfl
theorem Pa:(Tryz.prog.info? 166).map (·.size)=some 2:=by kernel_rfl
theorem A2 {P:Program} {fn:Func} {p u:Tmp} {ty:TypeId} (h:fn.results=#[.cell p ty,.tmp u]) (tmps:Array Value) (w:World) (g:Nat) (t:TypeId) (cs:Array Value) (fr:Nat × Nat) (d:TypeDesc)
  (hp:tmps.getD p undef=.pointer (some ⟨g,0,none⟩)) (v:Value) (hu':tmps.getD u undef=v) (hg:w.heap[g]? = some (.cells cs t fr))
  (hu:P.underlying ty=some d) (hd:(match d with|.struct _|.array _ _=>true|_=>false)=true) (hi:(P.info? ty).map (·.size)=some cs.size) :
  (results fn tmps).run P w=.ok (.tuple #[.agg cs,v]) w:=by
 rw [results_cell_tmp h,hp,hu'];simp [asAddr,run_loadVar_row w g t ty cs fr d hg hu hd hi,Result.andThen]
set_option maxHeartbeats 2000000 in
theorem O5 (t u:Tbl) (ht:TVal t) (hu:TVal u) (A B:Array Value) (w:World) (hA:IsT w A t) (hB:IsT w B u) :
  Calls Tryz.prog 70 #[.agg A,.agg B] w fun e w'=>∃ c bs v,e=.returned (.tuple #[.agg (Bk c),v])∧Joint t.cell u.cell c bs∧Ints w' v bs∧Ext w w':=by
 obtain ⟨_,_,_,_,_,_,hAs,hAo,hAc,_⟩:=hA.opened ht;obtain ⟨_,_,_,_,_,_,hBs,hBo,hBc,_⟩:=hB.opened hu;clear hA hB;obtain ⟨i0,hi,hz0,hz1,hz2⟩:=info_parts Dm;have hmm:=@run_makeMap Tryz.prog;have hE0:=((Ext.refl w).alloc (.cells A 108)).alloc (.cells B 108);have H0:=Af (Ab w (.cells A 108)) (.cells B 108);have H1:=heap_alloc2_new w (.cells A 108) (.cells B 108);go_enter Tryz.func70,Tryz.ntmps70;go_upto_region 3 with (fail)
 obtain ⟨w0,hw0⟩:∃ W,(w.alloc (.cells A 108)).alloc (.cells B 108)=W:=⟨_,rfl⟩;have hs0:w0.heap.size=w.heap.size+1+1:=by rw [← hw0,World.size_alloc,World.size_alloc]
 simp only [hw0] at *;clear hw0;have HKA:=Lib.hid (fun (W:World) (hW:Ext w0 W) (b:Nat) (hb:b<256)=>(cell_of_row W w.heap.size b _ _ _ (hW.heap H0)).trans (hAc b hb));have HKB:=Lib.hid (fun (W:World) (hW:Ext w0 W) (b:Nat) (hb:b<256)=>(cell_of_row W (w.heap.size+1) b _ _ _ (hW.heap H1)).trans (hBc b hb));have HCL:=Lib.hid (fun (b:Nat) (hb:b<256)=>And.intro (Nat.lt_of_lt_of_le (ht.cell_lt b hb) ht.cle) (Nat.lt_of_lt_of_le (hu.cell_lt b hb) hu.cle));clear H0 H1 hAs hAo hAc hBs hBo hBc ht hu;go_upto_region 4 with (fail)
 clear hmm;have R2:=Af (Af (Ab w0 (.cells Tryz.zeroCells77 77)) (.cells Tryz.zeroCells77 77)) (.map #[] 0);have R3:=Af (heap_alloc2_new w0 (.cells Tryz.zeroCells77 77) (.cells Tryz.zeroCells77 77)) (.map #[] 0);have hmp:=I8 ((w0.alloc (.cells Tryz.zeroCells77 77)).alloc (.cells Tryz.zeroCells77 77)) 166 Hi;have hE1:=(((Ext.refl w0).alloc (.cells Tryz.zeroCells77 77)).alloc (.cells Tryz.zeroCells77 77)).alloc (.map #[] 0);have hs1:(((w0.alloc (.cells Tryz.zeroCells77 77)).alloc (.cells Tryz.zeroCells77 77)).alloc (.map #[] 0)).heap.size=w.heap.size+1+1+1+1+1:=by
  rw [World.size_alloc,World.size_alloc,World.size_alloc,hs0]
 rw [World.size_alloc,World.size_alloc,hs0] at hmp;rw [hs0] at R2 R3;obtain ⟨w1,hw1⟩:∃ W,((w0.alloc (.cells Tryz.zeroCells77 77)).alloc (.cells Tryz.zeroCells77 77)).alloc (.map #[] 0)=W:=⟨_,rfl⟩;simp only [hw1] at *;clear hw1;have hI:=World.ownsRow_nil w1 w1.heap.size 3 1;have R2:=Lib.hid R2;have R3:Hid (w1.heap[w.heap.size+1+1+1]? = some (.cells (Bk fun _=>0) 77 (0,0))):=Lib.hid (by rw [R3,Ij]);go_wp2_with (fail);go_loopw [7,14] (fun v i W=>∃ (x:Nat) (bs:List Nat) (a:Option Addr) (cp:Nat) (c:Nat→Nat) (f:Nat × Nat→Option Nat),x≤256∧i=.int .i64 x∧v=.slice a bs.length cp∧Ext w0 W∧w1.heap.size≤W.heap.size∧OwnI W w1.heap.size v bs∧
   IsMp W 166 Hi (w.heap.size+1+1+1+1) bs.length f∧W.heap[w.heap.size+1+1]? = some (.cells Tryz.zeroCells77 77 (0,0))∧W.heap[w.heap.size+1+1+1]? = some (.cells (Bk c) 77 (0,0))∧Hid (JInv t.cell u.cell x c bs f))
  (fun _ i _=>256-(intOf i).toNat)
 case atStart=>exact ⟨0,[],none,0,_,_,by omega,rfl,rfl,hE1,Nat.le_refl _,hI,hmp,R2.out,R3.out,Lib.hid (Afm _ _)⟩
 case round=>
  obtain ⟨x,bs,a,cp,c,f,hx,rfl,rfl,hE,hsz,hI,hmp,hR2,hR3,HJ⟩:=hrel;have hbl:=HJ.out.le;have HR2:=Lib.hid hR2;have HR3:=Lib.hid hR3;clear hR2 hR3;by_cases hlt:x<256
  ·have hxi:(x:Int)<256:=by omega
   have ka:=HKA.out wr hE x hlt;have kb:=HKB.out wr hE x hlt;obtain ⟨ha,hb⟩:=HCL.out x hlt;have hkey:=Ack (t.cell x,u.cell x) (by show t.cell x<_;omega) (by show u.cell x<_;omega);generalize hta:t.cell x=ca at *;generalize htb:u.cell x=cb at *;have HTA:=Lib.hid hta;have HTB:=Lib.hid htb;clear hta htb;go_upto_region 7 with (fail)
   have na:=World.new_ne wr _ ka;have nb:=World.new_ne wr _ kb;go_region_held (fun W=>W.cell? ⟨w.heap.size,x,none⟩=some (iv ca)∧W.cell? ⟨w.heap.size+1,x,none⟩=some (iv cb)) (go_keep) (fail)
   have e5:Ext wr (wr.alloc (.cells #[iv ca,iv cb] 166)).drew:=((Ext.refl wr).alloc _).drew;have K5:Hid ((wr.alloc (.cells #[iv ca,iv cb] 166)).drew.heap[wr.heap.size]? = some (.cells #[iv ca,iv cb] 166 (0,0))):=Lib.hid (Ab wr _);obtain ⟨w5,hw5⟩:∃ W,(wr.alloc (.cells #[iv ca,iv cb] 166)).drew=W:=⟨_,rfl⟩;simp only [hw5] at *;clear hw5 ka kb na nb;rename_i hHeld
   clear hHeld;have hE5:=hE.trans e5;have hsz5:=Nat.le_trans hsz e5.size;have hI:=Ah hI e5;have hmp:=hmp.ext e5;have HR2:=Lib.hid (e5.heap HR2.out);have HR3:=Lib.hid (e5.heap HR3.out);have hszr:w1.heap.size≤wr.heap.size:=hsz;cases hf:f (ca,cb) with
   | some i=>
    have HJ':=HJ.out;have HN:=Lib.hid (Afn HJ.out i (by rw [HTA.out,HTB.out];exact hf));have hib:i<bs.length:=by
     obtain ⟨z,hz,_,rfl⟩:=HJ.out.from_ _ _ hf;exact HJ.out.lt z hz
    clear HJ';have c3:=(cell_of_row w5 (w.heap.size+1+1+1) x _ _ _ HR3.out).trans (Wf c x hlt);have f3:=frozen_of_row w5 (w.heap.size+1+1+1) x _ _ HR3.out;go_wp2_with (first
     | (refine wpList_load_row rfl 166 (.tmp 10) rfl _ rfl _ _ _ _ K5.out Tryz.underlying166 rfl Pa ?_)
     | (at_lookup;refine D8 rfl _ _ 165 rfl O0 Tryz.underlying165 rfl hmp (ca,cb) rfl hkey ?_;rw [hf];dsimp only [Option.isSome,Option.getD]))
    go_roundw
    case rel=>
     rw [setCell_eq_setRow w5 _ _ _ _ _ _ HR3.out,We _ _ _ hlt];have hgr:=B3 w5 (w.heap.size+1+1+1) (Bk fun y=>if y=x then i else c y);refine ⟨x+1,bs,a,cp,_,f,by omega,by go_num,rfl,hE5.setRow (by omega) _,by rw [size_setRow];exact hsz5,hI.kept hgr (Ao hI (by omega)),hmp.kept hgr (by simp),Bg HR2.out (by omega) _,setRow_heap w5 _ _ _ _ _ HR3.out,HN⟩
    case measure=>simp [intOf];omega
   | none=>
    have HN:=Afo HJ.out (by rw [HTA.out,HTB.out];exact hf);rw [HTA.out,HTB.out] at HN;have HN:=Lib.hid HN;have hK6:=K5;go_upto_region 11 with (first
     | (refine wpList_load_row rfl 166 (.tmp 10) rfl _ rfl _ _ _ _ K5.out Tryz.underlying166 rfl Pa ?_)
     | (at_lookup;refine D8 rfl _ _ 165 rfl O0 Tryz.underlying165 rfl hmp (ca,cb) rfl hkey ?_;rw [hf];dsimp only [Option.isSome,Option.getD]))
    go_upto_region 12 with (first
     | (refine wpList_load_row rfl 166 (.tmp 10) rfl _ rfl _ _ _ _ K5.out Tryz.underlying166 rfl Pa ?_)
     | (at_mapUpdate;refine Ik rfl _ _ _ 165 rfl O0 Tryz.underlying165 rfl hmp (by unfold maxLen;omega) Acl (ca,cb) rfl hkey bs.length rfl (by omega) ?_;intro w6 hmp6 hgr6))
    clear hmp hK6;have hI6:=hI.kept hgr6 (Ao hI (by omega));have HR2:Hid (w6.heap[w.heap.size+1+1]? = _):=Lib.hid ((hgr6.block _ (Ak HR2.out) (by simp)).trans HR2.out);have HR3:Hid (w6.heap[w.heap.size+1+1+1]? = _):=Lib.hid ((hgr6.block _ (Ak HR3.out) (by simp)).trans HR3.out);have hE6:=hE5.grown hgr6 (fun k e=>by cases e;omega);have hsz6:w1.heap.size≤w6.heap.size:=Nat.le_trans hsz5 hgr6.size;clear hgr6 hI K5 e5;go_upto_region 13 with (at_builtin;refine wpList_append_lies _ rfl _ _ 68 rfl w1.heap.size 3 i0 (.int .i64 0) 1 8 Tryz.underlying68 hi hz0 hz1 hz2 rfl (by decide) _ _ _ rfl (hI6.alloc _) _ 1 1 [iv x] rfl rfl (cell_one_new _ _ _) (by simp [Value.oneCell']) (by decide) (by unfold maxLen;omega) (by omega) (by simp;omega) _ rfl ?_;intro g7 c7 w7 hI7 hgr7 _ _)
    have hlt3:=Ak HR3.out;have hlt2:=Ak HR2.out;have HR2:Hid (w7.heap[w.heap.size+1+1]? = _):=Lib.hid ((hgr7.block _ (Nat.lt_of_lt_of_le hlt2 (by rw [World.size_alloc];omega)) (fun e=>by have:=(hI6.lt _ e.symm).1;omega)).trans (Af HR2.out _));have HR3:Hid (w7.heap[w.heap.size+1+1+1]? = _):=Lib.hid ((hgr7.block _ (Nat.lt_of_lt_of_le hlt3 (by rw [World.size_alloc];omega)) (fun e=>by have:=(hI6.lt _ e.symm).1;omega)).trans (Af HR3.out _));have hmp7:=(hmp6.alloc (.cells #[iv x] 3)).kept hgr7 (fun e=>by have:=(hI6.lt _ e.symm).1;omega);have hE7:=(hE6.alloc (.cells #[iv x] 3)).grown hgr7 (fun k e=>by have:=(hI6.lt k e).1;omega);have hsz7:w1.heap.size≤w7.heap.size:=Nat.le_trans hsz6 (by have:=hgr7.size;rw [World.size_alloc] at this;omega);clear hgr7 hI6 hmp6;have hI7:OwnI w7 w1.heap.size (.slice (some ⟨g7,0,none⟩) (bs.length+1) c7) (bs++[x]):=by
     show World.ownsRow _ _ _ _ _ _ _;rw [List.length_append,List.map_append];exact hI7
    have c3:=(cell_of_row w7 (w.heap.size+1+1+1) x _ _ _ HR3.out).trans (Wf c x hlt);have f3:=frozen_of_row w7 (w.heap.size+1+1+1) x _ _ HR3.out;go_wp2;go_roundw
    case rel=>
     rw [setCell_eq_setRow w7 _ _ _ _ _ _ HR3.out,We _ _ _ hlt];have hgr:=B3 w7 (w.heap.size+1+1+1) (Bk fun y=>if y=x then bs.length else c y);refine ⟨x+1,bs++[x],_,c7,_,_,by omega,by go_num,by rw [List.length_append];rfl,hE7.setRow (by omega) _,by rw [size_setRow];exact hsz7,hI7.kept hgr (Ao hI7 (by omega)),IsMp.kept (by rw [List.length_append];exact hmp7) hgr (by simp),Bg HR2.out (by omega) _,setRow_heap w7 _ _ _ _ _ HR3.out,HN⟩
    case measure=>simp [intOf];omega
  ·obtain rfl:x=256:=by omega
   have HC:=Lib.hid (show (Tryz.zeroCells77).size=(Bk c).size by rw [Ij,D7,D7]);have HO:=Lib.hid (Lz c);have HI7:=Lib.hid (show (Tryz.prog.info? 77).map (·.size)=some (Bk c).size by rw [D7];exact I9);obtain ⟨A',hA'⟩:∃ X,Bk c=X:=⟨_,rfl⟩;rw [hA'] at HC HO HI7 HR3;have HA':=Lib.hid hA';clear hA';go_wp2_with (first
    | (refine wpList_load_row rfl 77 (.tmp 6) rfl _ rfl _ _ _ _ HR3.out Tryz.underlying77 rfl HI7.out ?_)
    | (refine wpList_store_row rfl 77 (.tmp 4) (.tmp 47) rfl _ A' rfl rfl _ _ HR2.out HI7.out HC.out HO.out ?_))
   refine bodyPost_ret (v:=.tuple #[.agg A',.slice a bs.length cp]) (A2 rfl _ _ _ _ _ _ _ rfl _ rfl (setRow_heap wr _ _ A' 77 (0,0) HR2.out) Tryz.underlying77 rfl HI7.out) rfl ?_;have hgr:=B3 wr (w.heap.size+1+1) A';refine ⟨c,bs,_,by rw [HA'.out],Afp HJ.out,OwnI.ints (hI.kept hgr (Ao hI (by omega))) (by omega),(hE0.trans hE).setRow (by omega) _⟩
def A4 (x:Nat):List UInt8:=[UInt8.ofNat x,UInt8.ofNat (x / 256)]
theorem T2 {x y:Nat} (hx:x<65536) (hy:y<65536) (h:A4 x=A4 y):x=y:=by
 simp only [A4,List.cons.injEq,and_true] at h;have h1:=congrArg UInt8.toNat h.1;have h2:=congrArg UInt8.toNat h.2;simp only [UInt8.toNat_ofNat'] at h1 h2;omega
theorem On (x:Nat):(A4 x).length=2:=rfl
def Az (g:Nat→Nat):Nat→List UInt8
 | 0=>[]
 | n+1=>Az g n++A4 (g n)
theorem Ib (g:Nat→Nat):∀ n,(Az g n).length=2*n
 | 0=>rfl
 | n+1=>by rw [Az,List.length_append,Ib g n,On];omega
theorem Lw (g g':Nat→Nat):∀ n,(∀ k,k<n→g k<65536)→(∀ k,k<n→g' k<65536)→(Az g n=Az g' n↔∀ k,k<n→g k=g' k)
 | 0,_,_=>by simp [Az]
 | n+1,hg,hg'=>by
  have ih:=Lw g g' n (fun k hk=>hg k (by omega)) (fun k hk=>hg' k (by omega));simp only [Az];constructor
  ·intro h;obtain ⟨h1,h2⟩:=List.append_inj h (by rw [Ib,Ib]);intro k hk;by_cases e:k=n
   ·subst e;exact T2 (hg k (by omega)) (hg' k (by omega)) h2
   ·exact ih.1 h1 k (by omega)
  ·intro h;rw [ih.2 fun k hk=>h k (by omega),h n (by omega)]
def C2 (t:Tbl) (B:Nat→Nat) (s:Nat):List UInt8:=A4 (B s)++Az (fun k=>B (t.ent2 s k)) t.cells
theorem Afk (t:Tbl) (B:Nat→Nat) (s s':Nat) (h1:B s<65536) (h2:B s'<65536) (h3:∀ k,k<t.cells→B (t.ent2 s k)<65536) (h4:∀ k,k<t.cells→B (t.ent2 s' k)<65536) :
  C2 t B s=C2 t B s'↔B s=B s'∧∀ k,k<t.cells→B (t.ent2 s k)=B (t.ent2 s' k):=by
 unfold C2;constructor
 ·intro h;obtain ⟨e1,e2⟩:=List.append_inj h rfl;exact ⟨T2 h1 h2 e1,(Lw _ _ _ h3 h4).1 e2⟩
 ·rintro ⟨e1,e2⟩;rw [e1,(Lw _ _ _ h3 h4).2 e2]
theorem A5 {α:Type} (l:List α) (i j:Nat) (x d:α) (h:i<l.length):(l.set i x).getD j d=if j=i then x else l.getD j d:=by
 rw [List.getD_eq_getElem?_getD,List.getD_eq_getElem?_getD,List.getElem?_set];by_cases e:j=i
 ·subst e;simp [h]
 ·rw [if_neg (Ne.symm e),if_neg e]
theorem Tn {l:List Nat} (h:l.Nodup) {i j:Nat} (hi:i<l.length) (hj:j<l.length) (hij:i≠j):l.getD i 0≠l.getD j 0:=by
 rw [List.getD_eq_getElem?_getD,List.getD_eq_getElem?_getD,List.getElem?_eq_getElem hi,List.getElem?_eq_getElem hj];intro e;exact hij ((List.getElem_inj h).1 e)
theorem Gj {l:List Nat} {s:Nat} (h:s∈l):∃ j,j<l.length∧l.getD j 0=s:=Gk (d:=0) h
structure NInv (l:List Nat) (key:Nat→List UInt8) (j:Nat) (N R:List Nat) (f:List UInt8→Option Nat):Prop where
 le:R.length≤j
 has:∀ q,q<j→f (key (l.getD q 0))=some (N.getD (l.getD q 0) 0)
 lt:∀ q,q<j→N.getD (l.getD q 0) 0<R.length
 rep:∀ i,i<R.length→(∃ q,q<j∧R.getD i 0=l.getD q 0)∧N.getD (R.getD i 0) 0=i
 from_:∀ k i,f k=some i→∃ q,q<j∧k=key (l.getD q 0)∧i=N.getD (l.getD q 0) 0
 same:∀ q q',q<j→q'<j→(N.getD (l.getD q 0) 0=N.getD (l.getD q' 0) 0↔key (l.getD q 0)=key (l.getD q' 0))
theorem Ads (l:List Nat) (key:Nat→List UInt8) (N:List Nat):NInv l key 0 N [] (fun _=>none) where
 le:=by simp
 has:=fun q hq=>by omega
 lt:=fun q hq=>by omega
 rep:=fun i hi=>by simp at hi
 from_:=fun k i h=>by simp at h
 same:=fun q q' hq=>by omega
section
variable {l:List Nat} {key:Nat→List UInt8} {j:Nat} {N R:List Nat} {f:List UInt8→Option Nat}
theorem Adt (h:NInv l key j N R f) (hn:l.Nodup) (hj:j<l.length) (hs:l.getD j 0<N.length) (i:Nat) (hi:f (key (l.getD j 0))=some i):NInv l key (j+1) (N.set (l.getD j 0) i) R f:=by
 obtain ⟨z,hz,hk,hzi⟩:=h.from_ _ _ hi;have ne:∀ q,q<j→l.getD q 0≠l.getD j 0:=fun q hq=>Tn hn (by omega) hj (by omega)
 have g1:∀ q,q<j→(N.set (l.getD j 0) i).getD (l.getD q 0) 0=N.getD (l.getD q 0) 0:=fun q hq=>by rw [A5 _ _ _ _ _ hs,if_neg (ne q hq)]
 have g2:(N.set (l.getD j 0) i).getD (l.getD j 0) 0=i:=by rw [A5 _ _ _ _ _ hs,if_pos rfl]
 refine ⟨by have:=h.le;omega,fun q hq=>?_,fun q hq=>?_,fun r hr=>?_,fun k i' hk'=>?_,fun q q' hq hq'=>?_⟩
 ·by_cases e:q=j
  ·subst e;rw [g2];exact hi
  ·rw [g1 q (by omega)];exact h.has q (by omega)
 ·by_cases e:q=j
  ·subst e;rw [g2,hzi];exact h.lt z hz
  ·rw [g1 q (by omega)];exact h.lt q (by omega)
 ·obtain ⟨⟨q,hq,e⟩,e2⟩:=h.rep r hr;refine ⟨⟨q,by omega,e⟩,?_⟩;rw [e,g1 q hq,← e];exact e2
 ·obtain ⟨q,hq,e1,e2⟩:=h.from_ k i' hk';exact ⟨q,by omega,e1,by rw [g1 q hq];exact e2⟩
 ·by_cases e:q=j<;>by_cases e':q'=j
  ·subst e;subst e';simp
  ·subst e;rw [g2,g1 q' (by omega),hzi,h.same z q' hz (by omega),hk]
  ·subst e';rw [g2,g1 q (by omega),hzi,h.same q z (by omega) hz,hk]
  ·rw [g1 q (by omega),g1 q' (by omega)];exact h.same q q' (by omega) (by omega)
theorem Adu (h:NInv l key j N R f) (hn:l.Nodup) (hj:j<l.length) (hs:l.getD j 0<N.length) (hi:f (key (l.getD j 0))=none) :
  NInv l key (j+1) (N.set (l.getD j 0) R.length) (R++[l.getD j 0]) (fun k=>if k=key (l.getD j 0) then some R.length else f k):=by
 have ne:∀ q,q<j→l.getD q 0≠l.getD j 0:=fun q hq=>Tn hn (by omega) hj (by omega)
 have nk:∀ q,q<j→key (l.getD q 0)≠key (l.getD j 0):=fun q hq e=>by
  have:=h.has q hq;rw [e,hi] at this;cases this
 have g1:∀ q,q<j→(N.set (l.getD j 0) R.length).getD (l.getD q 0) 0=N.getD (l.getD q 0) 0:=fun q hq=>by rw [A5 _ _ _ _ _ hs,if_neg (ne q hq)]
 have g2:(N.set (l.getD j 0) R.length).getD (l.getD j 0) 0=R.length:=by rw [A5 _ _ _ _ _ hs,if_pos rfl]
 have hl:(R++[l.getD j 0]).length=R.length+1:=by simp
 refine ⟨by have:=h.le;omega,fun q hq=>?_,fun q hq=>?_,fun r hr=>?_,fun k i' hk'=>?_,fun q q' hq hq'=>?_⟩
 ·by_cases e:q=j
  ·subst e;rw [g2];simp
  ·rw [g1 q (by omega),if_neg (nk q (by omega))];exact h.has q (by omega)
 ·rw [hl];by_cases e:q=j
  ·subst e;rw [g2];omega
  ·rw [g1 q (by omega)];have:=h.lt q (by omega);omega
 ·rw [hl] at hr;by_cases e:r=R.length
  ·have e1:(R++[l.getD j 0]).getD r 0=l.getD j 0:=by rw [e];simp [List.getD_eq_getElem?_getD]
   rw [e1,g2];exact ⟨⟨j,by omega,rfl⟩,e.symm⟩
  ·have hr':r<R.length:=by omega
   obtain ⟨⟨q,hq,e1⟩,e2⟩:=h.rep r hr';rw [Bi _ _ _ _ hr'];refine ⟨⟨q,by omega,e1⟩,?_⟩;rw [e1,g1 q hq,← e1];exact e2
 ·by_cases e:k=key (l.getD j 0)
  ·simp only [e,if_true] at hk';cases hk'
   exact ⟨j,by omega,e,g2.symm⟩
  ·simp only [e,if_false] at hk';obtain ⟨q,hq,e1,e2⟩:=h.from_ k i' hk';exact ⟨q,by omega,e1,by rw [g1 q hq];exact e2⟩
 ·by_cases e:q=j<;>by_cases e':q'=j
  ·subst e;subst e';simp
  ·subst e;have h1:=h.lt q' (by omega);rw [g2,g1 q' (by omega)];exact ⟨fun e=>by omega,fun e=>absurd e.symm (nk q' (by omega))⟩
  ·subst e';have h1:=h.lt q (by omega);rw [g2,g1 q (by omega)];exact ⟨fun e=>by omega,fun e=>absurd e (nk q (by omega))⟩
  ·rw [g1 q (by omega),g1 q' (by omega)];exact h.same q q' (by omega) (by omega)
theorem Tr (h:NInv l key l.length N R f):Blk l (fun s=>N.getD s 0) R∧∀ s∈l,∀ s'∈l,(N.getD s 0=N.getD s' 0↔key s=key s'):=by
 refine ⟨⟨fun s hs=>?_,fun i hi=>?_,fun i hi=>(h.rep i hi).2⟩,fun s hs s' hs'=>?_⟩
 ·obtain ⟨q,hq,rfl⟩:=Gj hs;exact h.lt q hq
 ·obtain ⟨⟨q,hq,e⟩,_⟩:=h.rep i hi;rw [e];exact C3 l q 0 hq
 ·obtain ⟨q,hq,rfl⟩:=Gj hs;obtain ⟨q',hq',rfl⟩:=Gj hs';exact h.same q q' hq hq'
end
theorem Ks {t:Tbl} {l:List Nat} (hl:Reached t l) {B N:Nat→Nat} (hB:∀ s∈l,B s<65536) (h:∀ s∈l,∀ s'∈l,(N s=N s'↔C2 t B s=C2 t B s')):F8 t l B N:=fun s hs s' hs'=>by
 rw [h s hs s' hs',Afk t B s s' (hB s hs) (hB s' hs') (fun k hk=>hB _ (hl.closed s hs k hk)) (fun k hk=>hB _ (hl.closed s' hs' k hk))]
structure AInv (t:Tbl) (l:List Nat) (j:Nat) (B:List Nat):Prop where
 len:B.length=t.nxt.length
 at_:∀ s,B.getD s 0=if s∈l.take j∧t.ok s=true then 1 else 0
theorem Xf (t:Tbl) (l:List Nat):AInv t l 0 (List.replicate t.nxt.length 0) where
 len:=by simp
 at_:=fun s=>by
  simp [List.getD_eq_getElem?_getD,List.getElem?_replicate];split<;>rfl
theorem Rg {l:List Nat} {j:Nat} (hj:j<l.length) (s:Nat):s∈l.take (j+1)↔s∈l.take j∨s=l.getD j 0:=by
 rw [List.take_add_one,List.mem_append,List.getElem?_eq_getElem hj,List.getD_eq_getElem?_getD,List.getElem?_eq_getElem hj];simp
theorem Xe {t:Tbl} {l:List Nat} {j:Nat} {B:List Nat} (h:AInv t l j B) (hj:j<l.length) (hs:l.getD j 0<t.nxt.length) (hok:t.ok (l.getD j 0)=true):AInv t l (j+1) (B.set (l.getD j 0) 1) where
 len:=by rw [List.length_set];exact h.len
 at_:=fun s=>by
  rw [A5 _ _ _ _ _ (by rw [h.len];exact hs),h.at_ s];have ht:=Rg hj s;generalize l.getD j 0=x at *;by_cases e:s=x
  ·subst e;simp [ht,hok]
  ·simp [ht,e]
theorem Xg {t:Tbl} {l:List Nat} {j:Nat} {B:List Nat} (h:AInv t l j B) (hj:j<l.length) (hok:t.ok (l.getD j 0)=false):AInv t l (j+1) B where
 len:=h.len
 at_:=fun s=>by
  rw [h.at_ s];have ht:=Rg hj s;generalize l.getD j 0=x at *;by_cases e:s=x
  ·subst e;simp [hok]
  ·simp [ht,e]
theorem Xh {t:Tbl} {l:List Nat} {B:List Nat} (h:AInv t l l.length B):Refi t l (fun s=>B.getD s 0) 0∧∀ s,B.getD s 0<65536:=by
 refine ⟨Aba t l _ fun s hs=>?_,fun s=>?_⟩
 ·show B.getD s 0=_;rw [h.at_ s,List.take_length];simp [hs]
 ·rw [h.at_ s];split<;>omega
structure OInv (t:Tbl) (l:List Nat) (B:List Nat) (n:Nat):Prop where
 len:B.length=t.nxt.length
 refi:Refi t l (fun s=>B.getD s 0) n
 lt:∀ s∈l,B.getD s 0<65536
 le:n≤l.length
theorem Tb {t:Tbl} {l:List Nat} {B:List Nat} (h:AInv t l l.length B):OInv t l B 0:=
 ⟨h.len,(Xh h).1,fun s _=>(Xh h).2 s,by omega⟩
theorem Ma {l:List Nat} {B:Nat→Nat} {R:List Nat} (h:Blk l B R):R.length≤l.length:=by
 have:=Db (R.map fun s=>s) l (by
  rw [List.map_id'];rw [List.nodup_iff_pairwise_ne,List.pairwise_iff_getElem];intro i j hi hj hij e;have h1:=h.rep i hi;have h2:=h.rep j hj;rw [List.getD_eq_getElem?_getD,List.getElem?_eq_getElem hi] at h1;rw [List.getD_eq_getElem?_getD,List.getElem?_eq_getElem hj] at h2;simp only [Option.getD_some] at h1 h2;rw [e,h2] at h1;omega) fun s hs=>by
   rw [List.map_id'] at hs;obtain ⟨i,hi,rfl⟩:=Gj hs;exact h.mem i hi
 simpa using this
theorem Adc {t:Tbl} (hv:TVal t) {l:List Nat} (hl:Reached t l) {B N R:List Nat} {f:List UInt8→Option Nat} {n:Nat} (h:OInv t l B n) (hm:l.length≤65536) (hN:N.length=t.nxt.length)
  (hi:NInv l (C2 t fun s=>B.getD s 0) l.length N R f) (hne:R.length≠n):OInv t l N R.length∧n<R.length:=by
 obtain ⟨hb,hs⟩:=Tr hi;have hr:F8 t l (fun s=>B.getD s 0) (fun s=>N.getD s 0):=Ks hl h.lt hs;have hle:=Ma hb;refine ⟨⟨hN,Ns hv hl h.refi hr hb,fun s hs=>?_,hle⟩,?_⟩
 ·have:=hb.lt s hs;show N.getD s 0<65536;omega
 ·have:=(Nt h.refi hr hb hl.ne).1;omega
theorem Add {t:Tbl} (hv:TVal t) {l:List Nat} (hl:Reached t l) {B N R:List Nat} {f:List UInt8→Option Nat} {n:Nat} (h:OInv t l B n)
  (hi:NInv l (C2 t fun s=>B.getD s 0) l.length N R f) (he:R.length=n):Blocks t l (fun s=>N.getD s 0) R:=by
 obtain ⟨hb,hs⟩:=Tr hi;have hr:F8 t l (fun s=>B.getD s 0) (fun s=>N.getD s 0):=Ks hl h.lt hs;exact ⟨hb,Sj hv hl h.refi hr hb he⟩
end Go.Proofs.YtaiogolidlamiaaGreatDoor
