import Derived.Test.YtaiogolidlamiaaGreatDoorM15
import Derived.Test.YtaiogolidlamiaaGreatDoorM08
set_option linter.unusedVariables false
set_option linter.unusedSimpArgs false
namespace Go.Proofs.YtaiogolidlamiaaGreatDoor
set_option maxRecDepth 100000
open Go.RowKit Go.Shelf
theorem Ax {P:Program} {ops:Array Oper} {Q:Exit→Act→World→Prop} {C:World→Prop} {n i:Nat} {is:List (Nat × Bool)} {o:Oper} {v:Value} {a:Act} {w:World} (h0:ops.toList[i]? = some o) (hw:Region.wanted o (yielded ops a.tmps)=true) (hy:∀ W,C W→(execOp a.eval o).run P W=.ok (.value v) W)
  (h:D2 P ops Q C n is (a.put o.dst v) w):D2 P ops Q C n ((i,true)::is) a w:=Fr (by rw [← Array.getElem?_toList];exact h0) hw hy h
theorem B2 {P:Program} {ops:Array Oper} {Q:Exit→Act→World→Prop} {C:World→Prop} {n i:Nat} {is:List (Nat × Bool)} {o:Oper} {a:Act} {w:World} (h0:ops.toList[i]? = some o)
  (h:∀ K:Act→World→Prop,(∀ a' w',(i<n→C w')→D2 P ops Q C n is a' w'→K a' w')→if Region.wanted o (yielded ops a.tmps)=true then Oper.wp P o a w K Q else K (a.put o.dst undef) w):D2 P ops Q C n ((i,false)::is) a w:=C8 (by rw [← Array.getElem?_toList];exact h0) h
theorem Jg {P:Program} {o:Oper} {a:Act} (t:TypeId) (parts:Array (Nat × Operand)) (ho:o.op=.build t parts) {A:Array Value} (hb:P.built t (parts.map fun (i,x)=>(i,a.eval x)).toList=some A) (w:World):(execOp a.eval o).run P w=.ok (.value (.agg A)) w:=by
 unfold execOp;simp only [ho,Sem.run_bind,run_build w t _ A hb,Result.andThen_ok];rfl
theorem Hc {P:Program} {ops:Array Oper} {o:Oper} {a:Act} {w:World} {K:Act→World→Prop} {Q:Exit→Act→World→Prop} {E:Prop} (ty:TypeId) (x y:Operand) (ho:o.op=.store ty x y) (hgd:o.guard=none)
  (g:Nat) (cells:Array Value) (hx:a.eval x=.pointer (some ⟨g,0,none⟩)) (hy:a.eval y=.agg cells) (t:TypeId) (old:Array Value) (hg:w.heap[g]? = some (.cells old t (0,0))) (hi:(P.info? ty).map (·.size)=some cells.size)
  (hold:old.size=cells.size) (h1:cells.all (·.oneCell')=true) (h:K (a.put o.dst undef) (w.setRow g cells)):if Region.wanted o (yielded ops a.tmps)=true then Oper.wp P o a w K Q else E:=by
 have hw:Region.wanted o (yielded ops a.tmps)=true:=by simp [Region.wanted,hgd]
 rw [if_pos hw];exact wp_store_row ty x y ho g cells hx hy t old hg hi hold h1 h
theorem Air (p q:Int):Tryz.prog.built 116 [(0,.int .i64 p),(1,.int .i64 q)]=some #[.int .i64 p,.int .i64 q,.int .u64 0]:=by kernel_rfl
def pNx (x y:Tbl) (s:Sta) (b:Nat):Sta:=⟨x.stp s.p b,y.stp s.q b,0⟩
def pAc (x y:Tbl) (g:Bool→Bool→Bool) (s:Sta):Bool:=g (x.ok s.p) (y.ok s.q)
def N8 (x y:Tbl) (s:Sta):Prop:=s.p<x.nxt.length∧s.q<y.nxt.length∧s.s=0
set_option maxHeartbeats 1000000 in
theorem Ab2 (x y:Tbl) (hx:TVal x) (hy:TVal y) (A B:Array Value) (gx gy:Nat) (w:World) (hA:IsT w A x) (hB:IsT w B y) (hgx:w.heap[gx]? = some (.cells A 108 (0,0))) (hgy:w.heap[gy]? = some (.cells B 108 (0,0))) :
  Mj w 120 #[.pointer (some ⟨gx,0,none⟩),.pointer (some ⟨gy,0,none⟩)] (pNx x y) (N8 x y):=by
 intro W hW s hs b hb;obtain ⟨hp,hq,-⟩:=hs;obtain ⟨bn,on,cn,_,_,_,_,_,hAc,_,hA7,_,hRA,_⟩:=(hA.ext hW).opened hx;obtain ⟨bn',on',cn',_,_,_,_,_,hBc,_,hB7,_,hRB,_⟩:=(hB.ext hW).opened hy;have hgx:=hW.heap hgx;have hgy:=hW.heap hgy;have a7:=(cell_of_row W gx 257 _ _ _ hgx).trans hA7;have ac:=(cell_of_row W gx b _ _ _ hgx).trans (hAc b hb);have b7:=(cell_of_row W gy 257 _ _ _ hgy).trans hB7;have bc:=(cell_of_row W gy b _ _ _ hgy).trans (hBc b hb);obtain ⟨br,or',cr,ar1,ar2⟩:=hRA s.p hp;obtain ⟨br',or'',cr',br1,br2⟩:=hRB s.q hq;have ar3:=ar2 _ (hx.cell_lt b hb);have br3:=br2 _ (hy.cell_lt b hb);have hcx:=hx.cell_lt b hb;have hcy:=hy.cell_lt b hb;have hxs:x.ent2 s.p (x.cell b)=x.stp s.p b:=rfl;have hys:y.ent2 s.q (y.cell b)=y.stp s.q b:=rfl;rw [hxs] at ar3;rw [hys] at br3;show Calls _ _ _ _ fun e w'=>e=.returned (.agg #[iv (x.stp s.p b),iv (y.stp s.q b),.int .u64 ((0:Nat):Int)])∧Ext W w'
 have hE0:=((Ext.refl W).alloc (.cells #[iv s.p,iv s.q,.int .u64 (s.s:Int)] 116)).alloc (.cells #[.int .i64 0,.int .i64 0,.int .u64 0] 116);have H4:=Af (Ab W (.cells #[iv s.p,iv s.q,.int .u64 (s.s:Int)] 116)) (.cells #[.int .i64 0,.int .i64 0,.int .u64 0] 116);have H6:=heap_alloc2_new W (.cells #[iv s.p,iv s.q,.int .u64 (s.s:Int)] 116) (.cells #[.int .i64 0,.int .i64 0,.int .u64 0] 116);clear hA hB hx hy hAc hBc hA7 hB7 hRA hRB hxs hys ar2 br2 hgx hgy;generalize x.stp s.p b=p2 at *;generalize y.stp s.q b=q2 at *;generalize x.cell b=cx at *;generalize y.cell b=cy at *;have hbi:(b:Int)<256:=by omega
 generalize x.cells=mx at *;generalize y.cells=my at *;generalize x.nxt.length=nx at *;generalize y.nxt.length=ny at *;go_enter Tryz.func120,Tryz.ntmps120;go_upto_region 1 with (fail)
 obtain ⟨w1,hw1⟩:∃ V,(W.alloc (.cells #[iv s.p,iv s.q,.int .u64 (s.s:Int)] 116)).alloc (.cells #[.int .i64 0,.int .i64 0,.int .u64 0] 116)=V:=⟨_,rfl⟩;rw [hw1] at hE0 H4 H6;simp only [hw1];clear hw1;have a7:=hE0.cell a7;have ac:=hE0.cell ac;have b7:=hE0.cell b7;have bc:=hE0.cell bc;have ar1:=hE0.cell ar1;have ar3:=hE0.cell ar3;have br1:=hE0.cell br1;have br3:=hE0.cell br3;have c0:=(cell_of_row w1 W.heap.size 0 _ _ _ H4).trans (show (#[iv s.p,iv s.q,.int .u64 (s.s:Int)]:Array Value)[0]? = some (iv s.p) from rfl);have c1:=(cell_of_row w1 W.heap.size 1 _ _ _ H4).trans (show (#[iv s.p,iv s.q,.int .u64 (s.s:Int)]:Array Value)[1]? = some (iv s.q) from rfl);have hkeep:∀ V,Ext w1 V→V.cell? ⟨gx,257,none⟩=some (.slice (some ⟨bn,on,none⟩) nx cn)∧V.cell? ⟨gx,b,none⟩=some (iv cx)∧V.cell? ⟨gy,257,none⟩=some (.slice (some ⟨bn',on',none⟩) ny cn')∧V.cell? ⟨gy,b,none⟩=some (iv cy)∧
   V.cell? ⟨bn,on+s.p,none⟩=some (.slice (some ⟨br,or',none⟩) mx cr)∧V.cell? ⟨br,or'+cx,none⟩=some (iv p2)∧V.cell? ⟨bn',on'+s.q,none⟩=some (.slice (some ⟨br',or'',none⟩) my cr')∧V.cell? ⟨br',or''+cy,none⟩=some (iv q2)∧V.cell? ⟨W.heap.size,0,none⟩=some (iv s.p)∧V.cell? ⟨W.heap.size,1,none⟩=some (iv s.q):=
  fun V hV=>⟨hV.cell a7,hV.cell ac,hV.cell b7,hV.cell bc,hV.cell ar1,hV.cell ar3,hV.cell br1,hV.cell br3,hV.cell c0,hV.cell c1⟩
 clear a7 ac b7 bc ar1 ar3 br1 br3 c0 c1;have hb1:=Lib.hid (Air (p2:Int) (q2:Int));refine Dh 25 [(0,true),(1,true),(2,true),(3,true),(4,true),(5,true),(6,true),(7,true),(8,true),(9,true),(10,true),(11,true),(12,true),(13,true),(14,true),(15,true),(16,true),(17,true),(18,true),(19,true),(20,true),(21,true),(22,true),(23,true),(24,true),(25,false)] (by kernel_rfl) (by kernel_rfl) (fun _ _ _ _ h=>h)
  (fun V=>Ext w1 V) (Ext.refl w1).drew ?_
 have hE1:=(Ext.refl w1).drew;have H6':=hE1.heap H6;obtain ⟨w2,hw2⟩:∃ V,w1.drew=V:=⟨_,rfl⟩;rw [hw2] at hE1 H6';rw [hw2];clear hw2 H4 H6;iterate 24
  refine Ax (v:=?_) rfl rfl (fun V hV=>?_) ?_
  rotate_left
  ·obtain ⟨k0,k1,k2,k3,k4,k5,k6,k7,k8,k9⟩:=hkeep V hV;clear hV;go_simp;first|done|with_reducible rfl
  simp only [Act.put,List.setIfInBounds_toArray,List.set_cons_zero,List.set_cons_succ]
 refine Ax (v:=.agg #[iv p2,iv q2,.int .u64 0]) rfl rfl (fun V _=>?_) ?_
 ·exact Jg 116 _ rfl (by simpa [Act.eval] using hb1.out) V
 simp only [Act.put,List.setIfInBounds_toArray,List.set_cons_zero,List.set_cons_succ];refine B2 rfl (fun K hK=>?_);refine Hc 116 (.tmp 6) (.tmp 31) rfl rfl _ _ rfl rfl _ _ H6' Dc rfl (by simp [Value.oneCell']) ?_;refine hK _ _ (fun h=>absurd h (by omega)) ?_;clear hK K;refine Di ?_;have hE2:=(hE0.trans hE1).setRow (show W.heap.size≤W.heap.size+1 by omega) #[iv p2,iv q2,.int .u64 0];have H7:=setRow_heap w2 _ _ #[iv p2,iv q2,.int .u64 0] 116 (0,0) H6';go_wp2;refine bodyPost_ret (v:=.agg #[iv p2,iv q2,.int .u64 0]) (results_cell_row rfl _ _ _ _ _ _ _ rfl H7 Tryz.underlying116 rfl Dc) rfl ?_;exact ⟨rfl,hE2⟩
def Ii (gh:Nat) (g:Bool→Bool→Bool):Prop:=∀ (W:World) (x y:Bool),Calls Tryz.prog gh #[.bool x,.bool y] W fun e w'=>e=.returned (.bool (g x y))∧Ext W w'
set_option maxHeartbeats 1000000 in
theorem Abr (x y:Tbl) (hx:TVal x) (hy:TVal y) (A B:Array Value) (gx gy g5:Nat) (gh:Nat) (g:Bool→Bool→Bool) (hg:Ii gh g) (eh:∀ args w,(callFunc gh args).run Tryz.prog w=.ok (.enter gh args) w) (w:World) (hA:IsT w A x) (hB:IsT w B y)
  (hgx:w.heap[gx]? = some (.cells A 108 (0,0))) (hgy:w.heap[gy]? = some (.cells B 108 (0,0))) (hg5:w.heap[g5]? = some (.cells #[.func (.func gh) #[] #[]] 126 (0,0))) :
  Mg w 121 #[.pointer (some ⟨g5,0,none⟩),.pointer (some ⟨gx,0,none⟩),.pointer (some ⟨gy,0,none⟩)] (pAc x y g) (N8 x y):=by
 intro W hW s hs;obtain ⟨hp,hq,-⟩:=hs;obtain ⟨_,_,_,ba,oa,ca,_,_,_,_,_,hA8,_,haA⟩:=(hA.ext hW).opened hx;obtain ⟨_,_,_,ba',oa',ca',_,_,_,_,_,hB8,_,haB⟩:=(hB.ext hW).opened hy;have hgx:=hW.heap hgx;have hgy:=hW.heap hgy;have a8:=(cell_of_row W gx 258 _ _ _ hgx).trans hA8;have b8:=(cell_of_row W gy 258 _ _ _ hgy).trans hB8;have f5:=(cell_of_row W g5 0 _ _ _ (hW.heap hg5)).trans (show (#[.func (.func gh) #[] #[]]:Array Value)[0]? = some (.func (.func gh) #[] #[]) from rfl);have aa:=haA s.p hp;have bb:=haB s.q hq;show Calls _ _ _ _ fun e w'=>e=.returned (.bool (g (x.ok s.p) (y.ok s.q)))∧Ext W w'
 have hE0:=(Ext.refl W).alloc (.cells #[iv s.p,iv s.q,.int .u64 (s.s:Int)] 116);have H4:=Ab W (.cells #[iv s.p,iv s.q,.int .u64 (s.s:Int)] 116);clear hA hB hx hy hA8 hB8 haA haB hgx hgy hg5;generalize x.ok s.p=p2 at *;generalize y.ok s.q=q2 at *;generalize x.nxt.length=nx at *;generalize y.nxt.length=ny at *;have HG:=Lib.hid (fun V x y=>hg V x y);clear hg;go_enter Tryz.func121,Tryz.ntmps121;go_upto_region 1 with (fail)
 obtain ⟨w1,hw1⟩:∃ V,W.alloc (.cells #[iv s.p,iv s.q,.int .u64 (s.s:Int)] 116)=V:=⟨_,rfl⟩;rw [hw1] at hE0 H4;simp only [hw1];clear hw1;have a8:=hE0.cell a8;have b8:=hE0.cell b8;have f5:=hE0.cell f5;have aa:=hE0.cell aa;have bb:=hE0.cell bb;have c0:=(cell_of_row w1 W.heap.size 0 _ _ _ H4).trans (show (#[iv s.p,iv s.q,.int .u64 (s.s:Int)]:Array Value)[0]? = some (iv s.p) from rfl);have c1:=(cell_of_row w1 W.heap.size 1 _ _ _ H4).trans (show (#[iv s.p,iv s.q,.int .u64 (s.s:Int)]:Array Value)[1]? = some (iv s.q) from rfl);have hkeep:∀ V,Ext w1 V→V.cell? ⟨gx,258,none⟩=some (.slice (some ⟨ba,oa,none⟩) nx ca)∧V.cell? ⟨gy,258,none⟩=some (.slice (some ⟨ba',oa',none⟩) ny ca')∧V.cell? ⟨g5,0,none⟩=some (.func (.func gh) #[] #[])∧
   V.cell? ⟨ba,oa+s.p,none⟩=some (.bool p2)∧V.cell? ⟨ba',oa'+s.q,none⟩=some (.bool q2)∧V.cell? ⟨W.heap.size,0,none⟩=some (iv s.p)∧V.cell? ⟨W.heap.size,1,none⟩=some (iv s.q):=
  fun V hV=>⟨hV.cell a8,hV.cell b8,hV.cell f5,hV.cell aa,hV.cell bb,hV.cell c0,hV.cell c1⟩
 clear a8 b8 f5 aa bb c0 c1;refine Dh 14 [(0,true),(1,true),(2,true),(3,true),(4,true),(5,true),(6,true),(7,true),(8,true),(9,true),(10,true),(11,true),(12,true),(13,false),(14,false)] (by kernel_rfl) (by kernel_rfl) (fun _ _ _ _ h=>h)
  (fun V=>Ext w1 V) (Ext.refl w1).drew ?_
 have hE1:=(Ext.refl w1).drew;obtain ⟨w2,hw2⟩:∃ V,w1.drew=V:=⟨_,rfl⟩;rw [hw2] at hE1;rw [hw2];clear hw2 H4;iterate 13
  refine Ax (v:=?_) rfl rfl (fun V hV=>?_) ?_
  rotate_left
  ·obtain ⟨k0,k1,k2,k3,k4,k5,k6⟩:=hkeep V hV;clear hV;go_simp;first|done|with_reducible rfl
  simp only [Act.put,List.setIfInBounds_toArray,List.set_cons_zero,List.set_cons_succ]
 refine B2 rfl (fun K hK=>?_);go_simp
 (with_reducible refine (HG.out w2 p2 q2).mono ?_)
 rintro e w3 ⟨rfl,hE3⟩;refine hK _ _ (fun _=>hE1.trans hE3) ?_;clear hK K;refine B2 rfl (fun K hK=>?_);go_simp;refine hK _ _ (fun h=>absurd h (by omega)) ?_;clear hK K;refine Di ?_;have hE4:=(hE0.trans hE1).trans hE3;go_wp2;go_ret;exact ⟨rfl,hE4⟩
set_option maxHeartbeats 1000000 in
theorem Acw:Ii 79 (fun x y=>x||y):=by
 intro W x y;go_enter Tryz.func79,Tryz.ntmps79;cases x<;>cases y
 all_goals
  go_wp2;go_ret;exact ⟨rfl,Ext.refl W⟩
set_option maxHeartbeats 1000000 in
theorem Ajj:Ii 80 (fun x y=>x&&y):=by
 intro W x y;go_enter Tryz.func80,Tryz.ntmps80;cases x<;>cases y
 all_goals
  go_wp2;go_ret;exact ⟨rfl,Ext.refl W⟩
open Go
section
variable {P:Program} {ops:Array Oper} {Q:Exit→Act→World→Prop} {n:Nat}
structure FInvR (ops:Array Oper) (n:Nat) (F:Nat→Value→World→Prop) (Ne:Nat→Nat→Value→Value→Prop) (a0:Act) (w1:World) (listed:Array Bool) (a:Act) (w:World):Prop where
 ext:Ext w1 w
 defers:a.defers=a0.defers
 size:a.tmps.size=a0.tmps.size
 done:∀ i o d,i<n→ops[i]? = some o→o.dst=some d→listed.getD i false=true→F i (a.tmps.getD d undef) w
 rest:∀ d,(∀ i o,i<n→ops[i]? = some o→listed.getD i false=true→o.dst≠some d)→a.tmps.getD d undef=a0.tmps.getD d undef
 ne:∀ i j oi oj di dj,i<n→j<n→i≠j→ops[i]? = some oi→ops[j]? = some oj→oi.dst=some di→oj.dst=some dj→listed.getD i false=true→listed.getD j false=true→Ne i j (a.tmps.getD di undef) (a.tmps.getD dj undef)
theorem Eb (a:Act) (d e:Nat) (v:Value) (h:d<a.tmps.size):(a.put (some d) v).tmps.getD e undef=if e=d then v else a.tmps.getD e undef:=by
 simp only [Act.put,Array.getD_eq_getD_getElem?,Array.getElem?_setIfInBounds];by_cases hd:d=e
 ·subst hd;simp [h]
 ·simp [hd,Ne.symm hd]
theorem Ny (a:Act) (d:Nat) (v:Value):(a.put (some d) v).tmps.size=a.tmps.size:=by simp [Act.put]
def FOp (P:Program) (ops:Array Oper) (Q:Exit→Act→World→Prop) (n:Nat) (F:Nat→Value→World→Prop) (Ne:Nat→Nat→Value→Value→Prop) (a0:Act) (w1:World) (i:Nat):Prop:=
 ∀ o d,ops[i]? = some o→o.dst=some d→∀ a w,Ext w1 w→a.defers=a0.defers→a.tmps.size=a0.tmps.size→
  (∀ j oj dj,j<n→ops[j]? = some oj→oj.dst=some dj→(∃ e∈o.after,Region.binds .any e=true∧e.on=j)→F j (a.tmps.getD dj undef) w)→
  (∀ e,(∀ j oj,j<n→ops[j]? = some oj→oj.dst≠some e)→a.tmps.getD e undef=a0.tmps.getD e undef)→
  Region.wanted o (yielded ops a.tmps)=true∧o.wp P a w (fun a' w'=>∃ v,a'=a.put (some d) v∧Ext w w'∧F i v w'∧∀ j u,j<n→j≠i→F j u w→Ne i j v u) Q
def E2 (ops:Array Oper) (n:Nat) (sz:Nat):Bool:=(List.range n).all fun i=>match ops[i]? with
 | none=>false
 | some o=>match o.dst with
  | none=>false
  | some d=>decide (d<sz)&&(List.range n).all fun j=>decide (j=i)||match ops[j]? with|none=>false|some oj=>decide (oj.dst≠some d)
theorem Hw {sz:Nat} (h:E2 ops n sz=true) (i:Nat) (hi:i<n):∃ o d,ops[i]? = some o∧o.dst=some d∧d<sz∧∀ j oj,j<n→j≠i→ops[j]? = some oj→oj.dst≠some d:=by
 unfold E2 at h;rw [List.all_eq_true] at h;have h1:=h i (List.mem_range.2 hi);cases ho:ops[i]? with
 | none=>rw [ho] at h1;cases h1
 | some o=>
  rw [ho] at h1;simp only at h1;cases hd:o.dst with
  | none=>rw [hd] at h1;cases h1
  | some d=>
   rw [hd] at h1;simp only [Bool.and_eq_true,decide_eq_true_eq,List.all_eq_true,Bool.or_eq_true,List.mem_range] at h1;refine ⟨o,d,rfl,hd,h1.1,fun j oj hj hne hoj=>?_⟩;rcases h1.2 j hj with h2|h2
   ·exact absurd h2 hne
   ·rw [hoj] at h2
    simpa using h2
theorem U2 {F:Nat→Value→World→Prop} {Ne:Nat→Nat→Value→Value→Prop} (hNe:∀ i j v u,Ne i j v u→Ne j i u v) (hF:∀ i v w w',F i v w→Ext w w'→F i v w') {a0:Act} {w1:World} {sz:Nat} (hsz:a0.tmps.size=sz) (hd:E2 ops n sz=true) {listed:Array Bool} {a:Act} {w:World} (inv:FInvR ops n F Ne a0 w1 listed a w)
  {i:Nat} (hi:i∈Region.ready .any ops listed) (hin:i<n) (H:FOp P ops Q n F Ne a0 w1 i):∃ o,ops[i]? = some o∧Region.wanted o (yielded ops a.tmps)=true∧o.wp P a w (fun a' w'=>FInvR ops n F Ne a0 w1 (listed.setIfInBounds i true) a' w') Q:=by
 obtain ⟨o,d,ho,hdst,hdsz,hdis⟩:=Hw hd i hin;obtain ⟨hun,o',ho',hall⟩:=mem_ready.1 hi;rw [ho] at ho';injection ho' with ho'
 subst ho';have hli:i<listed.size:=by
  rcases Nat.lt_or_ge i listed.size with h|h
  ·exact h
  ·simp [Array.getElem?_eq_none h] at hun
 have hg:∀ j,(listed.setIfInBounds i true).getD j false=true→j=i∨listed.getD j false=true:=fun j hj=>by
  by_cases e:i=j
  ·exact .inl e.symm
  ·rw [getD_set_ne false e] at hj;exact .inr hj
 obtain ⟨hw,hwp⟩:=H o d ho hdst a w inv.ext inv.defers inv.size (fun j oj dj hj hoj hdj ⟨e,he,hb,hej⟩=>inv.done j oj dj hj hoj hdj (by rw [← hej];exact hall e he hb)) (fun e he=>inv.rest e fun j oj hj hoj _=>he j oj hj hoj);refine ⟨o,ho,hw,Oper.wp_mono (fun a' w' h=>?_) hwp⟩;obtain ⟨v,rfl,hE,hv,hnw⟩:=h;have hda:d<a.tmps.size:=by rw [inv.size,hsz];exact hdsz
 refine ⟨inv.ext.trans hE,inv.defers,by rw [Ny];exact inv.size,fun j oj dj hj hoj hdj hlj=>?_,fun e he=>?_,fun j k oj ok dj dk hj hk hjk hoj hok hdj hdk hlj hlk=>?_⟩
 ·rw [Eb _ _ _ _ hda];by_cases e:j=i
  ·subst e;rw [ho] at hoj;injection hoj with hoj
   subst hoj;rw [hdst] at hdj;injection hdj with hdj
   rw [if_pos hdj.symm];exact hv
  ·rw [if_neg (fun h=>hdis j oj hj e hoj (by rw [hdj,h]))];rcases hg j hlj with h|h
   ·exact absurd h e
   ·exact hF _ _ _ _ (inv.done j oj dj hj hoj hdj h) hE
 ·rw [Eb _ _ _ _ hda];have hne:e≠d:=fun h=>he i o hin ho (by simp [hli]) (by rw [hdst,h])
  rw [if_neg hne];refine inv.rest e fun j oj hj hoj hlj=>he j oj hj hoj ?_
  by_cases e':i=j
  ·subst e';simp [hli]
  ·rw [getD_set_ne false e'];exact hlj
 ·rw [Eb _ _ _ _ hda,Eb _ _ _ _ hda];have hdd:∀ j oj dj,j<n→ops[j]? = some oj→oj.dst=some dj→(j=i→dj=d)∧(j≠i→dj≠d):=fun j oj dj hj hoj hdj=>by
   constructor
   ·rintro rfl;rw [ho] at hoj;injection hoj with hoj
    subst hoj;rw [hdst] at hdj;injection hdj with hdj
    exact hdj.symm
   ·intro e h;exact hdis j oj hj e hoj (by rw [hdj,h])
  by_cases e1:j=i
  ·have e2:k≠i:=fun h=>hjk (by rw [e1,h])
   rw [if_pos ((hdd j oj dj hj hoj hdj).1 e1),if_neg ((hdd k ok dk hk hok hdk).2 e2)];rcases hg k hlk with h|h
   ·exact absurd h e2
   ·rw [e1];exact hnw k _ hk e2 (inv.done k ok dk hk hok hdk h)
  ·rw [if_neg ((hdd j oj dj hj hoj hdj).2 e1)];rcases hg j hlj with h|hlj'
   ·exact absurd h e1
   ·by_cases e2:k=i
    ·rw [if_pos ((hdd k ok dk hk hok hdk).1 e2)];rw [e2];exact hNe _ _ _ _ (hnw j _ hj e1 (inv.done j oj dj hj hoj hdj hlj'))
    ·rw [if_neg ((hdd k ok dk hk hok hdk).2 e2)];rcases hg k hlk with h|hlk'
     ·exact absurd h e2
     ·exact inv.ne j k oj ok dj dk hj hk hjk hoj hok hdj hdk hlj' hlk'
theorem U3 {F:Nat→Value→World→Prop} {Ne:Nat→Nat→Value→Value→Prop} (hNe:∀ i j v u,Ne i j v u→Ne j i u v) (hF:∀ i v w w',F i v w→Ext w w'→F i v w') {a0:Act} {w1:World} {sz:Nat} (hsz:a0.tmps.size=sz) (hd:E2 ops n sz=true) {listed:Array Bool} {a:Act} {w:World} (inv:FInvR ops n F Ne a0 w1 listed a w)
  {i:Nat} (hi:i∈Region.ready .any ops listed) (hin:i<n) (H:FOp P ops Q n F Ne a0 w1 i):wpOp P ops Q i (fun a' w'=>FInvR ops n F Ne a0 w1 (listed.setIfInBounds i true) a' w') a w:=by
 obtain ⟨o,ho,hw,h⟩:=U2 hNe hF hsz hd inv hi hin H;unfold wpOp;rw [ho];simp only [hw,if_true];exact .inl h
def Ba (ops:Array Oper) (vs:Nat→Value):Nat→Act→Act
 | 0,a=>a
 | k+1,a=>(Ba ops vs k a).put ((ops[k]?).bind (·.dst)) (vs k)
theorem Iz (vs:Nat→Value) (a:Act):∀ k,(Ba ops vs k a).tmps.size=a.tmps.size∧(Ba ops vs k a).defers=a.defers
 | 0=>⟨rfl,rfl⟩
 | k+1=>by
  obtain ⟨h1,h2⟩:=Iz vs a k;unfold Ba;cases (ops[k]?).bind (·.dst) with
  | none=>exact ⟨h1,h2⟩
  | some d=>exact ⟨by rw [Ny];exact h1,h2⟩
theorem Sr {sz:Nat} (hd:E2 ops n sz=true) (a a0:Act) (hsz:a0.tmps.size=sz) (vs:Nat→Value) (hvs:∀ i o d,i<n→ops[i]? = some o→o.dst=some d→vs i=a.tmps.getD d undef) (hr:∀ e,(∀ i o,i<n→ops[i]? = some o→o.dst≠some e)→a.tmps.getD e undef=a0.tmps.getD e undef) (e:Nat) :
  ∀ k,k≤n→((∃ i o,i<k∧ops[i]? = some o∧o.dst=some e)→(Ba ops vs k a0).tmps.getD e undef=a.tmps.getD e undef)∧((∀ i o,i<k→ops[i]? = some o→o.dst≠some e)→(Ba ops vs k a0).tmps.getD e undef=a0.tmps.getD e undef)
 | 0,_=>⟨fun ⟨i,o,h,_⟩=>by omega,fun _=>rfl⟩
 | k+1,hk=>by
  obtain ⟨h1,h2⟩:=Sr hd a a0 hsz vs hvs hr e k (by omega);obtain ⟨o,d,ho,hdst,hdsz,hdis⟩:=Hw hd k (by omega);have hput:Ba ops vs (k+1) a0=(Ba ops vs k a0).put (some d) (vs k):=by
   show (Ba ops vs k a0).put ((ops[k]?).bind (·.dst)) (vs k)=_;rw [ho];show (Ba ops vs k a0).put o.dst (vs k)=_;rw [hdst]
  rw [hput,Eb _ _ _ _ (by rw [(Iz vs a0 k).1,hsz];exact hdsz)];constructor
  ·rintro ⟨i,o',hi,ho',hd'⟩;by_cases e':e=d
   ·rw [if_pos e',hvs k o d (by omega) ho hdst,e']
   ·rw [if_neg e'];refine h1 ⟨i,o',?_,ho',hd'⟩;by_cases hik:i=k
    ·subst hik;rw [ho] at ho';injection ho' with ho'
     subst ho';rw [hdst] at hd';injection hd' with hd'
     exact absurd hd'.symm e'
    ·omega
  ·intro h;have hne:e≠d:=fun h'=>h k o (by omega) ho (by rw [hdst,h'])
   rw [if_neg hne];exact h2 fun i o' hi=>h i o' (by omega)
theorem U6 {F:Nat→Value→World→Prop} {Ne:Nat→Nat→Value→Value→Prop} {a0:Act} {w1:World} {sz:Nat} (hsz:a0.tmps.size=sz) (hd:E2 ops n sz=true) {listed:Array Bool} {a:Act} {w:World} (inv:FInvR ops n F Ne a0 w1 listed a w) (hall:∀ i,i<n→listed.getD i false=true) :
  ∃ vs:Nat→Value,a=Ba ops vs n a0∧(∀ i,i<n→F i (vs i) w)∧∀ i j,i<n→j<n→i≠j→Ne i j (vs i) (vs j):=by
 refine ⟨fun i=>a.tmps.getD (((ops[i]?).bind (·.dst)).getD 0) undef,?_,fun i hi=>?_,fun i j hi hj hij=>?_⟩
 ·have hr:∀ e,(∀ i o,i<n→ops[i]? = some o→o.dst≠some e)→a.tmps.getD e undef=a0.tmps.getD e undef:=fun e he=>inv.rest e fun i o hi ho _=>he i o hi ho
  have hg:=fun e=>Sr hd a a0 hsz (fun i=>a.tmps.getD (((ops[i]?).bind (·.dst)).getD 0) undef) (fun i o d hi ho hdst=>by
   show a.tmps.getD (((ops[i]?).bind (·.dst)).getD 0) undef=_;rw [ho];show a.tmps.getD (o.dst.getD 0) undef=_;rw [hdst];rfl) hr e n (Nat.le_refl _)
  obtain ⟨s1,s2⟩:=Iz (ops:=ops) (fun i=>a.tmps.getD (((ops[i]?).bind (·.dst)).getD 0) undef) a0 n;have ht:a.tmps=(Ba ops (fun i=>a.tmps.getD (((ops[i]?).bind (·.dst)).getD 0) undef) n a0).tmps:=by
   apply Array.ext
   ·rw [s1,inv.size]
   ·intro e h1 h2;have he:a.tmps.getD e undef=(Ba ops (fun i=>a.tmps.getD (((ops[i]?).bind (·.dst)).getD 0) undef) n a0).tmps.getD e undef:=by
     obtain ⟨g1,g2⟩:=hg e;by_cases hex:∃ i o,i<n∧ops[i]? = some o∧o.dst=some e
     ·exact (g1 hex).symm
     ·have hno:∀ i o,i<n→ops[i]? = some o→o.dst≠some e:=fun i o hi ho hd'=>hex ⟨i,o,hi,ho,hd'⟩
      rw [g2 hno];exact hr e hno
    rw [Array.getD_eq_getD_getElem?,Array.getD_eq_getD_getElem?,Array.getElem?_eq_getElem h1,Array.getElem?_eq_getElem h2] at he;exact he
  have hdf:=inv.defers;rw [← s2] at hdf;generalize Ba ops (fun i=>a.tmps.getD (((ops[i]?).bind (·.dst)).getD 0) undef) n a0=b at *;cases a;cases b
  simp only at ht hdf;rw [ht,hdf]
 ·obtain ⟨o,d,ho,hdst,_,_⟩:=Hw hd i hi;have:=inv.done i o d hi ho hdst (hall i hi);show F i (a.tmps.getD (((ops[i]?).bind (·.dst)).getD 0) undef) w;rw [ho];show F i (a.tmps.getD (o.dst.getD 0) undef) w;rw [hdst];exact this
 ·obtain ⟨o,d,ho,hdst,_,_⟩:=Hw hd i hi;obtain ⟨o',d',ho',hdst',_,_⟩:=Hw hd j hj;have:=inv.ne i j o o' d d' hi hj hij ho ho' hdst hdst' (hall i hi) (hall j hj);show Ne i j (a.tmps.getD (((ops[i]?).bind (·.dst)).getD 0) undef) (a.tmps.getD (((ops[j]?).bind (·.dst)).getD 0) undef);rw [ho,ho'];show Ne i j (a.tmps.getD (o.dst.getD 0) undef) (a.tmps.getD (o'.dst.getD 0) undef);rw [hdst,hdst'];exact this
def En (ops:Array Oper) (n:Nat):Bool:=(List.range n).all fun i=>match ops[i]? with|none=>false|some o=>o.after.all fun e=>!Region.binds .any e||decide (e.on<i)
def unl (n:Nat) (listed:Array Bool):Nat:=((List.range n).filter fun i=>!listed.getD i false).length
theorem Lf (hE:En ops n=true) {listed:Array Bool} (hsz:listed.size=ops.size) (hn:n≤ops.size):∀ k,k<n→(∀ j,j<k→listed.getD j false=true)→listed.getD k false=false→k∈Region.ready .any ops listed:=by
 intro k hk hall hun;unfold En at hE;rw [List.all_eq_true] at hE;have h1:=hE k (List.mem_range.2 hk);cases ho:ops[k]? with
 | none=>rw [ho] at h1;cases h1
 | some o=>
  rw [ho] at h1;refine mem_ready.2 ⟨?_,o,ho,fun e he hb=>?_⟩
  ·have:k<listed.size:=by omega
   rw [Array.getD_eq_getD_getElem?,Array.getElem?_eq_getElem this] at hun ⊢;exact hun
  ·have:=(Array.all_eq_true'.1 h1) e he;rw [Bool.or_eq_true] at this;rcases this with h|h
   ·rw [hb] at h;cases h
   ·exact hall _ (of_decide_eq_true h)
theorem Es (n:Nat) (listed:Array Bool):unl (n+1) listed=unl n listed+if listed.getD n false then 0 else 1:=by
 unfold unl;rw [List.range_succ,List.filter_append,List.length_append];cases h:listed.getD n false
 ·simp only [List.filter_cons,List.filter_nil,h,Bool.not_false,if_true,Bool.false_eq_true,if_false];rfl
 ·simp only [List.filter_cons,List.filter_nil,h,Bool.not_true,if_true,Bool.false_eq_true,if_false];rfl
theorem Q7:∀ (n:Nat) (listed:Array Bool) (i:Nat),n≤i→unl n (listed.setIfInBounds i true)=unl n listed
 | 0,_,_,_=>rfl
 | n+1,listed,i,h=>by
  rw [Es,Es,Q7 n listed i (by omega),getD_set_ne false (by omega)]
theorem Im:∀ (n:Nat) (listed:Array Bool) (i:Nat),i<n→i<listed.size→listed.getD i false=false→unl n (listed.setIfInBounds i true)+1=unl n listed
 | 0,_,_,h,_,_=>by omega
 | n+1,listed,i,h,hs,hu=>by
  rw [Es,Es];by_cases e:i=n
  ·subst e;rw [Q7 _ _ _ (Nat.le_refl _),hu];have:(listed.setIfInBounds i true).getD i false=true:=by simp [hs]
   rw [this];simp
  ·have:=Im n listed i (by omega) hs hu;rw [getD_set_ne false e];omega
theorem G5:∀ (n:Nat) (listed:Array Bool),unl n listed=0→∀ i,i<n→listed.getD i false=true
 | 0,_,_,_,h=>by omega
 | n+1,listed,h,i,hi=>by
  rw [Es] at h;by_cases e:i=n
  ·subst e;cases hb:listed.getD i false
   ·rw [hb] at h;simp at h
   ·rfl
  ·exact G5 n listed (by omega) i (by omega)
theorem I5:∀ (n:Nat) (listed:Array Bool),unl n listed≠0→∃ k,k<n∧listed.getD k false=false∧∀ j,j<k→listed.getD j false=true
 | 0,_,h=>absurd rfl h
 | n+1,listed,h=>by
  by_cases h0:unl n listed=0
  ·refine ⟨n,by omega,?_,G5 n listed h0⟩;rw [Es,h0] at h;cases hb:listed.getD n false
   ·rfl
   ·rw [hb] at h;simp at h
  ·obtain ⟨k,h1,h2,h3⟩:=I5 n listed h0;exact ⟨k,by omega,h2,h3⟩
theorem Uw {F:Nat→Value→World→Prop} {Ne:Nat→Nat→Value→Value→Prop} (hNe:∀ i j v u,Ne i j v u→Ne j i u v) (hF:∀ i v w w',F i v w→Ext w w'→F i v w') {a0:Act} {w1:World} {sz g:Nat} (hsz:a0.tmps.size=sz) (hd:E2 ops n sz=true) (hs:Region.sinkB .any ops n=true) (hc:Region.chainB .any ops n=true) (hn:n<ops.size) (hE:En ops n=true)
  (hop:∀ i,i<n→FOp P ops Q n F Ne a0 w1 i) (htail:∀ listed a w,HeadInv .any ops n listed→(∀ i,i<n→listed.getD i false=true)→FInvR ops n F Ne a0 w1 listed a w→wpAny P .any ops Q g listed a w) :
  ∀ (f:Nat) (listed:Array Bool) (a:Act) (w:World),HeadInv .any ops n listed→FInvR ops n F Ne a0 w1 listed a w→unl n listed=f→wpAny P .any ops Q (f+g) listed a w
 | 0,listed,a,w,inv,hI,hu=>by
  rw [Nat.zero_add];exact htail listed a w inv (G5 n listed hu) hI
 | f+1,listed,a,w,inv,hI,hu=>by
  obtain ⟨k,hk,hku,hkl⟩:=I5 n listed (by omega);have hkr:=Lf hE inv.size (by omega) k hk hkl hku;have hkt:=(mem_ready.1 hkr).1;rw [show f+1+g=(f+g)+1 by omega];refine ⟨fun h0=>(by rw [h0] at hkr;cases hkr),fun i hi=>?_⟩;have hin:i<n:=Nat.lt_of_not_le fun h=>tail_waits hs hc hn inv _ k rfl hk hkt i h hi
  have hiu:=(mem_ready.1 hi).1;have hil:i<listed.size:=by rw [inv.size];omega
  have hiu':listed.getD i false=false:=by
   rw [Array.getD_eq_getD_getElem?,Array.getElem?_eq_getElem hil] at hiu ⊢;exact hiu
  refine wpOp_mono (fun a' w' h=>Uw hNe hF hsz hd hs hc hn hE hop htail f _ a' w' (inv.set hi hin) h ?_) (U3 hNe hF hsz hd hI hi hin (hop i hin));have:=Im n listed i hin hil hiu';omega
def E4 (m n:Nat):Array Bool:=((List.range m).map fun i=>decide (i<n)).toArray
def Ux (ops:Array Oper) (n sz:Nat):Bool:=
 E2 ops n sz&&Region.sinkB .any ops n&&Region.chainB .any ops n&&decide (n<ops.size)&&En ops n&&Region.seqB .any ops (ops.size-n) n (E4 ops.size n)
theorem J7 {id:Nat} {l:List Oper} {a0:Act} {w:World} (n sz:Nat) (hm:P.follows .mixedOrders=true) (hB:Ux l.toArray n sz=true) (hsz:a0.tmps.size=sz) (F:Nat→Value→World→Prop) (Ne:Nat→Nat→Value→Value→Prop) (hNe:∀ i j v u,Ne i j v u→Ne j i u v) (hF:∀ i v w w',F i v w→Ext w w'→F i v w')
  (hop:∀ i,i<n→FOp P l.toArray Q n F Ne a0 w.drew i) (htail:∀ (vs:Nat→Value) (w':World),Ext w.drew w'→(∀ i,i<n→F i (vs i) w')→(∀ i j,i<n→j<n→i≠j→Ne i j (vs i) (vs j))→wpList P l.toArray Q (l.drop n) (Ba l.toArray vs n a0) w'):(Code.region id l.toArray true).wp P Q a0 w:=by
 simp only [Ux,Bool.and_eq_true,decide_eq_true_eq] at hB;obtain ⟨⟨⟨⟨⟨hd,hs⟩,hc⟩,hn⟩,hE⟩,hseq⟩:=hB;refine wp_region_any hm ?_;have inv0:HeadInv .any l.toArray n (Array.replicate l.toArray.size false):=
  ⟨by simp,fun j oj _ hl=>(by rw [getD_replicate_false] at hl;cases hl),fun t _ ht=>getD_in (by simpa using ht) (getD_replicate_false _ _)⟩
 have hI0:FInvR l.toArray n F Ne a0 w.drew (Array.replicate l.toArray.size false) a0 w.drew:=
  ⟨Ext.refl _,rfl,rfl,fun i o d _ _ _ hl=>(by rw [getD_replicate_false] at hl;cases hl),fun d _=>rfl,fun i j _ _ _ _ _ _ _ _ _ _ _ hl=>(by rw [getD_replicate_false] at hl;cases hl)⟩
 have hu:∀ m,unl m (Array.replicate l.toArray.size false)=m:=fun m=>by
  induction m with
  | zero=>rfl
  | succ m ih=>rw [Es,ih,getD_replicate_false];simp
 have H:=Uw (P:=P) (Q:=Q) (g:=(l.drop n).length) hNe hF hsz hd hs hc hn hE hop (fun listed a w' inv hall hI=>by
  obtain ⟨vs,rfl,hv,hne⟩:=U6 hsz hd hI hall;have hL:listed=E4 l.toArray.size n:=by
   apply Array.ext
   ·rw [inv.size];simp [E4]
   ·intro i h1 h2;have h3:(E4 l.toArray.size n)[i]=decide (i<n):=by simp [E4]
    rw [h3];by_cases hi:i<n
    ·have:=hall i hi;rw [Array.getD_eq_getD_getElem?,Array.getElem?_eq_getElem h1] at this;simp only [Option.getD_some] at this;rw [this];simp [hi]
    ·have:=inv.tail i (by omega) (by rw [← inv.size];exact h1);rw [Array.getD_eq_getD_getElem?,Array.getElem?_eq_getElem h1] at this;simp only [Option.getD_some] at this;rw [this];simp [hi]
  have hdl:l.toArray.size-n=(l.drop n).length:=by simp
  rw [hdl] at hseq;exact wpAny_of_seq (l.drop n) n listed _ w' (fun j=>by simp [List.getElem?_drop]) (by rw [hL];exact hseq) (htail vs w' hI.ext hv hne)) n _ a0 w.drew inv0 hI0 (hu n)
 have e:n+(l.drop n).length=l.toArray.size:=by
  have:n<l.length:=by simpa using hn
  simp;omega
 rw [e] at H;exact H
/-! ### As it is used -/
def Tq (ops:Array Oper) (n e:Nat):Bool:=(List.range n).all fun j=>match ops[j]? with|none=>true|some oj=>decide (oj.dst≠some e)
def Lu (ops:Array Oper) (n i j dj:Nat):Bool:=decide (j<n)&&(match ops[j]? with|some oj=>decide (oj.dst=some dj)|none=>false)&&Region.waitsFor .any ops i j
theorem Ar {F:Nat→Value→World→Prop} {Ne:Nat→Nat→Value→Value→Prop} {a0:Act} {w1:World} {i:Nat} (o:Oper) (d:Tmp) (h0:ops.toList[i]? = some o) (hd:o.dst=some d) (hg:o.guard=none)
  (H:∀ a w,Ext w1 w→(∀ j dj,Lu ops n i j dj=true→F j (a.tmps.getD dj undef) w)→(∀ e,Tq ops n e=true→a.tmps.getD e undef=a0.tmps.getD e undef)→
   o.wp P a w (fun a' w'=>∃ v,a'=a.put (some d) v∧Ext w w'∧F i v w'∧∀ j u,j<n→j≠i→F j u w→Ne i j v u) Q):FOp P ops Q n F Ne a0 w1 i:=by
 intro o' d' ho' hd' a w hE _ _ hdep hkeep;rw [← Array.getElem?_toList,h0] at ho';injection ho' with ho'
 subst ho';rw [hd] at hd';injection hd' with hd'
 subst hd';refine ⟨by simp [Region.wanted,hg],H a w hE (fun j dj h=>?_) (fun e h=>hkeep e fun j oj hj hoj=>?_)⟩
 ·unfold Lu at h;simp only [Bool.and_eq_true,decide_eq_true_eq] at h;obtain ⟨⟨hj,h1⟩,h2⟩:=h;cases hoj:ops[j]? with
  | none=>rw [hoj] at h1;cases h1
  | some oj=>
   rw [hoj] at h1;obtain ⟨oi,hoi,e,he,hb,hej⟩:=Region.waitsFor_spec h2;rw [← Array.getElem?_toList,h0] at hoi;injection hoi with hoi
   subst hoi;exact hdep j oj dj hj hoj (of_decide_eq_true h1) ⟨e,he,hb,hej⟩
 ·unfold Tq at h;rw [List.all_eq_true] at h;have:=h j (List.mem_range.2 hj);rw [hoj] at this
  simpa using this
theorem Cy {o:Oper} {a:Act} {w w':World} {v:Value} {next:Act→World→Prop} (h:(execOp a.eval o).run P w=.ok (.value v) w') (hk:next (a.put o.dst v) w'):o.wp P a w next Q:=by
 unfold Oper.wp;rw [h];exact hk
end
end Go.Proofs.YtaiogolidlamiaaGreatDoor
