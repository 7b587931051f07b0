import Derived.Test.YtaiogolidlamiaaGreatDoorM17
import Derived.Test.YtaiogolidlamiaaGreatDoorM02
set_option linter.unusedVariables false
set_option linter.unusedSimpArgs false
namespace Go.Proofs.YtaiogolidlamiaaGreatDoor
set_option maxRecDepth 100000
open Go.RowKit Go.Shelf
theorem Au {P:Program} {ops:Array Oper} {Q:Exit→Act→World→Prop} {C:World→Prop} {n i:Nat} {is:List (Nat × Bool)} {o:Oper} {v:Value} {a:Act} {w:World} (h0:ops.toList[i]? = some o) (hw:Region.wanted o (yielded ops a.tmps)=true) (hy:∀ W,C W→(execOp a.eval o).run P W=.ok (.value v) W)
  (h:Dt P ops Q C n is (a.put o.dst v) w):Dt P ops Q C n ((i,true)::is) a w:=D7 (by rw [← Array.getElem?_toList];exact h0) hw hy h
theorem Bz {P:Program} {ops:Array Oper} {Q:Exit→Act→World→Prop} {C:World→Prop} {n i:Nat} {is:List (Nat × Bool)} {o:Oper} {a:Act} {w:World} (h0:ops.toList[i]? = some o)
  (h:∀ K:Act→World→Prop,(∀ a' w',(i<n→C w')→Dt P ops Q C n is a' w'→K a' w')→if Region.wanted o (yielded ops a.tmps)=true then Oper.wp P o a w K Q else K (a.put o.dst undef) w):Dt P ops Q C n ((i,false)::is) a w:=Cg (by rw [← Array.getElem?_toList];exact h0) h
theorem I0 {P:Program} {o:Oper} {a:Act} (t:TypeId) (parts:Array (Nat × Operand)) (ho:o.op=.build t parts) {A:Array Value} (hb:P.built t (parts.map fun (i,x)=>(i,a.eval x)).toList=some A) (w:World):(execOp a.eval o).run P w=.ok (.value (.agg A)) w:=by
 unfold execOp;simp only [ho,Sem.run_bind,run_build w t _ A hb,Result.andThen_ok];rfl
theorem Gn {P:Program} {ops:Array Oper} {o:Oper} {a:Act} {w:World} {K:Act→World→Prop} {Q:Exit→Act→World→Prop} {E:Prop} (ty:TypeId) (x y:Operand) (ho:o.op=.store ty x y) (hgd:o.guard=none)
  (g:Nat) (cells:Array Value) (hx:a.eval x=.pointer (some ⟨g,0,none⟩)) (hy:a.eval y=.agg cells) (t:TypeId) (old:Array Value) (hg:w.heap[g]? = some (.cells old t (0,0))) (hi:(P.info? ty).map (·.size)=some cells.size)
  (hold:old.size=cells.size) (h1:cells.all (·.oneCell')=true) (h:K (a.put o.dst undef) (w.setRow g cells)):if Region.wanted o (yielded ops a.tmps)=true then Oper.wp P o a w K Q else E:=by
 have hw:Region.wanted o (yielded ops a.tmps)=true:=by simp [Region.wanted,hgd]
 rw [if_pos hw];exact wp_store_row ty x y ho g cells hx hy t old hg hi hold h1 h
theorem Agw (p q:Int):Tryz.prog.built 116 [(0,.int .i64 p),(1,.int .i64 q)]=some #[.int .i64 p,.int .i64 q,.int .u64 0]:=by kernel_rfl
def pNx (x y:Tbl) (s:Sta) (b:Nat):Sta:=⟨x.stp s.p b,y.stp s.q b,0⟩
def pAc (x y:Tbl) (g:Bool→Bool→Bool) (s:Sta):Bool:=g (x.ok s.p) (y.ok s.q)
def Mv (x y:Tbl) (s:Sta):Prop:=s.p<x.nxt.length∧s.q<y.nxt.length∧s.s=0
set_option maxHeartbeats 1000000 in
theorem Z5 (x y:Tbl) (hx:TVal x) (hy:TVal y) (A B:Array Value) (gx gy:Nat) (w:World) (hA:IsT w A x) (hB:IsT w B y) (hgx:w.heap[gx]? = some (.cells A 108 (0,0))) (hgy:w.heap[gy]? = some (.cells B 108 (0,0))) :
  Lo w 120 #[.pointer (some ⟨gx,0,none⟩),.pointer (some ⟨gy,0,none⟩)] (pNx x y) (Mv x y):=by
 intro W hW s hs b hb;obtain ⟨hp,hq,-⟩:=hs;obtain ⟨bn,on,cn,_,_,_,_,_,hAc,_,hA7,_,hRA,_⟩:=(hA.ext hW).opened hx;obtain ⟨bn',on',cn',_,_,_,_,_,hBc,_,hB7,_,hRB,_⟩:=(hB.ext hW).opened hy;have hgx:=hW.heap hgx;have hgy:=hW.heap hgy;have a7:=(cell_of_row W gx 257 _ _ _ hgx).trans hA7;have ac:=(cell_of_row W gx b _ _ _ hgx).trans (hAc b hb);have b7:=(cell_of_row W gy 257 _ _ _ hgy).trans hB7;have bc:=(cell_of_row W gy b _ _ _ hgy).trans (hBc b hb);obtain ⟨br,or',cr,ar1,ar2⟩:=hRA s.p hp;obtain ⟨br',or'',cr',br1,br2⟩:=hRB s.q hq;have ar3:=ar2 _ (hx.cell_lt b hb);have br3:=br2 _ (hy.cell_lt b hb);have hcx:=hx.cell_lt b hb;have hcy:=hy.cell_lt b hb;have hxs:x.ent2 s.p (x.cell b)=x.stp s.p b:=rfl;have hys:y.ent2 s.q (y.cell b)=y.stp s.q b:=rfl;rw [hxs] at ar3;rw [hys] at br3;show Calls _ _ _ _ fun e w'=>e=.returned (.agg #[iv (x.stp s.p b),iv (y.stp s.q b),.int .u64 ((0:Nat):Int)])∧Ext W w'
 have hE0:=((Ext.refl W).alloc (.cells #[iv s.p,iv s.q,.int .u64 (s.s:Int)] 116)).alloc (.cells #[.int .i64 0,.int .i64 0,.int .u64 0] 116);have H4:=Af (Ab W (.cells #[iv s.p,iv s.q,.int .u64 (s.s:Int)] 116)) (.cells #[.int .i64 0,.int .i64 0,.int .u64 0] 116);have H6:=heap_alloc2_new W (.cells #[iv s.p,iv s.q,.int .u64 (s.s:Int)] 116) (.cells #[.int .i64 0,.int .i64 0,.int .u64 0] 116);clear hA hB hx hy hAc hBc hA7 hB7 hRA hRB hxs hys ar2 br2 hgx hgy;generalize x.stp s.p b=p2 at *;generalize y.stp s.q b=q2 at *;generalize x.cell b=cx at *;generalize y.cell b=cy at *;have hbi:(b:Int)<256:=by omega
 generalize x.cells=mx at *;generalize y.cells=my at *;generalize x.nxt.length=nx at *;generalize y.nxt.length=ny at *;go_enter Tryz.func120,Tryz.ntmps120;go_upto_region 1 with (fail)
 obtain ⟨w1,hw1⟩:∃ V,(W.alloc (.cells #[iv s.p,iv s.q,.int .u64 (s.s:Int)] 116)).alloc (.cells #[.int .i64 0,.int .i64 0,.int .u64 0] 116)=V:=⟨_,rfl⟩;rw [hw1] at hE0 H4 H6;simp only [hw1];clear hw1;have a7:=hE0.cell a7;have ac:=hE0.cell ac;have b7:=hE0.cell b7;have bc:=hE0.cell bc;have ar1:=hE0.cell ar1;have ar3:=hE0.cell ar3;have br1:=hE0.cell br1;have br3:=hE0.cell br3;have c0:=(cell_of_row w1 W.heap.size 0 _ _ _ H4).trans (show (#[iv s.p,iv s.q,.int .u64 (s.s:Int)]:Array Value)[0]? = some (iv s.p) from rfl);have c1:=(cell_of_row w1 W.heap.size 1 _ _ _ H4).trans (show (#[iv s.p,iv s.q,.int .u64 (s.s:Int)]:Array Value)[1]? = some (iv s.q) from rfl);have hkeep:∀ V,Ext w1 V→V.cell? ⟨gx,257,none⟩=some (.slice (some ⟨bn,on,none⟩) nx cn)∧V.cell? ⟨gx,b,none⟩=some (iv cx)∧V.cell? ⟨gy,257,none⟩=some (.slice (some ⟨bn',on',none⟩) ny cn')∧V.cell? ⟨gy,b,none⟩=some (iv cy)∧
   V.cell? ⟨bn,on+s.p,none⟩=some (.slice (some ⟨br,or',none⟩) mx cr)∧V.cell? ⟨br,or'+cx,none⟩=some (iv p2)∧V.cell? ⟨bn',on'+s.q,none⟩=some (.slice (some ⟨br',or'',none⟩) my cr')∧V.cell? ⟨br',or''+cy,none⟩=some (iv q2)∧V.cell? ⟨W.heap.size,0,none⟩=some (iv s.p)∧V.cell? ⟨W.heap.size,1,none⟩=some (iv s.q):=
  fun V hV=>⟨hV.cell a7,hV.cell ac,hV.cell b7,hV.cell bc,hV.cell ar1,hV.cell ar3,hV.cell br1,hV.cell br3,hV.cell c0,hV.cell c1⟩
 clear a7 ac b7 bc ar1 ar3 br1 br3 c0 c1;have hb1:=Lib.hid (Agw (p2:Int) (q2:Int));refine Cr 25 [(0,true),(1,true),(2,true),(3,true),(4,true),(5,true),(6,true),(7,true),(8,true),(9,true),(10,true),(11,true),(12,true),(13,true),(14,true),(15,true),(16,true),(17,true),(18,true),(19,true),(20,true),(21,true),(22,true),(23,true),(24,true),(25,false)] (by kernel_rfl) (by kernel_rfl) (fun _ _ _ _ h=>h)
  (fun V=>Ext w1 V) (Ext.refl w1).drew ?_
 have hE1:=(Ext.refl w1).drew;have H6':=hE1.heap H6;obtain ⟨w2,hw2⟩:∃ V,w1.drew=V:=⟨_,rfl⟩;rw [hw2] at hE1 H6';rw [hw2];clear hw2 H4 H6;iterate 24
  refine Au (v:=?_) rfl rfl (fun V hV=>?_) ?_
  rotate_left
  ·obtain ⟨k0,k1,k2,k3,k4,k5,k6,k7,k8,k9⟩:=hkeep V hV;clear hV;go_simp;first|done|with_reducible rfl
  simp only [Act.put,List.setIfInBounds_toArray,List.set_cons_zero,List.set_cons_succ]
 refine Au (v:=.agg #[iv p2,iv q2,.int .u64 0]) rfl rfl (fun V _=>?_) ?_
 ·exact I0 116 _ rfl (by simpa [Act.eval] using hb1.out) V
 simp only [Act.put,List.setIfInBounds_toArray,List.set_cons_zero,List.set_cons_succ];refine Bz rfl (fun K hK=>?_);refine Gn 116 (.tmp 6) (.tmp 31) rfl rfl _ _ rfl rfl _ _ H6' C4 rfl (by simp [Value.oneCell']) ?_;refine hK _ _ (fun h=>absurd h (by omega)) ?_;clear hK K;refine Cu ?_;have hE2:=(hE0.trans hE1).setRow (show W.heap.size≤W.heap.size+1 by omega) #[iv p2,iv q2,.int .u64 0];have H7:=setRow_heap w2 _ _ #[iv p2,iv q2,.int .u64 0] 116 (0,0) H6';go_wp2;refine bodyPost_ret (v:=.agg #[iv p2,iv q2,.int .u64 0]) (results_cell_row rfl _ _ _ _ _ _ _ rfl H7 Tryz.underlying116 rfl C4) rfl ?_;exact ⟨rfl,hE2⟩
def Ji (gh:Nat) (g:Bool→Bool→Bool):Prop:=∀ (W:World) (x y:Bool),Calls Tryz.prog gh #[.bool x,.bool y] W fun e w'=>e=.returned (.bool (g x y))∧Ext W w'
set_option maxHeartbeats 1000000 in
theorem Zt (x y:Tbl) (hx:TVal x) (hy:TVal y) (A B:Array Value) (gx gy g5:Nat) (gh:Nat) (g:Bool→Bool→Bool) (hg:Ji gh g) (eh:∀ args w,(callFunc gh args).run Tryz.prog w=.ok (.enter gh args) w) (w:World) (hA:IsT w A x) (hB:IsT w B y)
  (hgx:w.heap[gx]? = some (.cells A 108 (0,0))) (hgy:w.heap[gy]? = some (.cells B 108 (0,0))) (hg5:w.heap[g5]? = some (.cells #[.func (.func gh) #[] #[]] 126 (0,0))) :
  Ll w 121 #[.pointer (some ⟨g5,0,none⟩),.pointer (some ⟨gx,0,none⟩),.pointer (some ⟨gy,0,none⟩)] (pAc x y g) (Mv x y):=by
 intro W hW s hs;obtain ⟨hp,hq,-⟩:=hs;obtain ⟨_,_,_,ba,oa,ca,_,_,_,_,_,hA8,_,haA⟩:=(hA.ext hW).opened hx;obtain ⟨_,_,_,ba',oa',ca',_,_,_,_,_,hB8,_,haB⟩:=(hB.ext hW).opened hy;have hgx:=hW.heap hgx;have hgy:=hW.heap hgy;have a8:=(cell_of_row W gx 258 _ _ _ hgx).trans hA8;have b8:=(cell_of_row W gy 258 _ _ _ hgy).trans hB8;have f5:=(cell_of_row W g5 0 _ _ _ (hW.heap hg5)).trans (show (#[.func (.func gh) #[] #[]]:Array Value)[0]? = some (.func (.func gh) #[] #[]) from rfl);have aa:=haA s.p hp;have bb:=haB s.q hq;show Calls _ _ _ _ fun e w'=>e=.returned (.bool (g (x.ok s.p) (y.ok s.q)))∧Ext W w'
 have hE0:=(Ext.refl W).alloc (.cells #[iv s.p,iv s.q,.int .u64 (s.s:Int)] 116);have H4:=Ab W (.cells #[iv s.p,iv s.q,.int .u64 (s.s:Int)] 116);clear hA hB hx hy hA8 hB8 haA haB hgx hgy hg5;generalize x.ok s.p=p2 at *;generalize y.ok s.q=q2 at *;generalize x.nxt.length=nx at *;generalize y.nxt.length=ny at *;have HG:=Lib.hid (fun V x y=>hg V x y);clear hg;go_enter Tryz.func121,Tryz.ntmps121;go_upto_region 1 with (fail)
 obtain ⟨w1,hw1⟩:∃ V,W.alloc (.cells #[iv s.p,iv s.q,.int .u64 (s.s:Int)] 116)=V:=⟨_,rfl⟩;rw [hw1] at hE0 H4;simp only [hw1];clear hw1;have a8:=hE0.cell a8;have b8:=hE0.cell b8;have f5:=hE0.cell f5;have aa:=hE0.cell aa;have bb:=hE0.cell bb;have c0:=(cell_of_row w1 W.heap.size 0 _ _ _ H4).trans (show (#[iv s.p,iv s.q,.int .u64 (s.s:Int)]:Array Value)[0]? = some (iv s.p) from rfl);have c1:=(cell_of_row w1 W.heap.size 1 _ _ _ H4).trans (show (#[iv s.p,iv s.q,.int .u64 (s.s:Int)]:Array Value)[1]? = some (iv s.q) from rfl);have hkeep:∀ V,Ext w1 V→V.cell? ⟨gx,258,none⟩=some (.slice (some ⟨ba,oa,none⟩) nx ca)∧V.cell? ⟨gy,258,none⟩=some (.slice (some ⟨ba',oa',none⟩) ny ca')∧V.cell? ⟨g5,0,none⟩=some (.func (.func gh) #[] #[])∧
   V.cell? ⟨ba,oa+s.p,none⟩=some (.bool p2)∧V.cell? ⟨ba',oa'+s.q,none⟩=some (.bool q2)∧V.cell? ⟨W.heap.size,0,none⟩=some (iv s.p)∧V.cell? ⟨W.heap.size,1,none⟩=some (iv s.q):=
  fun V hV=>⟨hV.cell a8,hV.cell b8,hV.cell f5,hV.cell aa,hV.cell bb,hV.cell c0,hV.cell c1⟩
 clear a8 b8 f5 aa bb c0 c1;refine Cr 14 [(0,true),(1,true),(2,true),(3,true),(4,true),(5,true),(6,true),(7,true),(8,true),(9,true),(10,true),(11,true),(12,true),(13,false),(14,false)] (by kernel_rfl) (by kernel_rfl) (fun _ _ _ _ h=>h)
  (fun V=>Ext w1 V) (Ext.refl w1).drew ?_
 have hE1:=(Ext.refl w1).drew;obtain ⟨w2,hw2⟩:∃ V,w1.drew=V:=⟨_,rfl⟩;rw [hw2] at hE1;rw [hw2];clear hw2 H4;iterate 13
  refine Au (v:=?_) rfl rfl (fun V hV=>?_) ?_
  rotate_left
  ·obtain ⟨k0,k1,k2,k3,k4,k5,k6⟩:=hkeep V hV;clear hV;go_simp;first|done|with_reducible rfl
  simp only [Act.put,List.setIfInBounds_toArray,List.set_cons_zero,List.set_cons_succ]
 refine Bz rfl (fun K hK=>?_);go_simp
 (with_reducible refine (HG.out w2 p2 q2).mono ?_)
 rintro e w3 ⟨rfl,hE3⟩;refine hK _ _ (fun _=>hE1.trans hE3) ?_;clear hK K;refine Bz rfl (fun K hK=>?_);go_simp;refine hK _ _ (fun h=>absurd h (by omega)) ?_;clear hK K;refine Cu ?_;have hE4:=(hE0.trans hE1).trans hE3;go_wp2;go_ret;exact ⟨rfl,hE4⟩
set_option maxHeartbeats 1000000 in
theorem Aax:Ji 79 (fun x y=>x||y):=by
 intro W x y;go_enter Tryz.func79,Tryz.ntmps79;cases x<;>cases y
 all_goals
  go_wp2;go_ret;exact ⟨rfl,Ext.refl W⟩
set_option maxHeartbeats 1000000 in
theorem Ahn:Ji 80 (fun x y=>x&&y):=by
 intro W x y;go_enter Tryz.func80,Tryz.ntmps80;cases x<;>cases y
 all_goals
  go_wp2;go_ret;exact ⟨rfl,Ext.refl W⟩
def Mr (w0:World) (n0:Nat) (va vb:Array Value) (a b:Dfa):Nat→Value→World→Prop
 | 0,v,_=>v=.agg va
 | 1,v,_=>∃ A,v=.agg A∧IsT w0 A (Ae a)
 | 2,v,_=>v=.agg vb
 | 3,v,_=>∃ B,v=.agg B∧IsT w0 B (Ae b)
 | _,v,W=>∃ g,v=.pointer (some ⟨g,0,none⟩)∧W.heap[g]? = some (.cells Tryz.zeroCells108 108 (0,0))∧n0≤g
def Mq (i j:Nat) (v u:Value):Prop:=(i=4∧j=5∨i=5∧j=4)→v≠u
theorem Zw (i j:Nat) (v u:Value) (h:Mq i j v u):Mq j i u v:=fun hij=>(h (by omega)).symm
theorem Zx (w0:World) (n0:Nat) (va vb:Array Value) (a b:Dfa):∀ (i:Nat) (v:Value) (w w':World),Mr w0 n0 va vb a b i v w→Ext w w'→Mr w0 n0 va vb a b i v w'
 | 0,_,_,_,h,_=>h
 | 1,_,_,_,h,_=>h
 | 2,_,_,_,h,_=>h
 | 3,_,_,_,h,_=>h
 | _+4,_,_,_,⟨g,h1,h2,h3⟩,hE=>⟨g,h1,hE.heap h2,h3⟩
theorem Mw (x y:Tbl):∀ (w:List UInt8) (p q:Nat),Ar (pNx x y) ⟨p,q,0⟩ w=⟨x.run p w,y.run q w,0⟩
 | [],_,_=>rfl
 | b::w,p,q=>Mw x y w (x.stp p b.toNat) (y.stp q b.toNat)
theorem Ext.setRow_both {a b:World} (h:Ext a b) {g:Nat} {old:Array Value} {e:TypeId} {fr:Nat × Nat} (hg:a.heap[g]? = some (.cells old e fr)) (cs:Array Value):Ext (a.setRow g cs) (b.setRow g cs):=by
 have hb:=h.heap hg;refine ⟨⟨h.below.os,h.below.tape,h.below.output,by rw [size_setRow,size_setRow];exact h.size,fun k hk=>?_⟩⟩;rw [size_setRow] at hk;by_cases e':k=g
 ·subst e';rw [setRow_heap b k old cs e fr hb,setRow_heap a k old cs e fr hg]
 ·rw [setRow_other b g k cs e',setRow_other a g k cs e'];exact h.block hk
def Lf (n m:Nat):List Sta:=(box n m).map fun p=>⟨p.1,p.2,0⟩
theorem U5 (n m:Nat):(Lf n m).length=n*m:=by rw [Lf,List.length_map,Jb]
theorem Rd {x y:Tbl} (hx:TVal x) (hy:TVal y) (w:List UInt8):Ar (pNx x y) ⟨0,0,0⟩ w∈Lf x.nxt.length y.nxt.length:=by
 rw [Mw];exact List.mem_map.2 ⟨(x.run 0 w,y.run 0 w),Ja (hx.run_lt w hx.pos) (hy.run_lt w hy.pos),rfl⟩
theorem Zv {x y:Tbl} (hx:TVal x) (hy:TVal y) {c:Nat→Nat} {bs:List Nat} (hj:Joint x.cell y.cell c bs) {g:Bool→Bool→Bool} {l:List Sta} {t:Tbl} (h:Expl c bs ⟨0,0,0⟩ (pNx x y) (pAc x y g) l t) :
  TVal t∧t.nxt.length≤x.nxt.length*y.nxt.length∧∀ u,t.has u=g (x.has u) (y.has u):=by
 refine ⟨h.tval hj,?_,fun u=>?_⟩
 ·rw [h.len,← U5];refine C2 l _ h.nodup fun s hs=>?_
  obtain ⟨i,hi⟩:=List.getElem?_of_mem hs;obtain ⟨w,rfl⟩:=h.reach i s hi;exact Rd hx hy w
 ·rw [h.has hj (fun s k hk=>?_) u,Mw]
  ·rfl
  ·obtain ⟨_,h1,h2⟩:=hj.rep k hk;unfold pNx Tbl.stp;rw [h1,h2]
set_option maxHeartbeats 1000000 in
theorem Zu (a b:Dfa) (ha:Val a) (hb:Val b) (hna:a.nxt.length≤64) (hnb:b.nxt.length≤64) (gh:Nat) (g:Bool→Bool→Bool) (hg:Ji gh g) (eh:∀ args w,(callFunc gh args).run Tryz.prog w=.ok (.enter gh args) w) (va vb:Value) (w:World) (hT:Tab w) (hsz:0<w.heap.size) (hva:IsD w va a) (hvb:IsD w vb b) :
  Calls Tryz.prog 85 #[va,vb,.func (.func gh) #[] #[]] w fun e w'=>∃ A t,e=.returned (.agg A)∧IsT w' A t∧TVal t∧t.nxt.length≤4096∧(∀ u,t.has u=g (a.has u) (b.has u))∧Ext w w':=by
 have HDa:=Lib.hid hva;have HDb:=Lib.hid hvb;have HVa:=Lib.hid ha;have HVb:=Lib.hid hb;have HG:=Lib.hid hg;obtain ⟨ac,lc,cc,an,cn,aa,la,ca,rfl⟩:=hva.agg;obtain ⟨ac',lc',cc',an',cn',aa',la',ca',rfl⟩:=hvb.agg;have f68a:=fun W (hW:Ext w W)=>Lib.hid (Hz a ha _ w W hW (hT.below hW.below hsz) (Nat.lt_of_lt_of_le hsz hW.size) HDa.out)
 have f68b:=fun W (hW:Ext w W)=>Lib.hid (Hz b hb _ w W hW (hT.below hW.below hsz) (Nat.lt_of_lt_of_le hsz hW.size) HDb.out)
 obtain ⟨Va,hVa⟩:∃ X,dA (.slice ac lc cc) (.slice an a.nxt.length cn) (.slice aa la ca)=X:=⟨_,rfl⟩;obtain ⟨Vb,hVb⟩:∃ X,dA (.slice ac' lc' cc') (.slice an' b.nxt.length cn') (.slice aa' la' ca')=X:=⟨_,rfl⟩;have hiVa:(Tryz.prog.info? 30).map (·.size)=some Va.size:=by rw [← hVa];exact Ad
 have hiVb:(Tryz.prog.info? 30).map (·.size)=some Vb.size:=by rw [← hVb];exact Ad
 rw [hVa] at f68a HDa;rw [hVb] at f68b HDb;rw [hVa,hVb];have hE0:=((((Ext.refl w).alloc (.cells Va 30)).alloc (.cells Vb 30)).alloc (.cells #[.func (.func gh) #[] #[]] 126)).alloc (.cells Tryz.zeroCells108 108);have H3:=Af (Af (Af (Ab w (.cells Va 30)) (.cells Vb 30)) (.cells #[.func (.func gh) #[] #[]] 126)) (.cells Tryz.zeroCells108 108);have H4:=Af (Af (heap_alloc2_new w (.cells Va 30) (.cells Vb 30)) (.cells #[.func (.func gh) #[] #[]] 126)) (.cells Tryz.zeroCells108 108);have H5:=Af (Ab ((w.alloc (.cells Va 30)).alloc (.cells Vb 30)) (.cells #[.func (.func gh) #[] #[]] 126)) (.cells Tryz.zeroCells108 108);have H6:=Ab (((w.alloc (.cells Va 30)).alloc (.cells Vb 30)).alloc (.cells #[.func (.func gh) #[] #[]] 126)) (.cells Tryz.zeroCells108 108);rw [World.size_alloc,World.size_alloc] at H5;rw [World.size_alloc,World.size_alloc,World.size_alloc] at H6;clear hva hvb ha hb hg hT hVa hVb;go_enter Tryz.func85,Tryz.ntmps85;go_upto_region 1 with (fail)
 obtain ⟨w1,hw1⟩:∃ W,(((w.alloc (.cells Va 30)).alloc (.cells Vb 30)).alloc (.cells #[.func (.func gh) #[] #[]] 126)).alloc (.cells Tryz.zeroCells108 108)=W:=⟨_,rfl⟩;have hs1:w.heap.size+1+1+1<w1.heap.size:=by rw [← hw1,World.size_alloc,World.size_alloc,World.size_alloc,World.size_alloc];omega
 rw [hw1] at hE0 H3 H4 H5 H6;simp only [hw1];clear hw1;have HB3:=Lib.hid H3;have HB4:=Lib.hid H4;have HB5:=Lib.hid H5;have HB6:=Lib.hid H6;clear H3 H4 H5 H6;refine Jk 6 35 (by kernel_rfl) (by kernel_rfl) rfl (Mr w w1.heap.size Va Vb a b) Mq Zw (Zx w w1.heap.size Va Vb a b) (fun i hi=>?_) (fun vs w2 hE2 hF hN=>?_)
 ·have hd1:=(Ext.refl w1).drew
  match i,hi with
  | 0,_=>
   refine At _ _ rfl rfl rfl fun c W hW hdep hkeep=>?_
   have h3:=hkeep 3 (by kernel_rfl);refine C7 (Eo 30 (.tmp 3) rfl w.heap.size h3 _ _ _ _ ((hd1.trans hW).heap HB3.out) Tryz.underlying30 rfl hiVa) ?_;exact ⟨_,rfl,Ext.refl W,rfl,fun j u _ _ _ h=>by omega⟩
  | 2,_=>
   refine At _ _ rfl rfl rfl fun c W hW hdep hkeep=>?_
   have h3:=hkeep 4 (by kernel_rfl);refine C7 (Eo 30 (.tmp 4) rfl (w.heap.size+1) h3 _ _ _ _ ((hd1.trans hW).heap HB4.out) Tryz.underlying30 rfl hiVb) ?_;exact ⟨_,rfl,Ext.refl W,rfl,fun j u _ _ _ h=>by omega⟩
  | 1,_=>
   refine At _ _ rfl rfl rfl fun c W hW hdep hkeep=>?_
   have h14:c.tmps.getD 14 undef=.agg Va:=hdep 0 14 (by kernel_rfl);go_simp
   (with_reducible refine (f68a W (hE0.trans (hd1.trans hW))).out.mono ?_)
   rintro e W' ⟨A,rfl,hA,hE⟩;exact ⟨_,rfl,hE,⟨A,rfl,hA⟩,fun j u _ _ _ h=>by omega⟩
  | 3,_=>
   refine At _ _ rfl rfl rfl fun c W hW hdep hkeep=>?_
   have h16:c.tmps.getD 16 undef=.agg Vb:=hdep 2 16 (by kernel_rfl);go_simp
   (with_reducible refine (f68b W (hE0.trans (hd1.trans hW))).out.mono ?_)
   rintro e W' ⟨A,rfl,hA,hE⟩;exact ⟨_,rfl,hE,⟨A,rfl,hA⟩,fun j u _ _ _ h=>by omega⟩
  | 4,_=>
   refine At _ _ rfl rfl rfl fun c W hW hdep hkeep=>?_
   go_simp;refine ⟨_,rfl,(Ext.refl W).alloc _,⟨_,rfl,Ab W _,(hd1.trans hW).size⟩,fun j u _ _ hu h=>?_⟩;obtain rfl:j=5:=by omega
   obtain ⟨g',rfl,hg',-⟩:=hu;intro e;have:W.heap.size=g':=by simpa using e
   have:=Al hg';omega
  | 5,_=>
   refine At _ _ rfl rfl rfl fun c W hW hdep hkeep=>?_
   go_simp;refine ⟨_,rfl,(Ext.refl W).alloc _,⟨_,rfl,Ab W _,(hd1.trans hW).size⟩,fun j u _ _ hu h=>?_⟩;obtain rfl:j=4:=by omega
   obtain ⟨g',rfl,hg',-⟩:=hu;intro e;have:W.heap.size=g':=by simpa using e
   have:=Al hg';omega
 ·obtain ⟨A,hA,hAT⟩:=hF 1 (by omega);obtain ⟨B,hB,hBT⟩:=hF 3 (by omega);obtain ⟨g7,h7,H7,hl7⟩:=hF 4 (by omega);obtain ⟨g8,h8,H8,hl8⟩:=hF 5 (by omega);have h78:g7≠g8:=fun e=>hN 4 5 (by omega) (by omega) (by omega) (by omega) (by rw [h7,h8,e])
  have hE3:=(Ext.refl w1).drew.trans hE2;have hF0:vs 0=.agg Va:=hF 0 (by omega);have hF2:vs 2=.agg Vb:=hF 2 (by omega);simp only [Bi,List.drop_succ_cons,List.drop_zero,hA,hB,h7,h8,hF0,hF2,List.getElem?_toArray,List.getElem?_cons_zero,List.getElem?_cons_succ,Option.bind_some,Act.put,List.setIfInBounds_toArray,List.set_cons_zero,List.set_cons_succ];clear hF hN hA hB h7 h8 hF0 hF2;obtain ⟨_,_,_,_,_,_,hAs,hAo,_⟩:=hAT.opened (Bf HVa.out);obtain ⟨_,_,_,_,_,_,hBs,hBo,_⟩:=hBT.opened (Bf HVb.out);have hiA:(Tryz.prog.info? 108).map (·.size)=some A.size:=by rw [hAs];exact Bw
  have hiB:(Tryz.prog.info? 108).map (·.size)=some B.size:=by rw [hBs];exact Bw
  have hzA:Tryz.zeroCells108.size=A.size:=by rw [Cj,hAs]
  have hzB:Tryz.zeroCells108.size=B.size:=by rw [Cj,hBs]
  have H8':=Bq H8 (Ne.symm h78) A;have hE4:=((hE3.setRow hl7 A).setRow hl8 B);have G7:=Bq (setRow_heap w2 g7 _ A _ _ H7) h78 B;have G8:=setRow_heap (w2.setRow g7 A) g8 _ B _ _ H8';clear hAs hBs;go_upto_region 2 with (first
   | (refine wpList_store_row rfl 108 (.tmp 7) (.tmp 15) rfl _ _ rfl rfl _ _ H7 hiA hzA hAo ?_)
   | (refine wpList_store_row rfl 108 (.tmp 8) (.tmp 17) rfl _ _ rfl rfl _ _ H8' hiB hzB hBo ?_))
  obtain ⟨w3,hw3⟩:∃ W,(w2.setRow g7 A).setRow g8 B=W:=⟨_,rfl⟩;rw [hw3] at hE4 G7 G8;simp only [hw3];clear hw3 hE3 H7 H8 H8' hzA hzB hE2;have hE5:=hE0.trans hE4;have HAT:=Lib.hid (hAT.ext hE5);have HBT:=Lib.hid (hBT.ext hE5);have HG7:=Lib.hid G7;have HG8:=Lib.hid G8;have hJ:=Lib.hid (Nt (Ae a) (Ae b) (Bf HVa.out) (Bf HVb.out) A B w3 HAT.out HBT.out);have hz77:∀ c,Tryz.zeroCells77.size=(Bm c).size:=fun c=>by rw [Hr,Dx,Dx]
  have hi77:∀ c,(Tryz.prog.info? 77).map (·.size)=some (Bm c).size:=fun c=>by rw [Dx];exact Ir
  clear hAT hBT G7 G8;go_upto_region 3 with (first
   | (refine wpList_load_row rfl 108 (.tmp 7) rfl _ rfl _ _ _ _ HG7.out Tryz.underlying108 rfl hiA ?_)
   | (refine wpList_load_row rfl 108 (.tmp 8) rfl _ rfl _ _ _ _ HG8.out Tryz.underlying108 rfl hiB ?_)
   | (go_at_call 70;(with_reducible refine hJ.out.mono ?_);rintro e w4 ⟨c,bs,vj,rfl,hjo,hib,hE6⟩;have hzc:=hz77 c;have hic:=hi77 c;have hoc:=K7 c;obtain ⟨A9,hA9⟩:∃ X,Bm c=X:=⟨_,rfl⟩;rw [hA9] at hzc hic hoc;rw [hA9])
   | (refine wpList_store_row rfl 77 (.tmp 9) (.tmp 22) rfl _ _ rfl rfl _ _ (Ab w4 (.cells Tryz.zeroCells77 77)) hic hzc hoc ?_))
  have hE7:=hE6.trans (((Ext.refl w4).alloc (.cells Tryz.zeroCells77 77)).setRow (Nat.le_refl _) A9);have H9:=setRow_heap (w4.alloc (.cells Tryz.zeroCells77 77)) w4.heap.size _ A9 _ _ (Ab w4 _);have hib5:=hib.ext (((Ext.refl w4).alloc (.cells Tryz.zeroCells77 77)).setRow (Nat.le_refl _) A9);obtain ⟨w5,hw5⟩:∃ W,(w4.alloc (.cells Tryz.zeroCells77 77)).setRow w4.heap.size A9=W:=⟨_,rfl⟩;rw [hw5] at hE7 H9 hib5;simp only [hw5];clear hw5 hE6 hib hz77 hi77 hJ;have HG9:=Lib.hid H9;have HJO:=Lib.hid hjo;have HA9:=Lib.hid hA9;clear H9 hjo hA9 hzc hoc;generalize w4.heap.size=g9 at *;have hm0:0<bs.length:=by have:=HJO.out.lt 0 (by omega);omega
  have hm1:bs.length≤256:=by
   have:=Gv c 256 bs.length (fun j hj=>⟨bs.getD j 0,(HJO.out.byte j hj).1,(HJO.out.byte j hj).2⟩);exact this
  have hE8:=hE5.trans hE7;have HAT5:=Lib.hid (HAT.out.ext hE7);have HBT5:=Lib.hid (HBT.out.ext hE7);have H57:=hE7.heap HG7.out;have H58:=hE7.heap HG8.out;have H55:=(hE4.trans hE7).heap HB5.out;have HNX:=Lib.hid (Z5 (Ae a) (Ae b) (Bf HVa.out) (Bf HVb.out) A B g7 g8 w5 HAT5.out HBT5.out H57 H58);have HTX:=Lib.hid (Zt (Ae a) (Ae b) (Bf HVa.out) (Bf HVb.out) A B g7 g8 (w.heap.size+1+1) gh g HG.out eh w5 HAT5.out HBT5.out H57 H58 H55);have hX:=Lib.hid (N7 c bs hm0 hm1 (fun k hk=>(HJO.out.byte k hk).1) ⟨0,0,0⟩ (pNx (Ae a) (Ae b)) (pAc (Ae a) (Ae b) g) (Mv (Ae a) (Ae b))
   (fun x hx=>⟨by have:=hx.1;have:x.p<a.nxt.length:=this;omega,by have:=hx.2.1;have:x.q<b.nxt.length:=this;omega,by rw [hx.2.2];omega⟩) ⟨HVa.out.pos,HVb.out.pos,rfl⟩
   (fun x hx k hk=>⟨(Bf HVa.out).stp_lt hx.1 hk,(Bf HVb.out).stp_lt hx.2.1 hk,rfl⟩) 1073741824 (by omega) (by omega) 120 121 _ _ (enters_of Tryz.func120 (by kernel_rfl) rfl) (enters_of Tryz.func121 (by kernel_rfl) rfl) vj w5 hib5 HNX.out HTX.out)
  rw [HA9.out] at hX;clear H57 H58 H55 hib5;have hX':Hid (Calls Tryz.prog 74 #[.agg A9,vj,.agg #[.int .i64 0,.int .i64 0,.int .u64 0],.func (.func 120) #[] #[.pointer (some ⟨g7,0,none⟩),.pointer (some ⟨g8,0,none⟩)],.func (.func 121) #[] #[.pointer (some ⟨w.heap.size+1+1,0,none⟩),.pointer (some ⟨g7,0,none⟩),.pointer (some ⟨g8,0,none⟩)],.int .i64 1073741824] w5 fun e w'=>
    ∃ A t,e=.returned (.tuple #[.agg A,.bool true])∧(IsT w' A t∧∀ g cs,g<w5.heap.size→IsT (w'.setRow g cs) A t)∧TVal t∧t.nxt.length≤4096∧(∀ u,t.has u=g (a.has u) (b.has u))∧Ext w5 w'):=Lib.hid (Calls.mono hX.out fun e w' ⟨hE,h⟩=>by
   have hle:a.nxt.length*b.nxt.length≤4096:=Nat.mul_le_mul hna hnb;rcases h with ⟨A,l,t,he,hT,hX,_,hTg,_⟩|⟨hM,_⟩
   ·obtain ⟨h1,h2,h3⟩:=Zv (Bf HVa.out) (Bf HVb.out) HJO.out hX;exact ⟨A,t,he,⟨hT,hTg⟩,h1,Nat.le_trans h2 hle,fun u=>by rw [h3,Da,Da],hE⟩
   ·exact absurd hM (Il (Lf a.nxt.length b.nxt.length) (fun u=>Rd (Bf HVa.out) (Bf HVb.out) u) (by rw [U5];omega)))
  clear hX;have hBz:Tryz.prog.built 116 []=some #[.int .i64 0,.int .i64 0,.int .u64 0]:=by kernel_rfl
  have HBz:=Lib.hid hBz;clear hBz;have HB6':=Lib.hid ((hE4.trans hE7).heap HB6.out);have i77':(Tryz.prog.info? 77).map (·.size)=some A9.size:=hic;go_upto_region 5 with (first
   | (refine wpList_load_row rfl 77 (.tmp 9) rfl _ rfl _ _ _ _ HG9.out Tryz.underlying77 rfl i77' ?_)
   | (refine Cd rfl 116 _ rfl #[.int .i64 0,.int .i64 0,.int .u64 0] ?_ ?_;(simp;with_reducible exact HBz.out))
   | (go_at_call 74;(with_reducible refine hX'.out.mono ?_);rintro e w6 ⟨AT,t,rfl,⟨hIT,hITg⟩,htv,htn,hhas,hE9⟩;obtain ⟨_,_,_,_,_,_,hTs,hTo,_⟩:=hIT.opened htv;have hiT:(Tryz.prog.info? 108).map (·.size)=some AT.size:=(by rw [hTs];exact Bw);have hzT:Tryz.zeroCells108.size=AT.size:=(by rw [Cj,hTs]);clear hTs)
   | (refine wpList_store_row rfl 108 (.tmp 12) (.tmp 32) rfl _ _ rfl rfl _ _ (Ab w6 (.cells Tryz.zeroCells108 108)) hiT hzT hTo ?_))
  have hE10:=((Ext.refl w6).alloc (.cells Tryz.zeroCells108 108)).setRow (Nat.le_refl _) AT;have H10:=setRow_heap (w6.alloc (.cells Tryz.zeroCells108 108)) w6.heap.size _ AT _ _ (Ab w6 _);obtain ⟨w7,hw7⟩:∃ W,(w6.alloc (.cells Tryz.zeroCells108 108)).setRow w6.heap.size AT=W:=⟨_,rfl⟩;rw [hw7] at hE10 H10;simp only [hw7];clear hw7;have HB66:=hE9.heap HB6'.out;have hfin:=(hITg (w.heap.size+1+1+1) AT (Al HB6'.out)).ext (hE10.setRow_both HB66 AT);have HB67:=Lib.hid (hE10.heap HB66);have HG10:=Lib.hid H10;have hEf:=(((hE8.trans hE9).trans hE10)).setRow (show w.heap.size≤w.heap.size+1+1+1 by omega) AT;clear hIT hITg HB66 H10;go_wp2_with (first
   | (refine wpList_load_row rfl 108 (.tmp 12) rfl _ rfl _ _ _ _ HG10.out Tryz.underlying108 rfl hiT ?_)
   | (refine wpList_store_row rfl 108 (.tmp 6) (.tmp 34) rfl _ _ rfl rfl _ _ HB67.out hiT hzT hTo ?_))
  refine bodyPost_ret (v:=.agg AT) (results_cell_row rfl _ _ _ _ _ _ _ rfl (setRow_heap w7 _ _ AT 108 (0,0) HB67.out) Tryz.underlying108 rfl hiT) rfl ?_;exact ⟨AT,t,rfl,hfin,htv,htn,hhas,hEf⟩
theorem Dn {P:Program} {ops:Array Oper} {rest:List Oper} {o:Oper} {a:Act} {w:World} {Q:Exit→Act→World→Prop} (hw:Region.wanted o (yielded ops a.tmps)=true) (h:o.wp P a w (wpList P ops Q rest) Q):wpList P ops Q (o::rest) a w:=by
 show if _ then _ else _
 rw [if_pos hw];exact .inl h
theorem ResOf.form {W:World} {e:Ending} {r:Option Dfa} (h:ResOf W e r):∃ ac lc cc an ln cn aa la ca k,e=.returned (.tuple #[.agg (dA (.slice ac lc cc) (.slice an ln cn) (.slice aa la ca)),.int .i64 k]):=by
 cases r with
 | none=>exact ⟨none,0,0,none,0,0,none,0,0,2,h⟩
 | some d=>
  obtain ⟨v,he,hD⟩:=h;obtain ⟨ac,lc,cc,an,cn,aa,la,ca,rfl⟩:=hD.agg;exact ⟨_,_,_,_,_,_,_,_,_,_,he⟩
theorem ResOf.ext {W W':World} {e:Ending} {r:Option Dfa} (h:ResOf W e r) (hE:Ext W W'):ResOf W' e r:=by
 cases r with
 | none=>exact h
 | some d=>
  obtain ⟨v,he,hD⟩:=h;exact ⟨v,he,hD.ext hE⟩
theorem ResOf.setRow {W:World} {e:Ending} {r:Option Dfa} (h:ResOf W e r) (hv:∀ d,r=some d→Val d) {g:Nat} {t:TypeId} {fr:Nat × Nat} (hg:W.heap[g]? = some (.cells #[.slice none 0 0,.slice none 0 0,.slice none 0 0] t fr)) (cs:Array Value):ResOf (W.setRow g cs) e r:=by
 cases r with
 | none=>exact h
 | some d=>
  obtain ⟨v,he,hD⟩:=h;exact ⟨v,he,hD.setRow (hv d rfl) hg cs⟩
theorem F1 {L:List UInt8→Prop} {r:Option Dfa} (h:Lim L r) (d:Dfa) (hd:r=some d):Val d:=by
 subst hd;exact h.1.val
set_option maxHeartbeats 1000000 in
theorem T6 (a b:Dfa) (ha:Val a) (hb:Val b) (hna:a.nxt.length≤64) (hnb:b.nxt.length≤64) (gh:Nat) (g:Bool→Bool→Bool) (hg:Ji gh g) (eh:∀ args w,(callFunc gh args).run Tryz.prog w=.ok (.enter gh args) w) (va vb:Value) (w:World) (hT:Tab w) (hsz:0<w.heap.size) (hva:IsD w va a) (hvb:IsD w vb b) :
  Calls Tryz.prog 78 #[va,vb,.func (.func gh) #[] #[]] w fun e w'=>∃ r,ResOf w' e r∧Lim (fun u=>g (a.has u) (b.has u)=true) r∧Ext w w':=by
 have HDa:=Lib.hid hva;have HDb:=Lib.hid hvb;obtain ⟨ac,lc,cc,an,cn,aa,la,ca,rfl⟩:=hva.agg;obtain ⟨ac',lc',cc',an',cn',aa',la',ca',rfl⟩:=hvb.agg;have f47a:=fun W (hW:Ext w W)=>Lib.hid (Dq a ha hna _ W (HDa.out.ext hW))
 have f47b:=fun W (hW:Ext w W)=>Lib.hid (Dq b hb hnb _ W (HDb.out.ext hW))
 have f85:=fun W (hW:Ext w W)=>Lib.hid (Zu a b ha hb hna hnb gh g hg eh _ _ W (hT.below hW.below hsz) (Nat.lt_of_lt_of_le hsz hW.size) (HDa.out.ext hW) (HDb.out.ext hW))
 obtain ⟨Va,hVa⟩:∃ X,dA (.slice ac lc cc) (.slice an a.nxt.length cn) (.slice aa la ca)=X:=⟨_,rfl⟩;obtain ⟨Vb,hVb⟩:∃ X,dA (.slice ac' lc' cc') (.slice an' b.nxt.length cn') (.slice aa' la' ca')=X:=⟨_,rfl⟩;have hiVa:(Tryz.prog.info? 30).map (·.size)=some Va.size:=by rw [← hVa];exact Ad
 have hiVb:(Tryz.prog.info? 30).map (·.size)=some Vb.size:=by rw [← hVb];exact Ad
 rw [hVa] at f47a f85 HDa;rw [hVb] at f47b f85 HDb;rw [hVa,hVb];have hE0:=(((Ext.refl w).alloc (.cells Va 30)).alloc (.cells Vb 30)).alloc (.cells #[.slice none 0 0,.slice none 0 0,.slice none 0 0] 30);have H3:=Af (Af (Ab w (.cells Va 30)) (.cells Vb 30)) (.cells #[.slice none 0 0,.slice none 0 0,.slice none 0 0] 30);have H4:=Af (heap_alloc2_new w (.cells Va 30) (.cells Vb 30)) (.cells #[.slice none 0 0,.slice none 0 0,.slice none 0 0] 30);have H6:=Ab ((w.alloc (.cells Va 30)).alloc (.cells Vb 30)) (.cells #[.slice none 0 0,.slice none 0 0,.slice none 0 0] 30);rw [World.size_alloc,World.size_alloc] at H6;clear hva hvb ha hb hg hT hVa hVb;go_enter Tryz.func78,Tryz.ntmps78;go_upto_region 1 with (fail)
 obtain ⟨w1,hw1⟩:∃ W,((w.alloc (.cells Va 30)).alloc (.cells Vb 30)).alloc (.cells #[.slice none 0 0,.slice none 0 0,.slice none 0 0] 30)=W:=⟨_,rfl⟩;have hs1:w.heap.size+1+1<w1.heap.size:=by rw [← hw1,World.size_alloc,World.size_alloc,World.size_alloc];omega
 rw [hw1] at hE0 H3 H4 H6;simp only [hw1];clear hw1;have HB3:=Lib.hid H3;have HB4:=Lib.hid H4;have HB6:=Lib.hid H6;clear H3 H4 H6;go_upto_region 3 with (first
  | (refine wpList_load_row rfl 30 (.tmp 3) rfl _ rfl _ _ _ _ HB3.out Tryz.underlying30 rfl hiVa ?_)
  | (refine Dn rfl (wp_load_row 30 (.tmp 4) rfl _ rfl _ _ _ _ HB4.out Tryz.underlying30 rfl hiVb ?_))
  | (go_at_call 47;(with_reducible refine (f47a _ hE0).out.mono ?_);rintro e w2 ⟨rfl,hE2⟩;have hE3:=hE0.trans hE2;have HB4:=Lib.hid (hE2.heap HB4.out))
  | (go_at_call 47;(with_reducible refine (f47b _ hE3).out.mono ?_);rintro e w3 ⟨rfl,hE4⟩;have hE5:=hE3.trans hE4))
 have HB3:=Lib.hid ((hE2.trans hE4).heap HB3.out);have HB4:=Lib.hid (hE4.heap HB4.out);have HB6:=Lib.hid ((hE2.trans hE4).heap HB6.out);have HE5:=Lib.hid hE5;have hs5:=hE5.size;clear f47a f47b hE0 hE2 hE3 hE4;go_wp2_with (first
  | (refine wpList_load_row rfl 30 (.tmp 3) rfl _ rfl _ _ _ _ HB3.out Tryz.underlying30 rfl hiVa ?_)
  | (refine wpList_load_row rfl 30 (.tmp 4) rfl _ rfl _ _ _ _ HB4.out Tryz.underlying30 rfl hiVb ?_)
  | (go_at_call 85;(with_reducible refine (f85 _ HE5.out).out.mono ?_);rintro e w4 ⟨A,t,rfl,hIT,htv,htn,hhas,hE6⟩;have hL:=Lib.hid (Nh t htv (show t.nxt.length≤65536 by omega) A w4 hIT);have HH:=Lib.hid hhas;clear hhas)
  | (go_at_call 77;(with_reducible refine hL.out.mono ?_);rintro e w5 ⟨r,hres,hlim,hE7⟩;obtain ⟨ac1,lc1,cc1,an1,ln1,cn1,aa1,la1,ca1,k1,rfl⟩:=hres.form;have HRes:=Lib.hid hres;have HLim:=Lib.hid hlim;clear hres hlim;have HB6:=Lib.hid ((hE6.trans hE7).heap HB6.out))
  | (refine wpList_store_row rfl 30 (.tmp 6) (.tmp 22) rfl _ _ rfl rfl _ _ HB6.out Ad rfl (Aq _ _ _ rfl rfl rfl) ?_))
 refine bodyPost_ret (v:=.tuple #[.agg (dA (.slice ac1 lc1 cc1) (.slice an1 ln1 cn1) (.slice aa1 la1 ca1)),.int .i64 k1]) (Az rfl _ _ _ _ _ _ _ rfl _ rfl (setRow_heap w5 _ _ (dA (.slice ac1 lc1 cc1) (.slice an1 ln1 cn1) (.slice aa1 la1 ca1)) 30 (0,0) HB6.out) Tryz.underlying30 rfl Ad) rfl ?_;exact ⟨r,HRes.out.setRow (F1 HLim.out) HB6.out _,Gz HLim.out (fun u=>by rw [HH.out]),((HE5.out.trans hE6).trans hE7).setRow (by omega) _⟩
set_option maxHeartbeats 1000000 in
theorem M4 (a b:Dfa) (ha:Val a) (hb:Val b) (hna:a.nxt.length≤64) (hnb:b.nxt.length≤64) (va vb:Value) (w:World) (hT:Tab w) (hsz:0<w.heap.size) (hva:IsD w va a) (hvb:IsD w vb b) :
  Calls Tryz.prog 33 #[va,vb] w fun e w'=>∃ r,ResOf w' e r∧Lim (fun u=>a.has u=true∨b.has u=true) r∧Ext w w':=by
 have HDa:=Lib.hid hva;have HDb:=Lib.hid hvb;obtain ⟨ac,lc,cc,an,cn,aa,la,ca,rfl⟩:=hva.agg;obtain ⟨ac',lc',cc',an',cn',aa',la',ca',rfl⟩:=hvb.agg;have f78:=fun W (hW:Ext w W)=>Lib.hid (T6 a b ha hb hna hnb 79 (fun x y=>x||y) Aax (enters_of Tryz.func79 (by kernel_rfl) rfl) _ _ W (hT.below hW.below hsz) (Nat.lt_of_lt_of_le hsz hW.size) (HDa.out.ext hW) (HDb.out.ext hW))
 obtain ⟨Va,hVa⟩:∃ X,dA (.slice ac lc cc) (.slice an a.nxt.length cn) (.slice aa la ca)=X:=⟨_,rfl⟩;obtain ⟨Vb,hVb⟩:∃ X,dA (.slice ac' lc' cc') (.slice an' b.nxt.length cn') (.slice aa' la' ca')=X:=⟨_,rfl⟩;have hiVa:(Tryz.prog.info? 30).map (·.size)=some Va.size:=by rw [← hVa];exact Ad
 have hiVb:(Tryz.prog.info? 30).map (·.size)=some Vb.size:=by rw [← hVb];exact Ad
 rw [hVa] at f78 HDa;rw [hVb] at f78 HDb;rw [hVa,hVb];have hE0:=(((Ext.refl w).alloc (.cells Va 30)).alloc (.cells Vb 30)).alloc (.cells #[.slice none 0 0,.slice none 0 0,.slice none 0 0] 30);have H3:=Af (Af (Ab w (.cells Va 30)) (.cells Vb 30)) (.cells #[.slice none 0 0,.slice none 0 0,.slice none 0 0] 30);have H4:=Af (heap_alloc2_new w (.cells Va 30) (.cells Vb 30)) (.cells #[.slice none 0 0,.slice none 0 0,.slice none 0 0] 30);have H6:=Ab ((w.alloc (.cells Va 30)).alloc (.cells Vb 30)) (.cells #[.slice none 0 0,.slice none 0 0,.slice none 0 0] 30);rw [World.size_alloc,World.size_alloc] at H6;clear hva hvb ha hb hT hVa hVb;go_enter Tryz.func33,Tryz.ntmps33;go_upto_region 1 with (fail)
 obtain ⟨w1,hw1⟩:∃ W,((w.alloc (.cells Va 30)).alloc (.cells Vb 30)).alloc (.cells #[.slice none 0 0,.slice none 0 0,.slice none 0 0] 30)=W:=⟨_,rfl⟩;rw [hw1] at hE0 H3 H4 H6;simp only [hw1];clear hw1;have HB3:=Lib.hid H3;have HB4:=Lib.hid H4;have HB6:=Lib.hid H6;have HE0:=Lib.hid hE0;clear H3 H4 H6 hE0;go_wp2_with (first
  | (refine wpList_load_row rfl 30 (.tmp 2) rfl _ rfl _ _ _ _ HB3.out Tryz.underlying30 rfl hiVa ?_)
  | (refine wpList_load_row rfl 30 (.tmp 3) rfl _ rfl _ _ _ _ HB4.out Tryz.underlying30 rfl hiVb ?_)
  | (go_at_call 78;(with_reducible refine (f78 _ HE0.out).out.mono ?_);rintro e w5 ⟨r,hres,hlim,hE7⟩;obtain ⟨ac1,lc1,cc1,an1,ln1,cn1,aa1,la1,ca1,k1,rfl⟩:=hres.form;have HRes:=Lib.hid hres;have HLim:=Lib.hid hlim;clear hres hlim;have HB6:=Lib.hid (hE7.heap HB6.out))
  | (refine wpList_store_row rfl 30 (.tmp 4) (.tmp 9) rfl _ _ rfl rfl _ _ HB6.out Ad rfl (Aq _ _ _ rfl rfl rfl) ?_))
 refine bodyPost_ret (v:=.tuple #[.agg (dA (.slice ac1 lc1 cc1) (.slice an1 ln1 cn1) (.slice aa1 la1 ca1)),.int .i64 k1]) (Az rfl _ _ _ _ _ _ _ rfl _ rfl (setRow_heap w5 _ _ (dA (.slice ac1 lc1 cc1) (.slice an1 ln1 cn1) (.slice aa1 la1 ca1)) 30 (0,0) HB6.out) Tryz.underlying30 rfl Ad) rfl ?_;exact ⟨r,HRes.out.setRow (F1 HLim.out) HB6.out _,Gz HLim.out (fun u=>by simp),(HE0.out.trans hE7).setRow (by omega) _⟩
set_option maxHeartbeats 1000000 in
theorem Ahp (a b:Dfa) (ha:Val a) (hb:Val b) (hna:a.nxt.length≤64) (hnb:b.nxt.length≤64) (va vb:Value) (w:World) (hT:Tab w) (hsz:0<w.heap.size) (hva:IsD w va a) (hvb:IsD w vb b) :
  Calls Tryz.prog 34 #[va,vb] w fun e w'=>∃ r,ResOf w' e r∧Lim (fun u=>a.has u=true∧b.has u=true) r∧Ext w w':=by
 have HDa:=Lib.hid hva;have HDb:=Lib.hid hvb;obtain ⟨ac,lc,cc,an,cn,aa,la,ca,rfl⟩:=hva.agg;obtain ⟨ac',lc',cc',an',cn',aa',la',ca',rfl⟩:=hvb.agg;have f78:=fun W (hW:Ext w W)=>Lib.hid (T6 a b ha hb hna hnb 80 (fun x y=>x&&y) Ahn (enters_of Tryz.func80 (by kernel_rfl) rfl) _ _ W (hT.below hW.below hsz) (Nat.lt_of_lt_of_le hsz hW.size) (HDa.out.ext hW) (HDb.out.ext hW))
 obtain ⟨Va,hVa⟩:∃ X,dA (.slice ac lc cc) (.slice an a.nxt.length cn) (.slice aa la ca)=X:=⟨_,rfl⟩;obtain ⟨Vb,hVb⟩:∃ X,dA (.slice ac' lc' cc') (.slice an' b.nxt.length cn') (.slice aa' la' ca')=X:=⟨_,rfl⟩;have hiVa:(Tryz.prog.info? 30).map (·.size)=some Va.size:=by rw [← hVa];exact Ad
 have hiVb:(Tryz.prog.info? 30).map (·.size)=some Vb.size:=by rw [← hVb];exact Ad
 rw [hVa] at f78 HDa;rw [hVb] at f78 HDb;rw [hVa,hVb];have hE0:=(((Ext.refl w).alloc (.cells Va 30)).alloc (.cells Vb 30)).alloc (.cells #[.slice none 0 0,.slice none 0 0,.slice none 0 0] 30);have H3:=Af (Af (Ab w (.cells Va 30)) (.cells Vb 30)) (.cells #[.slice none 0 0,.slice none 0 0,.slice none 0 0] 30);have H4:=Af (heap_alloc2_new w (.cells Va 30) (.cells Vb 30)) (.cells #[.slice none 0 0,.slice none 0 0,.slice none 0 0] 30);have H6:=Ab ((w.alloc (.cells Va 30)).alloc (.cells Vb 30)) (.cells #[.slice none 0 0,.slice none 0 0,.slice none 0 0] 30);rw [World.size_alloc,World.size_alloc] at H6;clear hva hvb ha hb hT hVa hVb;go_enter Tryz.func34,Tryz.ntmps34;go_upto_region 1 with (fail)
 obtain ⟨w1,hw1⟩:∃ W,((w.alloc (.cells Va 30)).alloc (.cells Vb 30)).alloc (.cells #[.slice none 0 0,.slice none 0 0,.slice none 0 0] 30)=W:=⟨_,rfl⟩;rw [hw1] at hE0 H3 H4 H6;simp only [hw1];clear hw1;have HB3:=Lib.hid H3;have HB4:=Lib.hid H4;have HB6:=Lib.hid H6;have HE0:=Lib.hid hE0;clear H3 H4 H6 hE0;go_wp2_with (first
  | (refine wpList_load_row rfl 30 (.tmp 2) rfl _ rfl _ _ _ _ HB3.out Tryz.underlying30 rfl hiVa ?_)
  | (refine wpList_load_row rfl 30 (.tmp 3) rfl _ rfl _ _ _ _ HB4.out Tryz.underlying30 rfl hiVb ?_)
  | (go_at_call 78;(with_reducible refine (f78 _ HE0.out).out.mono ?_);rintro e w5 ⟨r,hres,hlim,hE7⟩;obtain ⟨ac1,lc1,cc1,an1,ln1,cn1,aa1,la1,ca1,k1,rfl⟩:=hres.form;have HRes:=Lib.hid hres;have HLim:=Lib.hid hlim;clear hres hlim;have HB6:=Lib.hid (hE7.heap HB6.out))
  | (refine wpList_store_row rfl 30 (.tmp 4) (.tmp 9) rfl _ _ rfl rfl _ _ HB6.out Ad rfl (Aq _ _ _ rfl rfl rfl) ?_))
 refine bodyPost_ret (v:=.tuple #[.agg (dA (.slice ac1 lc1 cc1) (.slice an1 ln1 cn1) (.slice aa1 la1 ca1)),.int .i64 k1]) (Az rfl _ _ _ _ _ _ _ rfl _ rfl (setRow_heap w5 _ _ (dA (.slice ac1 lc1 cc1) (.slice an1 ln1 cn1) (.slice aa1 la1 ca1)) 30 (0,0) HB6.out) Tryz.underlying30 rfl Ad) rfl ?_;exact ⟨r,HRes.out.setRow (F1 HLim.out) HB6.out _,Gz HLim.out (fun u=>by simp),(HE0.out.trans hE7).setRow (by omega) _⟩
end Go.Proofs.YtaiogolidlamiaaGreatDoor
