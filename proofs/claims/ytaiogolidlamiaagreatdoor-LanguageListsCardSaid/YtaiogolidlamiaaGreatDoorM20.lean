import Derived.Test.YtaiogolidlamiaaGreatDoorM19
import Derived.Test.YtaiogolidlamiaaGreatDoorM02
set_option linter.unusedVariables false
set_option linter.unusedSimpArgs false
namespace Go.Proofs.YtaiogolidlamiaaGreatDoor
set_option maxRecDepth 100000
open Go.RowKit Go.Shelf
theorem Fg {P:Program} {op:Oper} {a:Act} {w:World} (ty:TypeId) (x:Operand) (ho:op.op=.load ty x)
  (b o:Nat) (hx:a.eval x=.pointer (some ⟨b,o,none⟩)) (cs:List Value) (d:TypeDesc) (hc:w.rangeAt b o cs)
  (hu:P.underlying ty=some d) (hd:d.isRow=true) (hi:(P.info? ty).map (·.size)=some cs.length):(execOp a.eval op).run P w=.ok (.value (.agg cs.toArray)) w:=by
 unfold execOp;simp only [ho,hx,Instr.loadAt,Instr.sureAddr,Sem.run_bind,Sem.run_pure,Result.andThen_ok,run_loadVar_mid w b o ty cs d hc hu hd hi]
theorem Qw {w:World} {b o:Nat} {v:Value} (h:w.cell? ⟨b,o,none⟩=some v):w.rangeAt b o [v]:=fun j u hu=>by
 rcases j with _|j
 ·simp at hu;subst hu;exact h
 ·simp at hu
def cIn (x:Tbl) (s:Sta):Sta:=⟨s.p,s.q,if x.ok s.p then s.s ||| 1 else s.s⟩
def cNx (x y:Tbl) (s:Sta) (b:Nat):Sta:=cIn x ⟨x.stp s.p b,0,Ap y s.s b y.nxt.length⟩
def cAc (y:Tbl) (s:Sta):Bool:=Cb y s.s
def I9 (x:Tbl) (s:Sta):Prop:=s.p<x.nxt.length∧s.q=0∧s.s<18446744073709551616
def cSt (x:Tbl):Sta:=cIn x ⟨0,0,0⟩
theorem Lb (x y:Tbl) (w:List UInt8):(Ar (cNx x y) (cSt x) w).q=0:=by
 induction w using Du with
 | h0=>rfl
 | h1 w z ih=>rw [D6];rfl
theorem Uw (x:Tbl) (s:Sta) (h:s.s<18446744073709551616):(cIn x s).s<18446744073709551616:=by
 unfold cIn;simp only;split
 ·exact Nat.or_lt_two_pow (n:=64) h (by omega)
 ·exact h
theorem Agn {x y:Tbl} (hx:TVal x) (hy:TVal y) (hn:y.nxt.length≤64) (s:Sta) (hs:I9 x s) (b:Nat) (hb:b<256):I9 x (cNx x y s b):=
 ⟨hx.stp_lt hs.1 hb,rfl,Uw _ _ (Gj hy hn s.s b hb _ (Nat.le_refl _))⟩
theorem Uv (x y:Tbl) (s:Sta) (b:Nat):stP (cNx x y s b)=cnx x y (stP s) b:=rfl
theorem Agk {x y:Tbl} (hx:TVal x) (hy:TVal y) {c:Nat→Nat} {bs:List Nat} (hj:Joint x.cell y.cell c bs) {l:List Sta} {t:Tbl} (h:Expl c bs (cSt x) (cNx x y) (cAc y) l t) (hl:l.length≤4096) :
  TVal t∧t.nxt.length≤4096∧¬ B7 (cnx x y) (cst x) 4096∧∀ u,t.has u=true↔Cat (fun u=>x.has u=true) (fun v=>y.has v=true) u:=by
 have hc:Expl c bs (cst x) (cnx x y) (fun s=>Cb y s.2) (l.map stP) t:=
  h.conv (st:=cSt x) stP (fun s b=>Uv x y s b) (fun s=>rfl) (fun w w' e=>Jp (Lb x y w) (Lb x y w') e)
 have hn:∀ (s:Nat × Nat) b,b<256→cnx x y s (bs.getD (c b) 0)=cnx x y s b:=fun s b hb=>by
  obtain ⟨_,h1,h2⟩:=hj.rep b hb;have e1:∀ p,x.stp p (bs.getD (c b) 0)=x.stp p b:=fun p=>by unfold Tbl.stp;rw [h1]
  have e2:∀ n,Ap y s.2 (bs.getD (c b) 0) n=Ap y s.2 b n:=fun n=>by
   induction n with
   | zero=>rfl
   | succ n ih=>simp only [Ap];rw [ih];unfold Tbl.stp;rw [h2]
  unfold cnx;rw [e1,e2]
 exact ⟨h.tval hj,by rw [h.len];exact hl,Tr hc hj hn (by simpa using hl),fun u=>Agi hy hc hj u⟩
set_option maxHeartbeats 1000000 in
theorem Ug (x:Tbl) (hx:TVal x) (A:Array Value) (gx:Nat) (w:World) (hA:IsT w A x) (hgx:w.heap[gx]? = some (.cells A 108 (0,0))) (W:World) (hW:Ext w W) (p z:Nat) (hp:p<x.nxt.length) (hz:z<18446744073709551616) :
  Calls Tryz.prog 71 #[.agg #[iv p,(.int .i64 0),.int .u64 (z:Int)],.pointer (some ⟨gx,0,none⟩)] W fun e w'=>e=.returned (stV (cIn x ⟨p,0,z⟩))∧Ext W w':=by
 obtain ⟨_,_,_,ba,oa,ca,_,_,_,_,_,hA8,_,haA⟩:=(hA.ext hW).opened hx;have hgx:=hW.heap hgx;have a8:=(cell_of_row W gx 258 _ _ _ hgx).trans hA8;have aa:=haA p hp;show Calls _ _ _ _ fun e w'=>e=.returned (.agg #[iv p,(.int .i64 0),.int .u64 ((if x.ok p then z ||| 1 else z:Nat):Int)])∧Ext W w'
 have hE0:=((Ext.refl W).alloc (.cells #[iv p,(.int .i64 0),.int .u64 (z:Int)] 116)).alloc (.cells #[.int .i64 0,.int .i64 0,.int .u64 0] 116);have H2:=Af (Ab W (.cells #[iv p,(.int .i64 0),.int .u64 (z:Int)] 116)) (.cells #[.int .i64 0,.int .i64 0,.int .u64 0] 116);have H3:=heap_alloc2_new W (.cells #[iv p,(.int .i64 0),.int .u64 (z:Int)] 116) (.cells #[.int .i64 0,.int .i64 0,.int .u64 0] 116);have HO:=Lib.hid (Ri z hz);clear hA hA8 haA hgx;generalize x.nxt.length=nx at *;generalize x.ok p=bo at *;go_enter Tryz.func71,Tryz.ntmps71;go_upto_region 1 with (fail)
 obtain ⟨w1,hw1⟩:∃ V,(W.alloc (.cells #[iv p,(.int .i64 0),.int .u64 (z:Int)] 116)).alloc (.cells #[.int .i64 0,.int .i64 0,.int .u64 0] 116)=V:=⟨_,rfl⟩;have hs1:W.heap.size+1<w1.heap.size:=by rw [← hw1,World.size_alloc,World.size_alloc];omega
 rw [hw1] at hE0 H2 H3;simp only [hw1];clear hw1;have a8:=hE0.cell a8;have aa:=hE0.cell aa;have HB2:=Lib.hid H2;have HB3:=Lib.hid H3;have HE0:=Lib.hid hE0;have c0:=(cell_of_row w1 W.heap.size 0 _ _ _ H2).trans (show (#[iv p,(.int .i64 0),.int .u64 (z:Int)]:Array Value)[0]? = some (iv p) from rfl);have c2:=(cell_of_row w1 W.heap.size 2 _ _ _ H2).trans (show (#[iv p,(.int .i64 0),.int .u64 (z:Int)]:Array Value)[2]? = some (.int .u64 (z:Int)) from rfl);have f2:=frozen_of_row w1 W.heap.size 2 _ _ H2;clear H2 H3 hE0;have i116x:∀ z:Int,(Tryz.prog.info? 116).map (·.size)=some (#[iv p,(.int .i64 0),.int .u64 z]:Array Value).size:=fun _=>C4
 cases bo
 ·go_wp2_with (first
   | (refine wpList_load_row rfl 116 (.tmp 2) rfl _ rfl _ _ _ _ HB2.out Tryz.underlying116 rfl (i116x _) ?_)
   | (refine wpList_store_row rfl 116 (.tmp 3) (.tmp 16) rfl _ _ rfl rfl _ _ HB3.out (i116x _) rfl (by simp [Value.oneCell']) ?_))
  refine bodyPost_ret (v:=.agg #[iv p,(.int .i64 0),.int .u64 (z:Int)]) (results_cell_row rfl _ _ _ _ _ _ _ rfl (setRow_heap w1 _ _ _ 116 (0,0) HB3.out) Tryz.underlying116 rfl (i116x _)) rfl ?_;exact ⟨rfl,HE0.out.setRow (by omega) _⟩
 ·go_upto_region 3 with (fail)
  have hsc:w1.setCell ⟨W.heap.size,2,none⟩ (.int .u64 (bits BinOp.or IntKind.u64 (z:Int) 1))=w1.setRow W.heap.size #[iv p,(.int .i64 0),.int .u64 ((z ||| 1:Nat):Int)]:=by
   rw [setCell_eq_setRow w1 _ _ _ _ _ _ HB2.out,HO.out];rfl
  rw [hsc];have H2':=setRow_heap w1 W.heap.size _ #[iv p,(.int .i64 0),.int .u64 ((z ||| 1:Nat):Int)] _ _ HB2.out;have H3':=Bq HB3.out (show W.heap.size+1≠W.heap.size by omega) #[iv p,(.int .i64 0),.int .u64 ((z ||| 1:Nat):Int)];have hE6:=HE0.out.setRow (Nat.le_refl _) #[iv p,(.int .i64 0),.int .u64 ((z ||| 1:Nat):Int)];obtain ⟨y,hy⟩:∃ y:Int,((z ||| 1:Nat):Int)=y:=⟨_,rfl⟩;rw [hy] at H2' H3' hE6;rw [hy];obtain ⟨w6,hw6⟩:∃ V,w1.setRow W.heap.size #[iv p,(.int .i64 0),.int .u64 y]=V:=⟨_,rfl⟩;rw [hw6] at H2' H3' hE6;rw [hw6];have HB2:=Lib.hid H2';have HB3:=Lib.hid H3';have HE6:=Lib.hid hE6;have HY:=Lib.hid hy;clear c0 c2 f2 a8 aa hsc H2' H3' hE6 hy HO hw6;go_wp2_with (first
   | (refine wpList_load_row rfl 116 (.tmp 2) rfl _ rfl _ _ _ _ HB2.out Tryz.underlying116 rfl (i116x _) ?_)
   | (refine wpList_store_row rfl 116 (.tmp 3) (.tmp 16) rfl _ _ rfl rfl _ _ HB3.out (i116x _) rfl (by simp [Value.oneCell']) ?_))
  refine bodyPost_ret (v:=.agg #[iv p,(.int .i64 0),.int .u64 y]) (results_cell_row rfl _ _ _ _ _ _ _ rfl (setRow_heap w6 _ _ _ 116 (0,0) HB3.out) Tryz.underlying116 rfl (i116x _)) rfl ?_;exact ⟨by rw [← HY.out],HE6.out.setRow (by omega) _⟩
set_option maxHeartbeats 1000000 in
theorem Afv (x y:Tbl) (hy:TVal y) (hn:y.nxt.length≤64) (B:Array Value) (gy:Nat) (w:World) (hB:IsT w B y) (hgy:w.heap[gy]? = some (.cells B 108 (0,0))) :
  Ll w 75 #[.pointer (some ⟨gy,0,none⟩)] (cAc y) (I9 x):=by
 intro W hW s hs;obtain ⟨-,-,hss⟩:=hs;have hIT:=hB.ext hW;obtain ⟨_,_,_,_,_,_,hBs,hBo,_⟩:=hIT.opened hy;have hiB:(Tryz.prog.info? 108).map (·.size)=some B.size:=by rw [hBs];exact Bw
 have hgy:=hW.heap hgy;have f76:=fun V (hV:Ext W V)=>Lib.hid (L8 y hy hn B s.s hss V (hIT.ext hV))
 show Calls _ _ _ _ fun e w'=>e=.returned (.bool (Cb y s.s))∧Ext W w'
 have hE0:=(Ext.refl W).alloc (.cells #[iv s.p,iv s.q,.int .u64 (s.s:Int)] 116);have H2:=Ab W (.cells #[iv s.p,iv s.q,.int .u64 (s.s:Int)] 116);generalize Cb y s.s=bo at *;clear hB hIT hW;go_enter Tryz.func75,Tryz.ntmps75;go_upto_region 1 with (fail)
 obtain ⟨w1,hw1⟩:∃ V,W.alloc (.cells #[iv s.p,iv s.q,.int .u64 (s.s:Int)] 116)=V:=⟨_,rfl⟩;rw [hw1] at hE0 H2;simp only [hw1];clear hw1;have HGY:=Lib.hid (hE0.heap hgy);have hr2:w1.rangeAt W.heap.size 2 [.int .u64 (s.s:Int)]:=Qw ((cell_of_row w1 W.heap.size _ _ _ _ H2).trans rfl);have HE0:=Lib.hid hE0;clear H2 hgy hE0 hss;go_wp2_with (first
  | (refine wpList_load_row rfl 108 (.tmp 1) rfl _ rfl _ _ _ _ HGY.out Tryz.underlying108 rfl hiB ?_)
  | (refine wpList_load_mid rfl 114 (.tmp 5) rfl _ 2 rfl _ _ hr2 Tryz.underlying114 rfl i114 ?_)
  | (go_at_call 76;(with_reducible refine (f76 _ HE0.out).out.mono ?_);rintro e w5 ⟨rfl,hE5⟩;have HE5:=Lib.hid (HE0.out.trans hE5)))
 go_ret;exact ⟨rfl,HE5.out⟩
set_option maxHeartbeats 1000000 in
theorem Af8 (x y:Tbl) (hx:TVal x) (hy:TVal y) (hn:y.nxt.length≤64) (A B:Array Value) (gx gy gf:Nat) (w:World) (hA:IsT w A x) (hB:IsT w B y) (hgx:w.heap[gx]? = some (.cells A 108 (0,0))) (hgy:w.heap[gy]? = some (.cells B 108 (0,0)))
  (hgf:w.heap[gf]? = some (.cells #[.func (.func 71) #[] #[.pointer (some ⟨gx,0,none⟩)]] 117 (0,0))) :
  Lo w 72 #[.pointer (some ⟨gf,0,none⟩),.pointer (some ⟨gx,0,none⟩),.pointer (some ⟨gy,0,none⟩)] (cNx x y) (I9 x):=by
 intro W hW s hs b hb;obtain ⟨hp,-,hss⟩:=hs;obtain ⟨bn,on,cn,_,_,_,_,_,hAc,_,hA7,_,hRA,_⟩:=(hA.ext hW).opened hx;have hITB:=hB.ext hW;obtain ⟨_,_,_,_,_,_,hBs,hBo,_⟩:=hITB.opened hy;have hiB:(Tryz.prog.info? 108).map (·.size)=some B.size:=by rw [hBs];exact Bw
 have f73:=fun V (hV:Ext W V)=>Lib.hid (Pr y hy hn B s.s hss b hb V (hITB.ext hV))
 have htl:=Gj hy hn s.s b hb _ (Nat.le_refl _);have hp2:=hx.stp_lt hp hb;have f71:=fun V (hV:Ext W V)=>Lib.hid (Ug x hx A gx w hA hgx V (hW.trans hV) (x.stp s.p b) (Ap y s.s b y.nxt.length) hp2 htl)
 have hgx:=hW.heap hgx;have hgy:=hW.heap hgy;have a7:=(cell_of_row W gx 257 _ _ _ hgx).trans hA7;have ac:=(cell_of_row W gx b _ _ _ hgx).trans (hAc b hb);obtain ⟨br,or',cr,ar1,ar2⟩:=hRA s.p hp;have ar3:=ar2 _ (hx.cell_lt b hb);have hcx:=hx.cell_lt b hb;have hxs:x.ent2 s.p (x.cell b)=x.stp s.p b:=rfl;rw [hxs] at ar3;have g0:=(cell_of_row W gf 0 _ _ _ (hW.heap hgf)).trans (show (#[Value.func (.func 71) #[] #[.pointer (some ⟨gx,0,none⟩)]]:Array Value)[0]? = some (.func (.func 71) #[] #[.pointer (some ⟨gx,0,none⟩)]) from rfl);have e71:=enters_of Tryz.func71 (by kernel_rfl) rfl;show Calls _ _ _ _ fun e w'=>e=.returned (stV (cIn x ⟨x.stp s.p b,0,Ap y s.s b y.nxt.length⟩))∧Ext W w'
 have hE0:=((Ext.refl W).alloc (.cells #[iv s.p,iv s.q,.int .u64 (s.s:Int)] 116)).alloc (.cells #[.int .i64 0,.int .i64 0,.int .u64 0] 116);have H5:=Af (Ab W (.cells #[iv s.p,iv s.q,.int .u64 (s.s:Int)] 116)) (.cells #[.int .i64 0,.int .i64 0,.int .u64 0] 116);have H7:=heap_alloc2_new W (.cells #[iv s.p,iv s.q,.int .u64 (s.s:Int)] 116) (.cells #[.int .i64 0,.int .i64 0,.int .u64 0] 116);clear hA hB hITB hAc hA7 hRA hxs ar2 hgf hgx hss htl hp2;generalize Ap y s.s b y.nxt.length=T at *;generalize x.stp s.p b=p2 at *;obtain ⟨R,hR⟩:∃ R,cIn x ⟨p2,0,T⟩=R:=⟨_,rfl⟩;rw [hR] at f71;rw [hR];clear hR;generalize x.cell b=cx at *;have hbi:(b:Int)<256:=by omega
 generalize x.cells=mx at *;generalize x.nxt.length=nx at *;clear hx hy hn;go_enter Tryz.func72,Tryz.ntmps72;go_upto_region 1 with (fail)
 obtain ⟨w1,hw1⟩:∃ V,(W.alloc (.cells #[iv s.p,iv s.q,.int .u64 (s.s:Int)] 116)).alloc (.cells #[.int .i64 0,.int .i64 0,.int .u64 0] 116)=V:=⟨_,rfl⟩;rw [hw1] at hE0 H5 H7;simp only [hw1];clear hw1;have a7:=hE0.cell a7;have ac:=hE0.cell ac;have ar1:=hE0.cell ar1;have ar3:=hE0.cell ar3;have g0:=hE0.cell g0;have c0:=(cell_of_row w1 W.heap.size 0 _ _ _ H5).trans (show (#[iv s.p,iv s.q,.int .u64 (s.s:Int)]:Array Value)[0]? = some (iv s.p) from rfl);have c2:=(cell_of_row w1 W.heap.size 2 _ _ _ H5).trans (show (#[iv s.p,iv s.q,.int .u64 (s.s:Int)]:Array Value)[2]? = some (.int .u64 (s.s:Int)) from rfl);have HKB:=Lib.hid (fun V (hV:Ext w1 V)=>hV.heap (hE0.heap hgy));have HKS:=Lib.hid (fun V (hV:Ext w1 V)=>Qw (hV.cell c2));have hkeep:∀ V,Ext w1 V→V.cell? ⟨gx,257,none⟩=some (.slice (some ⟨bn,on,none⟩) nx cn)∧V.cell? ⟨gx,b,none⟩=some (iv cx)∧
   V.cell? ⟨bn,on+s.p,none⟩=some (.slice (some ⟨br,or',none⟩) mx cr)∧V.cell? ⟨br,or'+cx,none⟩=some (iv p2)∧V.cell? ⟨W.heap.size,0,none⟩=some (iv s.p)∧V.cell? ⟨gf,0,none⟩=some (.func (.func 71) #[] #[.pointer (some ⟨gx,0,none⟩)]):=
  fun V hV=>⟨hV.cell a7,hV.cell ac,hV.cell ar1,hV.cell ar3,hV.cell c0,hV.cell g0⟩
 clear a7 ac ar1 ar3 c0 c2 g0 hgy H5;have hb1:=Lib.hid (U2 (p2:Int) (T:Int));refine Cr 20 [(0,true),(1,true),(2,true),(3,true),(4,true),(5,true),(6,true),(7,true),(8,true),(9,true),(10,true),(11,true),(12,true),(13,true),(14,true),(15,true),(16,true),(17,false),(18,true),(19,false),(20,false)] (by kernel_rfl) (by kernel_rfl) (fun _ _ _ _ h=>h)
  (fun V=>Ext w1 V) (Ext.refl w1).drew ?_
 have hE1:=(Ext.refl w1).drew;have H7':=hE1.heap H7;obtain ⟨w2,hw2⟩:∃ V,w1.drew=V:=⟨_,rfl⟩;rw [hw2] at hE1 H7';rw [hw2];clear hw2 H7;iterate 13
  refine Au (v:=?_) rfl rfl (fun V hV=>?_) ?_
  rotate_left
  ·obtain ⟨k0,k1,k2,k3,k4,k5⟩:=hkeep V hV;clear hV;go_simp;first|done|with_reducible rfl
  simp only [Act.put,List.setIfInBounds_toArray,List.set_cons_zero,List.set_cons_succ]
 refine Au (v:=.agg B) rfl rfl (fun V hV=>?_) ?_
 ·exact Eo 108 (.tmp 4) rfl gy rfl _ _ _ _ (HKB.out V hV) Tryz.underlying108 rfl hiB
 simp only [Act.put,List.setIfInBounds_toArray,List.set_cons_zero,List.set_cons_succ];refine Au (v:=?_) rfl rfl (fun V hV=>?_) ?_
 rotate_left
 ·clear hV;go_simp;first|done|with_reducible rfl
 simp only [Act.put,List.setIfInBounds_toArray,List.set_cons_zero,List.set_cons_succ];refine Au (v:=.agg #[.int .u64 (s.s:Int)]) rfl rfl (fun V hV=>?_) ?_
 ·exact Fg 114 (.tmp 22) rfl W.heap.size 2 rfl _ _ (HKS.out V hV) Tryz.underlying114 rfl i114
 simp only [Act.put,List.setIfInBounds_toArray,List.set_cons_zero,List.set_cons_succ];refine Au (v:=?_) rfl rfl (fun V hV=>?_) ?_
 rotate_left
 ·clear hV;go_simp;first|done|with_reducible rfl
 simp only [Act.put,List.setIfInBounds_toArray,List.set_cons_zero,List.set_cons_succ];clear hkeep HKB HKS;refine Bz rfl (fun K hK=>?_);go_simp
 (with_reducible refine (f73 w2 (hE0.trans hE1)).out.mono ?_)
 rintro e w3 ⟨rfl,hE3⟩;refine hK _ _ (fun _=>hE1.trans hE3) ?_;clear hK K;refine Au (v:=.agg #[iv p2,.int .i64 0,.int .u64 (T:Int)]) rfl rfl (fun V _=>?_) ?_
 ·exact I0 116 _ rfl (by simpa [Act.eval] using hb1.out) V
 simp only [Act.put,List.setIfInBounds_toArray,List.set_cons_zero,List.set_cons_succ];have H7':=hE3.heap H7';have hE4:=(hE0.trans hE1).trans hE3;refine Bz rfl (fun K hK=>?_);go_simp
 (with_reducible refine (f71 w3 hE4).out.mono ?_)
 rintro e w4 ⟨rfl,hE5⟩;refine hK _ _ (fun _=>(hE1.trans hE3).trans hE5) ?_;clear hK K;have H7':=hE5.heap H7';refine Bz rfl (fun K hK=>?_);refine Gn 116 (.tmp 7) (.tmp 27) rfl rfl _ (stA R) rfl rfl _ _ H7' C4 rfl (P6 R) ?_;refine hK _ _ (fun h=>absurd h (by omega)) ?_;clear hK K;refine Cu ?_;have hE6:=(hE4.trans hE5).setRow (show W.heap.size≤W.heap.size+1 by omega) (stA R);have H8:=setRow_heap w4 _ _ (stA R) 116 (0,0) H7';clear f71 f73 hb1;go_wp2;refine bodyPost_ret (v:=.agg (stA R)) (results_cell_row rfl _ _ _ _ _ _ _ rfl H8 Tryz.underlying116 rfl C4) rfl ?_;exact ⟨rfl,hE6⟩
open Go
section
variable {P:Program} {ops:Array Oper} {Q:Exit→Act→World→Prop} {n:Nat}
def Io (ops:Array Oper) (n p:Nat):Bool:=
 (List.range n).all (fun k=>decide (k=p)||Region.waitsFor .any ops n k)&&(List.range ops.size).all (fun t=>decide (t≤n)||Region.waitsFor .any ops t (t-1))&&
 (match ops[p]? with|none=>false|some op=>op.after.all fun e=>!Region.binds .any e||decide (e.on<p))&&
 (List.range ops.size).all fun j=>decide (j=p)||Region.waitsFor .any ops j p||Region.waitsFor .any ops p j||match ops[p]?,ops[j]? with|some op,some oj=>op.apart ops oj|_,_=>false
theorem Jm {i j:Nat} {listed:Array Bool} (h:Region.waitsFor .any ops i j=true) (hr:i∈Region.ready .any ops listed):listed.getD j false=true:=by
 obtain ⟨oi,hoi,e,he,hb,hon⟩:=Region.waitsFor_spec h;obtain ⟨_,o,ho,hall⟩:=mem_ready.1 hr;have:oi=o:=Option.some.inj (hoi.symm.trans ho);subst this;rw [← hon];exact hall e he hb
theorem Np {F:Nat→Value→World→Prop} {Ne:Nat→Nat→Value→Value→Prop} (hNe:∀ i j v u,Ne i j v u→Ne j i u v) (hF:∀ i v w w',F i v w→Ext w w'→F i v w') {a0:Act} {w1:World} {sz g p:Nat} (hp:p<n) (hsz:a0.tmps.size=sz) (hd:Ep ops n sz=true) (hL:Io ops n p=true) (hsel:Region.noSelect ops=true) (hn:n<ops.size) (hE:Ec ops n=true)
  (hQ:∀ c a tm w,Q (.panic c) { tmps:=tm,defers:=a.defers } w→Q (.panic c) a w)
  (hyv:∀ o (listed:Array Bool) a w,ops[p]? = some o→p∈Region.ready .any ops listed→FInvR ops n F Ne a0 w1 listed a w→∃ v,∀ W,(execOp a.eval o).run P W=.ok (.value v) W)
  (hop:∀ i,i<n→FOp P ops Q n F Ne a0 w1 i) (htail:∀ listed a w,HeadInv .any ops n listed→(∀ i,i<n→listed.getD i false=true)→FInvR ops n F Ne a0 w1 listed a w→wpAny P .any ops Q g listed a w) :
  ∀ (f:Nat) (listed:Array Bool) (a:Act) (w:World),HeadInv .any ops n listed→FInvR ops n F Ne a0 w1 listed a w→unl n listed=f→wpAny P .any ops Q (f+g) listed a w
 | 0,listed,a,w,inv,hI,hu=>by
  rw [Nat.zero_add];exact htail listed a w inv (Gi n listed hu) hI
 | f+1,listed,a,w,inv,hI,hu=>by
  obtain ⟨k,hk,hku,hkl⟩:=Im n listed (by omega);have hkr:=Kl hE inv.size (by omega) k hk hkl hku;rw [show f+1+g=(f+g)+1 by omega];have key:∀ i,i∈Region.ready .any ops listed→i<n→unl n (listed.setIfInBounds i true)=f:=fun i hi hin=>by
   have hiu:=(mem_ready.1 hi).1;have hil:i<listed.size:=by rw [inv.size];omega
   have hiu':listed.getD i false=false:=by
    rw [Array.getD_eq_getD_getElem?,Array.getElem?_eq_getElem hil] at hiu ⊢;exact hiu
   have:=Hv n listed i hin hil hiu';omega
  simp only [Io,Bool.and_eq_true,List.all_eq_true,List.mem_range] at hL;obtain ⟨⟨⟨l1,l2⟩,l3⟩,l4⟩:=hL;have hL':Io ops n p=true:=by
   simp only [Io,Bool.and_eq_true,List.all_eq_true,List.mem_range];exact ⟨⟨⟨l1,l2⟩,l3⟩,l4⟩
  by_cases hpr:p∈Region.ready .any ops listed
  ·obtain ⟨hun,o,ho,hall⟩:=mem_ready.1 hpr;obtain ⟨o',d,ho',hdst,_,_⟩:=Hf hd p hp;rw [ho] at ho';injection ho' with ho'
   subst ho';obtain ⟨v,hv⟩:=hyv o listed a w ho hpr hI;obtain ⟨o2,ho2,hw,hst⟩:=Th hNe hF hsz hd hI hpr hp (hop p hp);have e2:o2=o:=Option.some.inj (ho2.symm.trans ho);subst e2;have hst':FInvR ops n F Ne a0 w1 (listed.setIfInBounds p true) (a.put o2.dst v) w:=by
    unfold Oper.wp at hst;rw [hv w] at hst;exact hst
   refine wpAny_first ho (Region.noSelect_spec hsel) (v:=v) (fun c a w hq=>?_) (f+g) listed a w (fun j oj hj hjp hun' hno=>?_) hpr (.inl ⟨hw,hv⟩) (Np hNe hF hp hsz hd hL' hsel hn hE hQ hyv hop htail f _ _ w (inv.set hpr hp) hst' (key p hpr hp))
   ·rw [hdst] at hq;exact hQ c a _ w hq
   ·have h4:=l4 j (Array.getElem?_eq_some_iff.1 hj).1;rw [ho,hj] at h4;simp only [Bool.or_eq_true,decide_eq_true_eq] at h4;rcases h4 with ((h4|h4)|h4)|h4
    ·exact absurd h4 hjp
    ·obtain ⟨oj',hoj',e,he,hb,hon⟩:=Region.waitsFor_spec h4;rw [hj] at hoj';injection hoj' with hoj'
     subst hoj';exact absurd hon (hno e he hb)
    ·have:=Jm h4 hpr;have h5:=getD_both hun';rw [this] at h5;cases h5
    ·exact h4
  ·refine ⟨fun h0=>(by rw [h0] at hkr;cases hkr),fun i hi=>?_⟩;have hin:i<n:=Nat.lt_of_not_le fun h=>by
    by_cases hin':i=n
    ·subst hin';have hall:∀ k,k<i→k≠p→listed.getD k false=true:=fun k hk hkp=>by
      have:=l1 k hk;simp only [Bool.or_eq_true,decide_eq_true_eq] at this;rcases this with h|h
      ·exact absurd h hkp
      ·exact Jm h hi
     have hkp:k=p:=by
      apply Classical.byContradiction;intro h';rw [hall k hk h'] at hku;cases hku
     subst hkp;exact hpr hkr
    ·have h2:=l2 i (by
      obtain ⟨_,o,ho,_⟩:=mem_ready.1 hi;exact (Array.getElem?_eq_some_iff.1 ho).1)
     simp only [Bool.or_eq_true,decide_eq_true_eq] at h2;rcases h2 with h2|h2
     ·omega
     ·have h3:=Jm h2 hi;have h5:=inv.tail (i-1) (by omega) (by
       obtain ⟨_,o,ho,_⟩:=mem_ready.1 hi;have:=(Array.getElem?_eq_some_iff.1 ho).1;omega)
      rw [getD_both h5] at h3;cases h3
   exact wpOp_mono (fun a' w' h=>Np hNe hF hp hsz hd hL' hsel hn hE hQ hyv hop htail f _ a' w' (inv.set hi hin) h (key i hi hin)) (Ti hNe hF hsz hd hI hi hin (hop i hin))
def Si (ops:Array Oper) (n sz p:Nat):Bool:=
 Ep ops n sz&&Io ops n p&&Region.noSelect ops&&decide (p<n)&&decide (n<ops.size)&&Ec ops n&&Region.seqB .any ops (ops.size-n) n (Er ops.size n)
theorem V0 {id:Nat} {l:List Oper} {a0:Act} {w:World} (n sz p:Nat) (hm:P.follows .mixedOrders=true) (hB:Si l.toArray n sz p=true) (hsz:a0.tmps.size=sz) (hQ:∀ c a tm w,Q (.panic c) { tmps:=tm,defers:=a.defers } w→Q (.panic c) a w)
  (F:Nat→Value→World→Prop) (Ne:Nat→Nat→Value→Value→Prop) (hNe:∀ i j v u,Ne i j v u→Ne j i u v) (hF:∀ i v w w',F i v w→Ext w w'→F i v w')
  (op:Oper) (hpo:l[p]? = some op) (hyv:∀ (a:Act) (w:World),(∀ j dj,Kz l.toArray n p j dj=true→F j (a.tmps.getD dj undef) w)→∃ v,∀ W,(execOp a.eval op).run P W=.ok (.value v) W)
  (hop:∀ i,i<n→FOp P l.toArray Q n F Ne a0 w.drew i) (htail:∀ (vs:Nat→Value) (w':World),Ext w.drew w'→(∀ i,i<n→F i (vs i) w')→(∀ i j,i<n→j<n→i≠j→Ne i j (vs i) (vs j))→wpList P l.toArray Q (l.drop n) (Bi l.toArray vs n a0) w'):(Code.region id l.toArray true).wp P Q a0 w:=by
 simp only [Si,Bool.and_eq_true,decide_eq_true_eq] at hB;obtain ⟨⟨⟨⟨⟨⟨hd,hL⟩,hsel⟩,hp⟩,hn⟩,hE⟩,hseq⟩:=hB;refine wp_region_any hm ?_;have inv0:HeadInv .any l.toArray n (Array.replicate l.toArray.size false):=
  ⟨by simp,fun j oj _ hl=>(by rw [getD_replicate_false] at hl;cases hl),fun t _ ht=>getD_in (by simpa using ht) (getD_replicate_false _ _)⟩
 have hI0:FInvR l.toArray n F Ne a0 w.drew (Array.replicate l.toArray.size false) a0 w.drew:=
  ⟨Ext.refl _,rfl,rfl,fun i o d _ _ _ hl=>(by rw [getD_replicate_false] at hl;cases hl),fun d _=>rfl,fun i j _ _ _ _ _ _ _ _ _ _ _ hl=>(by rw [getD_replicate_false] at hl;cases hl)⟩
 have hu:∀ m,unl m (Array.replicate l.toArray.size false)=m:=fun m=>by
  induction m with
  | zero=>rfl
  | succ m ih=>rw [Ei,ih,getD_replicate_false];simp
 have H:=Np (P:=P) (Q:=Q) (g:=(l.drop n).length) hNe hF hp hsz hd hL hsel hn hE hQ (fun o listed a w ho hpr hI=>by
  obtain ⟨_,o',ho',hall⟩:=mem_ready.1 hpr;have e1:o'=o:=Option.some.inj (ho'.symm.trans ho);subst e1;have e2:op=o':=by
   have:l.toArray[p]? = some op:=by rw [← hpo];simp
   exact Option.some.inj (this.symm.trans ho)
  subst e2;refine hyv a w fun j dj h=>?_
  unfold Kz at h;simp only [Bool.and_eq_true,decide_eq_true_eq] at h;obtain ⟨⟨hj,h1⟩,h2⟩:=h;cases hoj:l.toArray[j]? with
  | none=>rw [hoj] at h1;cases h1
  | some oj=>
   rw [hoj] at h1;exact hI.done j oj dj hj hoj (of_decide_eq_true h1) (Jm h2 hpr)) hop (fun listed a w' inv hall hI=>by
  obtain ⟨vs,rfl,hv,hne⟩:=Tl hsz hd hI hall;have hL:listed=Er l.toArray.size n:=by
   apply Array.ext
   ·rw [inv.size];simp [Er]
   ·intro i h1 h2;have h3:(Er l.toArray.size n)[i]=decide (i<n):=by simp [Er]
    rw [h3];by_cases hi:i<n
    ·have:=hall i hi;rw [Array.getD_eq_getD_getElem?,Array.getElem?_eq_getElem h1] at this;simp only [Option.getD_some] at this;rw [this];simp [hi]
    ·have:=inv.tail i (by omega) (by rw [← inv.size];exact h1);rw [Array.getD_eq_getD_getElem?,Array.getElem?_eq_getElem h1] at this;simp only [Option.getD_some] at this;rw [this];simp [hi]
  have hdl:l.toArray.size-n=(l.drop n).length:=by simp
  rw [hdl] at hseq;exact wpAny_of_seq (l.drop n) n listed _ w' (fun j=>by simp [List.getElem?_drop]) (by rw [hL];exact hseq) (htail vs w' hI.ext hv hne)) n _ a0 w.drew inv0 hI0 (hu n)
 have e:n+(l.drop n).length=l.toArray.size:=by
  have:n<l.length:=by simpa using hn
  simp;omega
 rw [e] at H;exact H
end
end Go.Proofs.YtaiogolidlamiaaGreatDoor
