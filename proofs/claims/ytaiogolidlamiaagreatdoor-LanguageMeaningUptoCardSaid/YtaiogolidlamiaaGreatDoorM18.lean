import Derived.Deep.MidRow
import Derived.Test.YtaiogolidlamiaaGreatDoorM17
set_option linter.unusedVariables false
set_option linter.unusedSimpArgs false
namespace Go.Proofs.YtaiogolidlamiaaGreatDoor
set_option maxRecDepth 100000
open Go.RowKit Go.Shelf
theorem W5 {σ τ:Type} {nx:σ→Nat→σ} {ny:τ→Nat→τ} (φ:σ→τ) (h:∀ s b,φ (nx s b)=ny (φ s) b) (w:List UInt8):∀ s,φ (At nx s w)=At ny (φ s) w:=by
 induction w with
 | nil=>exact fun s=>rfl
 | cons x w ih=>
  intro s;show φ (At nx (nx s x.toNat) w)=At ny (ny (φ s) x.toNat) w;rw [ih,h]
theorem To {σ τ:Type} {nx:σ→Nat→σ} {st:σ} (φ:σ→τ) (hi:∀ w w',φ (At nx st w)=φ (At nx st w')→At nx st w=At nx st w') (l:List σ) (hl:l.Nodup) (hr:∀ s,s∈l→∃ w,At nx st w=s):(l.map φ).Nodup:=by
 rw [List.nodup_iff_pairwise_ne,List.pairwise_map];refine List.Pairwise.imp_of_mem (fun {a b} ha hb hab e=>hab ?_) (List.nodup_iff_pairwise_ne.1 hl);obtain ⟨w,rfl⟩:=hr a ha;obtain ⟨w',rfl⟩:=hr b hb;exact hi w w' e
theorem Expl.conv {σ τ:Type} {c:Nat→Nat} {bs:List Nat} {st:σ} {nx:σ→Nat→σ} {ac:σ→Bool} {l:List σ} {t:Tbl} (h:Expl c bs st nx ac l t) (φ:σ→τ) {ny:τ→Nat→τ} {ad:τ→Bool} (hn:∀ s b,φ (nx s b)=ny (φ s) b) (ha:∀ s,ac s=ad (φ s))
  (hi:∀ w w',φ (At nx st w)=φ (At nx st w')→At nx st w=At nx st w'):Expl c bs (φ st) ny ad (l.map φ) t where
 cell:=h.cell
 cells:=h.cells
 len:=by rw [List.length_map];exact h.len
 acl:=by rw [List.length_map];exact h.acl
 pos:=by rw [List.length_map];exact h.pos
 nodup:=To φ hi l h.nodup fun s hs=>by
  obtain ⟨i,hi⟩:=List.getElem?_of_mem hs;exact h.reach i s hi
 zero:=by rw [List.getElem?_map,h.zero];rfl
 row:=fun i hl=>h.row i (by simpa using hl)
 tgt:=fun i s hs k hk=>by
  rw [List.getElem?_map] at hs;obtain ⟨x,hx,rfl⟩:=Option.map_eq_some_iff.1 hs;obtain ⟨h1,h2⟩:=h.tgt i x hx k hk;exact ⟨by simpa using h1,by rw [List.getElem?_map,h2,← hn];rfl⟩
 acc:=fun i s hs=>by
  rw [List.getElem?_map] at hs;obtain ⟨x,hx,rfl⟩:=Option.map_eq_some_iff.1 hs;rw [h.acc i x hx,ha]
 reach:=fun i s hs=>by
  rw [List.getElem?_map] at hs;obtain ⟨x,hx,rfl⟩:=Option.map_eq_some_iff.1 hs;obtain ⟨w,rfl⟩:=h.reach i x hx;exact ⟨w,(W5 φ hn w st).symm⟩
theorem Ty {σ τ:Type} {st:σ} {nx:σ→Nat→σ} {m:Nat} (h:Bx nx st m) (φ:σ→τ) {ny:τ→Nat→τ} (hn:∀ s b,φ (nx s b)=ny (φ s) b) (hi:∀ w w',φ (At nx st w)=φ (At nx st w')→At nx st w=At nx st w'):Bx ny (φ st) m:=by
 obtain ⟨l,h1,h2,h3⟩:=h;refine ⟨l.map φ,To φ hi l h1 h2,fun s hs=>?_,by simpa using h3⟩;obtain ⟨x,hx,rfl⟩:=List.mem_map.1 hs;obtain ⟨w,rfl⟩:=h2 x hx;exact ⟨w,(W5 φ hn w st).symm⟩
theorem Vf {σ:Type} [DecidableEq σ] {c:Nat→Nat} {bs:List Nat} {st:σ} {nx:σ→Nat→σ} {ac:σ→Bool} {l:List σ} {t:Tbl} (h:Expl c bs st nx ac l t) {a b:Nat→Nat} (hj:Joint a b c bs) (hn:∀ s x,x<256→nx s (bs.getD (c x) 0)=nx s x) {m:Nat} (hm:l.length≤m):¬ Bx nx st m:=by
 refine I4 l (fun w=>?_) hm;have:∀ (w:List UInt8) i s,l[i]? = some s→At nx s w∈l:=fun w=>by
  induction w with
  | nil=>intro i s hi;exact List.mem_of_getElem? hi
  | cons x w ih=>
   intro i s hi;have h1:=(h.tgt i s hi _ (hj.lt _ x.toNat_lt)).2;rw [hn s _ x.toNat_lt] at h1;exact ih _ _ h1
 exact this w 0 st h.zero
def stP (s:Sta):Nat × Nat:=(s.p,s.s)
theorem Kh {s t:Sta} (hs:s.q=0) (ht:t.q=0) (h:stP s=stP t):s=t:=by
 cases s;cases t
 simp [stP] at h hs ht;simp [h,hs,ht]
def sNx (x:Tbl) (s:Sta) (b:Nat):Sta:=⟨0,0,if Cd x (Aq x s.s b x.nxt.length) then Aq x s.s b x.nxt.length ||| 1 else Aq x s.s b x.nxt.length⟩
def sAc (x:Tbl) (s:Sta):Bool:=s.p==1||Cd x s.s
def Kn (s:Sta):Prop:=s.p<2∧s.q=0∧s.s<18446744073709551616
theorem Aam {x:Tbl} (hx:TVal x) (hn:x.nxt.length≤64) (s:Sta) (b:Nat) (hb:b<256):Kn (sNx x s b):=by
 refine ⟨by show 0<2;omega,rfl,?_⟩;have h:=Ha hx hn s.s b hb _ (Nat.le_refl _);unfold sNx;simp only;split
 ·exact Nat.or_lt_two_pow (n:=64) h (by omega)
 ·exact h
theorem Km (x:Tbl) (w:List UInt8):(At (sNx x) ⟨1,0,1⟩ w).q=0:=by
 induction w using Ek with
 | h0=>rfl
 | h1 w y ih=>rw [Eh];rfl
theorem i114:(Tryz.prog.info? 114).map (·.size)=some 1:=by kernel_rfl
theorem Aiq (x:Int):Tryz.prog.built 116 [(2,.agg #[.int .u64 x])]=some #[.int .i64 0,.int .i64 0,.int .u64 x]:=by kernel_rfl
theorem S5 (x:Nat) (hx:x<18446744073709551616):bits BinOp.or IntKind.u64 (x:Int) 1=((x ||| 1:Nat):Int):=by
 rw [show (1:Int)=((1:Nat):Int) from rfl,u64_or_nat _ _ hx (by omega)]
set_option maxHeartbeats 1000000 in
theorem Zw (x:Tbl) (hx:TVal x) (hn:x.nxt.length≤64) (A:Array Value) (gx:Nat) (w:World) (hA:IsT w A x) (hgx:w.heap[gx]? = some (.cells A 108 (0,0))) :
  Mj w 157 #[.pointer (some ⟨gx,0,none⟩)] (sNx x) Kn:=by
 intro W hW s hs b hb;obtain ⟨-,-,hss⟩:=hs;have hIT:=hA.ext hW;obtain ⟨_,_,_,_,_,_,hAs,hAo,_⟩:=hIT.opened hx;have hiA:(Tryz.prog.info? 108).map (·.size)=some A.size:=by rw [hAs];exact Bv
 have hgx:=hW.heap hgx;have f73:=fun V (hV:Ext W V)=>Lib.hid (Rf x hx hn A s.s hss b hb V (hIT.ext hV))
 have htl:=Ha hx hn s.s b hb _ (Nat.le_refl _);have f76:=fun V (hV:Ext W V)=>Lib.hid (Na x hx hn A (Aq x s.s b x.nxt.length) htl V (hIT.ext hV))
 show Calls _ _ _ _ fun e w'=>e=.returned (.agg #[.int .i64 ((0:Nat):Int),.int .i64 ((0:Nat):Int),.int .u64 ((if Cd x (Aq x s.s b x.nxt.length) then Aq x s.s b x.nxt.length ||| 1 else Aq x s.s b x.nxt.length:Nat):Int)])∧Ext W w'
 have hE0:=((Ext.refl W).alloc (.cells #[iv s.p,iv s.q,.int .u64 (s.s:Int)] 116)).alloc (.cells #[.int .i64 0,.int .i64 0,.int .u64 0] 116);have H3:=Af (Ab W (.cells #[iv s.p,iv s.q,.int .u64 (s.s:Int)] 116)) (.cells #[.int .i64 0,.int .i64 0,.int .u64 0] 116);have H5:=heap_alloc2_new W (.cells #[iv s.p,iv s.q,.int .u64 (s.s:Int)] 116) (.cells #[.int .i64 0,.int .i64 0,.int .u64 0] 116);generalize Aq x s.s b x.nxt.length=T at *;generalize Cd x T=bo at *;have HO:=Lib.hid (S5 T htl);clear hA hIT hW;go_enter Tryz.func157,Tryz.ntmps157;go_upto_region 1 with (fail)
 obtain ⟨w1,hw1⟩:∃ V,(W.alloc (.cells #[iv s.p,iv s.q,.int .u64 (s.s:Int)] 116)).alloc (.cells #[.int .i64 0,.int .i64 0,.int .u64 0] 116)=V:=⟨_,rfl⟩;have hs1:W.heap.size+1<w1.heap.size:=by rw [← hw1,World.size_alloc,World.size_alloc];omega
 rw [hw1] at hE0 H3 H5;simp only [hw1];clear hw1;have HGX:=Lib.hid (hE0.heap hgx);have hr3:w1.rangeAt W.heap.size 2 [.int .u64 (s.s:Int)]:=fun j v hv=>by
  obtain rfl:j=0:=by
   rcases j with _|j
   ·rfl
   ·simp at hv
  rw [cell_of_row w1 W.heap.size _ _ _ _ H3];exact hv
 have HB5:=Lib.hid H5;have HE0:=Lib.hid hE0;clear H3 H5 hgx hE0;go_upto_region 2 with (first
  | (refine wpList_load_row rfl 108 (.tmp 2) rfl _ rfl _ _ _ _ HGX.out Tryz.underlying108 rfl hiA ?_)
  | (refine wpList_load_mid rfl 114 (.tmp 8) rfl _ 2 rfl _ _ hr3 Tryz.underlying114 rfl i114 ?_)
  | (go_at_call 73;(with_reducible refine (f73 _ HE0.out).out.mono ?_);rintro e w2 ⟨rfl,hE2⟩)
  | (refine wpList_store_row rfl 114 (.tmp 6) (.tmp 11) rfl _ _ rfl rfl _ _ (Ab w2 (.cells #[.int .u64 0] 114)) i114 rfl (Ta _) ?_))
 have hE3:=((Ext.refl w2).alloc (.cells #[.int .u64 0] 114)).setRow (Nat.le_refl _) #[.int .u64 (T:Int)];have H6:=setRow_heap (w2.alloc (.cells #[.int .u64 0] 114)) w2.heap.size _ #[.int .u64 (T:Int)] _ _ (Ab w2 _);obtain ⟨w3,hw3⟩:∃ V,(w2.alloc (.cells #[.int .u64 0] 114)).setRow w2.heap.size #[.int .u64 (T:Int)]=V:=⟨_,rfl⟩;rw [hw3] at hE3 H6;simp only [hw3];clear hw3;have hE4:=hE2.trans hE3;have hs2:=hE2.size;have HB5:=Lib.hid (hE4.heap HB5.out);have HGX:=Lib.hid (hE4.heap HGX.out);have HB6:=Lib.hid H6;have HE4:=Lib.hid (HE0.out.trans hE4);generalize w2.heap.size=g6 at *;clear H6 hE2 hE3 hE4 hr3 f73;go_upto_if 14 with (first
  | (refine wpList_load_row rfl 108 (.tmp 2) rfl _ rfl _ _ _ _ HGX.out Tryz.underlying108 rfl hiA ?_)
  | (refine wpList_load_row rfl 114 (.tmp 6) rfl _ rfl _ _ _ _ HB6.out Tryz.underlying114 rfl i114 ?_)
  | (go_at_call 76;(with_reducible refine (f76 _ HE4.out).out.mono ?_);rintro e w5 ⟨rfl,hE5⟩;have HB5:=Lib.hid (hE5.heap HB5.out);have HB6:=Lib.hid (hE5.heap HB6.out);have HE5:=Lib.hid (HE4.out.trans hE5)))
 have c6:=(cell_of_row w5 g6 0 _ _ _ HB6.out).trans (show (#[Value.int .u64 (T:Int)])[0]? = some (.int .u64 (T:Int)) from rfl);have f6:=frozen_of_row w5 g6 0 _ _ HB6.out;have hb0:=fun z=>Lib.hid (Aiq z)
 cases bo
 ·go_wp2_with (first
   | (refine wpList_load_row rfl 114 (.tmp 6) rfl _ rfl _ _ _ _ HB6.out Tryz.underlying114 rfl i114 ?_)
   | (refine Ci rfl 116 _ rfl #[.int .i64 0,.int .i64 0,.int .u64 (T:Int)] ?_ ?_;(simp [Act.eval];with_reducible exact (hb0 _).out))
   | (refine wpList_store_row rfl 116 (.tmp 5) (.tmp 20) rfl _ _ rfl rfl _ _ HB5.out Dc rfl (by simp [Value.oneCell']) ?_))
  refine bodyPost_ret (v:=.agg #[.int .i64 0,.int .i64 0,.int .u64 (T:Int)]) (results_cell_row rfl _ _ _ _ _ _ _ rfl (setRow_heap w5 _ _ _ 116 (0,0) HB5.out) Tryz.underlying116 rfl Dc) rfl ?_;exact ⟨rfl,HE5.out.setRow (by omega) _⟩
 ·go_upto_region 4 with (fail)
  have hsc:w5.setCell ⟨g6,0,none⟩ (.int .u64 (bits BinOp.or IntKind.u64 (T:Int) 1))=w5.setRow g6 #[.int .u64 ((T ||| 1:Nat):Int)]:=by
   rw [setCell_eq_setRow w5 _ _ _ _ _ _ HB6.out,HO.out];rfl
  have hne:W.heap.size+1≠g6:=fun e=>by
   have h1:=HB5.out;rw [e,HB6.out] at h1;injection h1 with h1
   injection h1 with h1 _
   simp at h1
  rw [hsc];have H6':=setRow_heap w5 g6 _ #[.int .u64 ((T ||| 1:Nat):Int)] _ _ HB6.out;have H5':=Bg HB5.out hne #[.int .u64 ((T ||| 1:Nat):Int)];have hE6:=HE5.out.setRow (show W.heap.size≤g6 by omega) #[.int .u64 ((T ||| 1:Nat):Int)];obtain ⟨z,hz⟩:∃ z:Int,((T ||| 1:Nat):Int)=z:=⟨_,rfl⟩;rw [hz] at H6' H5' hE6;rw [hz];obtain ⟨w6,hw6⟩:∃ V,w5.setRow g6 #[.int .u64 z]=V:=⟨_,rfl⟩;rw [hw6] at H6' H5' hE6;rw [hw6];have HB6:=Lib.hid H6';have HB5:=Lib.hid H5';have HE6:=Lib.hid hE6;have HZ:=Lib.hid hz;clear c6 f6 hsc H5' H6' hE6 hz HO hw6;go_wp2_with (first
   | (refine wpList_load_row rfl 114 (.tmp 6) rfl _ rfl _ _ _ _ HB6.out Tryz.underlying114 rfl i114 ?_)
   | (refine Ci rfl 116 _ rfl #[.int .i64 0,.int .i64 0,.int .u64 z] ?_ ?_;(simp [Act.eval];with_reducible exact (hb0 _).out))
   | (refine wpList_store_row rfl 116 (.tmp 5) (.tmp 20) rfl _ _ rfl rfl _ _ HB5.out Dc rfl (by simp [Value.oneCell']) ?_))
  refine bodyPost_ret (v:=.agg #[.int .i64 0,.int .i64 0,.int .u64 z]) (results_cell_row rfl _ _ _ _ _ _ _ rfl (setRow_heap w6 _ _ _ 116 (0,0) HB5.out) Tryz.underlying116 rfl Dc) rfl ?_;exact ⟨by rw [← HZ.out],HE6.out.setRow (by omega) _⟩
set_option maxHeartbeats 1000000 in
theorem Y4 (x:Tbl) (hx:TVal x) (hn:x.nxt.length≤64) (A:Array Value) (gx:Nat) (w:World) (hA:IsT w A x) (hgx:w.heap[gx]? = some (.cells A 108 (0,0))) :
  Mg w 158 #[.pointer (some ⟨gx,0,none⟩)] (sAc x) Kn:=by
 intro W hW s hs;obtain ⟨hp,-,hss⟩:=hs;have hIT:=hA.ext hW;obtain ⟨_,_,_,_,_,_,hAs,hAo,_⟩:=hIT.opened hx;have hiA:(Tryz.prog.info? 108).map (·.size)=some A.size:=by rw [hAs];exact Bv
 have hgx:=hW.heap hgx;have f76:=fun V (hV:Ext W V)=>Lib.hid (Na x hx hn A s.s hss V (hIT.ext hV))
 show Calls _ _ _ _ fun e w'=>e=.returned (.bool (s.p==1||Cd x s.s))∧Ext W w'
 have hE0:=(Ext.refl W).alloc (.cells #[iv s.p,iv s.q,.int .u64 (s.s:Int)] 116);have H2:=Ab W (.cells #[iv s.p,iv s.q,.int .u64 (s.s:Int)] 116);generalize Cd x s.s=bo at *;clear hA hIT hW;go_enter Tryz.func158,Tryz.ntmps158;go_upto_region 1 with (fail)
 obtain ⟨w1,hw1⟩:∃ V,W.alloc (.cells #[iv s.p,iv s.q,.int .u64 (s.s:Int)] 116)=V:=⟨_,rfl⟩;rw [hw1] at hE0 H2;simp only [hw1];clear hw1;have HGX:=Lib.hid (hE0.heap hgx);have hr2:w1.rangeAt W.heap.size 2 [.int .u64 (s.s:Int)]:=fun j v hv=>by
  obtain rfl:j=0:=by
   rcases j with _|j
   ·rfl
   ·simp at hv
  rw [cell_of_row w1 W.heap.size _ _ _ _ H2];exact hv
 have c0:=(cell_of_row w1 W.heap.size 0 _ _ _ H2).trans (show (#[iv s.p,iv s.q,.int .u64 (s.s:Int)]:Array Value)[0]? = some (iv s.p) from rfl);have HE0:=Lib.hid hE0;clear H2 hgx hE0;obtain ⟨bp,hbp⟩:∃ b,(s.p==1)=b:=⟨_,rfl⟩;have heq:((s.p:Int)==1)=bp:=by
  rw [← hbp,Bool.eq_iff_iff];simp
  omega
 have HBP:=Lib.hid hbp;clear hbp hp hss;cases bp
 ·go_wp2_with (first
   | (refine Dq rfl (wp_load_row 108 (.tmp 1) rfl _ rfl _ _ _ _ HGX.out Tryz.underlying108 rfl hiA ?_))
   | (refine Dq rfl (wp_load_mid 114 (.tmp 9) rfl _ 2 rfl _ _ hr2 Tryz.underlying114 rfl i114 ?_))
   | (go_at_call 76;(with_reducible refine (f76 _ HE0.out).out.mono ?_);rintro e w5 ⟨rfl,hE5⟩;have HE5:=Lib.hid (HE0.out.trans hE5)))
  go_ret;exact ⟨by rw [HBP.out];rfl,HE5.out⟩
 ·clear hr2 f76 HGX hiA;go_wp2_with (fail);go_ret;exact ⟨by rw [HBP.out];rfl,HE0.out⟩
theorem Ws (p s:Int):Tryz.prog.built 116 [(0,.int .i64 p),(2,.agg #[.int .u64 s])]=some #[.int .i64 p,.int .i64 0,.int .u64 s]:=by kernel_rfl
theorem Ais:Tryz.prog.built 114 [(0,.int .u64 1)]=some #[.int .u64 1]:=by kernel_rfl
theorem Qk:Tryz.zeroCells108.all (·.oneCell')=true:=by kernel_rfl
theorem Xp:∃ vn va,Tryz.zeroCells108=Ag (fun _=>0) 0 vn va∧vn=.slice none 0 0∧va=.slice none 0 0:=⟨_,_,(show Tryz.zeroCells108=Ag (fun _=>0) 0 (.slice none 0 0) (.slice none 0 0) by kernel_rfl),rfl,rfl⟩
theorem Mo (o:Nat) (x:Int):Tryz.zeroCells108[o]?≠some (.int .u64 x):=by
 obtain ⟨vn,va,h,rfl,rfl⟩:=Xp;rw [h];intro h;have:=Array.mem_of_getElem? h;simp only [Ag,Du,List.mem_toArray,List.mem_append,List.mem_map,List.mem_cons,List.not_mem_nil,or_false] at this;rcases this with ⟨b,_,hb⟩|hb|hb|hb<;>simp at hb
theorem Zb {x:Tbl} (hx:TVal x) {c:Nat→Nat} {bs:List Nat} (hj:Joint x.cell x.cell c bs) {l:List Sta} {t:Tbl} (h:Expl c bs ⟨1,0,1⟩ (sNx x) (sAc x) l t) (hl:l.length≤4096) :
  TVal t∧t.nxt.length≤4096∧¬ Bx (snx x) (1,1) 4096∧∀ u,t.has u=true↔Star (fun u=>x.has u=true) u:=by
 have hc:Expl c bs (1,1) (snx x) (fun s=>s.1==1||Cd x s.2) (l.map stP) t:=
  h.conv (st:=⟨1,0,1⟩) stP (fun s b=>rfl) (fun s=>rfl) (fun w w' e=>Kh (Km x w) (Km x w') e)
 have hn:∀ (s:Nat × Nat) b,b<256→snx x s (bs.getD (c b) 0)=snx x s b:=fun s b hb=>by
  obtain ⟨_,h1,_⟩:=hj.rep b hb;have e2:∀ n,Aq x s.2 (bs.getD (c b) 0) n=Aq x s.2 b n:=fun n=>by
   induction n with
   | zero=>rfl
   | succ n ih=>simp only [Aq];rw [ih];unfold Tbl.stp;rw [h1]
  unfold snx;rw [e2]
 exact ⟨h.tval hj,by rw [h.len];exact hl,Vf hc hj hn (by simpa using hl),fun u=>Y9 hx hc hj u⟩
set_option maxHeartbeats 1000000 in
theorem Ze (a:Dfa) (ha:Val a) (hna:a.nxt.length≤64) (va:Value) (w:World) (hT:Tab w) (hsz:0<w.heap.size) (hva:IsD w va a) :
  Calls Tryz.prog 147 #[va] w fun e w'=>∃ r,ResOf w' e r∧F7 a r∧Ext w w':=by
 have HDa:=Lib.hid hva;have HVa:=Lib.hid ha;obtain ⟨ac,lc,cc,an,cn,aa,la,ca,rfl⟩:=hva.agg;have f47:=fun W (hW:Ext w W)=>Lib.hid (Dr a ha hna _ W (HDa.out.ext hW))
 have f68a:=fun W (hW:Ext w W)=>Lib.hid (Is a ha _ W (hT.below hW.below hsz) (Nat.lt_of_lt_of_le hsz hW.size) (HDa.out.ext hW))
 have HTa:=Lib.hid (fun W (hW:Ext w W)=>hT.below hW.below hsz);obtain ⟨Va,hVa⟩:∃ X,dA (.slice ac lc cc) (.slice an a.nxt.length cn) (.slice aa la ca)=X:=⟨_,rfl⟩;have hiVa:(Tryz.prog.info? 30).map (·.size)=some Va.size:=by rw [← hVa];exact Ad
 rw [hVa] at f47 f68a HDa;rw [hVa];have hE0:=((Ext.refl w).alloc (.cells Va 30)).alloc (.cells #[.slice none 0 0,.slice none 0 0,.slice none 0 0] 30);have H1:=Af (Ab w (.cells Va 30)) (.cells #[.slice none 0 0,.slice none 0 0,.slice none 0 0] 30);have H2:=heap_alloc2_new w (.cells Va 30) (.cells #[.slice none 0 0,.slice none 0 0,.slice none 0 0] 30);clear hva ha hT hVa;go_enter Tryz.func147,Tryz.ntmps147;go_upto_region 1 with (fail)
 obtain ⟨w1,hw1⟩:∃ W,(w.alloc (.cells Va 30)).alloc (.cells #[.slice none 0 0,.slice none 0 0,.slice none 0 0] 30)=W:=⟨_,rfl⟩;have hs1:w.heap.size+1<w1.heap.size:=by rw [← hw1,World.size_alloc,World.size_alloc];omega
 rw [hw1] at hE0 H1 H2;simp only [hw1];clear hw1;have HB1:=Lib.hid H1;have HB2:=Lib.hid H2;have HE0:=Lib.hid hE0;clear H1 H2 hE0;go_upto_region 3 with (first
  | (refine wpList_load_row rfl 30 (.tmp 1) rfl _ rfl _ _ _ _ HB1.out Tryz.underlying30 rfl hiVa ?_)
  | (go_at_call 47;(with_reducible refine (f47 _ HE0.out).out.mono ?_);rintro e w2 ⟨rfl,hE2⟩;have HE2:=Lib.hid hE2;clear hE2))
 have HE2':=Lib.hid (HE0.out.trans HE2.out);have HB1:=Lib.hid (HE2.out.heap HB1.out);have HB2:=Lib.hid (HE2.out.heap HB2.out);go_upto_region 4 with (first
  | (refine wpList_load_row rfl 30 (.tmp 1) rfl _ rfl _ _ _ _ HB1.out Tryz.underlying30 rfl hiVa ?_)
  | (go_at_call 68;(with_reducible refine (f68a _ HE2'.out).out.mono ?_);rintro e w3 ⟨A1,rfl,hA1,hE3⟩;have HE3:=Lib.hid hE3;clear hE3;have hC:=Lib.hid (Jq (Ae a) (Be HVa.out) (show a.nxt.length≤65536 by omega) A1 w3 hA1);clear hA1)
  | (go_at_call 69;(with_reducible refine hC.out.mono ?_);rintro e w4 ⟨v,d,rfl,hd,hcan,hhas,hE4⟩;have HE4:=Lib.hid hE4;have HCa:=Lib.hid hcan;have HH:=Lib.hid hhas;clear hcan hhas hE4 hC;have f68d:=Lib.hid (Is d HCa.out.val v w4 (HTa.out w4 ((HE2'.out.trans HE3.out).trans HE4.out)) (Nat.lt_of_lt_of_le hsz ((HE2'.out.trans HE3.out).trans HE4.out).size) hd);obtain ⟨ac1,lc1,cc1,an1,cn1,aa1,la1,ca1,rfl⟩:=hd.agg;clear hd)
  | (go_at_call 68;(with_reducible refine f68d.out.mono ?_);rintro e w5 ⟨A,rfl,hA,hE5⟩;have HIT:=Lib.hid hA;have HE5:=Lib.hid hE5;obtain ⟨_,_,_,_,_,_,hAs,hAo,_⟩:=hA.opened (Be HCa.out.val);clear hA hE5 f68d;have hiA:(Tryz.prog.info? 108).map (·.size)=some A.size:=(by rw [hAs];exact Bv);have hzA:Tryz.zeroCells108.size=A.size:=(by rw [Cl,hAs]);clear hAs)
  | (refine wpList_store_row rfl 108 (.tmp 4) (.tmp 17) rfl _ _ rfl rfl _ _ (Ab w5 (.cells Tryz.zeroCells108 108)) hiA hzA hAo ?_))
 have hE6:=((Ext.refl w5).alloc (.cells Tryz.zeroCells108 108)).setRow (Nat.le_refl _) A;have H4:=setRow_heap (w5.alloc (.cells Tryz.zeroCells108 108)) w5.heap.size _ A _ _ (Ab w5 _);obtain ⟨w6,hw6⟩:∃ W,(w5.alloc (.cells Tryz.zeroCells108 108)).setRow w5.heap.size A=W:=⟨_,rfl⟩;rw [hw6] at hE6 H4;simp only [hw6];clear hw6;have HE6:=Lib.hid ((((HE2'.out.trans HE3.out).trans HE4.out).trans HE5.out).trans hE6);have HB2:=Lib.hid ((((HE3.out.trans HE4.out).trans HE5.out).trans hE6).heap HB2.out);have HIT:=Lib.hid (HIT.out.ext hE6);have HB4:=Lib.hid H4;generalize w5.heap.size=g4 at *;clear hE6 H4 f68a f47 HE0 HE2 HE2' HE3 HE4 HE5 HB1;have hda:d.nxt.length≤a.nxt.length:=L1 HCa.out HVa.out (fun u=>by rw [HH.out,Dt]);have hj70:=Lib.hid (O5 (Ae d) (Ae d) (Be HCa.out.val) (Be HCa.out.val) A A w6 HIT.out HIT.out);have hz77:∀ c,Tryz.zeroCells77.size=(Bk c).size:=fun c=>by rw [Ij,D7,D7]
 have hi77:∀ c,(Tryz.prog.info? 77).map (·.size)=some (Bk c).size:=fun c=>by rw [D7];exact I9
 go_upto_region 5 with (first
  | (refine wpList_load_row rfl 108 (.tmp 4) rfl _ rfl _ _ _ _ HB4.out Tryz.underlying108 rfl hiA ?_)
  | (go_at_call 70;(with_reducible refine hj70.out.mono ?_);rintro e w7 ⟨c,bs,vj,rfl,hjo,hib,hE7⟩;have hzc:=hz77 c;have hic:=hi77 c;have hoc:=Lz c;obtain ⟨A9,hA9⟩:∃ X,Bk c=X:=⟨_,rfl⟩;rw [hA9] at hzc hic hoc;rw [hA9])
  | (refine wpList_store_row rfl 77 (.tmp 5) (.tmp 22) rfl _ _ rfl rfl _ _ (Ab w7 (.cells Tryz.zeroCells77 77)) hic hzc hoc ?_))
 have hE8:=hE7.trans (((Ext.refl w7).alloc (.cells Tryz.zeroCells77 77)).setRow (Nat.le_refl _) A9);have H5:=setRow_heap (w7.alloc (.cells Tryz.zeroCells77 77)) w7.heap.size _ A9 _ _ (Ab w7 _);have hib8:=hib.ext (((Ext.refl w7).alloc (.cells Tryz.zeroCells77 77)).setRow (Nat.le_refl _) A9);obtain ⟨w8,hw8⟩:∃ W,(w7.alloc (.cells Tryz.zeroCells77 77)).setRow w7.heap.size A9=W:=⟨_,rfl⟩;rw [hw8] at hE8 H5 hib8;simp only [hw8];clear hw8 hE7 hib hz77 hi77 hj70;have HB5:=Lib.hid H5;have HJO:=Lib.hid hjo;have HA9:=Lib.hid hA9;have HB2:=Lib.hid (hE8.heap HB2.out);have HB4:=Lib.hid (hE8.heap HB4.out);have HIT:=Lib.hid (HIT.out.ext hE8);have HE8:=Lib.hid (HE6.out.trans hE8);clear H5 hjo hA9 hzc hoc hE8 HE6;generalize w7.heap.size=g5 at *;have hm0:0<bs.length:=by have:=HJO.out.lt 0 (by omega);omega
 have hm1:bs.length≤256:=by
  have:=Hj c 256 bs.length (fun j hj=>⟨bs.getD j 0,(HJO.out.byte j hj).1,(HJO.out.byte j hj).2⟩);exact this
 have hd64:(Ae d).nxt.length≤64:=by show d.nxt.length≤64;omega
 have HTV:=Lib.hid (Be HCa.out.val);have HNX:=Lib.hid (Zw (Ae d) HTV.out hd64 A g4 w8 HIT.out HB4.out);have HTX:=Lib.hid (Y4 (Ae d) HTV.out hd64 A g4 w8 HIT.out HB4.out);have hX:=Lib.hid (Pl c bs hm0 hm1 (fun k hk=>(HJO.out.byte k hk).1) ⟨1,0,1⟩ (sNx (Ae d)) (sAc (Ae d)) Kn
  (fun x hx=>⟨by have:=hx.1;omega,by have:=hx.2.1;omega,hx.2.2⟩) ⟨by show 1<2;omega,rfl,by show 1<18446744073709551616;omega⟩
  (fun x hx k hk=>Aam HTV.out hd64 x k hk) 4096 (by omega) (by omega) 157 158 _ _ (enters_of Tryz.func157 (by kernel_rfl) rfl) (enters_of Tryz.func158 (by kernel_rfl) rfl) vj w8 hib8 HNX.out HTX.out)
 rw [HA9.out] at hX;have hX':Hid (Calls Tryz.prog 74 #[.agg A9,vj,.agg #[.int .i64 1,.int .i64 0,.int .u64 1],.func (.func 157) #[] #[.pointer (some ⟨g4,0,none⟩)],.func (.func 158) #[] #[.pointer (some ⟨g4,0,none⟩)],.int .i64 4096] w8 fun e w'=>
   ∃ A b,e=.returned (.tuple #[.agg A,.bool b])∧A.size=259∧A.all (·.oneCell')=true∧(b=false→Bx (snx (Ae d)) (1,1) 4096)∧(b=true→∃ t,IsT w' A t∧TVal t∧t.nxt.length≤4096∧¬ Bx (snx (Ae d)) (1,1) 4096∧(∀ u,t.has u=true↔Star (fun u=>d.has u=true) u))∧Ext w8 w'):=Lib.hid (Calls.mono hX.out fun e w' ⟨hE,h⟩=>by
  rcases h with ⟨A,l,t,he,hT,hX,hl,hTg⟩|⟨hM,he⟩
  ·obtain ⟨h1,h2,h3,h4⟩:=Zb HTV.out HJO.out hX hl;obtain ⟨_,_,_,_,_,_,hTs,hTo,_⟩:=hT.opened h1;refine ⟨A,true,he,hTs,hTo,fun h=>by simp at h,fun _=>⟨t,hT,h1,h2,h3,fun u=>?_⟩,hE⟩;rw [h4];have:(fun u=>(Ae d).has u=true)=fun u=>d.has u=true:=funext fun u=>by rw [Dt]
   rw [this]
  ·exact ⟨Tryz.zeroCells108,false,he,Cl,Qk,fun _=>Ty hM stP (fun s b=>rfl) (fun w w' e=>Kh (Km _ w) (Km _ w') e),fun h=>by simp at h,hE⟩)
 clear hX HNX HTX hib8;have hb1:=Lib.hid (Ws 1 1);have hb2:=Lib.hid Ais;have i77':(Tryz.prog.info? 77).map (·.size)=some A9.size:=hic;go_upto_region 7 with (first
  | (refine wpList_load_row rfl 77 (.tmp 5) rfl _ rfl _ _ _ _ HB5.out Tryz.underlying77 rfl i77' ?_)
  | (refine Ci rfl 114 _ rfl #[.int .u64 1] ?_ ?_;(simp;with_reducible exact hb2.out))
  | (refine Ci rfl 116 _ rfl #[.int .i64 1,.int .i64 0,.int .u64 1] ?_ ?_;(simp [Act.eval];with_reducible exact hb1.out))
  | (go_at_call 74;(with_reducible refine hX'.out.mono ?_);rintro e w9 ⟨AT,bo,rfl,hTs,hTo,hM0,hM1,hE9⟩;have HM0:=Lib.hid hM0;have HM1:=Lib.hid hM1;clear hM0 hM1;have hiT:(Tryz.prog.info? 108).map (·.size)=some AT.size:=(by rw [hTs];exact Bv);have hzT:Tryz.zeroCells108.size=AT.size:=(by rw [Cl,hTs]);clear hTs)
  | (refine wpList_store_row rfl 108 (.tmp 8) (.tmp 33) rfl _ _ rfl rfl _ _ (Ab w9 (.cells Tryz.zeroCells108 108)) hiT hzT hTo ?_))
 have hE10:=((Ext.refl w9).alloc (.cells Tryz.zeroCells108 108)).setRow (Nat.le_refl _) AT;have H8:=setRow_heap (w9.alloc (.cells Tryz.zeroCells108 108)) w9.heap.size _ AT _ _ (Ab w9 _);obtain ⟨w10,hw10⟩:∃ W,(w9.alloc (.cells Tryz.zeroCells108 108)).setRow w9.heap.size AT=W:=⟨_,rfl⟩;rw [hw10] at hE10 H8;simp only [hw10];clear hw10;have HB8:=Lib.hid H8;have HB2:=Lib.hid ((hE9.trans hE10).heap HB2.out);have HE10:=Lib.hid ((HE8.out.trans hE9).trans hE10);have HE10':=Lib.hid hE10;clear hE9 hE10 H8 HB4 HB5 hX';generalize w9.heap.size=g8 at *;cases bo
 ·have hBz:=Lib.hid Fl;go_wp2_with (first
   | (refine Ci rfl 30 _ rfl #[.slice none 0 0,.slice none 0 0,.slice none 0 0] ?_ ?_;(simp;with_reducible exact hBz.out))
   | (refine wpList_store_row rfl 30 (.tmp 2) (.tmp 37) rfl _ _ rfl rfl _ _ HB2.out Ad rfl Ex ?_))
  refine bodyPost_ret (v:=.tuple #[zD,.int .i64 2]) (A2 rfl _ _ _ _ _ _ _ rfl _ rfl (setRow_heap w10 _ _ #[.slice none 0 0,.slice none 0 0,.slice none 0 0] 30 (0,0) HB2.out) Tryz.underlying30 rfl Ad) rfl ?_;exact ⟨none,rfl,⟨d,HCa.out,fun u=>by rw [HH.out,Dt],fun _=>rfl,fun h=>absurd (HM0.out (by simp)) h⟩,HE10.out.setRow (by omega) _⟩
 ·obtain ⟨t,hIT,htv,htn,hmany,hhas⟩:=HM1.out rfl;have hL:=Lib.hid (Ot t htv (show t.nxt.length≤65536 by omega) AT w10 (hIT.ext HE10'.out));have HHas:=Lib.hid hhas;have HMn:=Lib.hid hmany;clear hIT htv htn hmany hhas;go_wp2_with (first
   | (refine wpList_load_row rfl 108 (.tmp 8) rfl _ rfl _ _ _ _ HB8.out Tryz.underlying108 rfl hiT ?_)
   | (go_at_call 77;(with_reducible refine hL.out.mono ?_);rintro e w11 ⟨r,hres,hlim,hE11⟩;obtain ⟨ac2,lc2,cc2,an2,ln2,cn2,aa2,la2,ca2,k2,rfl⟩:=hres.form;have HRes:=Lib.hid hres;have HLim:=Lib.hid hlim;clear hres hlim;have HB2:=Lib.hid (hE11.heap HB2.out))
   | (refine wpList_store_row rfl 30 (.tmp 2) (.tmp 40) rfl _ _ rfl rfl _ _ HB2.out Ad rfl (An _ _ _ rfl rfl rfl) ?_))
  refine bodyPost_ret (v:=.tuple #[.agg (dA (.slice ac2 lc2 cc2) (.slice an2 ln2 cn2) (.slice aa2 la2 ca2)),.int .i64 k2]) (A2 rfl _ _ _ _ _ _ _ rfl _ rfl (setRow_heap w11 _ _ (dA (.slice ac2 lc2 cc2) (.slice an2 ln2 cn2) (.slice aa2 la2 ca2)) 30 (0,0) HB2.out) Tryz.underlying30 rfl Ad) rfl ?_;refine ⟨r,HRes.out.setRow (Gl HLim.out) HB2.out _,⟨d,HCa.out,fun u=>by rw [HH.out,Dt],fun h=>absurd h HMn.out,fun _=>Gm HLim.out fun u=>?_⟩,(HE10.out.trans hE11).setRow (by omega) _⟩;rw [HHas.out];have:(fun u=>d.has u=true)=fun u=>a.has u=true:=funext fun u=>by rw [HH.out,Dt]
  rw [this]
theorem F0 {P:Program} {op:Oper} {a:Act} {w:World} (ty:TypeId) (x:Operand) (ho:op.op=.load ty x)
  (b o:Nat) (hx:a.eval x=.pointer (some ⟨b,o,none⟩)) (cs:List Value) (d:TypeDesc) (hc:w.rangeAt b o cs)
  (hu:P.underlying ty=some d) (hd:d.isRow=true) (hi:(P.info? ty).map (·.size)=some cs.length):(execOp a.eval op).run P w=.ok (.value (.agg cs.toArray)) w:=by
 unfold execOp;simp only [ho,hx,Instr.loadAt,Instr.sureAddr,Sem.run_bind,Sem.run_pure,Result.andThen_ok,run_loadVar_mid w b o ty cs d hc hu hd hi]
theorem Sk {w:World} {b o:Nat} {v:Value} (h:w.cell? ⟨b,o,none⟩=some v):w.rangeAt b o [v]:=fun j u hu=>by
 rcases j with _|j
 ·simp at hu;subst hu;exact h
 ·simp at hu
def cIn (x:Tbl) (s:Sta):Sta:=⟨s.p,s.q,if x.ok s.p then s.s ||| 1 else s.s⟩
def cNx (x y:Tbl) (s:Sta) (b:Nat):Sta:=cIn x ⟨x.stp s.p b,0,Aq y s.s b y.nxt.length⟩
def cAc (y:Tbl) (s:Sta):Bool:=Cd y s.s
def Js (x:Tbl) (s:Sta):Prop:=s.p<x.nxt.length∧s.q=0∧s.s<18446744073709551616
def cSt (x:Tbl):Sta:=cIn x ⟨0,0,0⟩
theorem L3 (x y:Tbl) (w:List UInt8):(At (cNx x y) (cSt x) w).q=0:=by
 induction w using Ek with
 | h0=>rfl
 | h1 w z ih=>rw [Eh];rfl
theorem Wo (x:Tbl) (s:Sta) (h:s.s<18446744073709551616):(cIn x s).s<18446744073709551616:=by
 unfold cIn;simp only;split
 ·exact Nat.or_lt_two_pow (n:=64) h (by omega)
 ·exact h
theorem Aic {x y:Tbl} (hx:TVal x) (hy:TVal y) (hn:y.nxt.length≤64) (s:Sta) (hs:Js x s) (b:Nat) (hb:b<256):Js x (cNx x y s b):=
 ⟨hx.stp_lt hs.1 hb,rfl,Wo _ _ (Ha hy hn s.s b hb _ (Nat.le_refl _))⟩
theorem Wn (x y:Tbl) (s:Sta) (b:Nat):stP (cNx x y s b)=cnx x y (stP s) b:=rfl
theorem Ah7 {x y:Tbl} (hx:TVal x) (hy:TVal y) {c:Nat→Nat} {bs:List Nat} (hj:Joint x.cell y.cell c bs) {l:List Sta} {t:Tbl} (h:Expl c bs (cSt x) (cNx x y) (cAc y) l t) (hl:l.length≤4096) :
  TVal t∧t.nxt.length≤4096∧¬ Bx (cnx x y) (cst x) 4096∧∀ u,t.has u=true↔Cat (fun u=>x.has u=true) (fun v=>y.has v=true) u:=by
 have hc:Expl c bs (cst x) (cnx x y) (fun s=>Cd y s.2) (l.map stP) t:=
  h.conv (st:=cSt x) stP (fun s b=>Wn x y s b) (fun s=>rfl) (fun w w' e=>Kh (L3 x y w) (L3 x y w') e)
 have hn:∀ (s:Nat × Nat) b,b<256→cnx x y s (bs.getD (c b) 0)=cnx x y s b:=fun s b hb=>by
  obtain ⟨_,h1,h2⟩:=hj.rep b hb;have e1:∀ p,x.stp p (bs.getD (c b) 0)=x.stp p b:=fun p=>by unfold Tbl.stp;rw [h1]
  have e2:∀ n,Aq y s.2 (bs.getD (c b) 0) n=Aq y s.2 b n:=fun n=>by
   induction n with
   | zero=>rfl
   | succ n ih=>simp only [Aq];rw [ih];unfold Tbl.stp;rw [h2]
  unfold cnx;rw [e1,e2]
 exact ⟨h.tval hj,by rw [h.len];exact hl,Vf hc hj hn (by simpa using hl),fun u=>Ah5 hy hc hj u⟩
set_option maxHeartbeats 1000000 in
theorem V5 (x:Tbl) (hx:TVal x) (A:Array Value) (gx:Nat) (w:World) (hA:IsT w A x) (hgx:w.heap[gx]? = some (.cells A 108 (0,0))) (W:World) (hW:Ext w W) (p z:Nat) (hp:p<x.nxt.length) (hz:z<18446744073709551616) :
  Calls Tryz.prog 71 #[.agg #[iv p,(.int .i64 0),.int .u64 (z:Int)],.pointer (some ⟨gx,0,none⟩)] W fun e w'=>e=.returned (stV (cIn x ⟨p,0,z⟩))∧Ext W w':=by
 obtain ⟨_,_,_,ba,oa,ca,_,_,_,_,_,hA8,_,haA⟩:=(hA.ext hW).opened hx;have hgx:=hW.heap hgx;have a8:=(cell_of_row W gx 258 _ _ _ hgx).trans hA8;have aa:=haA p hp;show Calls _ _ _ _ fun e w'=>e=.returned (.agg #[iv p,(.int .i64 0),.int .u64 ((if x.ok p then z ||| 1 else z:Nat):Int)])∧Ext W w'
 have hE0:=((Ext.refl W).alloc (.cells #[iv p,(.int .i64 0),.int .u64 (z:Int)] 116)).alloc (.cells #[.int .i64 0,.int .i64 0,.int .u64 0] 116);have H2:=Af (Ab W (.cells #[iv p,(.int .i64 0),.int .u64 (z:Int)] 116)) (.cells #[.int .i64 0,.int .i64 0,.int .u64 0] 116);have H3:=heap_alloc2_new W (.cells #[iv p,(.int .i64 0),.int .u64 (z:Int)] 116) (.cells #[.int .i64 0,.int .i64 0,.int .u64 0] 116);have HO:=Lib.hid (S5 z hz);clear hA hA8 haA hgx;generalize x.nxt.length=nx at *;generalize x.ok p=bo at *;go_enter Tryz.func71,Tryz.ntmps71;go_upto_region 1 with (fail)
 obtain ⟨w1,hw1⟩:∃ V,(W.alloc (.cells #[iv p,(.int .i64 0),.int .u64 (z:Int)] 116)).alloc (.cells #[.int .i64 0,.int .i64 0,.int .u64 0] 116)=V:=⟨_,rfl⟩;have hs1:W.heap.size+1<w1.heap.size:=by rw [← hw1,World.size_alloc,World.size_alloc];omega
 rw [hw1] at hE0 H2 H3;simp only [hw1];clear hw1;have a8:=hE0.cell a8;have aa:=hE0.cell aa;have HB2:=Lib.hid H2;have HB3:=Lib.hid H3;have HE0:=Lib.hid hE0;have c0:=(cell_of_row w1 W.heap.size 0 _ _ _ H2).trans (show (#[iv p,(.int .i64 0),.int .u64 (z:Int)]:Array Value)[0]? = some (iv p) from rfl);have c2:=(cell_of_row w1 W.heap.size 2 _ _ _ H2).trans (show (#[iv p,(.int .i64 0),.int .u64 (z:Int)]:Array Value)[2]? = some (.int .u64 (z:Int)) from rfl);have f2:=frozen_of_row w1 W.heap.size 2 _ _ H2;clear H2 H3 hE0;have i116x:∀ z:Int,(Tryz.prog.info? 116).map (·.size)=some (#[iv p,(.int .i64 0),.int .u64 z]:Array Value).size:=fun _=>Dc
 cases bo
 ·go_wp2_with (first
   | (refine wpList_load_row rfl 116 (.tmp 2) rfl _ rfl _ _ _ _ HB2.out Tryz.underlying116 rfl (i116x _) ?_)
   | (refine wpList_store_row rfl 116 (.tmp 3) (.tmp 16) rfl _ _ rfl rfl _ _ HB3.out (i116x _) rfl (by simp [Value.oneCell']) ?_))
  refine bodyPost_ret (v:=.agg #[iv p,(.int .i64 0),.int .u64 (z:Int)]) (results_cell_row rfl _ _ _ _ _ _ _ rfl (setRow_heap w1 _ _ _ 116 (0,0) HB3.out) Tryz.underlying116 rfl (i116x _)) rfl ?_;exact ⟨rfl,HE0.out.setRow (by omega) _⟩
 ·go_upto_region 3 with (fail)
  have hsc:w1.setCell ⟨W.heap.size,2,none⟩ (.int .u64 (bits BinOp.or IntKind.u64 (z:Int) 1))=w1.setRow W.heap.size #[iv p,(.int .i64 0),.int .u64 ((z ||| 1:Nat):Int)]:=by
   rw [setCell_eq_setRow w1 _ _ _ _ _ _ HB2.out,HO.out];rfl
  rw [hsc];have H2':=setRow_heap w1 W.heap.size _ #[iv p,(.int .i64 0),.int .u64 ((z ||| 1:Nat):Int)] _ _ HB2.out;have H3':=Bg HB3.out (show W.heap.size+1≠W.heap.size by omega) #[iv p,(.int .i64 0),.int .u64 ((z ||| 1:Nat):Int)];have hE6:=HE0.out.setRow (Nat.le_refl _) #[iv p,(.int .i64 0),.int .u64 ((z ||| 1:Nat):Int)];obtain ⟨y,hy⟩:∃ y:Int,((z ||| 1:Nat):Int)=y:=⟨_,rfl⟩;rw [hy] at H2' H3' hE6;rw [hy];obtain ⟨w6,hw6⟩:∃ V,w1.setRow W.heap.size #[iv p,(.int .i64 0),.int .u64 y]=V:=⟨_,rfl⟩;rw [hw6] at H2' H3' hE6;rw [hw6];have HB2:=Lib.hid H2';have HB3:=Lib.hid H3';have HE6:=Lib.hid hE6;have HY:=Lib.hid hy;clear c0 c2 f2 a8 aa hsc H2' H3' hE6 hy HO hw6;go_wp2_with (first
   | (refine wpList_load_row rfl 116 (.tmp 2) rfl _ rfl _ _ _ _ HB2.out Tryz.underlying116 rfl (i116x _) ?_)
   | (refine wpList_store_row rfl 116 (.tmp 3) (.tmp 16) rfl _ _ rfl rfl _ _ HB3.out (i116x _) rfl (by simp [Value.oneCell']) ?_))
  refine bodyPost_ret (v:=.agg #[iv p,(.int .i64 0),.int .u64 y]) (results_cell_row rfl _ _ _ _ _ _ _ rfl (setRow_heap w6 _ _ _ 116 (0,0) HB3.out) Tryz.underlying116 rfl (i116x _)) rfl ?_;exact ⟨by rw [← HY.out],HE6.out.setRow (by omega) _⟩
set_option maxHeartbeats 1000000 in
theorem Ahh (x y:Tbl) (hy:TVal y) (hn:y.nxt.length≤64) (B:Array Value) (gy:Nat) (w:World) (hB:IsT w B y) (hgy:w.heap[gy]? = some (.cells B 108 (0,0))) :
  Mg w 75 #[.pointer (some ⟨gy,0,none⟩)] (cAc y) (Js x):=by
 intro W hW s hs;obtain ⟨-,-,hss⟩:=hs;have hIT:=hB.ext hW;obtain ⟨_,_,_,_,_,_,hBs,hBo,_⟩:=hIT.opened hy;have hiB:(Tryz.prog.info? 108).map (·.size)=some B.size:=by rw [hBs];exact Bv
 have hgy:=hW.heap hgy;have f76:=fun V (hV:Ext W V)=>Lib.hid (Na y hy hn B s.s hss V (hIT.ext hV))
 show Calls _ _ _ _ fun e w'=>e=.returned (.bool (Cd y s.s))∧Ext W w'
 have hE0:=(Ext.refl W).alloc (.cells #[iv s.p,iv s.q,.int .u64 (s.s:Int)] 116);have H2:=Ab W (.cells #[iv s.p,iv s.q,.int .u64 (s.s:Int)] 116);generalize Cd y s.s=bo at *;clear hB hIT hW;go_enter Tryz.func75,Tryz.ntmps75;go_upto_region 1 with (fail)
 obtain ⟨w1,hw1⟩:∃ V,W.alloc (.cells #[iv s.p,iv s.q,.int .u64 (s.s:Int)] 116)=V:=⟨_,rfl⟩;rw [hw1] at hE0 H2;simp only [hw1];clear hw1;have HGY:=Lib.hid (hE0.heap hgy);have hr2:w1.rangeAt W.heap.size 2 [.int .u64 (s.s:Int)]:=Sk ((cell_of_row w1 W.heap.size _ _ _ _ H2).trans rfl);have HE0:=Lib.hid hE0;clear H2 hgy hE0 hss;go_wp2_with (first
  | (refine wpList_load_row rfl 108 (.tmp 1) rfl _ rfl _ _ _ _ HGY.out Tryz.underlying108 rfl hiB ?_)
  | (refine wpList_load_mid rfl 114 (.tmp 5) rfl _ 2 rfl _ _ hr2 Tryz.underlying114 rfl i114 ?_)
  | (go_at_call 76;(with_reducible refine (f76 _ HE0.out).out.mono ?_);rintro e w5 ⟨rfl,hE5⟩;have HE5:=Lib.hid (HE0.out.trans hE5)))
 go_ret;exact ⟨rfl,HE5.out⟩
set_option maxHeartbeats 1000000 in
theorem Ahv (x y:Tbl) (hx:TVal x) (hy:TVal y) (hn:y.nxt.length≤64) (A B:Array Value) (gx gy gf:Nat) (w:World) (hA:IsT w A x) (hB:IsT w B y) (hgx:w.heap[gx]? = some (.cells A 108 (0,0))) (hgy:w.heap[gy]? = some (.cells B 108 (0,0)))
  (hgf:w.heap[gf]? = some (.cells #[.func (.func 71) #[] #[.pointer (some ⟨gx,0,none⟩)]] 117 (0,0))) :
  Mj w 72 #[.pointer (some ⟨gf,0,none⟩),.pointer (some ⟨gx,0,none⟩),.pointer (some ⟨gy,0,none⟩)] (cNx x y) (Js x):=by
 intro W hW s hs b hb;obtain ⟨hp,-,hss⟩:=hs;obtain ⟨bn,on,cn,_,_,_,_,_,hAc,_,hA7,_,hRA,_⟩:=(hA.ext hW).opened hx;have hITB:=hB.ext hW;obtain ⟨_,_,_,_,_,_,hBs,hBo,_⟩:=hITB.opened hy;have hiB:(Tryz.prog.info? 108).map (·.size)=some B.size:=by rw [hBs];exact Bv
 have f73:=fun V (hV:Ext W V)=>Lib.hid (Rf y hy hn B s.s hss b hb V (hITB.ext hV))
 have htl:=Ha hy hn s.s b hb _ (Nat.le_refl _);have hp2:=hx.stp_lt hp hb;have f71:=fun V (hV:Ext W V)=>Lib.hid (V5 x hx A gx w hA hgx V (hW.trans hV) (x.stp s.p b) (Aq y s.s b y.nxt.length) hp2 htl)
 have hgx:=hW.heap hgx;have hgy:=hW.heap hgy;have a7:=(cell_of_row W gx 257 _ _ _ hgx).trans hA7;have ac:=(cell_of_row W gx b _ _ _ hgx).trans (hAc b hb);obtain ⟨br,or',cr,ar1,ar2⟩:=hRA s.p hp;have ar3:=ar2 _ (hx.cell_lt b hb);have hcx:=hx.cell_lt b hb;have hxs:x.ent2 s.p (x.cell b)=x.stp s.p b:=rfl;rw [hxs] at ar3;have g0:=(cell_of_row W gf 0 _ _ _ (hW.heap hgf)).trans (show (#[Value.func (.func 71) #[] #[.pointer (some ⟨gx,0,none⟩)]]:Array Value)[0]? = some (.func (.func 71) #[] #[.pointer (some ⟨gx,0,none⟩)]) from rfl);have e71:=enters_of Tryz.func71 (by kernel_rfl) rfl;show Calls _ _ _ _ fun e w'=>e=.returned (stV (cIn x ⟨x.stp s.p b,0,Aq y s.s b y.nxt.length⟩))∧Ext W w'
 have hE0:=((Ext.refl W).alloc (.cells #[iv s.p,iv s.q,.int .u64 (s.s:Int)] 116)).alloc (.cells #[.int .i64 0,.int .i64 0,.int .u64 0] 116);have H5:=Af (Ab W (.cells #[iv s.p,iv s.q,.int .u64 (s.s:Int)] 116)) (.cells #[.int .i64 0,.int .i64 0,.int .u64 0] 116);have H7:=heap_alloc2_new W (.cells #[iv s.p,iv s.q,.int .u64 (s.s:Int)] 116) (.cells #[.int .i64 0,.int .i64 0,.int .u64 0] 116);clear hA hB hITB hAc hA7 hRA hxs ar2 hgf hgx hss htl hp2;generalize Aq y s.s b y.nxt.length=T at *;generalize x.stp s.p b=p2 at *;obtain ⟨R,hR⟩:∃ R,cIn x ⟨p2,0,T⟩=R:=⟨_,rfl⟩;rw [hR] at f71;rw [hR];clear hR;generalize x.cell b=cx at *;have hbi:(b:Int)<256:=by omega
 generalize x.cells=mx at *;generalize x.nxt.length=nx at *;clear hx hy hn;go_enter Tryz.func72,Tryz.ntmps72;go_upto_region 1 with (fail)
 obtain ⟨w1,hw1⟩:∃ V,(W.alloc (.cells #[iv s.p,iv s.q,.int .u64 (s.s:Int)] 116)).alloc (.cells #[.int .i64 0,.int .i64 0,.int .u64 0] 116)=V:=⟨_,rfl⟩;rw [hw1] at hE0 H5 H7;simp only [hw1];clear hw1;have a7:=hE0.cell a7;have ac:=hE0.cell ac;have ar1:=hE0.cell ar1;have ar3:=hE0.cell ar3;have g0:=hE0.cell g0;have c0:=(cell_of_row w1 W.heap.size 0 _ _ _ H5).trans (show (#[iv s.p,iv s.q,.int .u64 (s.s:Int)]:Array Value)[0]? = some (iv s.p) from rfl);have c2:=(cell_of_row w1 W.heap.size 2 _ _ _ H5).trans (show (#[iv s.p,iv s.q,.int .u64 (s.s:Int)]:Array Value)[2]? = some (.int .u64 (s.s:Int)) from rfl);have HKB:=Lib.hid (fun V (hV:Ext w1 V)=>hV.heap (hE0.heap hgy));have HKS:=Lib.hid (fun V (hV:Ext w1 V)=>Sk (hV.cell c2));have hkeep:∀ V,Ext w1 V→V.cell? ⟨gx,257,none⟩=some (.slice (some ⟨bn,on,none⟩) nx cn)∧V.cell? ⟨gx,b,none⟩=some (iv cx)∧
   V.cell? ⟨bn,on+s.p,none⟩=some (.slice (some ⟨br,or',none⟩) mx cr)∧V.cell? ⟨br,or'+cx,none⟩=some (iv p2)∧V.cell? ⟨W.heap.size,0,none⟩=some (iv s.p)∧V.cell? ⟨gf,0,none⟩=some (.func (.func 71) #[] #[.pointer (some ⟨gx,0,none⟩)]):=
  fun V hV=>⟨hV.cell a7,hV.cell ac,hV.cell ar1,hV.cell ar3,hV.cell c0,hV.cell g0⟩
 clear a7 ac ar1 ar3 c0 c2 g0 hgy H5;have hb1:=Lib.hid (Ws (p2:Int) (T:Int));refine Dh 20 [(0,true),(1,true),(2,true),(3,true),(4,true),(5,true),(6,true),(7,true),(8,true),(9,true),(10,true),(11,true),(12,true),(13,true),(14,true),(15,true),(16,true),(17,false),(18,true),(19,false),(20,false)] (by kernel_rfl) (by kernel_rfl) (fun _ _ _ _ h=>h)
  (fun V=>Ext w1 V) (Ext.refl w1).drew ?_
 have hE1:=(Ext.refl w1).drew;have H7':=hE1.heap H7;obtain ⟨w2,hw2⟩:∃ V,w1.drew=V:=⟨_,rfl⟩;rw [hw2] at hE1 H7';rw [hw2];clear hw2 H7;iterate 13
  refine Ax (v:=?_) rfl rfl (fun V hV=>?_) ?_
  rotate_left
  ·obtain ⟨k0,k1,k2,k3,k4,k5⟩:=hkeep V hV;clear hV;go_simp;first|done|with_reducible rfl
  simp only [Act.put,List.setIfInBounds_toArray,List.set_cons_zero,List.set_cons_succ]
 refine Ax (v:=.agg B) rfl rfl (fun V hV=>?_) ?_
 ·exact Ec 108 (.tmp 4) rfl gy rfl _ _ _ _ (HKB.out V hV) Tryz.underlying108 rfl hiB
 simp only [Act.put,List.setIfInBounds_toArray,List.set_cons_zero,List.set_cons_succ];refine Ax (v:=?_) rfl rfl (fun V hV=>?_) ?_
 rotate_left
 ·clear hV;go_simp;first|done|with_reducible rfl
 simp only [Act.put,List.setIfInBounds_toArray,List.set_cons_zero,List.set_cons_succ];refine Ax (v:=.agg #[.int .u64 (s.s:Int)]) rfl rfl (fun V hV=>?_) ?_
 ·exact F0 114 (.tmp 22) rfl W.heap.size 2 rfl _ _ (HKS.out V hV) Tryz.underlying114 rfl i114
 simp only [Act.put,List.setIfInBounds_toArray,List.set_cons_zero,List.set_cons_succ];refine Ax (v:=?_) rfl rfl (fun V hV=>?_) ?_
 rotate_left
 ·clear hV;go_simp;first|done|with_reducible rfl
 simp only [Act.put,List.setIfInBounds_toArray,List.set_cons_zero,List.set_cons_succ];clear hkeep HKB HKS;refine B2 rfl (fun K hK=>?_);go_simp
 (with_reducible refine (f73 w2 (hE0.trans hE1)).out.mono ?_)
 rintro e w3 ⟨rfl,hE3⟩;refine hK _ _ (fun _=>hE1.trans hE3) ?_;clear hK K;refine Ax (v:=.agg #[iv p2,.int .i64 0,.int .u64 (T:Int)]) rfl rfl (fun V _=>?_) ?_
 ·exact Jg 116 _ rfl (by simpa [Act.eval] using hb1.out) V
 simp only [Act.put,List.setIfInBounds_toArray,List.set_cons_zero,List.set_cons_succ];have H7':=hE3.heap H7';have hE4:=(hE0.trans hE1).trans hE3;refine B2 rfl (fun K hK=>?_);go_simp
 (with_reducible refine (f71 w3 hE4).out.mono ?_)
 rintro e w4 ⟨rfl,hE5⟩;refine hK _ _ (fun _=>(hE1.trans hE3).trans hE5) ?_;clear hK K;have H7':=hE5.heap H7';refine B2 rfl (fun K hK=>?_);refine Hc 116 (.tmp 7) (.tmp 27) rfl rfl _ (stA R) rfl rfl _ _ H7' Dc rfl (Rs R) ?_;refine hK _ _ (fun h=>absurd h (by omega)) ?_;clear hK K;refine Di ?_;have hE6:=(hE4.trans hE5).setRow (show W.heap.size≤W.heap.size+1 by omega) (stA R);have H8:=setRow_heap w4 _ _ (stA R) 116 (0,0) H7';clear f71 f73 hb1;go_wp2;refine bodyPost_ret (v:=.agg (stA R)) (results_cell_row rfl _ _ _ _ _ _ _ rfl H8 Tryz.underlying116 rfl Dc) rfl ?_;exact ⟨rfl,hE6⟩
end Go.Proofs.YtaiogolidlamiaaGreatDoor
