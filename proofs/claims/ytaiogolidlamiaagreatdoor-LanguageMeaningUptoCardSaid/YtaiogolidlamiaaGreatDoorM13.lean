import Derived.Test.YtaiogolidlamiaaGreatDoorM09
import Derived.Test.YtaiogolidlamiaaGreatDoorM12
set_option linter.unusedVariables false
set_option linter.unusedSimpArgs false
namespace Go.Proofs.YtaiogolidlamiaaGreatDoor
set_option maxRecDepth 100000
open Go.RowKit Go.Shelf
theorem Sl.setRow {W:World} {v:Value} {k n:Nat} {f:Nat→Value} {g:Nat} {cs:Array Value} {e:TypeId} {fr:Nat × Nat} (h:Sl W v k n f) (hg:W.heap[g]? = some (.cells cs e fr)) (hne:∀ i,i<n*k→∀ o:Nat,cs[o]?≠some (f i)) (h0:0<k) (cs':Array Value):Sl (W.setRow g cs') v k n f:=by
 obtain ⟨h1,h|⟨hn,b,off,cap,hv,hb,hc⟩⟩:=h
 ·exact ⟨h1,.inl h⟩
 ·have hbg:b≠g:=fun e=>by
   subst e;have:=hc 0 (Nat.mul_pos hn h0);rw [cell_of_row W b _ cs _ fr hg] at this;exact hne 0 (Nat.mul_pos hn h0) _ this
  exact ⟨h1,.inr ⟨hn,b,off,cap,hv,by rw [size_setRow];exact hb,fun i hi=>(Wc W g cs' _ hbg).trans (hc i hi)⟩⟩
theorem Ec {P:Program} {o:Oper} {a:Act} {w:World} (ty:TypeId) (x:Operand) (ho:o.op=.load ty x) (g:Nat) (hx:a.eval x=.pointer (some ⟨g,0,none⟩)) (t:TypeId) (cs:Array Value) (fr:Nat × Nat) (d:TypeDesc) (hg:w.heap[g]? = some (.cells cs t fr))
  (hu:P.underlying ty=some d) (hd:(match d with|.struct _|.array _ _=>true|_=>false)=true) (hi:(P.info? ty).map (·.size)=some cs.size):(execOp a.eval o).run P w=.ok (.value (.agg cs)) w:=by
 unfold execOp;simp only [ho,hx,Instr.loadAt,Instr.sureAddr,Sem.run_bind,Sem.run_pure,Result.andThen_ok,run_loadVar_row w g t ty cs fr d hg hu hd hi]
theorem Ad:(Tryz.prog.info? 30).map (·.size)=some 3:=by kernel_rfl
def dA (vc vn va:Value):Array Value:=#[vc,vn,va]
theorem An (vc vn va:Value) (h1:vc.oneCell'=true) (h2:vn.oneCell'=true) (h3:va.oneCell'=true):(dA vc vn va).all (·.oneCell')=true:=by simp [dA,h1,h2,h3]
theorem Aio (a:Option Addr) (n c:Nat):Tryz.prog.built 30 [(0,.slice a n c)]=some (dA (.slice a n c) (.slice none 0 0) (.slice none 0 0)):=by kernel_rfl
def RowsO (W:World) (base:Nat) (vs:List Value) (N:List (List Nat)) (av:Option Nat→Prop):Prop:=
 vs.length=N.length∧∀ j,j<N.length→OwnI W base (vs.getD j undef) (N.getD j [])∧¬ av (vs.getD j undef).ownBlock
theorem RowsO.kept {W W':World} {base:Nat} {vs:List Value} {N:List (List Nat)} {av:Option Nat→Prop} {row:Option Nat} (h:RowsO W base vs N av) (hg:W.grownBy W' row)
  (hr:∀ v l,OwnI W base v l→¬ av v.ownBlock→v.ownBlock=none∨v.ownBlock≠row):RowsO W' base vs N av:=
 ⟨h.1,fun j hj=>⟨(h.2 j hj).1.kept hg (hr _ _ (h.2 j hj).1 (h.2 j hj).2),(h.2 j hj).2⟩⟩
theorem RowsO.alloc {W:World} {base:Nat} {vs:List Value} {N:List (List Nat)} {av:Option Nat→Prop} (h:RowsO W base vs N av) (o:Obj):RowsO (W.alloc o) base vs N av:=
 ⟨h.1,fun j hj=>⟨(h.2 j hj).1.alloc o,(h.2 j hj).2⟩⟩
theorem RowsO.av {W:World} {base:Nat} {vs:List Value} {N:List (List Nat)} {av av':Option Nat→Prop} (h:RowsO W base vs N av) (ha:∀ v l,OwnI W base v l→¬ av v.ownBlock→¬ av' v.ownBlock):RowsO W base vs N av':=
 ⟨h.1,fun j hj=>⟨(h.2 j hj).1,ha _ _ (h.2 j hj).1 (h.2 j hj).2⟩⟩
theorem RowsO.snoc {W:World} {base:Nat} {vs:List Value} {N:List (List Nat)} {av:Option Nat→Prop} (h:RowsO W base vs N av) {v:Value} {r:List Nat} (hr:OwnI W base v r) (ha:¬ av v.ownBlock):RowsO W base (vs++[v]) (N++[r]) av:=by
 refine ⟨by simp [h.1],fun j hj=>?_⟩;rw [List.length_append,List.length_singleton] at hj;by_cases e:j<N.length
 ·rw [Bi _ _ _ _ (by rw [h.1];exact e),Bi _ _ _ _ e];exact h.2 j e
 ·obtain rfl:j=N.length:=by omega
  have:(vs++[v]).getD N.length undef=v:=by rw [← h.1];exact Bw _ _ _
  rw [this,Bw];exact ⟨hr,ha⟩
theorem RowsO.rows {W:World} {base b':Nat} {vs:List Value} {N:List (List Nat)} {av:Option Nat→Prop} (h:RowsO W base vs N av) {v:Value} (hv:W.ownsRow b' 68 1 v vs.length vs) (hn:N.length≤4611686018427387904) (hr:∀ j,j<N.length→(N.getD j []).length≤4611686018427387904):Rows W v N:=by
 refine ⟨vs,h.1,?_,fun i hi=>(h.2 i hi).1.ints (hr i hi)⟩;have:=Sl.of_owns hv (by rw [h.1];exact hn) undef;rw [h.1] at this;exact this
def Near (W W':World):Prop:=W.heap.size≤W'.heap.size∧∀ k,k<W.heap.size→W'.heap[k]? = W.heap[k]?∨∃ cs fr,W.heap[k]? = some (.cells cs 108 fr)∧∀ (o:Nat) x,cs[o]?≠some (.int .u64 x)
theorem Near.of_ext {W W':World} (h:Ext W W'):Near W W':=⟨h.size,fun _ hk=>.inl (h.block hk)⟩
theorem Near.pre {W W1 W2:World} (h:Ext W W1) (h1:Near W1 W2):Near W W2:=⟨Nat.le_trans h.size h1.1,fun k hk=>by
 have:=h1.2 k (Nat.lt_of_lt_of_le hk h.size)
 rwa [h.block hk] at this⟩
theorem Near.setRow {W W':World} (h:Near W W') {g:Nat} {old:Array Value} {fr:Nat × Nat} (hg:W'.heap[g]? = some (.cells old 108 fr)) (ho:∀ (o:Nat) x,old[o]?≠some (.int .u64 x)) (cs:Array Value):Near W (W'.setRow g cs):=by
 refine ⟨by rw [size_setRow];exact h.1,fun k hk=>?_⟩;by_cases e:k=g
 ·subst e;rcases h.2 k hk with h1|h1
  ·exact .inr ⟨old,fr,by rw [← h1,hg],ho⟩
  ·exact .inr h1
 ·rw [setRow_other _ _ _ _ e];exact h.2 k hk
theorem Near.owns {W W':World} (h:Near W W') {base e size:Nat} {v:Value} {n:Nat} {xs:List Value} (ho:W.ownsRow base e size v n xs) (he:e≠108):W'.ownsRow base e size v n xs:=by
 obtain ⟨h1,h2|⟨g,cap,cur,hv,hb,hg,rest⟩⟩:=ho
 ·exact ⟨h1,.inl h2⟩
 ·refine ⟨h1,.inr ⟨g,cap,cur,hv,hb,?_,rest⟩⟩;rcases h.2 g (Ak hg) with h3|⟨cs,fr,h3,_⟩
  ·rw [h3,hg]
  ·rw [hg] at h3;injection h3 with h3
   injection h3 with _ h3
   exact absurd h3 he
theorem Near.rows {W W':World} (h:Near W W') {base:Nat} {vs:List Value} {N:List (List Nat)} {av:Option Nat→Prop} (hr:RowsO W base vs N av):RowsO W' base vs N av:=
 ⟨hr.1,fun j hj=>⟨h.owns (hr.2 j hj).1 (by decide),(hr.2 j hj).2⟩⟩
theorem Near.cls {W W':World} (h:Near W W') {v:Value} {C:List Cls} (hc:Cs W v C):Cs W' v C:=by
 obtain ⟨h1,h2|⟨hn,b,off,cap,hv,hb,hcl⟩⟩:=hc
 ·exact ⟨h1,.inl h2⟩
 ·have hbk:W'.heap[b]? = W.heap[b]? := by
   have hb':b<W.heap.size:=by
    have:=hcl 0 (by omega);rcases Nat.lt_or_ge b W.heap.size with h|h
    ·exact h
    ·simp [World.cell?,Array.getElem?_eq_none h] at this
   rcases h.2 b hb' with h3|⟨cs,fr,h3,h4⟩
   ·exact h3
   ·have:=hcl 0 (by omega);rw [cell_of_row W b _ cs _ fr h3] at this;exact absurd this (h4 _ _)
  exact ⟨h1,.inr ⟨hn,b,off,cap,hv,Nat.le_trans hb h.1,fun i hi=>(World.cell?_of_block hbk).trans (hcl i hi)⟩⟩
set_option maxHeartbeats 4000000 in
theorem P1 (t:Tbl) (hv:TVal t) (hn:t.nxt.length≤65536) (A:Array Value) (w:World) (h:IsT w A t) :
  Calls Tryz.prog 69 #[.agg A] w fun e w'=>∃ v d,e=.returned v∧(∀ W,Near w' W→IsD W v d)∧Cano d∧(∀ u,d.has u=t.has u)∧Ext w w':=by
 obtain ⟨bn,on,cn,ba,oa,ca,hAs,hAo,hAc,hA6,hA7,hA8,hR,hacc⟩:=h.opened hv;have hn0:=hv.pos;have hm0:=hv.cpos;have hm1:=hv.cle;have HR:=Lib.hid hR;have HV:=Lib.hid hv;have HAcc:=Lib.hid hacc;have HIT:=Lib.hid h;have HS:=Lib.hid hAs;obtain ⟨i0,hi,hz0,hz1,hz2⟩:=info_parts Dm;obtain ⟨i4,hi4,hy0,hy1,hy2⟩:=info_parts Fd;obtain ⟨i6,hi6,hx0,hx1,hx2⟩:=info_parts (show (Tryz.prog.info? 68).map (fun i=>(i.zero,i.size,i.bytes))=some (some (.slice none 0 0),1,24) by kernel_rfl);have hE0:=((Ext.refl w).alloc (.cells A 108)).alloc (.cells #[.slice none 0 0,.slice none 0 0,.slice none 0 0] 30);have H0:=Af (Ab w (.cells A 108)) (.cells #[.slice none 0 0,.slice none 0 0,.slice none 0 0] 30);have H1:=heap_alloc2_new w (.cells A 108) (.cells #[.slice none 0 0,.slice none 0 0,.slice none 0 0] 30);have HA7:=Lib.hid hA7;have HA8:=Lib.hid hA8;clear hR hv h hA6 hA7 hA8 hAc hAo hAs hacc;go_enter Tryz.func69,Tryz.ntmps69;go_upto_region 1 with (fail)
 obtain ⟨w1,hw1⟩:∃ W,(w.alloc (.cells A 108)).alloc (.cells #[.slice none 0 0,.slice none 0 0,.slice none 0 0] 30)=W:=⟨_,rfl⟩;have hs1:w1.heap.size=w.heap.size+1+1:=by rw [← hw1,World.size_alloc,World.size_alloc]
 rw [hw1] at hE0 H0 H1;simp only [hw1];clear hw1;have HB0:=Lib.hid H0;have HB1:=Lib.hid H1;clear H0 H1;have i108:(Tryz.prog.info? 108).map (·.size)=some A.size:=by rw [HS.out];exact Bv
 refine Dh 8 [(0,true),(1,true),(2,false),(3,false),(4,true),(5,true),(6,true),(7,true),(8,false)] (by kernel_rfl) (by kernel_rfl) (fun _ _ _ _ h=>h)
  (fun W=>Ext w1 W) (Ext.refl w1).drew ?_
 have hE2:=(Ext.refl w1).drew;obtain ⟨w2,hw2⟩:∃ W,w1.drew=W:=⟨_,rfl⟩;rw [hw2] at hE2;rw [hw2];clear hw2;iterate 2
  refine Fr (v:=.agg A) rfl rfl (fun W hW=>Ec 108 (.tmp 1) rfl _ rfl _ _ _ _ (hW.heap HB0.out) Tryz.underlying108 rfl i108) ?_;simp only [Act.put,List.setIfInBounds_toArray,List.set_cons_zero,List.set_cons_succ]
 refine C8 rfl (fun K hK=>?_);go_simp;with_reducible refine (Abb t HV.out hn A w2 (HIT.out.ext (hE0.trans hE2))).mono ?_
 rintro e w3 ⟨vl,l,rfl,hl,hil,hE3⟩;have hE3':=hE2.trans hE3;have HL:=Lib.hid hl;clear hl;refine hK _ _ (fun _=>hE3') ?_;clear hK K;refine C8 rfl (fun K hK=>?_);go_simp;with_reducible refine (Aa9 t HV.out hn l HL.out A vl w3 (HIT.out.ext (hE0.trans hE3')) hil).mono ?_
 rintro e w4 ⟨vN,vR,N,R,rfl,hNl,hB,hiN,hiR,hE4⟩;have hE4':=hE3'.trans hE4;have HNl:=Lib.hid hNl;have HB:=Lib.hid hB;clear hB hNl hil;refine hK _ _ (fun _=>hE4') ?_;clear hK K;iterate 4
  refine Fr (v:=?_) rfl rfl (fun W hW=>?_) ?_
  rotate_left
  ·go_simp;first|done|with_reducible rfl
  simp only [Act.put,List.setIfInBounds_toArray,List.set_cons_zero,List.set_cons_succ]
 refine C8 rfl (fun K hK=>?_);go_simp;refine hK _ _ (fun _=>hE4') ?_;clear hK K;refine Di ?_;have hR0:0<R.length:=by
  have:=HB.out.blk.lt 0 HL.out.zero;omega
 have hll:l.length≤t.nxt.length:=by
  have:=Db l (List.range t.nxt.length) HL.out.nodup fun s hs=>List.mem_range.2 (HL.out.lt s hs)
  simpa using this
 have hRl:R.length≤65536:=by
  have:=Ma HB.out.blk;omega
 have HRM:=Lib.hid (fun i (hi:i<R.length)=>HL.out.lt _ (HB.out.blk.mem i hi));have HBR:=Lib.hid (fun i (hi:i<R.length) k (hk:k<t.cells)=>HB.out.blk.lt _ (HL.out.closed _ (HB.out.blk.mem i hi) k hk));have HBB:=Lib.hid (fun i (hi:i<R.length) k (hk:k<t.cells)=>Nat.lt_of_lt_of_le (HBR.out i hi k hk) hRl);have hb0:=HB.out.blk.lt 0 HL.out.zero;have hE4'':=hE0.trans hE4';clear hE2 hE3 hE4;go_upto_region 2 with (fail)
 have HMG:=Lib.hid (Ad8 t HV.out hn N R HNl.out hR0 hRl HRM.out HBB.out A vN vR w4 (HIT.out.ext hE4'') hiN hiR);have HB0':=Lib.hid (hE4'.heap HB0.out);go_upto_region 3 with (first
  | (refine wpList_load_row rfl 108 (.tmp 1) rfl _ rfl _ _ _ _ HB0'.out Tryz.underlying108 rfl i108 ?_)
  | (go_at_call 112;with_reducible refine HMG.out.mono ?_;rintro e wm ⟨vK,vC,Kc,C,rfl,hM,hiK,hCs,hEm⟩))
 have hiN':Sl w4 vN 1 t.nxt.length (fun i=>iv (N.getD i 0)):=by rw [← HNl.out];exact hiN
 obtain ⟨bN,oN,cN,rfl,hNc⟩:=Sl.form hiN' hn0;obtain ⟨bR,oR,cR,rfl,hRc⟩:=Sl.form hiR hR0;have hC0:=hM.parts.pos;have hC1:=hM.parts.le;have hK0:0<Kc.length:=by rw [hM.len];exact hC0
 have hK1:Kc.length≤256:=by rw [hM.len];exact hC1
 obtain ⟨bK,oK,cK,rfl,hKc⟩:=Sl.form hiK hK0;have hCs':=hCs;obtain ⟨bC,oC,cC,rfl,-⟩:=Sl.form hCs' hC0;have HM:=Lib.hid hM;have hEw:=hE4''.trans hEm;have hE1m:=hE4'.trans hEm;have hszm:w.heap.size+1<wm.heap.size:=by have:=hE1m.size;omega
 have HNC:=Lib.hid (fun (W:World) (hW:Ext wm W) k (hk:k<t.nxt.length)=>(hEm.trans hW).cell (hNc k (by omega)));have HRC:=Lib.hid (fun (W:World) (hW:Ext wm W) k (hk:k<R.length)=>(hEm.trans hW).cell (hRc k (by omega)));have HKC:=Lib.hid (fun (W:World) (hW:Ext wm W) k (hk:k<Kc.length)=>hW.cell (hKc k (by omega)));have HK7:=Lib.hid (fun (W:World) (hW:Ext wm W)=>(cell_of_row W w.heap.size 257 _ _ _ ((hE1m.trans hW).heap HB0.out)).trans HA7.out);have HK8:=Lib.hid (fun (W:World) (hW:Ext wm W)=>(cell_of_row W w.heap.size 258 _ _ _ ((hE1m.trans hW).heap HB0.out)).trans HA8.out);have HRW:=Lib.hid (fun (W:World) (hW:Ext wm W)=>HR.out.ext (hEw.trans hW));have HAW:=Lib.hid (fun (W:World) (hW:Ext wm W) s (hs:s<t.nxt.length)=>(hEw.trans hW).cell (HAcc.out s hs));have HB1m:=Lib.hid (hE1m.heap HB1.out);have hB30:=Lib.hid (Aio (some ⟨bC,oC,none⟩) C.length cC);have HCs:=Lib.hid hCs;clear hiN hiN' hiR hiK hCs hCs' hM hNc hRc hKc HMG HB0' hE4'' hE4' hE3' hE0;have hal:=Ab wm (.cells #[.slice none 0 0,.slice none 0 0,.slice none 0 0] 30);go_upto_region 4 with (first
  | (refine Ci rfl 30 _ rfl (dA (.slice (some ⟨bC,oC,none⟩) C.length cC) (.slice none 0 0) (.slice none 0 0)) ?_ ?_;(simp [Act.eval];with_reducible exact hB30.out))
  | (refine wpList_store_row rfl 30 (.tmp 7) (.tmp 32) rfl _ _ rfl rfl _ _ hal Ad rfl (An _ _ _ rfl rfl rfl) ?_))
 clear hal;have hEa:=((Ext.refl wm).alloc (.cells #[.slice none 0 0,.slice none 0 0,.slice none 0 0] 30)).setRow (Nat.le_refl _) (dA (.slice (some ⟨bC,oC,none⟩) C.length cC) (.slice none 0 0) (.slice none 0 0));have hba:=setRow_heap (wm.alloc (.cells #[.slice none 0 0,.slice none 0 0,.slice none 0 0] 30)) wm.heap.size _ (dA (.slice (some ⟨bC,oC,none⟩) C.length cC) (.slice none 0 0) (.slice none 0 0)) _ _ (Ab wm _);have hsa:((wm.alloc (.cells #[.slice none 0 0,.slice none 0 0,.slice none 0 0] 30)).setRow wm.heap.size (dA (.slice (some ⟨bC,oC,none⟩) C.length cC) (.slice none 0 0) (.slice none 0 0))).heap.size=wm.heap.size+1:=by rw [size_setRow,World.size_alloc]
 obtain ⟨wa,hwa⟩:∃ W,(wm.alloc (.cells #[.slice none 0 0,.slice none 0 0,.slice none 0 0] 30)).setRow wm.heap.size (dA (.slice (some ⟨bC,oC,none⟩) C.length cC) (.slice none 0 0) (.slice none 0 0))=W:=⟨_,rfl⟩;rw [hwa] at hEa hba hsa;simp only [hwa];clear hwa;go_upto_region 5 with (at_make;refine wpList_make_full _ rfl _ _ 68 rfl wa.heap.size 3 i0 (.int .i64 0) 1 Tryz.underlying68 hi hz0 hz1 .i64 .i64 _ _ R.length rfl rfl rfl rfl (by rw [hz2];omega) (by unfold maxLen;omega) (Nat.le_refl _) ?_;intro wb hownb hgrb)
 have hEb:=hEa.grown hgrb (fun k e=>by cases e);have hPb:wb.ownsRow wa.heap.size 3 1 (.slice (some ⟨wa.heap.size,0,none⟩) R.length R.length) R.length ((Dn R.length 0).map ov):=by rw [Pi,← Ca];exact hownb
 have hbb:=(hgrb.block wm.heap.size (Ak hba) (by simp)).trans hba;have hszb:wm.heap.size+1<wb.heap.size:=by have:wa.heap.size<wb.heap.size:=(hPb.lt _ rfl).2;omega
 rw [hsa] at hPb;clear hownb hgrb;generalize hgn:wa.heap.size=gn at *;obtain rfl:gn=wm.heap.size+1:=hsa;clear hgn hba hEa;have hn0c:=HNC.out wb hEb 0 hn0;obtain ⟨x0,hx0d⟩:∃ x,N.getD 0 0=x:=⟨_,rfl⟩;rw [hx0d,Nat.add_zero] at hn0c;rw [hx0d] at hb0;have HX0:=Lib.hid hx0d;clear hx0d;go_upto_region 6 with (fail)
 have hEc:=hEb.alloc (.cells #[iv x0] 3);have hPc:=hPb.alloc (.cells #[iv x0] 3);have hbc:=Af hbb (.cells #[iv x0] 3);have hIc:OwnI (wb.alloc (.cells #[iv x0] 3)) (wm.heap.size+1+1) (.slice (some ⟨wb.heap.size,0,none⟩) 1 1) [x0]:=World.ownsRow_lit (base:=wm.heap.size+1+1) (e:=3) (size:=1) wb #[iv x0] 1 (by omega) (by unfold maxLen;omega) rfl;have hszc:wm.heap.size+1+1≤(wb.alloc (.cells #[iv x0] 3)).heap.size:=by rw [World.size_alloc];omega
 obtain ⟨wc,hwc⟩:∃ W,wb.alloc (.cells #[iv x0] 3)=W:=⟨_,rfl⟩;rw [hwc] at hEc hPc hbc hIc hszc;rw [hwc];clear hwc hn0c hPb hbb;generalize wb.heap.size=go0 at *;go_wp2_with (fail);go_loopw [42] (fun i W=>∃ k:Nat,k≤R.length∧i=.int .i64 k∧Ext wm W∧wm.heap.size+1+1≤W.heap.size∧
   W.ownsRow (wm.heap.size+1) 3 1 (.slice (some ⟨wm.heap.size+1,0,none⟩) R.length R.length) R.length ((Dn R.length k).map ov)∧OwnI W (wm.heap.size+1+1) (.slice (some ⟨go0,0,none⟩) 1 1) [x0]∧
   W.heap[wm.heap.size]? = some (.cells (dA (.slice (some ⟨bC,oC,none⟩) C.length cC) (.slice none 0 0) (.slice none 0 0)) 30 (0,0)))
  (fun i _=>R.length-(intOf i).toNat)
 case atStart=>exact ⟨0,by omega,rfl,hEc,hszc,hPc,hIc,hbc⟩
 case round=>
  clear hEc hszc hPc hIc hbc;obtain ⟨k,hk,rfl,hEc,hszc,hPc,hIc,hbc⟩:=hrel;have HBC:=Lib.hid hbc;clear hbc;by_cases hlt:k<R.length
  ·have co:=Ap none hPc (Gq _ _).symm k (by rw [Gq];exact hlt);have fo:=hPc.frozenAt k;obtain ⟨hPd,hgrd⟩:=A3 hPc k none;rw [Pj _ _ hlt] at hPd;have hEd:=hEc.grown hgrd (fun k e=>by cases e;omega);have hId:=hIc.kept hgrd (Ao hIc (by omega));have HBD:=Lib.hid ((hgrd.block wm.heap.size (Ak HBC.out) (by simp)).trans HBC.out);have hszd:=Nat.le_trans hszc hgrd.size;clear hgrd hPc hEc hIc;go_wp2_with (fail);go_roundw
   case rel=>exact ⟨k+1,by omega,by go_num,hEd,hszd,hPd,hId,HBD.out⟩
   case measure=>simp [intOf];omega
  ·obtain rfl:k=R.length:=by omega
   rw [Pk] at hPc;have hn0c:=HNC.out wr hEc 0 hn0;rw [HX0.out,Nat.add_zero] at hn0c;have co:=Ap none hPc (by simp) x0 (by simpa using hb0);have fo:=hPc.frozenAt x0;obtain ⟨hPd,hgrd⟩:=A3 hPc x0 (some 0);have hEd:=hEc.grown hgrd (fun k e=>by cases e;omega);have hId:=hIc.kept hgrd (Ao hIc (by omega));have HBD:=Lib.hid ((hgrd.block wm.heap.size (Ak HBC.out) (by simp)).trans HBC.out);have hszd:=Nat.le_trans hszc hgrd.size;clear hgrd hPc hEc hIc HBC;have HLs:=Lib.hid (Aes (t:=t) (B:=fun s=>N.getD s 0) (R:=R) (K:=Kc) (show N.getD 0 0<R.length by rw [HX0.out];exact hb0) R.length rfl (List.replicate Kc.length 0) (by simp));rw [HX0.out] at HLs;go_wp2_with (fail);clear co fo hn0c;obtain ⟨wd',hwd⟩:∃ W,wr.setCell ⟨wm.heap.size+1,x0,none⟩ (ov (some 0))=W:=⟨_,rfl⟩;rw [hwd] at hPd hEd hId HBD hszd;have hwd':wr.setCell ⟨wm.heap.size+1,x0,none⟩ (.int .i64 0)=wd':=hwd;rw [hwd'];clear hwd hwd';have hNo:=World.ownsRow_nil wd' (wm.heap.size+1+1) 68 1;have hAo:=World.ownsRow_nil wd' (wm.heap.size+1+1) 4 1;have hVo:RowsO wd' (wm.heap.size+1+1) [] [] (fun o=>o=some go0):=⟨rfl,fun j hj=>by simp at hj⟩;go_wp2_with (fail);go_loopw [9,11] (fun vo vi W=>∃ (i:Nat) (O:List Nat) (P:List (Option Nat)) (N':List (List Nat)) (Ac:List Bool) (vs:List Value) (go co:Nat) (vnx vac:Value),i≤O.length∧vi=.int .i64 i∧vo=.slice (some ⟨go,0,none⟩) O.length co∧Ext wm W∧wm.heap.size+1+1≤W.heap.size∧
     W.ownsRow (wm.heap.size+1) 3 1 (.slice (some ⟨wm.heap.size+1,0,none⟩) R.length R.length) R.length (P.map ov)∧OwnI W (wm.heap.size+1+1) vo O∧
     Hid (W.heap[wm.heap.size]? = some (.cells (dA (.slice (some ⟨bC,oC,none⟩) C.length cC) vnx vac) 30 (0,0)))∧W.ownsRow (wm.heap.size+1+1) 68 1 vnx vs.length vs∧OwnB W (wm.heap.size+1+1) vac Ac∧
     RowsO W (wm.heap.size+1+1) vs N' (fun o=>o=some go)∧Hid (LInv t (fun s=>N.getD s 0) R Kc i 0 O P N' (List.replicate Kc.length 0)∧Ac.length=i∧∀ j,j<i→Ac.getD j false=t.ok (R.getD (O.getD j 0) 0)))
    (fun _ vi _=>R.length-(intOf vi).toNat)
   case atStart=>exact ⟨0,[x0],_,[],[],[],go0,1,_,_,by omega,rfl,rfl,hEd,hszd,hPd,hId,HBD,hNo,hAo,hVo,Lib.hid ⟨HLs.out,rfl,fun j hj=>by omega⟩⟩
   case round=>
    clear hEd hszd hPd hId HBD hNo hAo hVo HLs;obtain ⟨i,O,P,N',Ac,vs,go,co,vnx,vac,hiO,rfl,rfl,hE,hsz,hP,hI,HD,hN,hA,hV,HI⟩:=hrel;have hOR:=HI.out.1.len_le;by_cases hlt:i<O.length
    ·obtain ⟨wo,hwo⟩:∃ W,W=wr:=⟨_,rfl⟩;subst hwo;have cO:=Ap 0 hI rfl i hlt;have hxR:=HI.out.1.lt i hlt;obtain ⟨x,hxd⟩:∃ x,O.getD i 0=x:=⟨_,rfl⟩;rw [hxd] at cO hxR;have HXD:=Lib.hid hxd;clear hxd;have cR:=HRC.out wo hE x hxR;have hsn:=HRM.out x hxR;have HBx:=Lib.hid (HBR.out x hxR);obtain ⟨s,hsd⟩:∃ s,R.getD x 0=s:=⟨_,rfl⟩;rw [hsd] at cR hsn HBx;have HSD:=Lib.hid hsd;clear hsd;go_upto_region 17 with (at_make;refine wpList_make_full _ rfl _ _ 68 rfl (wm.heap.size+1+1) 3 i0 (.int .i64 0) 1 Tryz.underlying68 hi hz0 hz1 .i64 .i64 _ _ Kc.length rfl rfl rfl rfl (by rw [hz2];omega) (by unfold maxLen;omega) (by omega) ?_;intro w5 hown5 hgr5)
     have hE5:=hE.grown hgr5 (fun k e=>by cases e);have hQ5:w5.ownsRow (wm.heap.size+1+1) 3 1 (.slice (some ⟨wo.heap.size,0,none⟩) Kc.length Kc.length) Kc.length ((List.replicate Kc.length 0).map iv):=by rw [← Ca];exact hown5
     have hP5:=Bt hP hgr5;have hI5:=Bt hI hgr5;have HD5:=Lib.hid ((hgr5.block wm.heap.size (Ak HD.out) (by simp)).trans HD.out);have hN5:=Bt hN hgr5;have hA5:=Bt hA hgr5;have hgo:=(hI.lt go rfl).2;have hV5:=(hV.av (av':=fun o=>o=some go∨o=some wo.heap.size) (fun v l ho hav=>by
      rintro (e|e)
      ·exact hav e
      ·have:=(ho.lt _ e).2;omega)).kept hgr5 (fun v l ho hav=>by cases v.ownBlock<;>simp)
     have hsz5:=Nat.le_trans hsz hgr5.size;have hgr:go≠wo.heap.size:=by omega
     have hgb:=(hQ5.lt wo.heap.size rfl).1;generalize wo.heap.size=gr at *;clear hown5 hgr5 hP hI HD hN hA hV hE hsz cO cR hgo;go_wp2_with (fail);go_loopw [9,72] (fun vo vi W=>∃ (k:Nat) (O2:List Nat) (P2:List (Option Nat)) (r:List Nat) (go2 co2:Nat),k≤Kc.length∧vi=.int .i64 k∧vo=.slice (some ⟨go2,0,none⟩) O2.length co2∧go2≠gr∧Ext wm W∧wm.heap.size+1+1≤W.heap.size∧
       W.ownsRow (wm.heap.size+1) 3 1 (.slice (some ⟨wm.heap.size+1,0,none⟩) R.length R.length) R.length (P2.map ov)∧OwnI W (wm.heap.size+1+1) vo O2∧W.ownsRow (wm.heap.size+1+1) 3 1 (.slice (some ⟨gr,0,none⟩) Kc.length Kc.length) Kc.length (r.map iv)∧
       Hid (W.heap[wm.heap.size]? = some (.cells (dA (.slice (some ⟨bC,oC,none⟩) C.length cC) vnx vac) 30 (0,0)))∧W.ownsRow (wm.heap.size+1+1) 68 1 vnx vs.length vs∧OwnB W (wm.heap.size+1+1) vac Ac∧
       RowsO W (wm.heap.size+1+1) vs N' (fun o=>o=some go2∨o=some gr)∧Hid (LInv t (fun s=>N.getD s 0) R Kc i k O2 P2 N' r∧i<O2.length∧∀ j,j≤i→O2.getD j 0=O.getD j 0))
      (fun _ vi _=>Kc.length-(intOf vi).toNat)
     case atStart=>exact ⟨0,O,P,_,go,co,by omega,rfl,rfl,hgr,hE5,hsz5,hP5,hI5,hQ5,HD5,hN5,hA5,hV5,Lib.hid ⟨HI.out.1,hlt,fun _ _=>rfl⟩⟩
     case round=>
      clear hE5 hsz5 hP5 hI5 hQ5 HD5 hN5 hA5 hV5 hgr;obtain ⟨k,O2,P2,r,go2,co2,hk,rfl,rfl,hgr,hE,hsz,hP,hI,hQ,HD,hN,hA,hV,HJ⟩:=hrel;have HLP:=Lib.hid HJ.out.1.lenP;have HLR:=Lib.hid HJ.out.1.lenr;have hOR2:=HJ.out.1.len_le;obtain ⟨w5,hw5⟩:∃ W,W=wr:=⟨_,rfl⟩;subst hw5;by_cases hkc:k<Kc.length
      ·have cK:=HKC.out w5 hE k hkc;have hcl:=HM.out.lt k hkc;obtain ⟨c,hcd⟩:∃ c,Kc.getD k 0=c:=⟨_,rfl⟩;have HZ0:Hid (N.getD (t.ent2 (R.getD (O2.getD i 0) 0) (Kc.getD k 0)) 0=N.getD (t.ent2 s c) 0):=Lib.hid (by rw [HJ.out.2.2 i (Nat.le_refl _),HXD.out,HSD.out,hcd]);rw [hcd] at cK hcl;clear hcd;have hyn:=HV.out.tgt s hsn c hcl;have hzR:=HBx.out c hcl;obtain ⟨br,or',cr',hrc,hrr⟩:=(HRW.out w5 hE) s hsn;have cy:=hrr c hcl;have k7:=HK7.out w5 hE;obtain ⟨y,hyd⟩:∃ y,t.ent2 s c=y:=⟨_,rfl⟩;have hzR:N.getD (t.ent2 s c) 0<R.length:=hzR;rw [hyd] at cy hyn hzR HZ0;clear hyd hrr;have cz:=HNC.out w5 hE y hyn;obtain ⟨z,hzd⟩:∃ z,N.getD y 0=z:=⟨_,rfl⟩;rw [hzd] at cz hzR HZ0;clear hzd;have cp:=Ap none hP HLP.out.symm z (by rw [HLP.out];exact hzR);obtain ⟨o,ho⟩:∃ o,P2.getD z none=o:=⟨_,rfl⟩;rw [ho] at cp;have HO:=Lib.hid ho;clear ho;have hgb':some (wm.heap.size+1)≠some gr:=fun e=>by have:=Option.some.inj e;omega
       go_upto_region 21 with (fail)
       clear cK cy cz k7 hrc;cases o with
       | some v=>
        replace cp:w5.cell? ⟨wm.heap.size+1,z,none⟩=some (iv v):=cp;have HJ':=Lib.hid (Aeu HJ.out.1 hkc v (by
         show P2.getD (N.getD (t.ent2 (R.getD (O2.getD i 0) 0) (Kc.getD k 0)) 0) none=some v;rw [HZ0.out];exact HO.out))
        have cq:=Ap 0 hQ HLR.out.symm k (by rw [HLR.out];exact hkc);have fq:=hQ.frozenAt k;obtain ⟨hQ6,hgr6⟩:=A3 hQ k v;have hE6:=hE.grown hgr6 (fun k e=>by cases e;omega);have hP6:=hP.kept hgr6 (.inr hgb');have hI6:=hI.kept hgr6 (.inr (fun e=>hgr (Option.some.inj e)));have HD6:=Lib.hid ((hgr6.block wm.heap.size (Ak HD.out) (fun e=>by have:=Option.some.inj e;omega)).trans HD.out);have hN6:=hN.kept hgr6 (Ai hN hQ (by decide));have hA6:=hA.kept hgr6 (Ai hA hQ (by decide));have hV6:=hV.kept hgr6 (fun v l ho hav=>.inr (fun e=>hav (.inr e)));have hsz6:=Nat.le_trans hsz hgr6.size;clear hgr6 hE hP hI hQ HD hN hA hV;go_wp2_with (fail);go_roundw
        case rel=>exact ⟨k+1,O2,P2,r.set k v,go2,co2,by omega,by go_num,rfl,hgr,hE6,hsz6,hP6,hI6,hQ6,HD6,hN6,hA6,hV6,Lib.hid ⟨HJ'.out,HJ.out.2⟩⟩
        case measure=>simp [intOf];omega
       | none=>
        replace cp:w5.cell? ⟨wm.heap.size+1,z,none⟩=some (.int .i64 (-1)):=cp;have hJ':=Aev HJ.out.1 hkc HJ.out.2.1 (by
         show N.getD (t.ent2 (R.getD (O2.getD i 0) 0) (Kc.getD k 0)) 0<R.length;rw [HZ0.out];exact hzR) (by
         show P2.getD (N.getD (t.ent2 (R.getD (O2.getD i 0) 0) (Kc.getD k 0)) 0) none=none;rw [HZ0.out];exact HO.out)
        rw [HZ0.out] at hJ';have HJ':=Lib.hid hJ';clear hJ';have fp:=hP.frozenAt z;obtain ⟨hPa,hgra⟩:=A3 hP z (some O2.length);have hEa:=hE.grown hgra (fun k e=>by cases e;omega);have hIa:=hI.kept hgra (Ao hI (by omega));have hQa:=hQ.kept hgra (Ao hQ (by omega));have HDa:=Lib.hid ((hgra.block wm.heap.size (Ak HD.out) (by simp)).trans HD.out);have hNa:=hN.kept hgra (Ao hN (by omega));have hAa:=hA.kept hgra (Ao hA (by omega));have hVa:=hV.kept hgra (fun v l ho hav=>Ao ho (by omega));have hsza:=Nat.le_trans hsz hgra.size;clear hgra hE hP hI hQ HD hN hA hV;go_upto_region 23 with (fail)
        obtain ⟨wa,hwa⟩:∃ W,w5.setCell ⟨wm.heap.size+1,z,none⟩ (ov (some O2.length))=W:=⟨_,rfl⟩;rw [hwa] at hPa hEa hIa hQa HDa hNa hAa hVa hsza;have hwa':w5.setCell ⟨wm.heap.size+1,z,none⟩ (.int .i64 (O2.length:Int))=wa:=hwa;rw [hwa'];clear hwa hwa' cp fp;go_upto_region 24 with (at_builtin;refine wpList_append_lies _ rfl _ _ 68 rfl (wm.heap.size+1+1) 3 i0 (.int .i64 0) 1 8 Tryz.underlying68 hi hz0 hz1 hz2 rfl (by decide) _ _ _ rfl (hIa.alloc _) _ 1 1 [iv z] rfl rfl (cell_one_new _ _ _) (by simp [Value.oneCell']) (by decide) (by unfold maxLen;omega) (by omega) (by simp;omega) _ rfl ?_;intro g7 c7 w7 hI7 hgr7 hat7 _)
        have hgo7:go2=g7∨g7=wa.heap.size+1:=by
         rcases hat7 with e|e
         ·exact .inl (Option.some.inj e)
         ·rw [World.size_alloc] at e;exact .inr e
        have hgrl:=(hQa.lt gr rfl).2;have hgr':g7≠gr:=by
         rcases hgo7 with e|e
         ·rw [← e];exact hgr
         ·omega
        have hgb2:=(hIa.lt go2 rfl).1;have hP7:=(hPa.alloc (.cells #[iv z] 3)).kept hgr7 (.inr (fun e=>by have:wm.heap.size+1=go2:=Option.some.inj e;have:wm.heap.size+1+1≤go2:=hgb2;omega));have hQ7:=(hQa.alloc (.cells #[iv z] 3)).kept hgr7 (.inr (fun e=>hgr (Option.some.inj e).symm));have HD7:=Lib.hid ((hgr7.block wm.heap.size (Nat.lt_of_lt_of_le (Ak HDa.out) (by rw [World.size_alloc];omega)) (fun e=>by have:wm.heap.size=go2:=Option.some.inj e;have:wm.heap.size+1+1≤go2:=hgb2;omega)).trans (Af HDa.out _));have hN7:=(hNa.alloc (.cells #[iv z] 3)).kept hgr7 (Ai hNa hIa (by decide));have hA7:=(hAa.alloc (.cells #[iv z] 3)).kept hgr7 (Ai hAa hIa (by decide));have hE7:=(hEa.alloc (.cells #[iv z] 3)).grown hgr7 (fun k e=>by have:=(hIa.lt k e).1;omega);have hV7:=(((hVa.alloc (.cells #[iv z] 3)).av (av':=fun o=>(o=some go2∨o=some gr)∨o=some g7) (fun v l ho hav=>by
         rintro (e|e)
         ·exact hav e
         ·rcases hgo7 with e7|e7
          ·exact hav (.inl (by rw [e,e7]))
          ·have:=(ho.lt _ e).2;rw [World.size_alloc] at this;omega)).kept hgr7 (fun v l ho hav=>.inr (fun e=>hav (.inl (.inl e))))).av (av':=fun o=>o=some g7∨o=some gr) (fun v l ho hav=>by
         rintro (e|e)
         ·exact hav (.inr e)
         ·exact hav (.inl (.inr e)))
        have hsz7:wm.heap.size+1+1≤w7.heap.size:=by
         have:=hgr7.size;rw [World.size_alloc] at this;omega
        have HI7:Hid (OwnI w7 (wm.heap.size+1+1) (.slice (some ⟨g7,0,none⟩) (O2++[z]).length c7) (O2++[z])):=Lib.hid (by
         show World.ownsRow _ _ _ _ _ _ _;rw [List.length_append,List.map_append];exact hI7)
        clear hgr7 hat7 hEa hPa hIa hQa HDa hNa hAa hVa hI7 hgo7;have cp:=Ap none hP7 (by rw [List.length_set];exact HLP.out.symm) z (by rw [List.length_set,HLP.out];exact hzR);rw [A5 _ _ _ _ _ (by rw [HLP.out];exact hzR),if_pos rfl] at cp;replace cp:w7.cell? ⟨wm.heap.size+1,z,none⟩=some (iv O2.length):=cp;have cq:=Ap 0 hQ7 HLR.out.symm k (by rw [HLR.out];exact hkc);have fq:=hQ7.frozenAt k;obtain ⟨hQ8,hgr8⟩:=A3 hQ7 k O2.length;have hE8:=hE7.grown hgr8 (fun k e=>by cases e;omega);have hP8:=hP7.kept hgr8 (.inr hgb');have HI8:=Lib.hid (HI7.out.kept hgr8 (.inr (fun e=>hgr' (Option.some.inj e))));have HD8:=Lib.hid ((hgr8.block wm.heap.size (Ak HD7.out) (fun e=>by have:=Option.some.inj e;omega)).trans HD7.out);have hN8:=hN7.kept hgr8 (Ai hN7 hQ7 (by decide));have hA8:=hA7.kept hgr8 (Ai hA7 hQ7 (by decide));have hV8:=hV7.kept hgr8 (fun v l ho hav=>.inr (fun e=>hav (.inr e)));have hsz8:=Nat.le_trans hsz7 hgr8.size;clear hgr8 hE7 hP7 HI7 hQ7 HD7 hN7 hA7 hV7;go_wp2_with (fail);go_roundw
        case rel=>
         refine ⟨k+1,O2++[z],P2.set z (some O2.length),r.set k O2.length,g7,c7,by omega,by go_num,?_,hgr',hE8,hsz8,hP8,?_,hQ8,HD8,hN8,hA8,hV8,Lib.hid ⟨HJ'.out,?_,fun j hj=>?_⟩⟩
         ·rw [List.length_append];rfl
         ·have h9:World.ownsRow _ _ _ _ _ _ _:=HI8.out;show World.ownsRow _ _ _ _ _ _ _;rw [show (O2++[z]).length=O2.length+1 by simp] at h9 ⊢;exact h9
         ·rw [List.length_append];have:=HJ.out.2.1;omega
         ·rw [Bi _ _ _ _ (by have:=HJ.out.2.1;omega)];exact HJ.out.2.2 j hj
        case measure=>simp [intOf];omega
      ·obtain rfl:k=Kc.length:=by omega
       have c1:=(cell_of_row w5 wm.heap.size 1 _ _ _ HD.out).trans (show (dA (.slice (some ⟨bC,oC,none⟩) C.length cC) vnx vac)[1]? = some vnx from rfl);have hgq:=(hQ.lt gr rfl).1;have hvb:vs.length≤65536:=by rw [hV.1,HJ.out.1.lenN];omega
       go_upto_region 27 with (at_builtin;refine wpList_append_lies _ rfl _ _ 27 rfl (wm.heap.size+1+1) 68 i6 (.slice none 0 0) 1 24 Tryz.underlying27 hi6 hx0 hx1 hx2 rfl (by decide) vnx vs.length vs rfl (hN.alloc _) _ 1 1 [.slice (some ⟨gr,0,none⟩) Kc.length Kc.length] rfl rfl (cell_one_new _ _ _) (by simp [Value.oneCell']) (by decide) (by unfold maxLen;omega) (by omega) (by simp;omega) _ rfl ?_;intro g7 c7 w7 hN7 hgr7 _ _;have HD7:Hid (w7.heap[wm.heap.size]? = _):=Lib.hid ((hgr7.block wm.heap.size (Nat.lt_of_lt_of_le (Ak HD.out) (by rw [World.size_alloc];omega)) (fun e=>by have:=(hN.lt _ e.symm).1;omega)).trans (Af HD.out _));have c17:=(cell_of_row w7 wm.heap.size 1 _ _ _ HD7.out).trans (show (dA (.slice (some ⟨bC,oC,none⟩) C.length cC) vnx vac)[1]? = some vnx from rfl);have f17:=frozen_of_row w7 wm.heap.size 1 _ _ HD7.out)
       clear c1 c17 f17;have hrow:∀ (o:Obj),(w5.alloc o).heap.size=w5.heap.size+1:=fun o=>World.size_alloc _ _
       have hP7:=(hP.alloc (.cells #[.slice (some ⟨gr,0,none⟩) Kc.length Kc.length] 68)).kept hgr7 (Ai hP hN (by decide));have hI7:=(hI.alloc (.cells #[.slice (some ⟨gr,0,none⟩) Kc.length Kc.length] 68)).kept hgr7 (Ai hI hN (by decide));have hQ7:=(hQ.alloc (.cells #[.slice (some ⟨gr,0,none⟩) Kc.length Kc.length] 68)).kept hgr7 (Ai hQ hN (by decide));have hA7:=(hA.alloc (.cells #[.slice (some ⟨gr,0,none⟩) Kc.length Kc.length] 68)).kept hgr7 (Ai hA hN (by decide));have hV7:=(hV.alloc (.cells #[.slice (some ⟨gr,0,none⟩) Kc.length Kc.length] 68)).kept hgr7 (fun v l ho _=>Ai ho (hN.alloc (.cells #[.slice (some ⟨gr,0,none⟩) Kc.length Kc.length] 68)) (by decide));have hE7:=(hE.alloc (.cells #[.slice (some ⟨gr,0,none⟩) Kc.length Kc.length] 68)).grown hgr7 (fun k e=>by have:=(hN.lt k e).1;omega);have hsz7:wm.heap.size+1+1≤w7.heap.size:=by
        have:=hgr7.size;rw [World.size_alloc] at this;omega
       clear hgr7 hP hI hQ hA hV hE hN HD;have hN7:w7.ownsRow (wm.heap.size+1+1) 68 1 (.slice (some ⟨g7,0,none⟩) (vs.length+1) c7) (vs++[Value.slice (some ⟨gr,0,none⟩) Kc.length Kc.length]).length (vs++[Value.slice (some ⟨gr,0,none⟩) Kc.length Kc.length]):=by
        rw [List.length_append];exact hN7
       obtain ⟨row,hrowd⟩:∃ v,Value.slice (some ⟨gr,0,none⟩) Kc.length Kc.length=v:=⟨_,rfl⟩;have hrowb:row.ownBlock=some gr:=by rw [← hrowd];rfl
       rw [hrowd] at hN7 hQ7;clear hrowd;obtain ⟨vn8,hvn8⟩:∃ v,Value.slice (some ⟨g7,0,none⟩) (vs.length+1) c7=v:=⟨_,rfl⟩;rw [hvn8] at hN7;have hgr8:=B3 w7 wm.heap.size (dA (.slice (some ⟨bC,oC,none⟩) C.length cC) vn8 vac);have hsc:w7.setCell ⟨wm.heap.size,1,none⟩ vn8=w7.setRow wm.heap.size (dA (.slice (some ⟨bC,oC,none⟩) C.length cC) vn8 vac):=setCell_eq_setRow w7 _ _ _ _ _ _ HD7.out;have hE8:=hE7.setRow (Nat.le_refl _) (dA (.slice (some ⟨bC,oC,none⟩) C.length cC) vn8 vac);have hP8:=hP7.kept hgr8 (Ao hP7 (by omega));have hI8:=hI7.kept hgr8 (Ao hI7 (by omega));have hQ8:=hQ7.kept hgr8 (Ao hQ7 (by omega));have hN8:=hN7.kept hgr8 (Ao hN7 (by omega));have hA8:=hA7.kept hgr8 (Ao hA7 (by omega));have hV8:=hV7.kept hgr8 (fun v l ho _=>Ao ho (by omega));have HD8:=Lib.hid (setRow_heap w7 wm.heap.size _ (dA (.slice (some ⟨bC,oC,none⟩) C.length cC) vn8 vac) _ _ HD7.out);have hsz8:wm.heap.size+1+1≤(w7.setRow wm.heap.size (dA (.slice (some ⟨bC,oC,none⟩) C.length cC) vn8 vac)).heap.size:=by rw [size_setRow];exact hsz7
       rw [hvn8,hsc];clear hgr8 hP7 hI7 hQ7 hN7 hA7 hV7 hE7 hsz7 HD7 hsc;obtain ⟨w8,hw8⟩:∃ W,w7.setRow wm.heap.size (dA (.slice (some ⟨bC,oC,none⟩) C.length cC) vn8 vac)=W:=⟨_,rfl⟩;rw [hw8] at hP8 hI8 hQ8 hN8 hA8 hV8 HD8 hE8 hsz8;rw [hw8];clear hw8;have c2:∀ W:World,W.heap[wm.heap.size]? = some (.cells (dA (.slice (some ⟨bC,oC,none⟩) C.length cC) vn8 vac) 30 (0,0))→W.cell? ⟨wm.heap.size,2,none⟩=some vac:=fun W hW=>(cell_of_row W wm.heap.size 2 _ _ _ hW).trans rfl
       refine Dh 10 [(0,true),(1,true),(2,true),(3,true),(4,true),(5,true),(6,true),(7,false),(8,false),(9,true),(10,false)] (by kernel_rfl) (by kernel_rfl) (fun _ _ _ _ h=>h)
        (fun W=>Ext wm W∧W.heap[wm.heap.size]? = some (.cells (dA (.slice (some ⟨bC,oC,none⟩) C.length cC) vn8 vac) 30 (0,0))) ⟨hE8.drew,HD8.out⟩ ?_
       iterate 7
        refine Fr (v:=?_) rfl rfl (fun W hW=>?_) ?_
        rotate_left
        ·obtain ⟨hWE,hWD⟩:=hW;have k2:=c2 W hWD;have k8:=HK8.out W hWE;have ka:=HAW.out W hWE s hsn;clear hWD;go_simp;first|done|with_reducible rfl
        simp only [Act.put,List.setIfInBounds_toArray,List.set_cons_zero,List.set_cons_succ]
       have hP9:=Ah hP8 (Ext.refl w8).drew;have hI9:=Ah hI8 (Ext.refl w8).drew;have hQ9:=Ah hQ8 (Ext.refl w8).drew;have hN9:=Ah hN8 (Ext.refl w8).drew;have hA9:=Ah hA8 (Ext.refl w8).drew;have hV9:=hV8.kept ((Ext.refl w8).drew.grownBy none) (fun v l _ _=>by cases v.ownBlock<;>simp);have HD9:Hid (w8.drew.heap[wm.heap.size]? = some (.cells (dA (.slice (some ⟨bC,oC,none⟩) C.length cC) vn8 vac) 30 (0,0))):=Lib.hid HD8.out;have hE9:=hE8.drew;have hsz9:wm.heap.size+1+1≤w8.drew.heap.size:=hsz8;obtain ⟨w9,hw9⟩:∃ W,w8.drew=W:=⟨_,rfl⟩;rw [hw9] at hP9 hI9 hQ9 hN9 hA9 hV9 HD9 hE9 hsz9;rw [hw9];clear hw9 hP8 hI8 hQ8 hN8 hA8 hV8 HD8 hE8 hsz8;have hAb:Ac.length≤65536:=by rw [HI.out.2.1];omega
       refine C8 rfl (fun K hK=>?_);go_simp;refine hK _ _ (fun _=>⟨hE9.alloc _,Af HD9.out _⟩) ?_;clear hK K;refine C8 rfl (fun K hK=>?_);refine step_append_lies _ rfl _ _ 28 rfl (wm.heap.size+1+1) 4 i4 (.bool false) 1 1 Tryz.underlying28 hi4 hy0 hy1 hy2 rfl (by decide) vac Ac.length (Ac.map Value.bool) rfl (hA9.alloc _) _ 1 1 [.bool (t.ok s)] rfl rfl (cell_one_new _ _ _) (by simp [Value.oneCell']) (by decide) (by unfold maxLen;omega) (by omega) (by simp;omega) _ rfl ?_;intro g10 c10 w10 hA10 hgr10 _ _;have hE10:=(hE9.alloc (.cells #[.bool (t.ok s)] 4)).grown hgr10 (fun k e=>by have:=(hA9.lt k e).1;omega);have HD10:=Lib.hid ((hgr10.block wm.heap.size (Nat.lt_of_lt_of_le (Ak HD9.out) (by rw [World.size_alloc];omega)) (fun e=>by have:=(hA9.lt _ e.symm).1;omega)).trans (Af HD9.out _));have hP10:=(hP9.alloc (.cells #[.bool (t.ok s)] 4)).kept hgr10 (Ai hP9 hA9 (by decide));have hI10:=(hI9.alloc (.cells #[.bool (t.ok s)] 4)).kept hgr10 (Ai hI9 hA9 (by decide));have hQ10:=(hQ9.alloc (.cells #[.bool (t.ok s)] 4)).kept hgr10 (Ai hQ9 hA9 (by decide));have hN10:=(hN9.alloc (.cells #[.bool (t.ok s)] 4)).kept hgr10 (Ai hN9 hA9 (by decide));have hV10:=(hV9.alloc (.cells #[.bool (t.ok s)] 4)).kept hgr10 (fun v l ho _=>Ai ho (hA9.alloc (.cells #[.bool (t.ok s)] 4)) (by decide));have hsz10:wm.heap.size+1+1≤w10.heap.size:=by
        have:=hgr10.size;rw [World.size_alloc] at this;omega
       have hA10:OwnB w10 (wm.heap.size+1+1) (.slice (some ⟨g10,0,none⟩) (Ac.length+1) c10) (Ac++[t.ok s]):=by
        show World.ownsRow _ _ _ _ _ _ _;rw [List.length_append,List.map_append];exact hA10
       clear hgr10 hP9 hI9 hQ9 hN9 hA9 hV9 HD9 hE9 hsz9;refine hK _ _ (fun _=>⟨hE10,HD10.out⟩) ?_;clear hK K;refine Fr (v:=?_) rfl rfl (fun W hW=>?_) ?_
       rotate_left
       ·clear hW;go_simp;first|done|with_reducible rfl
       simp only [Act.put,List.setIfInBounds_toArray,List.set_cons_zero,List.set_cons_succ];have k2:=c2 w10 HD10.out;have f2:=frozen_of_row w10 wm.heap.size 2 _ _ HD10.out;refine C8 rfl (fun K hK=>?_);go_simp;refine hK _ _ (fun h=>absurd h (by omega)) ?_;clear hK K k2 f2 c2;refine Di ?_;obtain ⟨va8,hva8⟩:∃ v,Value.slice (some ⟨g10,0,none⟩) (Ac.length+1) c10=v:=⟨_,rfl⟩;rw [hva8] at hA10;have hgr11:=B3 w10 wm.heap.size (dA (.slice (some ⟨bC,oC,none⟩) C.length cC) vn8 va8);have hsc:w10.setCell ⟨wm.heap.size,2,none⟩ va8=w10.setRow wm.heap.size (dA (.slice (some ⟨bC,oC,none⟩) C.length cC) vn8 va8):=setCell_eq_setRow w10 _ _ _ _ _ _ HD10.out;have hE11:=hE10.setRow (Nat.le_refl _) (dA (.slice (some ⟨bC,oC,none⟩) C.length cC) vn8 va8);have hP11:=hP10.kept hgr11 (Ao hP10 (by omega));have hI11:=hI10.kept hgr11 (Ao hI10 (by omega));have hQ11:=hQ10.kept hgr11 (Ao hQ10 (by omega));have hN11:=hN10.kept hgr11 (Ao hN10 (by omega));have hA11:=hA10.kept hgr11 (Ao hA10 (by omega));have hV11:=hV10.kept hgr11 (fun v l ho _=>Ao ho (by omega));have HD11:=Lib.hid (setRow_heap w10 wm.heap.size _ (dA (.slice (some ⟨bC,oC,none⟩) C.length cC) vn8 va8) _ _ HD10.out);have hsz11:wm.heap.size+1+1≤(w10.setRow wm.heap.size (dA (.slice (some ⟨bC,oC,none⟩) C.length cC) vn8 va8)).heap.size:=by rw [size_setRow];exact hsz10
       rw [hva8,hsc];clear hgr11 hP10 hI10 hQ10 hN10 hA10 hV10 hE10 hsz10 HD10 hsc;obtain ⟨w11,hw11⟩:∃ W,w10.setRow wm.heap.size (dA (.slice (some ⟨bC,oC,none⟩) C.length cC) vn8 va8)=W:=⟨_,rfl⟩;rw [hw11] at hP11 hI11 hQ11 hN11 hA11 hV11 HD11 hE11 hsz11;rw [hw11];clear hw11;have hQ12:OwnI w11 (wm.heap.size+1+1) row r:=by
        show World.ownsRow _ _ _ _ _ _ _;rw [HLR.out];exact hQ11
       have hV12:=(hV11.av (av':=fun o=>o=some go2) (fun v l _ hav e=>hav (.inl e))).snoc hQ12 (by rw [hrowb];exact fun e=>hgr (Option.some.inj e).symm);have HNX:=Lib.hid (Aet HJ.out.1 HJ.out.2.1 (List.replicate Kc.length 0) (by simp));have HAX:Hid ((Ac++[t.ok s]).length=i+1∧∀ j,j<i+1→(Ac++[t.ok s]).getD j false=t.ok (R.getD (O2.getD j 0) 0)):=Lib.hid ⟨by rw [List.length_append,HI.out.2.1];rfl,fun j hj=>by
        rw [HJ.out.2.2 j (by omega),Hq,HI.out.2.1];by_cases hji:j<i
        ·rw [if_pos hji];exact HI.out.2.2 j hji
        ·obtain rfl:j=i:=by omega
         rw [if_neg (by omega),if_pos rfl,HXD.out,HSD.out]⟩
       have hiO2:=HJ.out.2.1;clear hQ11 hV11 hQ12 hgr;go_wp2;go_roundw
       case rel=>exact ⟨i+1,O2,P2,N'++[r],Ac++[t.ok s],vs++[row],go2,co2,vn8,va8,by omega,by go_num,rfl,hE11,hsz11,hP11,hI11,HD11,hN11,hA11,hV12,Lib.hid ⟨HNX.out,HAX.out⟩⟩
       case measure=>simp [intOf];omega
    ·obtain rfl:i=O.length:=by omega
     have HLD:=Lib.hid (Aew (L:=C) HM.out.len hK0 HI.out.1 rfl HI.out.2.1 HI.out.2.2);have HCN:=Lib.hid (Afe HV.out HL.out HB.out HM.out HLD.out);have HB1x:=Lib.hid (hE.heap HB1m.out);obtain ⟨an,cpn,rfl⟩:=Ew hN;obtain ⟨aa,cpa,rfl⟩:=Ew hA;go_wp2_with (first
      | (refine wpList_load_row rfl 30 (.tmp 7) rfl _ rfl _ _ _ _ HD.out Tryz.underlying30 rfl Ad ?_)
      | (refine wpList_store_row rfl 30 (.tmp 2) (.tmp 126) rfl _ _ rfl rfl _ _ HB1x.out Ad rfl (An _ _ _ rfl rfl rfl) ?_))
     refine bodyPost_ret (v:=.agg (dA (.slice (some ⟨bC,oC,none⟩) C.length cC) (.slice an vs.length cpn) (.slice aa Ac.length cpa))) (results_cell_row rfl _ _ _ _ _ _ _ rfl (setRow_heap wr _ _ (dA (.slice (some ⟨bC,oC,none⟩) C.length cC) (.slice an vs.length cpn) (.slice aa Ac.length cpa)) 30 (0,0) HB1x.out) Tryz.underlying30 rfl Ad) rfl ?_;have hgr:=B3 wr (w.heap.size+1) (dA (.slice (some ⟨bC,oC,none⟩) C.length cC) (.slice an vs.length cpn) (.slice aa Ac.length cpa));have hN':=hN.kept hgr (Ao hN (by omega));have hA':=hA.kept hgr (Ao hA (by omega));have hV':=hV.kept hgr (fun v l ho _=>Ao ho (by omega));have hCs':=Sl.setRow (HCs.out.ext hE) HB1x.out (fun i _ o=>by
      intro h;have:o=0∨o=1∨o=2∨3≤o:=by omega
      rcases this with rfl|rfl|rfl|ho
      ·simp at h
      ·simp at h
      ·simp at h
      ·rw [Array.getElem?_eq_none (by simpa using ho)] at h;cases h) (by omega) (dA (.slice (some ⟨bC,oC,none⟩) C.length cC) (.slice an vs.length cpn) (.slice aa Ac.length cpa))
     refine ⟨_,⟨C,N',Ac⟩,rfl,fun W hW=>⟨_,_,_,rfl,hW.cls hCs',(hW.rows hV').rows (hW.owns hN' (by decide)) (by rw [HI.out.1.lenN];omega) (fun j hj=>by rw [HI.out.1.rows j (by rw [← HI.out.1.lenN];exact hj)];omega),OwnB.bools (hW.owns hA' (by decide)) (by rw [HI.out.2.1];omega)⟩,HCN.out.1,HCN.out.2,?_⟩;exact (hEw.trans hE).setRow (by omega) _
theorem Jq (t:Tbl) (hv:TVal t) (hn:t.nxt.length≤65536) (A:Array Value) (w:World) (h:IsT w A t) :
  Calls Tryz.prog 69 #[.agg A] w fun e w'=>∃ v d,e=.returned v∧IsD w' v d∧Cano d∧(∀ u,d.has u=t.has u)∧Ext w w':=
 (P1 t hv hn A w h).mono fun _ _ ⟨v,d,he,hD,h1,h2,hE⟩=>⟨v,d,he,hD _ (Near.of_ext (Ext.refl _)),h1,h2,hE⟩
end Go.Proofs.YtaiogolidlamiaaGreatDoor
