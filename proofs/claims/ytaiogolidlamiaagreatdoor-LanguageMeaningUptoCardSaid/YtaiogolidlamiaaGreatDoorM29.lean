import Derived.Test.YtaiogolidlamiaaGreatDoorM28
set_option linter.unusedVariables false
set_option linter.unusedSimpArgs false
namespace Go.Proofs.YtaiogolidlamiaaGreatDoor
set_option maxRecDepth 100000
open Go.RowKit Go.Shelf
theorem Aec {t:Tbl} {N R:List Nat} (hb:Blk (List.range t.nxt.length) (fun s=>N.getD s 0) R) (hN:N.length=t.nxt.length) (h0:0<t.nxt.length) {m:Nat} (h1:∀ i,i<N.length→N.getD i 0≤m) (h2:∃ i,i<N.length∧N.getD i 0=m):m+1=R.length:=by
 obtain ⟨i,hi,hm⟩:=h2;have h3:N.getD i 0<R.length:=hb.lt i (List.mem_range.2 (by omega));have h4:=List.mem_range.1 (hb.mem (R.length-1) (by omega));have h5:N.getD (R.getD (R.length-1) 0) 0=R.length-1:=hb.rep (R.length-1) (by omega);have h6:=h1 _ (show R.getD (R.length-1) 0<N.length by omega);omega
theorem Qb {t:Tbl} (hv:TVal t) {N R:List Nat} (hb:Blocks t (List.range t.nxt.length) (fun s=>N.getD s 0) R) {s s':Nat} (hs:s<t.nxt.length) (hs':s'<t.nxt.length) (h:N.getD s 0=N.getD s' 0) :
  ((List.range t.cells).map fun k=>N.getD (t.ent2 s k) 0)=((List.range t.cells).map fun k=>N.getD (t.ent2 s' k) 0)∧t.ok s=t.ok s':=by
 have hq:Leq t s s':=(hb.leq s (List.mem_range.2 hs) s' (List.mem_range.2 hs')).1 h;refine ⟨List.map_congr_left fun k hk=>?_,hq []⟩;have hk:=List.mem_range.1 hk;obtain ⟨b,hbb,rfl⟩:=hv.onto k hk;exact (hb.leq _ (List.mem_range.2 (hv.tgt s hs _ hk)) _ (List.mem_range.2 (hv.tgt s' hs' _ hk))).2 (hq.step b hbb)
def Ol (n0 r:Nat) (vc:Value):Nat→Value→World→Prop
 | 0,v,_=>v=vc
 | 1,v,_=>v=iv r
 | 2,v,W=>∃ g,v=.slice (some ⟨g,0,none⟩) r r∧W.ownsRow n0 68 1 v r (List.replicate r (.slice none 0 0))
 | 3,v,_=>v=iv r
 | 4,v,W=>∃ g,v=.slice (some ⟨g,0,none⟩) r r∧W.ownsRow n0 4 1 v r ((List.replicate r false).map Value.bool)
 | 5,v,W=>∃ g5 g9,v=.agg (dA vc (.slice (some ⟨g5,0,none⟩) r r) (.slice (some ⟨g9,0,none⟩) r r))∧W.ownsRow n0 68 1 (.slice (some ⟨g5,0,none⟩) r r) r (List.replicate r (.slice none 0 0))∧W.ownsRow n0 4 1 (.slice (some ⟨g9,0,none⟩) r r) r ((List.replicate r false).map Value.bool)
 | _,v,W=>∃ g,v=.pointer (some ⟨g,0,none⟩)∧W.heap[g]? = some (.cells #[.slice none 0 0,.slice none 0 0,.slice none 0 0] 30 (0,0))∧n0≤g
theorem Ady (n0 r:Nat) (vc:Value):∀ (i:Nat) (v:Value) (w w':World),Ol n0 r vc i v w→Ext w w'→Ol n0 r vc i v w'
 | 0,_,_,_,h,_=>h
 | 1,_,_,_,h,_=>h
 | 2,_,_,_,⟨g,h1,h2⟩,hE=>⟨g,h1,Ah h2 hE⟩
 | 3,_,_,_,h,_=>h
 | 4,_,_,_,⟨g,h1,h2⟩,hE=>⟨g,h1,Ah h2 hE⟩
 | 5,_,_,_,⟨g,g',h1,h2,h3⟩,hE=>⟨g,g',h1,Ah h2 hE,Ah h3 hE⟩
 | _+6,_,_,_,⟨g,h1,h2,h3⟩,hE=>⟨g,h1,hE.heap h2,h3⟩
def Ok (wF:World) (r n g5 g8 g9 gB ba oa ca s x:Nat) (vx:Value) (ok:Bool):Nat→Value→World→Prop
 | 0,v,_=>v=.pointer (some ⟨g8,1,none⟩)
 | 1,v,_=>v=.slice (some ⟨g5,0,none⟩) r r
 | 2,v,_=>v=.slice (some ⟨gB,0,none⟩) n n
 | 3,v,_=>v=iv s
 | 4,v,_=>v=.pointer (some ⟨gB,s,none⟩)
 | 5,v,_=>v=iv x
 | 6,v,_=>v=.pointer (some ⟨g8,2,none⟩)
 | 7,v,_=>v=.slice (some ⟨g9,0,none⟩) r r
 | 8,v,_=>v=.slice (some ⟨gB,0,none⟩) n n
 | 9,v,_=>v=iv s
 | 10,v,_=>v=.pointer (some ⟨gB,s,none⟩)
 | 11,v,_=>v=iv x
 | 12,v,_=>v=vx
 | 13,v,_=>v=.slice (some ⟨ba,oa,none⟩) n ca
 | 14,v,_=>v=iv s
 | 15,v,_=>v=.pointer (some ⟨ba,oa+s,none⟩)
 | 16,v,_=>v=.bool ok
 | 17,v,_=>v=.pointer (some ⟨g5,x,none⟩)
 | 18,_,W=>W.heap[g5]? = wF.heap[g5]?
 | 19,v,_=>v=.pointer (some ⟨g9,x,none⟩)
 | _,_,W=>W.heap[g9]? = wF.heap[g9]?
theorem Adx {w1:World} (wF:World) (r n g5 g8 g9 gB ba oa ca s x:Nat) (vx:Value) (ok:Bool) (h5:g5<w1.heap.size) (h9:g9<w1.heap.size):∀ (i:Nat) (v:Value) (w w':World),Ok wF r n g5 g8 g9 gB ba oa ca s x vx ok i v w→Prg w1 wF w w'→Ok wF r n g5 g8 g9 gB ba oa ca s x vx ok i v w'
 | 0,_,_,_,h,_=>h
 | 1,_,_,_,h,_=>h
 | 2,_,_,_,h,_=>h
 | 3,_,_,_,h,_=>h
 | 4,_,_,_,h,_=>h
 | 5,_,_,_,h,_=>h
 | 6,_,_,_,h,_=>h
 | 7,_,_,_,h,_=>h
 | 8,_,_,_,h,_=>h
 | 9,_,_,_,h,_=>h
 | 10,_,_,_,h,_=>h
 | 11,_,_,_,h,_=>h
 | 12,_,_,_,h,_=>h
 | 13,_,_,_,h,_=>h
 | 14,_,_,_,h,_=>h
 | 15,_,_,_,h,_=>h
 | 16,_,_,_,h,_=>h
 | 17,_,_,_,h,_=>h
 | 18,_,_,_,h,hE=>hE.turned h5 h
 | 19,_,_,_,h,_=>h
 | _+20,_,_,_,h,hE=>hE.turned h9 h
theorem Aei (i:Nat) (h:i<21):i=0∨i=1∨i=2∨i=3∨i=4∨i=5∨i=6∨i=7∨i=8∨i=9∨i=10∨i=11∨i=12∨i=13∨i=14∨i=15∨i=16∨i=17∨i=18∨i=19∨i=20:=by omega
set_option maxHeartbeats 4000000 in
theorem Ad7 (t:Tbl) (hv:TVal t) (hn:t.nxt.length≤65536) (hl:Reached t (List.range t.nxt.length)) (L:List Cls) (hL:Parts L) (hc:t.cells=L.length) (hcell:∀ b,b<256→t.cell b=Aj L b) (vC vN vA:Value) (w:World) (hT:Tab w) (hsz:0<w.heap.size)
  (hC:Cs w vC L) (hN:Rows w vN t.nxt) (hA:Bools w vA t.acc) :
  Calls Tryz.prog 58 #[vC,vN,vA] w fun e w'=>∃ r,ResOf w' e r∧J4 (fun u=>t.has u=true) r∧Ext w w':=by
 have hn0:=hv.pos;have hm0:=hv.cpos;have hm1:=hv.cle;obtain ⟨bn,on,cn,rfl,hR⟩:=Nf hN t.cells hn0 hm0 hv.row;obtain ⟨ba,oa,ca,rfl,hacc⟩:=L9 hA (by rw [hv.accL];exact hn0);obtain ⟨bc,oc,cc,rfl,-⟩:=Sl.form hC hL.pos;have HTa:=Lib.hid (fun W (hW:Ext w W)=>hT.below hW.below hsz);have hR':RowsAt w bn on t.nxt.length t.cells t.ent2:=hR;have hacc':∀ s,s<t.nxt.length→w.cell? ⟨ba,oa+s,none⟩=some (.bool (t.ok s)):=fun s hs=>hacc s (by rw [hv.accL];exact hs)
 have HR:=Lib.hid hR';have HV:=Lib.hid hv;have HL:=Lib.hid hl;have HAcc:=Lib.hid hacc';have HAL:=hv.accL;have HC:=Lib.hid hC;have HPL:=Lib.hid hL;have HCell:=Lib.hid hcell;have HCL:=Lib.hid hc;rw [HAL];have HAL:=Lib.hid HAL;obtain ⟨lc,hlc⟩:∃ x,L.length=x:=⟨_,rfl⟩;rw [hlc];have HLC:=Lib.hid hlc;obtain ⟨i0,hi,hz0,hz1,hz2⟩:=info_parts Dm;obtain ⟨i5,hi5,hy0,hy1,hy2⟩:=info_parts (show (Tryz.prog.info? 5).map (fun i=>(i.zero,i.size,i.bytes))=some (some (.int .u8 0),1,1) by kernel_rfl);have hE0:=(Ext.refl w).alloc (.cells #[.slice none 0 0,.slice none 0 0,.slice none 0 0] 30);have H0:=Ab w (.cells #[.slice none 0 0,.slice none 0 0,.slice none 0 0] 30);clear hR hR' hv hC hN hA hacc hacc' hl hL hc hcell hT hlc;go_enter Tryz.func58,Tryz.ntmps58;go_upto_region 1 with (fail)
 obtain ⟨w1,hw1⟩:∃ W,w.alloc (.cells #[.slice none 0 0,.slice none 0 0,.slice none 0 0] 30)=W:=⟨_,rfl⟩;have hs1:w.heap.size<w1.heap.size:=by rw [← hw1,World.size_alloc];omega
 rw [hw1] at hE0 H0;simp only [hw1];clear hw1;have HB:=Lib.hid H0;clear H0;go_upto_region 2 with (at_make;refine wpList_make_full _ rfl _ _ 68 rfl w1.heap.size 3 i0 (.int .i64 0) 1 Tryz.underlying68 hi hz0 hz1 .i64 .i64 _ _ t.nxt.length rfl rfl rfl rfl (by rw [hz2];omega) (by unfold maxLen;omega) (Nat.le_refl _) ?_;intro w2 hown2 hgrow2)
 have hE2:Ext w1 w2:=(Ext.refl w1).grown hgrow2 (fun k e=>by cases e);have hB2:w2.ownsRow w1.heap.size 3 1 (.slice (some ⟨w1.heap.size,0,none⟩) t.nxt.length t.nxt.length) t.nxt.length ((List.replicate t.nxt.length 0).map iv):=by rw [← Ca];exact hown2
 clear hown2 hgrow2;generalize hgb:w1.heap.size=gb at *;have HGB:=Lib.hid hgb;clear hgb;go_wp2_with (fail);go_loopw [32] (fun i W=>∃ (j:Nat) (B:List Nat),j≤t.nxt.length∧i=.int .i64 j∧Ext w1 W∧
   W.ownsRow gb 3 1 (.slice (some ⟨gb,0,none⟩) t.nxt.length t.nxt.length) t.nxt.length (B.map iv)∧Hid (AInv t (List.range t.nxt.length) j B))
  (fun i _=>t.nxt.length-(intOf i).toNat)
 case atStart=>exact ⟨0,_,by omega,rfl,hE2,hB2,Lib.hid (Xf t _)⟩
 case round=>
  clear hE2 hB2;obtain ⟨j,B,hj,rfl,hE,hB,HI⟩:=hrel;by_cases hlt:j<t.nxt.length
  ·have cacc:=(hE0.trans hE).cell (HAcc.out j hlt);have hBl:=Lib.hid HI.out.len;have hgb1:w1.heap.size≤gb:=Nat.le_of_eq HGB.out;have hrj:(List.range t.nxt.length).getD j 0=j:=(by rw [List.getD_eq_getElem?_getD,List.getElem?_range hlt];rfl);have HY:=Lib.hid (fun ho=>Xe HI.out (by simpa using hlt) (by rw [hrj];exact hlt) ho);have HN:=Lib.hid (fun ho=>Xg HI.out (by simpa using hlt) ho);rw [hrj] at HY HN;clear hrj;cases hok:t.ok j
   ·rw [hok] at cacc;have HN':=Lib.hid (HN.out hok);clear hok;go_wp2_with (fail);go_roundw
    case rel=>exact ⟨j+1,B,by omega,by go_num,hE,hB,HN'⟩
    case measure=>simp [intOf];omega
   ·rw [hok] at cacc;have HY':=Lib.hid (HY.out hok);clear hok;obtain ⟨hB',hgr⟩:=A3 hB j 1;have cs:=Ap 0 hB hBl.out.symm j (by rw [hBl.out];exact hlt);have fs:=hB.frozenAt j;go_wp2_with (fail);go_roundw
    case rel=>exact ⟨j+1,B.set j 1,by omega,by go_num,hE.grown hgr (fun k e=>by cases e;exact hgb1),hB',HY'⟩
    case measure=>simp [intOf];omega
  ·obtain rfl:j=t.nxt.length:=by omega
   have HO:=Lib.hid (Tb (by rw [List.length_range];exact HI.out));clear HI;have hgb1:w1.heap.size≤gb:=Nat.le_of_eq HGB.out;go_upto_region 8 with (fail)
   obtain ⟨w3,hw3⟩:∃ W,W=wr:=⟨_,rfl⟩;subst hw3;have HC3:Hid (∀ s,s<t.nxt.length→w3.cell? ⟨gb,s,none⟩=some (iv (B.getD s 0))):=Lib.hid fun s hs=>Ap 0 hB HO.out.len.symm s (by rw [HO.out.len];exact hs)
   have hgl3:gb<w3.heap.size:=(hB.lt gb rfl).2;clear hB;go_wp2_with (fail);go_loopw [8,11] (fun v c W=>∃ (B:List Nat) (n g:Nat),v=.slice (some ⟨g,0,none⟩) t.nxt.length t.nxt.length∧c=.int .i64 n∧Ext w1 W∧g<W.heap.size∧
     Hid (∀ s,s<t.nxt.length→W.cell? ⟨g,s,none⟩=some (iv (B.getD s 0)))∧Hid (OInv t (List.range t.nxt.length) B n))
    (fun _ c _=>t.nxt.length-(intOf c).toNat)
   case atStart=>exact ⟨B,0,gb,rfl,rfl,hE,hgl3,HC3,HO⟩
   case round=>
    clear HC3 HO hgl3 hE;clear B;obtain ⟨B,n,g,rfl,rfl,hE,hgl,HC3,HO⟩:=hrel;have hnl:=HO.out.le;rw [List.length_range] at hnl;obtain ⟨wo,hwo⟩:∃ W,W=wr:=⟨_,rfl⟩;subst hwo;have hEw:=hE0.trans hE;have HRo:=Lib.hid (fun (W:World) (hW:Ext wo W)=>HR.out.ext (hEw.trans hW));have HCo:=Lib.hid (fun (W:World) (hW:Ext wo W) s (hs:s<t.nxt.length)=>hW.cell (HC3.out s hs));have hmm:=@run_makeMap Tryz.prog;go_upto_region 10 with (fail)
    clear hmm;have hE3:=(Ext.refl wo).alloc (.map #[] 0);have hmp:=Afr wo 9 Cu;have hs3:(wo.alloc (.map #[] 0)).heap.size=wo.heap.size+1:=World.size_alloc _ _;obtain ⟨w3,hw3⟩:∃ W,wo.alloc (.map #[] 0)=W:=⟨_,rfl⟩;simp only [hw3] at *;clear hw3;go_upto_region 11 with (at_make;refine wpList_make_full _ rfl _ _ 68 rfl w3.heap.size 3 i0 (.int .i64 0) 1 Tryz.underlying68 hi hz0 hz1 .i64 .i64 _ _ t.nxt.length rfl rfl rfl rfl (by rw [hz2];omega) (by unfold maxLen;omega) (Nat.le_refl _) ?_;intro w4 hown4 hgr4)
    have hE4:=hE3.grown hgr4 (fun k e=>by cases e);have hN4:w4.ownsRow w3.heap.size 3 1 (.slice (some ⟨w3.heap.size,0,none⟩) t.nxt.length t.nxt.length) t.nxt.length ((List.replicate t.nxt.length 0).map iv):=by rw [← Ca];exact hown4
    have hmp4:=hmp.kept hgr4 (by simp);have hsz4:wo.heap.size+1<w4.heap.size:=by have:w3.heap.size<w4.heap.size:=(hN4.lt _ rfl).2;omega
    rw [hs3] at hN4;clear hown4 hgr4 hmp hE3;generalize hgn:w3.heap.size=gn at *;obtain rfl:gn=wo.heap.size+1:=hs3;go_wp2_with (fail);go_loopw [48] (fun i W=>∃ (j:Nat) (N R:List Nat) (f:List UInt8→Option Nat),j≤t.nxt.length∧i=.int .i64 j∧Ext wo W∧wo.heap.size+1<W.heap.size∧
      W.ownsRow (wo.heap.size+1) 3 1 (.slice (some ⟨wo.heap.size+1,0,none⟩) t.nxt.length t.nxt.length) t.nxt.length (N.map iv)∧IsMq W 9 Cu wo.heap.size R.length f∧
      Hid (FInv (C2 t fun s=>B.getD s 0) j (fun s=>N.getD s 0) R f∧N.length=t.nxt.length))
     (fun i _=>t.nxt.length-(intOf i).toNat)
    case atStart=>exact ⟨0,_,[],_,by omega,rfl,hE4,hsz4,hN4,hmp4,Lib.hid ⟨U4 _ _,by simp⟩⟩
    case round=>
     clear hN4 hmp4 hE4 hsz4;obtain ⟨j,N,R,f,hj,rfl,hE4,hsz4,hN4,hmp4,HN⟩:=hrel;have hRl:=HN.out.1.le;obtain ⟨w4,hw4⟩:∃ W,W=wr:=⟨_,rfl⟩;subst hw4;by_cases hlt:j<t.nxt.length
     ·have hsm:j∈List.range t.nxt.length:=List.mem_range.2 hlt;have hx:=HO.out.lt _ hsm;have hgf:=Lib.hid (fun k (hk:k<t.cells)=>HO.out.lt _ (HL.out.closed _ hsm k hk));clear hsm;obtain ⟨br,or',cr,hrc,hrr⟩:=HRo.out wo (Ext.refl wo) j hlt;have cr1:=hE4.cell hrc;have HRR:=Lib.hid (fun (W:World) (hW:Ext wo W) k (hk:k<t.cells)=>hW.cell (hrr k hk));have HXN:=Lib.hid (fun k (hk:k<t.cells)=>HV.out.tgt j hlt k hk);clear hrc hrr;obtain ⟨x,hxd⟩:∃ x,B.getD j 0=x:=⟨_,rfl⟩;rw [hxd] at hx;have HX:=Lib.hid (fun (W:World) (hW:Ext wo W)=>(hW.cell (HC3.out j hlt)).trans (by rw [hxd]));have HXD:=Lib.hid hxd;clear hxd;go_upto_region 14 with (fail)
      clear cr1;go_upto_region 15 with (at_make;refine wpList_make_own _ rfl _ _ 22 rfl (wo.heap.size+1+1) 5 i5 (.int .u8 0) 1 Tryz.underlying22 hi5 hy0 hy1 .i64 .i64 _ (2*t.cells+2) rfl rfl (by push_cast;rfl) (by rw [hy2];omega) (by unfold maxLen;omega) (by omega) ?_;intro w5 hown5 hgr5)
      have hE5:=hE4.grown hgr5 (fun k e=>by cases e);have hN5:=Bt hN4 hgr5;have hmp5:=hmp4.kept hgr5 (by simp);have hsz5:wo.heap.size+1<w5.heap.size:=Nat.lt_of_lt_of_le hsz4 hgr5.size;have hkeep:∀ W,Ext wo W→Ext wo W∧W.cell? ⟨g,j,none⟩=some (iv x):=fun W hW=>⟨hW,HX.out W hW⟩
      have cx:=HX.out w5 hE5;clear hgr5 hN4 hmp4;go_region_held_law (fun W=>Ext wo W∧W.cell? ⟨g,j,none⟩=some (iv x))
       (first|exact hkeep _ hE6|exact hkeep _ (hE5.drew.alloc _)|exact hkeep _ hE5.drew)
       ((refine step_append_lies _ rfl _ _ 22 rfl (wo.heap.size+1+1) 5 i5 (.int .u8 0) 1 1 Tryz.underlying22 hi5 hy0 hy1 hy2 rfl (by decide) _ _ _ rfl ((Ah hown5 (Ext.refl w5).drew).alloc _) _ 2 2 ((A4 x).map bv) rfl rfl (Jo _ _ _ _) (by simp [A4,Value.oneCell']) (by decide) (by unfold maxLen;omega) (by omega) (by simp;omega) _ rfl ?_
         intro g6 c6 w6 hK6 hgr6 hat6 hlt6;have hE6:Ext wo w6:=(hE5.drew.alloc _).grown hgr6 (fun k e=>by have:=(hown5.lt k e).1;omega)))
      have hN6:=((Ah hN5 (Ext.refl w5).drew).alloc _).kept hgr6 (Ai hN5 hown5 (by decide));have hmp6:=((hmp5.ext (Ext.refl w5).drew).alloc _).kept hgr6 (hmp5.ne_row hown5);have hsz6:wo.heap.size+1<w6.heap.size:=by
       have h1:(w5.drew.alloc (.cells _ 5)).heap.size≤w6.heap.size:=hgr6.size;rw [World.size_alloc] at h1;have h2:w5.heap.size≤w5.drew.heap.size:=(Ext.refl w5).drew.size;omega
      obtain ⟨gf,hgfd⟩:∃ gf:Nat→Nat,(fun k=>B.getD (t.ent2 j k) 0)=gf:=⟨_,rfl⟩;have HGF:=Lib.hid hgfd;have hK6:w6.ownsRow (wo.heap.size+1+1) 5 1 (.slice (some ⟨g6,0,none⟩) (2+2*0) c6) (2+2*0) ((A4 x++Az gf 0).map bv):=by
       rw [show A4 x++Az gf 0=A4 x by simp [Az]];exact hK6
      clear hgfd hN5 hmp5 hown5 hgr6 hat6 hlt6 cx hkeep hE5 hsz5;go_wp2_with (fail);go_loopw [16,74] (fun v i W=>∃ (k gk ck:Nat),k≤t.cells∧i=.int .i64 k∧v=.slice (some ⟨gk,0,none⟩) (2+2*k) ck∧Ext wo W∧wo.heap.size+1<W.heap.size∧
        W.ownsRow (wo.heap.size+1) 3 1 (.slice (some ⟨wo.heap.size+1,0,none⟩) t.nxt.length t.nxt.length) t.nxt.length (N.map iv)∧IsMq W 9 Cu wo.heap.size R.length f∧
        W.ownsRow (wo.heap.size+1+1) 5 1 v (2+2*k) ((A4 x++Az gf k).map bv))
       (fun _ i _=>t.cells-(intOf i).toNat)
      case atStart=>exact ⟨0,g6,c6,by omega,rfl,rfl,hE6,hsz6,hN6,hmp6,hK6⟩
      case round=>
       clear hE6 hsz6 hN6 hmp6 hK6;obtain ⟨k,gk,ck,hk,rfl,rfl,hE5,hsz5,hN5,hmp5,hown5⟩:=hrel;obtain ⟨w5,hw5⟩:∃ W,W=wr:=⟨_,rfl⟩;subst hw5;by_cases hkc:k<t.cells
       ·have hyn:=HXN.out k hkc;have hz:=hgf.out k hkc;have cy:=HRR.out w5 hE5 k hkc;obtain ⟨y,hyd⟩:∃ y,t.ent2 j k=y:=⟨_,rfl⟩;have HZD:Hid (gf k=B.getD y 0):=Lib.hid (by rw [← HGF.out,← hyd]);rw [hyd] at cy hyn hz;clear hyd;obtain ⟨z,hzd⟩:∃ z,B.getD y 0=z:=⟨_,rfl⟩;rw [hzd] at hz HZD;have HZ:=Lib.hid (fun (W:World) (hW:Ext wo W)=>(hW.cell (HC3.out y hyn)).trans (by rw [hzd]));clear hzd;have hkeep:∀ W,Ext wo W→Ext wo W∧W.cell? ⟨g,y,none⟩=some (iv z):=fun W hW=>⟨hW,HZ.out W hW⟩
        have cz:=HZ.out w5 hE5;go_upto_region 19 with (fail)
        clear cy;go_region_held_law (fun W=>Ext wo W∧W.cell? ⟨g,y,none⟩=some (iv z))
         (first|exact hkeep _ hE6|exact hkeep _ (hE5.drew.alloc _)|exact hkeep _ hE5.drew)
         ((refine step_append_lies _ rfl _ _ 22 rfl (wo.heap.size+1+1) 5 i5 (.int .u8 0) 1 1 Tryz.underlying22 hi5 hy0 hy1 hy2 rfl (by decide) _ _ _ rfl ((Ah hown5 (Ext.refl w5).drew).alloc _) _ 2 2 ((A4 z).map bv) rfl rfl (Jo _ _ _ _) (by simp [A4,Value.oneCell']) (by decide) (by unfold maxLen;omega) (by omega) (by simp;omega) _ rfl ?_
           intro g6 c6 w6 hK6 hgr6 hat6 hlt6;have hE6:Ext wo w6:=(hE5.drew.alloc _).grown hgr6 (fun k e=>by have:=(hown5.lt k e).1;omega)))
        have hN6:=((Ah hN5 (Ext.refl w5).drew).alloc _).kept hgr6 (Ai hN5 hown5 (by decide));have hmp6:=((hmp5.ext (Ext.refl w5).drew).alloc _).kept hgr6 (hmp5.ne_row hown5);have hsz6:wo.heap.size+1<w6.heap.size:=by
         have h1:(w5.drew.alloc (.cells _ 5)).heap.size≤w6.heap.size:=hgr6.size;rw [World.size_alloc] at h1;have h2:w5.heap.size≤w5.drew.heap.size:=(Ext.refl w5).drew.size;omega
        have hK6:w6.ownsRow (wo.heap.size+1+1) 5 1 (.slice (some ⟨g6,0,none⟩) (2+2*(k+1)) c6) (2+2*(k+1)) ((A4 x++Az gf (k+1)).map bv):=by
         rw [show A4 x++Az gf (k+1)=(A4 x++Az gf k)++A4 z by rw [Az,HZD.out,List.append_assoc],List.map_append];exact hK6
        clear hN5 hmp5 hown5 hgr6 hat6 hlt6 cz hkeep hE5 hsz5;go_wp2;go_roundw
        case rel=>exact ⟨k+1,g6,c6,by omega,by go_num,rfl,hE6,hsz6,hN6,hmp6,hK6⟩
        case measure=>simp [intOf];omega
       ·obtain rfl:k=t.cells:=by omega
        have hlenK:(A4 x++Az gf t.cells).length=2+2*t.cells:=by rw [List.length_append,Ib,On]
        have hkeyS:C2 t (fun s=>B.getD s 0) j=A4 x++Az gf t.cells:=by
         show A4 (B.getD j 0)++Az (fun k=>B.getD (t.ent2 j k) 0) t.cells=_;rw [HXD.out,HGF.out]
        obtain ⟨ky,hky⟩:∃ ky,A4 x++Az gf t.cells=ky:=⟨_,rfl⟩;rw [hky] at hlenK hkeyS hown5;have HKY:=Lib.hid hkeyS;clear hky hkeyS;have hcv:(convert 22 9 (.slice (some ⟨gk,0,none⟩) (2+2*t.cells) ck)).run Tryz.prog w5=.ok (Cu ky) w5:=Ke _ _ _ (By.of_owns (by rw [hlenK];exact hown5) (by rw [hlenK];omega));have hkey:=M7 ky (by rw [hlenK];unfold maxLen;omega);have HLK:=Lib.hid hlenK;clear hlenK;have cn:=Ap 0 hN5 HN.out.2.symm j (by rw [HN.out.2];exact hlt);have fn:=hN5.frozenAt j;cases hf:f ky with
        | some i=>
         have HN':=Agl HN.out.1 (by rw [HN.out.2];exact hlt) i (by rw [HKY.out];exact hf);have HN':=Lib.hid (And.intro HN' (show (N.set j i).length=t.nxt.length by rw [List.length_set];exact HN.out.2));obtain ⟨hN6,hgr6⟩:=A3 hN5 j i;have hE6:=hE5.grown hgr6 (fun k e=>by cases e;omega);have hmp6:=hmp5.kept hgr6 (by simp);have hsz6:=Nat.lt_of_lt_of_le hsz5 hgr6.size;clear hgr6 hN5 hE5 hsz5;go_wp2_with (at_lookup;refine D8 rfl _ _ 155 rfl Fc Tryz.underlying155 rfl hmp5.mp ky rfl hkey ?_;rw [hf];dsimp only [Option.isSome,Option.getD]);go_roundw
         case rel=>exact ⟨j+1,N.set j i,R,f,by omega,by go_num,hE6,hsz6,hN6,hmp6,HN'⟩
         case measure=>simp [intOf];omega
        | none=>
         have HN':=Agm HN.out.1 (by rw [HN.out.2];exact hlt) (by rw [HKY.out];exact hf);rw [HKY.out] at HN';have HN':=Lib.hid (And.intro HN' (show (N.set j R.length).length=t.nxt.length by rw [List.length_set];exact HN.out.2));clear cn fn;go_upto_region 23 with (at_lookup;refine D8 rfl _ _ 155 rfl Fc Tryz.underlying155 rfl hmp5.mp ky rfl hkey ?_;rw [hf];dsimp only [Option.isSome,Option.getD])
         go_upto_region 24 with (at_len;refine Mu rfl _ 155 rfl Tryz.underlying155 rfl hmp5 ?_)
         go_upto_region 25 with (at_mapUpdate;refine Xy rfl _ _ _ 155 rfl Fc Tryz.underlying155 rfl hmp5 (by unfold maxLen;omega) M8 ky hf rfl hkey R.length rfl (by omega) ?_;intro w6 hmp6 hgr6)
         clear hcv;have hN6:=hN5.kept hgr6 (hmp5.far hN5);have hE6:=hE5.grown hgr6 (fun k e=>by cases e;omega);have hsz6:=Nat.lt_of_lt_of_le hsz5 hgr6.size;clear hgr6 hN5 hE5 hsz5 hmp5 hown5;have cn:=Ap 0 hN6 HN.out.2.symm j (by rw [HN.out.2];exact hlt);have fn:=hN6.frozenAt j;obtain ⟨hN8,hgr8⟩:=A3 hN6 j R.length;have hE8:=hE6.grown hgr8 (fun k e=>by cases e;omega);have hmp8:=hmp6.kept hgr8 (by simp);have hsz8:=Nat.lt_of_lt_of_le hsz6 hgr8.size;clear hgr8 hN6 hE6 hsz6 hmp6;go_wp2;go_roundw
         case rel=>exact ⟨j+1,N.set j R.length,R++[j],_,by omega,by go_num,hE8,hsz8,hN8,by rw [List.length_append];exact hmp8,HN'⟩
         case measure=>simp [intOf];omega
     ·obtain rfl:j=t.nxt.length:=by omega
      by_cases he:R.length=n
      ·have heq:((R.length:Int)==(n:Int))=true:=by simp [he]
       have HB1:=Lib.hid (Agc HV.out HL.out HO.out HN.out.1 he);have HZ0:=Lib.hid (Agk HN.out.1 HV.out.pos);have hIN:Ints w4 (.slice (some ⟨wo.heap.size+1,0,none⟩) t.nxt.length t.nxt.length) N:=OwnI.ints (base:=wo.heap.size+1) (by
        show World.ownsRow _ _ _ _ _ _ _;rw [HN.out.2];exact hN4) (by rw [HN.out.2];omega)
       have HN2:=Lib.hid HN.out.2;have HE4:=Lib.hid (hE.trans hE4);have HIN:=Lib.hid hIN;have HBC:=Lib.hid (fun s (hs:s<t.nxt.length)=>Ap 0 hN4 HN.out.2.symm s (by rw [HN.out.2];exact hs));have hmp9:=hmp4;clear he HO HN hN4 hmp4 HC3 HRo HCo hIN;go_upto_region 30 with (at_len;refine Mu rfl _ 155 rfl Tryz.underlying155 rfl hmp9 ?_)
       clear hmp9 heq;have hblk:=HB1.out.blk;have hRn:R.length≤t.nxt.length:=by have:=Ma hblk;rwa [List.length_range] at this
       have f104:=Lib.hid (Aed N (by rw [HN2.out];exact hn0) (fun i hi=>by have h:N.getD i 0<R.length:=hblk.lt i (List.mem_range.2 (by rw [← HN2.out];exact hi));omega) (by rw [HN2.out];omega) _ w4 HIN.out);have HM:=Lib.hid (fun (m:Nat) (h1:∀ i,i<N.length→N.getD i 0≤m) (h2:∃ i,i<N.length∧N.getD i 0=m)=>Aec hblk HN2.out hn0 h1 h2);obtain ⟨r,hr⟩:∃ r,R.length=r:=⟨_,rfl⟩;rw [hr] at HM hRn;have HRr:=Lib.hid hr;have hN2:=HN2.out;clear hr hblk;go_upto_region 31 with (go_at_call 104;(with_reducible refine f104.out.mono ?_);rintro e w5 ⟨m,rfl,rfl,h1,h2⟩;have hmr0:=HM.out m h1 h2;clear h1 h2)
       have hmr:(m:Int)+1=(r:Int):=by omega
       simp only [hmr];clear hmr;obtain ⟨gB,hgB⟩:∃ x,wo.heap.size+1=x:=⟨_,rfl⟩;simp only [hgB] at *;have HB4:=Lib.hid (HE4.out.heap HB.out);clear f104 hmr0 HM;by_cases hbig:64<r
       ·have hBz:=Lib.hid Fl;go_wp2_with (first
         | (refine Ci rfl 30 _ rfl #[.slice none 0 0,.slice none 0 0,.slice none 0 0] ?_ ?_;(simp;with_reducible exact hBz.out))
         | (refine wpList_store_row rfl 30 (.tmp 6) (.tmp 125) rfl _ _ rfl rfl _ _ HB4.out Ad rfl Ex ?_))
        refine bodyPost_ret (v:=.tuple #[zD,.int .i64 2]) (A2 rfl _ _ _ _ _ _ _ rfl _ rfl (setRow_heap _ _ _ #[.slice none 0 0,.slice none 0 0,.slice none 0 0] 30 (0,0) HB4.out) Tryz.underlying30 rfl Ad) rfl ?_;exact ⟨none,rfl,Ai4 HV.out HL.out HB1.out (by rw [HRr.out];exact hbig),(hE0.trans HE4.out).setRow (by omega) _⟩
       ·obtain ⟨w4,hw4⟩:∃ W,W=w5:=⟨_,rfl⟩;subst hw4;obtain ⟨j0,hj0,hv0,hv1,hv2⟩:=info_parts Fd;obtain ⟨k0,hk0,hx0,hx1,hx2⟩:=info_parts Lk;go_upto_region 33 with (fail)
        refine J7 7 182 (by kernel_rfl) (by kernel_rfl) rfl (Ol w4.heap.size r (.slice (some ⟨bc,oc,none⟩) lc cc)) Hk K3 (Ady _ _ _) (fun i hi'=>?_) (fun vs w5 hE5 hF hN=>?_)
        ·have hd1:=(Ext.refl w4).drew
         match i,hi' with
         | 0,_=>
          refine Ar _ _ rfl rfl rfl fun c W hW hdep hkeep=>?_
          have h3:c.tmps.getD 0 undef=.slice (some ⟨bc,oc,none⟩) lc cc:=hkeep 0 (by kernel_rfl);go_simp;exact ⟨_,rfl,Ext.refl W,rfl,fun _ _ _ _ _=>trivial⟩
         | 1,_=>
          refine Ar _ _ rfl rfl rfl fun c W hW hdep hkeep=>?_
          have h3:c.tmps.getD 21 undef=iv r:=hkeep 21 (by kernel_rfl);go_simp;exact ⟨_,rfl,Ext.refl W,rfl,fun _ _ _ _ _=>trivial⟩
         | 2,_=>
          refine Ar _ _ rfl rfl rfl fun c W hW hdep hkeep=>?_
          have h3:c.tmps.getD 127 undef=iv r:=hdep 1 127 (by kernel_rfl);refine G0 W _ _ 27 rfl w4.heap.size 68 k0 (.slice none 0 0) 1 Tryz.underlying27 hk0 hx0 hx1 .i64 .i64 _ _ r h3 h3 rfl rfl (by rw [hx2];omega) (by unfold maxLen;omega) (hd1.trans hW).size ?_;intro W' hown hgr;refine ⟨_,rfl,(Ext.refl W).grown hgr (fun k e=>by cases e),⟨_,rfl,?_⟩,fun _ _ _ _ _=>trivial⟩;have:(madeCells (Value.slice none 0 0).cells (r*1)).toList=List.replicate r (.slice none 0 0):=by
           rw [Nat.mul_one];exact toList_madeCells_one _ _
          rw [← this];exact hown
         | 3,_=>
          refine Ar _ _ rfl rfl rfl fun c W hW hdep hkeep=>?_
          have h3:c.tmps.getD 21 undef=iv r:=hkeep 21 (by kernel_rfl);go_simp;exact ⟨_,rfl,Ext.refl W,rfl,fun _ _ _ _ _=>trivial⟩
         | 4,_=>
          refine Ar _ _ rfl rfl rfl fun c W hW hdep hkeep=>?_
          have h3:c.tmps.getD 129 undef=iv r:=hdep 3 129 (by kernel_rfl);refine G0 W _ _ 28 rfl w4.heap.size 4 j0 (.bool false) 1 Tryz.underlying28 hj0 hv0 hv1 .i64 .i64 _ _ r h3 h3 rfl rfl (by rw [hv2];omega) (by unfold maxLen;omega) (hd1.trans hW).size ?_;intro W' hown hgr;refine ⟨_,rfl,(Ext.refl W).grown hgr (fun k e=>by cases e),⟨_,rfl,?_⟩,fun _ _ _ _ _=>trivial⟩;rw [← Ca];exact hown
         | 5,_=>
          refine Ar _ _ rfl rfl rfl fun c W hW hdep hkeep=>?_
          have h3:c.tmps.getD 126 undef=.slice (some ⟨bc,oc,none⟩) lc cc:=hdep 0 126 (by kernel_rfl);obtain ⟨g5,h27,h5⟩:∃ g,c.tmps.getD 128 undef=.slice (some ⟨g,0,none⟩) r r∧W.ownsRow w4.heap.size 68 1 (c.tmps.getD 128 undef) r (List.replicate r (.slice none 0 0)):=hdep 2 128 (by kernel_rfl);obtain ⟨g9,h31,h9⟩:∃ g,c.tmps.getD 130 undef=.slice (some ⟨g,0,none⟩) r r∧W.ownsRow w4.heap.size 4 1 (c.tmps.getD 130 undef) r ((List.replicate r false).map Value.bool):=hdep 4 130 (by kernel_rfl);rw [h27] at h5;rw [h31] at h9;refine Cy (Jg 30 _ rfl (A:=dA (.slice (some ⟨bc,oc,none⟩) lc cc) (.slice (some ⟨g5,0,none⟩) r r) (.slice (some ⟨g9,0,none⟩) r r)) ?_ W) ?_
          ·have e:(Array.map (fun (i,x)=>(i,c.eval x)) #[(0,Operand.tmp 126),(1,Operand.tmp 128),(2,Operand.tmp 130)]).toList=[(0,c.eval (.tmp 126)),(1,c.eval (.tmp 128)),(2,c.eval (.tmp 130))]:=by simp
           rw [e,show c.eval (.tmp 126)=_ from h3,show c.eval (.tmp 128)=_ from h27,show c.eval (.tmp 130)=_ from h31];exact P7 _ _ _ _ _ _ _ _ _
          ·exact ⟨_,rfl,Ext.refl W,⟨g5,g9,rfl,h5,h9⟩,fun _ _ _ _ _=>trivial⟩
         | 6,_=>
          refine Ar _ _ rfl rfl rfl fun c W hW hdep hkeep=>?_
          go_simp;exact ⟨_,rfl,(Ext.refl W).alloc _,⟨_,rfl,Ab W _,(hd1.trans hW).size⟩,fun _ _ _ _ _=>trivial⟩
        ·have hF0:vs 0=.slice (some ⟨bc,oc,none⟩) lc cc:=hF 0 (by omega);have hF1:vs 1=iv r:=hF 1 (by omega);obtain ⟨g5',hF2,-⟩:∃ g,vs 2=.slice (some ⟨g,0,none⟩) r r∧_:=hF 2 (by omega);have hF3:vs 3=iv r:=hF 3 (by omega);obtain ⟨g9',hF4,-⟩:∃ g,vs 4=.slice (some ⟨g,0,none⟩) r r∧_:=hF 4 (by omega);obtain ⟨g5,g9,hF5,hO5,hO9⟩:∃ g5 g9,vs 5=.agg (dA (.slice (some ⟨bc,oc,none⟩) lc cc) (.slice (some ⟨g5,0,none⟩) r r) (.slice (some ⟨g9,0,none⟩) r r))∧_∧_:=hF 5 (by omega);obtain ⟨g8,hF6,H8,hl8⟩:∃ g,vs 6=.pointer (some ⟨g,0,none⟩)∧_∧_:=hF 6 (by omega);simp only [Ba,List.drop_succ_cons,List.drop_zero,hF0,hF1,hF2,hF3,hF4,hF5,hF6,List.getElem?_toArray,List.getElem?_cons_zero,List.getElem?_cons_succ,Option.bind_some,Act.put,List.setIfInBounds_toArray,List.set_cons_zero,List.set_cons_succ];clear hF hN hF0 hF1 hF2 hF3 hF4 hF5 hF6;go_upto_region 34 with (refine wpList_store_row rfl 30 (.tmp 22) (.tmp 131) rfl _ _ rfl rfl _ _ H8 Ad rfl (An _ _ _ rfl rfl rfl) ?_)
         have hE6:=((Ext.refl w4).drew.trans hE5).setRow hl8 (dA (.slice (some ⟨bc,oc,none⟩) lc cc) (.slice (some ⟨g5,0,none⟩) r r) (.slice (some ⟨g9,0,none⟩) r r));have H8':=setRow_heap w5 g8 _ (dA (.slice (some ⟨bc,oc,none⟩) lc cc) (.slice (some ⟨g5,0,none⟩) r r) (.slice (some ⟨g9,0,none⟩) r r)) _ _ H8;have hO5':=hO5.kept (B3 w5 g8 (dA (.slice (some ⟨bc,oc,none⟩) lc cc) (.slice (some ⟨g5,0,none⟩) r r) (.slice (some ⟨g9,0,none⟩) r r))) (Ev hO5 H8 (by decide));have hO9':=hO9.kept (B3 w5 g8 (dA (.slice (some ⟨bc,oc,none⟩) lc cc) (.slice (some ⟨g5,0,none⟩) r r) (.slice (some ⟨g9,0,none⟩) r r))) (Ev hO9 H8 (by decide));obtain ⟨w6,hw6⟩:∃ W,w5.setRow g8 (dA (.slice (some ⟨bc,oc,none⟩) lc cc) (.slice (some ⟨g5,0,none⟩) r r) (.slice (some ⟨g9,0,none⟩) r r))=W:=⟨_,rfl⟩;rw [hw6] at hE6 H8' hO5' hO9';simp only [hw6];clear hw6 H8 hO5 hO9 hE5;have hgs:w4.heap.size≤w6.heap.size:=hE6.size;have H8:=Lib.hid H8';clear H8';have hblt:=Lib.hid (fun s (hs:s<t.nxt.length)=>(show N.getD s 0<r from by rw [← HRr.out];exact HB1.out.blk.lt s (List.mem_range.2 hs)));go_upto_region 35 with (fail)
         go_loopw [134] (fun i W=>∃ (s:Nat) (NX:List Value) (AC:List Bool),s≤t.nxt.length∧i=.int .i64 s∧Ext w4 W∧w4.heap.size≤W.heap.size∧Hid (NX.length=r∧AC.length=r)∧
           W.ownsRow w4.heap.size 68 1 (.slice (some ⟨g5,0,none⟩) r r) r NX∧W.ownsRow w4.heap.size 4 1 (.slice (some ⟨g9,0,none⟩) r r) r (AC.map Value.bool)∧
           Hid (W.heap[g8]? = some (.cells (dA (.slice (some ⟨bc,oc,none⟩) lc cc) (.slice (some ⟨g5,0,none⟩) r r) (.slice (some ⟨g9,0,none⟩) r r)) 30 (0,0)))∧
           Hid (∀ q,q<s→OwnI W w4.heap.size (NX.getD (N.getD q 0) undef) ((List.range t.cells).map fun k=>N.getD (t.ent2 q k) 0))∧
           Hid (∀ q,q<s→AC.getD (N.getD q 0) false=t.ok q))
          (fun i _=>t.nxt.length-(intOf i).toNat)
         case atStart=>exact ⟨0,_,_,by omega,rfl,hE6,hgs,Lib.hid ⟨by simp,by simp⟩,hO5',hO9',H8,Lib.hid (fun j h=>by omega),Lib.hid (fun j h=>by omega)⟩
         case round=>
          clear hE6 hgs hO5' hO9' H8;obtain ⟨s,NX,AC,hs,rfl,hE,hgs,HL2,hO5,hO9,H8,HQ,HQA⟩:=hrel;by_cases hlt:s<t.nxt.length
          ·obtain ⟨br,or',cr,hrc,hrr⟩:=HR.out s hlt;have hE4w:=(hE0.trans HE4.out).trans hE;have cr1:=hE4w.cell hrc;have HRR:=Lib.hid hrr;clear hrc hrr hE4w;go_upto_region 37 with (fail)
           clear cr1;go_upto_region 38 with (at_make;refine wpList_make_full _ rfl _ _ 68 rfl wr.heap.size 3 i0 (.int .i64 0) 1 Tryz.underlying68 hi hz0 hz1 .i64 .i64 _ _ t.cells rfl rfl rfl rfl (by rw [hz2];omega) (by unfold maxLen;omega) (Nat.le_refl _) ?_;intro w7 hown7 hgrow7)
           have hE7:=hE.grown hgrow7 (fun k e=>by cases e);have hO5:=Bt hO5 hgrow7;have hO9:=Bt hO9 hgrow7;have H8:=Lib.hid ((hgrow7.block g8 (Ak H8.out) (by simp)).trans H8.out);have HQ:=Lib.hid (fun q h1=>And.intro (Bt (HQ.out q h1) hgrow7) (fun e=>(show ∀ k,(NX.getD (N.getD q 0) undef).ownBlock=some k→k<wr.heap.size from fun k e=>((HQ.out q h1).lt k e).2) wr.heap.size e));have hX7:w7.ownsRow wr.heap.size 3 1 (.slice (some ⟨wr.heap.size,0,none⟩) t.cells t.cells) t.cells ((Bo (fun k=>N.getD (t.ent2 s k) 0) t.cells 0).map iv):=by rw [Jf,← Ca];exact hown7
           have hgs7:=Nat.le_trans hgs hgrow7.size;have hlt7:wr.heap.size<w7.heap.size:=(hX7.lt _ rfl).2;clear hown7 hgrow7;generalize hgn:wr.heap.size=gn at *;clear hgn;go_upto_region 39 with (fail)
           go_loopw [144] (fun i W=>∃ k:Nat,k≤t.cells∧i=.int .i64 k∧w7.grownBy W (some gn)∧W.ownsRow gn 3 1 (.slice (some ⟨gn,0,none⟩) t.cells t.cells) t.cells ((Bo (fun k=>N.getD (t.ent2 s k) 0) t.cells k).map iv))
            (fun i _=>t.cells-(intOf i).toNat)
           case atStart=>exact ⟨0,by omega,rfl,World.grownBy.refl _ _,hX7⟩
           case round=>
            obtain ⟨k,hkm,rfl,hg,hX⟩:=hrel;have hEk:=hE7.grown hg (fun k e=>by cases e;exact hgs);by_cases hkl:k<t.cells
            ·have cq:=((hE0.trans HE4.out).trans hEk).cell (HRR.out k hkl);have hyn:=HV.out.tgt s hlt k hkl;have cB:=hEk.cell (HBC.out (t.ent2 s k) hyn);have co:=Ap 0 hX (C4 _ _ _).symm k (by rw [C4];exact hkl);have fo:=hX.frozenAt k;obtain ⟨hXn,hgr⟩:=A3 hX k (N.getD (t.ent2 s k) 0);rw [Gr (fun k=>N.getD (t.ent2 s k) 0) _ _ hkl] at hXn;have hgn:=hg.trans hgr;clear hgr hEk hg hX;generalize t.ent2 s k=y at *;generalize N.getD y 0=z at *;go_wp2_with (fail);go_roundw
             case rel=>exact ⟨k+1,by omega,by go_num,hgn,hXn⟩
             case measure=>simp [intOf];omega
            ·obtain rfl:k=t.cells:=by omega
             rw [Lo] at hX;have hxr:=hblt.out s hlt;have hO5k:=hO5.kept hg (Ai hO5 hX7 (by decide));have hO9k:=hO9.kept hg (Ai hO9 hX7 (by decide));have hEk:=hE7.grown hg (fun k e=>by cases e;exact hgs);have hg8n:g8≠gn:=fun e=>by
              have h1:=H8.out;obtain ⟨C,hC,-⟩:=Fv hX7;rw [e,hC] at h1;injection h1 with h1
              injection h1 with _ h2 _
              exact absurd h2 (by decide)
             have H8k:=(hg.block g8 (Ak H8.out) (by simp [hg8n])).trans H8.out;have HQk:=Lib.hid (fun q h1=>(HQ.out q h1).1.kept hg (.inr fun e=>absurd ((HQ.out q h1).2 e) (Nat.lt_irrefl _)));clear HQ hO5 hO9 H8 hX7 hE7;obtain ⟨x,hx⟩:∃ x,N.getD s 0=x:=⟨_,rfl⟩;rw [hx] at hxr;have HX:=Lib.hid hx;clear hx;have hdr:=(Ext.refl wr).drew;go_upto_region 43 with (fail)
             obtain ⟨wd,hwd⟩:∃ W,wr.drew=W:=⟨_,rfl⟩;rw [hwd] at hdr;have hO5d:=Ah hO5k hdr;have hO9d:=Ah hO9k hdr;have hXd:=Ah hX hdr;have hEd:=hEk.trans hdr;have H8d:=hdr.heap H8k;have HQd:=Lib.hid (fun q h1=>Ah (HQk.out q h1) hdr);clear hO5k hO9k hX hEk H8k HQk;obtain ⟨C5,hC5,hC5n⟩:=Fv hO5d;obtain ⟨C9,hC9,hC9n⟩:=Fv hO9d;have h59:g5≠g9:=fun e=>by
              rw [e,hC9] at hC5;injection hC5 with h1
              injection h1 with _ h2 _
              exact absurd h2 (by decide)
             have h58:g8≠g5:=fun e=>by
              rw [← e,H8d] at hC5;injection hC5 with h1
              injection h1 with _ h2 _
              exact absurd h2 (by decide)
             have h98:g8≠g9:=fun e=>by
              rw [← e,H8d] at hC9;injection hC9 with h1
              injection h1 with _ h2 _
              exact absurd h2 (by decide)
             have hlo5:w4.heap.size≤g5:=(hO5d.lt g5 rfl).1;have hlo9:w4.heap.size≤g9:=(hO9d.lt g9 rfl).1;obtain ⟨p1,p2,p3,p4,p5,p6⟩:=Kj wd g5 x (.slice (some ⟨gn,0,none⟩) t.cells t.cells) hC5;have hC9':=(p6 g9 (Ne.symm h59)).trans hC9;obtain ⟨q1,q2,q3,q4,q5,q6⟩:=Kj (wd.setCell ⟨g5,x,none⟩ (.slice (some ⟨gn,0,none⟩) t.cells t.cells)) g9 x (.bool (t.ok s)) hC9';have hO5n:=(hO5d.stored x (.slice (some ⟨gn,0,none⟩) t.cells t.cells)).1;have hgr5:=(hO5d.stored x (.slice (some ⟨gn,0,none⟩) t.cells t.cells)).2;have hO9m:=hO9d.kept hgr5 (Ai hO9d hO5d (by decide));obtain ⟨hO9n,hgr9⟩:=A3 hO9m x (t.ok s);have hO5n:=hO5n.kept hgr9 (Ai hO5n hO9m (by decide));have hXn:=(hXd.kept hgr5 (Ai hXd hO5d (by decide))).kept hgr9 (Ai (hXd.kept hgr5 (Ai hXd hO5d (by decide))) hO9m (by decide));have HQn:=Lib.hid (fun q h1=>((HQd.out q h1).kept hgr5 (Ai (HQd.out q h1) hO5d (by decide))).kept hgr9 (Ai ((HQd.out q h1).kept hgr5 (Ai (HQd.out q h1) hO5d (by decide))) hO9m (by decide)));have hEn:=(hEd.grown hgr5 (fun k e=>by cases e;exact hlo5)).grown hgr9 (fun k e=>by cases e;exact hlo9);obtain ⟨wF,hwF⟩:∃ W,(wd.setCell ⟨g5,x,none⟩ (.slice (some ⟨gn,0,none⟩) t.cells t.cells)).setCell ⟨g9,x,none⟩ (.bool (t.ok s))=W:=⟨_,rfl⟩;rw [hwF] at q1 q2 q3 q4 q5 q6 hO5n hO9n hXn HQn hEn;have hF5:wF.heap[g5]? = some (.cells (C5.setIfInBounds x (.slice (some ⟨gn,0,none⟩) t.cells t.cells)) 68 (0,0)):=(q6 g5 h59).trans p5;have hkF:∀ k,k≠g5→k≠g9→wF.heap[k]? = wd.heap[k]? := fun k h1 h2=>(q6 k h2).trans (p6 k h1)
             have HKF:=Lib.hid hkF;have hl5:=Ak hC5;have hl9:=Ak hC9;have hl8:=Ak H8d;have hBs:=HBC.out s hlt;have hglo:gB<w4.heap.size:=F2 hBs;have HP:=Lib.hid (fun (W:World) (hW:Prg wd wF wd W)=>show W.cell? ⟨g8,1,none⟩=some (.slice (some ⟨g5,0,none⟩) r r)∧W.cell? ⟨g8,2,none⟩=some (.slice (some ⟨g9,0,none⟩) r r)∧W.cell? ⟨gB,s,none⟩=some (iv x)∧W.cell? ⟨ba,oa+s,none⟩=some (.bool (t.ok s)) from
              ⟨hW.cell ((cell_of_row wd g8 1 _ _ _ H8d).trans rfl) hl8 (HKF.out _ h58 h98),hW.cell ((cell_of_row wd g8 2 _ _ _ H8d).trans rfl) hl8 (HKF.out _ h58 h98),
               by
                have hh:=hEd.cell hBs;rw [HX.out] at hh;exact hW.cell hh (by have:=hEd.size;show gB<_;omega) (HKF.out _ (by show gB≠g5;omega) (by show gB≠g9;omega)),
               by
                have hca:=(hE0.trans HE4.out).cell (HAcc.out s hlt);have hbl:ba<w4.heap.size:=F2 hca;exact hW.cell (hEd.cell hca) (by have:=hEd.size;show ba<_;omega) (HKF.out _ (by show ba≠g5;omega) (by show ba≠g9;omega))⟩)
             have HFin:=Lib.hid (fun (W:World) (hW:Prg wd wF wd W) (h1:W.heap[g5]? = wF.heap[g5]?) (h2:W.heap[g9]? = wF.heap[g9]?)=>show Ext wF W from
              hW.done (by rw [q1,p1]) (by rw [q2,p2]) (by rw [q3,p3]) (by rw [q4,p4]) (fun k _=>by
               by_cases e1:k=g5
               ·subst e1;exact .inr h1
               ·by_cases e2:k=g9
                ·subst e2;exact .inr h2
                ·exact .inl (HKF.out k e1 e2)))
             have HS5:=Lib.hid (fun (W:World) (hW:Prg wd wF wd W)=>hW.store hC5 hF5 (by omega));have HS9:=Lib.hid (fun (W:World) (hW:Prg wd wF wd W)=>hW.store hC9 q5 (by omega));have HO5n:=Lib.hid hO5n;have HO9n:=Lib.hid hO9n;have HXn:=Lib.hid hXn;have HEn:=Lib.hid hEn;rw [← hwd] at HP HFin HS5 HS9 hl5 hl9;have HG8F:=Lib.hid ((HKF.out g8 h58 h98).trans H8d);clear hC5 hC9 hC9' hF5 p1 p2 p3 p4 p5 p6 q1 q2 q3 q4 q5 q6 hkF hO5n hO9n hXn hEn hO5d hO9d hXd hEd H8d HQd hgr5 hgr9 hO9m hwF hwd hdr hC5n hC9n h59 h58 h98 hlo5 hlo9 hl8 hglo hBs hg hg8n;refine Mt 21 182 rfl (by kernel_rfl) (by kernel_rfl) rfl (Prg wr.drew wF) (Prg.refl _ _) (Prg.trans _ _) (Ok wF r t.nxt.length g5 g8 g9 gB ba oa ca s x (.slice (some ⟨gn,0,none⟩) t.cells t.cells) (t.ok s)) Hk K3 (Adx _ _ _ _ _ _ _ _ _ _ _ _ _ _ hl5 hl9) (fun i hi'=>?_) (fun vs w8 hR8 hF hN=>?_)
             ·rcases Aei i hi' with rfl|rfl|rfl|rfl|rfl|rfl|rfl|rfl|rfl|rfl|rfl|rfl|rfl|rfl|rfl|rfl|rfl|rfl|rfl|rfl|rfl
              ·refine Ay _ _ rfl rfl rfl fun c W hW hdep hdw hkeep=>?_
               have h3:c.tmps.getD 22 undef=.pointer (some ⟨g8,0,none⟩):=hkeep 22 (by kernel_rfl);go_simp;exact ⟨_,rfl,Prg.refl _ _ _,rfl,fun _ _ _ _=>trivial⟩
              ·refine Ay _ _ rfl rfl rfl fun c W hW hdep hdw hkeep=>?_
               have h3:c.tmps.getD 158 undef=.pointer (some ⟨g8,1,none⟩):=hdep 0 158 (by kernel_rfl);have c0:=(HP.out W hW).1;go_simp;exact ⟨_,rfl,Prg.refl _ _ _,rfl,fun _ _ _ _=>trivial⟩
              ·refine Ay _ _ rfl rfl rfl fun c W hW hdep hdw hkeep=>?_
               have h3:c.tmps.getD 8 undef=.slice (some ⟨gB,0,none⟩) t.nxt.length t.nxt.length:=hkeep 8 (by kernel_rfl);go_simp;exact ⟨_,rfl,Prg.refl _ _ _,rfl,fun _ _ _ _=>trivial⟩
              ·refine Ay _ _ rfl rfl rfl fun c W hW hdep hdw hkeep=>?_
               have h3:c.tmps.getD 23 undef=iv s:=hkeep 23 (by kernel_rfl);go_simp;exact ⟨_,rfl,Prg.refl _ _ _,rfl,fun _ _ _ _=>trivial⟩
              ·refine Ay _ _ rfl rfl rfl fun c W hW hdep hdw hkeep=>?_
               have h3:c.tmps.getD 160 undef=.slice (some ⟨gB,0,none⟩) t.nxt.length t.nxt.length:=hdep 2 160 (by kernel_rfl);have h4:c.tmps.getD 161 undef=iv s:=hdep 3 161 (by kernel_rfl);go_simp;exact ⟨_,rfl,Prg.refl _ _ _,rfl,fun _ _ _ _=>trivial⟩
              ·refine Ay _ _ rfl rfl rfl fun c W hW hdep hdw hkeep=>?_
               have h3:c.tmps.getD 162 undef=.pointer (some ⟨gB,s,none⟩):=hdep 4 162 (by kernel_rfl);have c0:=(HP.out W hW).2.2.1;go_simp;exact ⟨_,rfl,Prg.refl _ _ _,rfl,fun _ _ _ _=>trivial⟩
              ·refine Ay _ _ rfl rfl rfl fun c W hW hdep hdw hkeep=>?_
               have h3:c.tmps.getD 22 undef=.pointer (some ⟨g8,0,none⟩):=hkeep 22 (by kernel_rfl);go_simp;exact ⟨_,rfl,Prg.refl _ _ _,rfl,fun _ _ _ _=>trivial⟩
              ·refine Ay _ _ rfl rfl rfl fun c W hW hdep hdw hkeep=>?_
               have h3:c.tmps.getD 164 undef=.pointer (some ⟨g8,2,none⟩):=hdep 6 164 (by kernel_rfl);have c0:=(HP.out W hW).2.1;go_simp;exact ⟨_,rfl,Prg.refl _ _ _,rfl,fun _ _ _ _=>trivial⟩
              ·refine Ay _ _ rfl rfl rfl fun c W hW hdep hdw hkeep=>?_
               have h3:c.tmps.getD 8 undef=.slice (some ⟨gB,0,none⟩) t.nxt.length t.nxt.length:=hkeep 8 (by kernel_rfl);go_simp;exact ⟨_,rfl,Prg.refl _ _ _,rfl,fun _ _ _ _=>trivial⟩
              ·refine Ay _ _ rfl rfl rfl fun c W hW hdep hdw hkeep=>?_
               have h3:c.tmps.getD 23 undef=iv s:=hkeep 23 (by kernel_rfl);go_simp;exact ⟨_,rfl,Prg.refl _ _ _,rfl,fun _ _ _ _=>trivial⟩
              ·refine Ay _ _ rfl rfl rfl fun c W hW hdep hdw hkeep=>?_
               have h3:c.tmps.getD 166 undef=.slice (some ⟨gB,0,none⟩) t.nxt.length t.nxt.length:=hdep 8 166 (by kernel_rfl);have h4:c.tmps.getD 167 undef=iv s:=hdep 9 167 (by kernel_rfl);go_simp;exact ⟨_,rfl,Prg.refl _ _ _,rfl,fun _ _ _ _=>trivial⟩
              ·refine Ay _ _ rfl rfl rfl fun c W hW hdep hdw hkeep=>?_
               have h3:c.tmps.getD 168 undef=.pointer (some ⟨gB,s,none⟩):=hdep 10 168 (by kernel_rfl);have c0:=(HP.out W hW).2.2.1;go_simp;exact ⟨_,rfl,Prg.refl _ _ _,rfl,fun _ _ _ _=>trivial⟩
              ·refine Ay _ _ rfl rfl rfl fun c W hW hdep hdw hkeep=>?_
               have h3:c.tmps.getD 25 undef=(.slice (some ⟨gn,0,none⟩) t.cells t.cells):=hkeep 25 (by kernel_rfl);go_simp;exact ⟨_,rfl,Prg.refl _ _ _,rfl,fun _ _ _ _=>trivial⟩
              ·refine Ay _ _ rfl rfl rfl fun c W hW hdep hdw hkeep=>?_
               have h3:c.tmps.getD 2 undef=.slice (some ⟨ba,oa,none⟩) t.nxt.length ca:=hkeep 2 (by kernel_rfl);go_simp;exact ⟨_,rfl,Prg.refl _ _ _,rfl,fun _ _ _ _=>trivial⟩
              ·refine Ay _ _ rfl rfl rfl fun c W hW hdep hdw hkeep=>?_
               have h3:c.tmps.getD 23 undef=iv s:=hkeep 23 (by kernel_rfl);go_simp;exact ⟨_,rfl,Prg.refl _ _ _,rfl,fun _ _ _ _=>trivial⟩
              ·refine Ay _ _ rfl rfl rfl fun c W hW hdep hdw hkeep=>?_
               have h3:c.tmps.getD 171 undef=.slice (some ⟨ba,oa,none⟩) t.nxt.length ca:=hdep 13 171 (by kernel_rfl);have h4:c.tmps.getD 172 undef=iv s:=hdep 14 172 (by kernel_rfl);go_simp;exact ⟨_,rfl,Prg.refl _ _ _,rfl,fun _ _ _ _=>trivial⟩
              ·refine Ay _ _ rfl rfl rfl fun c W hW hdep hdw hkeep=>?_
               have h3:c.tmps.getD 173 undef=.pointer (some ⟨ba,oa+s,none⟩):=hdep 15 173 (by kernel_rfl);have c0:=(HP.out W hW).2.2.2;go_simp;exact ⟨_,rfl,Prg.refl _ _ _,rfl,fun _ _ _ _=>trivial⟩
              ·refine Ay _ _ rfl rfl rfl fun c W hW hdep hdw hkeep=>?_
               have h3:c.tmps.getD 159 undef=.slice (some ⟨g5,0,none⟩) r r:=hdep 1 159 (by kernel_rfl);have h4:c.tmps.getD 163 undef=iv x:=hdep 5 163 (by kernel_rfl);go_simp;exact ⟨_,rfl,Prg.refl _ _ _,rfl,fun _ _ _ _=>trivial⟩
              ·refine Kz _ rfl rfl rfl fun c W hW hdep hdw hkeep=>?_
               have h74:c.tmps.getD 175 undef=.pointer (some ⟨g5,x,none⟩):=hdep 17 175 (by kernel_rfl);have h68:c.tmps.getD 170 undef=(.slice (some ⟨gn,0,none⟩) t.cells t.cells):=hdep 12 170 (by kernel_rfl);obtain ⟨⟨old,hco⟩,hfo,hpr,hhe⟩:=HS5.out W hW;go_simp;exact ⟨hhe,fun _ _ _ _=>trivial⟩
              ·refine Ay _ _ rfl rfl rfl fun c W hW hdep hdw hkeep=>?_
               have h3:c.tmps.getD 165 undef=.slice (some ⟨g9,0,none⟩) r r:=hdep 7 165 (by kernel_rfl);have h4:c.tmps.getD 169 undef=iv x:=hdep 11 169 (by kernel_rfl);go_simp;exact ⟨_,rfl,Prg.refl _ _ _,rfl,fun _ _ _ _=>trivial⟩
              ·refine Kz _ rfl rfl rfl fun c W hW hdep hdw hkeep=>?_
               have h74:c.tmps.getD 176 undef=.pointer (some ⟨g9,x,none⟩):=hdep 19 176 (by kernel_rfl);have h68:c.tmps.getD 174 undef=.bool (t.ok s):=hdep 16 174 (by kernel_rfl);obtain ⟨⟨old,hco⟩,hfo,hpr,hhe⟩:=HS9.out W hW;go_simp;exact ⟨hhe,fun _ _ _ _=>trivial⟩
             ·have hEF:=HFin.out w8 hR8 (hF 18 (by omega)) (hF 20 (by omega));have v0:vs 0=.pointer (some ⟨g8,1,none⟩):=hF 0 (by omega);have v1:vs 1=.slice (some ⟨g5,0,none⟩) r r:=hF 1 (by omega);have v2:vs 2=.slice (some ⟨gB,0,none⟩) t.nxt.length t.nxt.length:=hF 2 (by omega);have v3:vs 3=iv s:=hF 3 (by omega);have v4:vs 4=.pointer (some ⟨gB,s,none⟩):=hF 4 (by omega);have v5:vs 5=iv x:=hF 5 (by omega);have v6:vs 6=.pointer (some ⟨g8,2,none⟩):=hF 6 (by omega);have v7:vs 7=.slice (some ⟨g9,0,none⟩) r r:=hF 7 (by omega);have v8:vs 8=.slice (some ⟨gB,0,none⟩) t.nxt.length t.nxt.length:=hF 8 (by omega);have v9:vs 9=iv s:=hF 9 (by omega);have v10:vs 10=.pointer (some ⟨gB,s,none⟩):=hF 10 (by omega);have v11:vs 11=iv x:=hF 11 (by omega);have v12:vs 12=(.slice (some ⟨gn,0,none⟩) t.cells t.cells):=hF 12 (by omega);have v13:vs 13=.slice (some ⟨ba,oa,none⟩) t.nxt.length ca:=hF 13 (by omega);have v14:vs 14=iv s:=hF 14 (by omega);have v15:vs 15=.pointer (some ⟨ba,oa+s,none⟩):=hF 15 (by omega);have v16:vs 16=.bool (t.ok s):=hF 16 (by omega);have v17:vs 17=.pointer (some ⟨g5,x,none⟩):=hF 17 (by omega);have v19:vs 19=.pointer (some ⟨g9,x,none⟩):=hF 19 (by omega);simp only [Ba,v0,v1,v2,v3,v4,v5,v6,v7,v8,v9,v10,v11,v12,v13,v14,v15,v16,v17,v19,List.getElem?_toArray,List.getElem?_cons_zero,List.getElem?_cons_succ,Option.bind_some,Act.put,List.setIfInBounds_toArray,List.set_cons_zero,List.set_cons_succ];clear v0 v1 v2 v3 v4 v5 v6 v7 v8 v9 v10 v11 v12 v13 v14 v15 v16 v17 v19 hF hN hR8;have hEn:=HEn.out.trans hEF;have hO5n:=Ah HO5n.out hEF;have hO9n:=Ah HO9n.out hEF;have hXn:=Ah HXn.out hEF;have HQ8:=Lib.hid (fun q h1=>Ah (HQn.out q h1) hEF);have H8F:Hid (w8.heap[g8]? = some (.cells (dA (.slice (some ⟨bc,oc,none⟩) lc cc) (.slice (some ⟨g5,0,none⟩) r r) (.slice (some ⟨g9,0,none⟩) r r)) 30 (0,0))):=Lib.hid (hEF.heap HG8F.out);clear hEF HEn HO5n HO9n HXn HQn HFin HS5 HS9 HP HKF HG8F hl5 hl9;go_wp2;go_roundw
              case rel=>
               refine ⟨s+1,_,_,by omega,by go_num,hEn,hEn.size,Lib.hid ⟨by rw [List.length_set];exact HL2.out.1,by rw [List.length_set];exact HL2.out.2⟩,hO5n,hO9n,H8F,Lib.hid (fun q hq=>?_),Lib.hid (fun q hq=>?_)⟩
               ·have hqn:q<t.nxt.length:=by omega
                by_cases e:N.getD q 0=x
                ·rw [e,A5 _ _ _ _ _ (by rw [HL2.out.1];exact hxr),if_pos rfl];have:=Oc hXn (show w4.heap.size≤gn by omega);unfold OwnI;rw [(Qb HV.out HB1.out hqn hlt (by rw [e,HX.out])).1,List.length_map,List.length_range];exact this
                ·rw [A5 _ _ _ _ _ (by rw [HL2.out.1];exact hxr),if_neg e];refine HQ8.out q ?_;have:q≠s:=fun h=>e (by rw [h,HX.out])
                 omega
               ·have hqn:q<t.nxt.length:=by omega
                by_cases e:N.getD q 0=x
                ·rw [e,A5 _ _ _ _ _ (by rw [HL2.out.2];exact hxr),if_pos rfl];exact (Qb HV.out HB1.out hqn hlt (by rw [e,HX.out])).2.symm
                ·rw [A5 _ _ _ _ _ (by rw [HL2.out.2];exact hxr),if_neg e];refine HQA.out q ?_;have:q≠s:=fun h=>e (by rw [h,HX.out])
                 omega
              case measure=>simp [intOf];omega
          ·obtain rfl:s=t.nxt.length:=by omega
           have hrep:∀ i,i<r→R.getD i 0<t.nxt.length∧N.getD (R.getD i 0) 0=i:=fun i hi=>⟨List.mem_range.1 (HB1.out.blk.mem i (by rw [HRr.out];exact hi)),HB1.out.blk.rep i (by rw [HRr.out];exact hi)⟩
           have hrowN:∀ s,s<t.nxt.length→((List.range r).map fun i=>(List.range t.cells).map fun k=>N.getD (t.ent2 (R.getD i 0) k) 0).getD (N.getD s 0) []=(List.range t.cells).map fun k=>N.getD (t.ent2 s k) 0:=fun s hs=>by
            have h1:=hblt.out s hs;rw [Cq _ _ _ _ h1];obtain ⟨h2,h3⟩:=hrep _ h1;exact (Qb HV.out HB1.out h2 hs h3).1
           have hM:Mrg t (fun s=>N.getD s 0) R.length L ⟨L,(List.range r).map fun i=>(List.range t.cells).map fun k=>N.getD (t.ent2 (R.getD i 0) k) 0,AC⟩:=by
            refine ⟨rfl,by rw [HRr.out];simp,by rw [HRr.out];exact HL2.out.2,fun s hs=>?_,fun s hs k hk=>?_,fun s hs=>?_⟩
            ·rw [hrowN s hs];simp
            ·show (((List.range r).map fun i=>(List.range t.cells).map fun k=>N.getD (t.ent2 (R.getD i 0) k) 0).getD (N.getD s 0) []).getD k 0=_;rw [hrowN s hs,Cq _ _ _ _ hk]
            ·exact HQA.out s hs
           obtain ⟨hqv,hqh⟩:=Adw HV.out HPL.out HCL.out HCell.out HB1.out HZ0.out hM;obtain ⟨q,hq⟩:∃ q:Dfa,Dfa.mk L ((List.range r).map fun i=>(List.range t.cells).map fun k=>N.getD (t.ent2 (R.getD i 0) k) 0) AC=q:=⟨_,rfl⟩;have hqn:q.nxt.length=r:=by rw [← hq];simp
           have hIsD:IsD wr (.agg (dA (.slice (some ⟨bc,oc,none⟩) lc cc) (.slice (some ⟨g5,0,none⟩) r r) (.slice (some ⟨g9,0,none⟩) r r))) q:=by
            refine ⟨.slice (some ⟨bc,oc,none⟩) lc cc,_,_,rfl,?_,?_,?_⟩
            ·rw [← hq,← HLC.out];exact HC.out.ext ((hE0.trans HE4.out).trans hE)
            ·rw [← hq];refine ⟨NX,by rw [HL2.out.1];simp,?_,fun i hi=>?_⟩
             ·have:=Sl.of_owns hO5 (show r≤4611686018427387904 by omega) undef;simp only [List.length_map,List.length_range];exact this
             ·have hi':i<r:=by simpa using hi
              obtain ⟨h1,h2⟩:=hrep i hi';have h3:=HQ.out _ h1;rw [h2] at h3;simp only;rw [Cq _ _ _ _ hi'];exact h3.ints (by simp;omega)
            ·have h9:OwnB wr w4.heap.size (.slice (some ⟨g9,0,none⟩) r r) AC:=by
              unfold OwnB;rw [HL2.out.2];exact hO9
             rw [← hq];exact h9.bools (by rw [HL2.out.2];omega)
           rw [hq] at hqv hqh;have hCn:=Lib.hid (Ig q hqv (by rw [hqn];omega) _ wr (HTa.out wr ((hE0.trans HE4.out).trans hE)) (Nat.lt_of_lt_of_le hsz ((hE0.trans HE4.out).trans hE).size) hIsD);have HB4:=Lib.hid (hE.heap HB4.out);have HQH:=Lib.hid hqh;have HE:=Lib.hid ((hE0.trans HE4.out).trans hE);clear hqv hqn hqh hIsD hM hrep hrowN hO5 hO9 HQ HQA hE hgs;go_wp2_with (first
            | (refine wpList_load_row rfl 30 (.tmp 22) rfl _ rfl _ _ _ _ H8.out Tryz.underlying30 rfl Ad ?_)
            | (go_at_call 28;(with_reducible refine hCn.out.mono ?_);rintro e w9 ⟨r',hres,hcan,hhas,hE9⟩;obtain ⟨ac2,lc2,cc2,an2,ln2,cn2,aa2,la2,ca2,k2,rfl⟩:=hres.form;have HRes:=Lib.hid hres;have HCan:=Lib.hid hcan;have HHas:=Lib.hid hhas;clear hres hcan hhas;have HB4:=Lib.hid (hE9.heap HB4.out))
            | (refine wpList_store_row rfl 30 (.tmp 6) (.tmp 180) rfl _ _ rfl rfl _ _ HB4.out Ad rfl (An _ _ _ rfl rfl rfl) ?_))
           refine bodyPost_ret (v:=.tuple #[.agg (dA (.slice ac2 lc2 cc2) (.slice an2 ln2 cn2) (.slice aa2 la2 ca2)),.int .i64 k2]) (A2 rfl _ _ _ _ _ _ _ rfl _ rfl (setRow_heap w9 _ _ (dA (.slice ac2 lc2 cc2) (.slice an2 ln2 cn2) (.slice aa2 la2 ca2)) 30 (0,0) HB4.out) Tryz.underlying30 rfl Ad) rfl ?_;have hth:∀ u,r'.has u=t.has u:=fun u=>by rw [HHas.out,HQH.out]
           exact ⟨some r',HRes.out.setRow (fun d' h=>by injection h with h;subst h;exact HCan.out.val) HB4.out _,⟨HCan.out,fun u=>by rw [hth],by rw [Ai3 HV.out HL.out HB1.out HCan.out hth,HRr.out];omega⟩,(HE.out.trans hE9).setRow (by omega) _⟩
      ·have heq:((R.length:Int)==(n:Int))=false:=by simp;omega
       obtain ⟨HO',hlt'⟩:=Agb HV.out HL.out HO.out hn HN.out.2 HN.out.1 he;have HO':=Lib.hid HO';have HC':Hid (∀ s,s<t.nxt.length→w4.cell? ⟨wo.heap.size+1,s,none⟩=some (iv (N.getD s 0))):=Lib.hid fun s hs=>Ap 0 hN4 HN.out.2.symm s (by rw [HN.out.2];exact hs)
       have hmp9:=hmp4;clear he hN4 hmp4;go_wp2_with (at_len;refine Mu rfl _ 155 rfl Tryz.underlying155 rfl hmp9 ?_);go_roundw
       case rel=>exact ⟨N,R.length,wo.heap.size+1,rfl,rfl,hE.trans hE4,hsz4,HC',HO'⟩
       case measure=>simp [intOf];omega
end Go.Proofs.YtaiogolidlamiaaGreatDoor
