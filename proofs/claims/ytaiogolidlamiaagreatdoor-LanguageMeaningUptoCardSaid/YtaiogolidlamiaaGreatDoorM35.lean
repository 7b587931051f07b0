import Derived.Test.YtaiogolidlamiaaGreatDoorM34
set_option linter.unusedVariables false
set_option linter.unusedSimpArgs false
namespace Go.Proofs.YtaiogolidlamiaaGreatDoor
set_option maxRecDepth 100000
open Go.RowKit Go.Shelf
theorem Nk (n:RNode) (x:Nat):(rnC n).setIfInBounds 5 (iv x)=rnC ⟨n.kind,x,n.r,n.c,n.min,n.max⟩:=rfl
theorem Aas (n:RNode) (x:Nat):(rnC n).setIfInBounds 6 (iv x)=rnC ⟨n.kind,n.l,x,n.c,n.min,n.max⟩:=rfl
set_option maxHeartbeats 1000000 in
theorem Mw (xs:List RNode) (h0:0<xs.length) (hl:xs.length≤8388608) (n:RNode) (v:Value) (w:World) (h:RxV w v xs) :
  Calls Tryz.prog 39 #[.agg (rnC n),v] w fun e w'=>(∃ v',e=.returned v'∧RxV w' v' (xs++[⟨n.kind,xs.length-1,n.r,n.c,n.min,n.max⟩]))∧Ext w w':=by
 have HR:=Lib.hid h;obtain ⟨b,o,cap,rfl,-⟩:=h;have hE0:=(Ext.refl w).alloc (.cells (rnC n) 64);have H2:=Ab w (.cells (rnC n) 64);have f88:=fun (m:RNode) W (hW:Ext w W)=>Lib.hid (X6 xs hl m _ W (HR.out.ext hW))
 obtain ⟨N,hN⟩:∃ N,xs.length=N:=⟨_,rfl⟩;rw [hN] at h0 hl f88;simp only [hN];clear hN;have hwN:IntKind.i64.wrap ((N:Int)-1)=((N-1:Nat):Int):=by rw [show (N:Int)-1=((N-1:Nat):Int) by omega];exact IntWalk.i64_in _ ⟨by omega,by omega⟩
 obtain ⟨M,hM⟩:∃ M,N-1=M:=⟨_,rfl⟩;rw [hM] at hwN;simp only [hM];clear hM;go_enter Tryz.func39,Tryz.ntmps39;go_upto_region 1 with (fail)
 obtain ⟨w1,hw1⟩:∃ W,w.alloc (.cells (rnC n) 64)=W:=⟨_,rfl⟩;rw [hw1] at hE0 H2;simp only [hw1];clear hw1;have q5:=(cell_of_row w1 _ 5 _ _ _ H2).trans (show (rnC n)[5]? = some (iv n.l) from rfl);have fz:=frozen_of_row w1 _ 5 _ _ H2;have H2:=Lib.hid H2;go_upto_region 2 with (fail)
 rw [setCell_eq_setRow w1 _ _ _ _ _ _ H2.out,Nk];have H3:=Lib.hid (setRow_heap w1 w.heap.size _ (rnC ⟨n.kind,M,n.r,n.c,n.min,n.max⟩) _ _ H2.out);have hE1:=hE0.setRow (Nat.le_refl w.heap.size) (rnC ⟨n.kind,M,n.r,n.c,n.min,n.max⟩);clear H2 q5 fz hE0 hwN;generalize w1.setRow w.heap.size (rnC ⟨n.kind,M,n.r,n.c,n.min,n.max⟩)=w2 at *;have f:=f88 ⟨n.kind,M,n.r,n.c,n.min,n.max⟩ w2 hE1;clear f88;go_wp2_with (first
  | (refine wpList_load_row rfl 64 (.tmp 2) rfl _ rfl _ _ _ _ H3.out Tryz.underlying64 rfl (Et _) ?_)
  | (go_at_call 88;(with_reducible refine f.out.mono ?_);rintro e w3 ⟨⟨v',rfl,hv'⟩,hE3⟩;have HV:=Lib.hid hv';clear hv'))
 go_ret;exact ⟨⟨_,rfl,HV.out⟩,hE1.trans hE3⟩
theorem Zy {n:RNode} (k:Nat) (h:arK n.kind=0):n.sh k=n:=by
 obtain ⟨a,l,r,c,mn,mx⟩:=n;have h:arK a=0:=h;simp [RNode.sh,h]
theorem Z0 {n:RNode} (k:Nat) (h:arK n.kind=1):n.sh k=⟨n.kind,n.l+k,n.r,n.c,n.min,n.max⟩:=by
 obtain ⟨a,l,r,c,mn,mx⟩:=n;have h:arK a=1:=h;simp [RNode.sh,h]
theorem Zz {n:RNode} (k:Nat) (h:arK n.kind=2):n.sh k=⟨n.kind,n.l+k,n.r+k,n.c,n.min,n.max⟩:=by
 obtain ⟨a,l,r,c,mn,mx⟩:=n;have h:arK a=2:=h;simp [RNode.sh,h]
theorem Aat (k l r:Nat):rnC ⟨k,l,r,0#256,0,0⟩=#[iv k,.int .u64 0,.int .u64 0,.int .u64 0,.int .u64 0,iv l,iv r,.int .i64 0,.int .i64 0]:=by
 simp [rnC,rnA,J8]
set_option maxHeartbeats 1600000 in
theorem Wz (k:Nat) (xs ys:List RNode) (x0:0<xs.length) (y0:0<ys.length) (hlx:xs.length≤8388608) (hly:ys.length≤8388608) (hy:∀ i,i<ys.length→(ys.getD i nN).ok i) (vx vy:Value) (w:World) (hx:RxV w vx xs) (hyv:RxV w vy ys) :
  Calls Tryz.prog 37 #[iv k,vx,vy] w fun e w'=>(∃ v',e=.returned v'∧RxV w' v' (bin k xs ys))∧Ext w w':=by
 obtain ⟨i0,hi,hz0,hz1,hz2⟩:=info_parts O8;obtain ⟨b,o,cap,rfl,hR⟩:=hx;obtain ⟨b',o',cap',rfl,hR'⟩:=hyv;have HR:=Lib.hid hR;have HR':=Lib.hid hR';have HOK:=Lib.hid hy;have hE0:=(Ext.refl w).alloc (.cells #[] 64);have hO0:=Lb w 64 9;obtain ⟨N,hN⟩:∃ N,xs.length=N:=⟨_,rfl⟩;obtain ⟨M,hM⟩:∃ M,ys.length=M:=⟨_,rfl⟩;have HN:=Lib.hid hN;have HM:=Lib.hid hM;rw [hN] at x0 hlx;rw [hM] at y0 hly;have HBIN:Hid (bin k xs ys=xs++ys.map (RNode.sh N)++[⟨k,N-1,N+M-1,0#256,0,0⟩]):=Lib.hid (by unfold bin;rw [hN,hM]);simp only [hN,hM];clear hN hM hR hR' hy;go_enter Tryz.func37,Tryz.ntmps37;go_upto_region 2 with (fail)
 obtain ⟨w1,hw1⟩:∃ W,w.alloc (.cells #[] 64)=W:=⟨_,rfl⟩;rw [hw1] at hE0 hO0;simp only [hw1];clear hw1;go_wp2_with (fail);go_loopw [7,8] (fun vx vi W=>∃ (i g c:Nat),i≤N∧vx=.slice (some ⟨g,0,none⟩) i c∧vi=.int .i64 i∧Ext w W∧W.ownsRow w.heap.size 64 9 (.slice (some ⟨g,0,none⟩) i c) i (flR (xs.take i)))
  (fun _ vi _=>N-(intOf vi).toNat)
 case atStart=>exact ⟨0,_,_,by omega,rfl,rfl,hE0,hO0⟩
 case round=>
  clear hE0 hO0;obtain ⟨i,g,c,hiN,rfl,rfl,hE,hO⟩:=hrel;have hsz:=hE.size;by_cases hlt:i<N
  ·have hltI:(i:Int)<(N:Int):=by omega
   have hrange:=(HR.out.ext hE) i (by rw [HN.out];exact hlt);have htk:=Lib.hid (Kd xs i (by rw [HN.out];exact hlt));obtain ⟨m,hm⟩:∃ m,xs.getD i ⟨0,0,0,0#256,0,0⟩=m:=⟨_,rfl⟩;rw [hm] at hrange htk;clear hm;go_upto_region 4 with (first
    | (refine wpList_load_mid rfl 64 (.tmp 22) rfl b (o+i*9) rfl _ _ hrange Tryz.underlying64 rfl (Iy m) ?_)
    | (refine Cb rfl [m] 1 rfl (by simp) (by simp) _ rfl (by go_simp) ?_;rw [Ff])
    | (at_builtin;refine wpList_append_lies _ rfl _ _ 53 rfl w.heap.size 64 i0 (.agg Br) 9 72 Tryz.underlying53 hi hz0 hz1 hz2 rfl (by decide) _ _ _ rfl (hO.alloc _) _ 1 1 (rnC m).toList rfl (Gf m) (Gi wr m) (Ge m) (by decide) (by unfold maxLen;omega) (by omega) (by simp;omega) _ rfl ?_;intro g7 c7 w7 hO7 hgr7 _ _))
   have hE7:=(hE.alloc (.cells (rnC m) 64)).grown hgr7 (fun k e=>by have:=(hO.lt k e).1;omega);have hO8:w7.ownsRow w.heap.size 64 9 (.slice (some ⟨g7,0,none⟩) (i+1) c7) (i+1) (flR (xs.take (i+1))):=by
    rw [htk.out,Gp,Fz];exact hO7
   clear hO7 hgr7 hrange;go_wp2;go_roundw
   case rel=>exact ⟨i+1,g7,c7,by omega,rfl,by go_num,hE7,hO8⟩
   case measure=>simp [intOf];omega
  ·obtain rfl:N=i:=by omega
   rw [Mp xs N HN.out] at hO;have hO0:wr.ownsRow w.heap.size 64 9 (.slice (some ⟨g,0,none⟩) (N+0) c) (N+0) (flR (xs++(ys.take 0).map (RNode.sh N))):=by
    simpa using hO
   clear hO hsz;go_wp2_with (fail);obtain ⟨wq,hwq⟩:∃ W,W=wr:=⟨_,rfl⟩;subst hwq;go_loopw [7,9] (fun vx vi W=>∃ (i g c:Nat),i≤M∧vx=.slice (some ⟨g,0,none⟩) (N+i) c∧vi=.int .i64 i∧Ext w W∧W.ownsRow w.heap.size 64 9 (.slice (some ⟨g,0,none⟩) (N+i) c) (N+i) (flR (xs++(ys.take i).map (RNode.sh N))))
    (fun _ vi _=>M-(intOf vi).toNat)
   case atStart=>exact ⟨0,_,_,by omega,rfl,rfl,hE,hO0⟩
   case round=>
    clear hE hO0;obtain ⟨i,g,c,hiM,rfl,rfl,hE,hO⟩:=hrel;have hsz:=hE.size;by_cases hlt:i<M
    ·have hltI:(i:Int)<(M:Int):=by omega
     have hrange:=(HR'.out.ext hE) i (by rw [HM.out];exact hlt);have hok:=HOK.out i (by rw [HM.out];exact hlt);have htk0:=Kd ys i (by rw [HM.out];exact hlt);obtain ⟨m,hm⟩:∃ m,ys.getD i ⟨0,0,0,0#256,0,0⟩=m:=⟨_,rfl⟩;rw [hm] at hrange htk0 hok;have htk:Hid (xs++(ys.take (i+1)).map (RNode.sh N)=xs++(ys.take i).map (RNode.sh N)++[m.sh N]):=Lib.hid (by rw [htk0];simp);clear hm htk0;have hfresh:=Acq hO;have hl1:=hok.l1;have hr1:=hok.r1;have hak:=W7 m.kind;have f84:=fun W=>Lib.hid (Ac0 m.kind hok.k1 hok.k8 W)
     clear hok;obtain ⟨a,ha⟩:∃ a,arK m.kind=a:=⟨_,rfl⟩;rw [ha] at hl1 hr1 hak f84;have HA:=Lib.hid ha;clear ha;go_upto_region 10 with (first
      | (refine wpList_load_mid rfl 64 (.tmp 34) rfl b' (o'+i*9) rfl _ _ hrange Tryz.underlying64 rfl (Iy m) ?_)
      | (refine wpList_store_row rfl 64 (.tmp 10) (.tmp 35) rfl _ _ rfl rfl _ _ (Ab wr (.cells Br 64)) (Et m) rfl (Nl m) ?_))
     have hE2:=((Ext.refl wr).alloc (.cells Br 64)).setRow (Nat.le_refl _) (rnC m);have H10:=setRow_heap (wr.alloc (.cells Br 64)) wr.heap.size _ (rnC m) _ _ (Ab wr (.cells Br 64));obtain ⟨w2,hw2⟩:∃ W,(wr.alloc (.cells Br 64)).setRow wr.heap.size (rnC m)=W:=⟨_,rfl⟩;rw [hw2] at hE2 H10;simp only [hw2];clear hw2 hrange;have hO:=Ah hO hE2;have hEn:=hE.trans hE2;have hg10:w.heap.size≤wr.heap.size:=hsz;generalize wr.heap.size=g10 at *;clear hE hE2;have q0:=(cell_of_row w2 g10 0 _ _ _ H10).trans (show (rnC m)[0]? = some (iv m.kind) from rfl);have q5:=(cell_of_row w2 g10 5 _ _ _ H10).trans (show (rnC m)[5]? = some (iv m.l) from rfl);have q6:=(cell_of_row w2 g10 6 _ _ _ H10).trans (show (rnC m)[6]? = some (iv m.r) from rfl);have z5:=frozen_of_row w2 g10 5 _ _ H10;have z6:=frozen_of_row w2 g10 6 _ _ H10;have H10:=Lib.hid H10;have HF:=Lib.hid hfresh;clear hfresh;go_upto_region 11 with (first
      | (go_at_call 84;(with_reducible refine (f84 _).out.mono ?_);rintro e W' ⟨rfl,hW'⟩;replace hW':=hW'.symm;subst hW'))
     clear q0 f84;have hcase:a=0∨a=1∨a=2:=by omega
     rcases hcase with rfl|rfl|rfl
     ·go_upto_region 15 with (fail)
      clear q5 q6 z5 z6 hl1 hr1;have H5:Hid (w2.heap[g10]? = some (.cells (rnC (m.sh N)) 64 (0,0))):=Lib.hid (by rw [Zy N HA.out];exact H10.out);have hO5:=hO;have hE5:=hEn;obtain ⟨w5,hw5⟩:∃ W,w2=W:=⟨_,rfl⟩;rw [hw5] at H5 hO5 hE5;simp only [hw5];clear hw5;clear hO hEn H10 HF;have hs5:=hE5.size;go_upto_region 8 with (first
       | (refine wpList_load_row rfl 64 (.tmp 10) rfl _ rfl _ _ _ _ H5.out Tryz.underlying64 rfl (Et _) ?_)
       | (refine Cb rfl [m.sh N] 1 rfl (by simp) (by simp) _ rfl (by go_simp) ?_;rw [Ff])
       | (at_builtin;refine wpList_append_lies _ rfl _ _ 53 rfl w.heap.size 64 i0 (.agg Br) 9 72 Tryz.underlying53 hi hz0 hz1 hz2 rfl (by decide) _ _ _ rfl (hO5.alloc _) _ 1 1 (rnC (m.sh N)).toList rfl (Gf _) (Gi w5 (m.sh N)) (Ge (m.sh N)) (by decide) (by unfold maxLen;omega) (by omega) (by simp;omega) _ rfl ?_;intro g7 c7 w7 hO7 hgr7 _ _))
      have hE7:=(hE5.alloc (.cells (rnC (m.sh N)) 64)).grown hgr7 (fun k e=>by have:=(hO5.lt k e).1;omega);have hO8:w7.ownsRow w.heap.size 64 9 (.slice (some ⟨g7,0,none⟩) (N+(i+1)) c7) (N+(i+1)) (flR (xs++(ys.take (i+1)).map (RNode.sh N))):=by
       rw [htk.out,Gp,Fz];exact hO7
      clear hO7 hgr7 hO5 hE5 H5;rw [show N+i+1=N+(i+1) by omega];go_wp2;go_roundw
      case rel=>exact ⟨i+1,g7,c7,by omega,rfl,by go_num,hE7,hO8⟩
      case measure=>simp [intOf];omega
     ·have hlm:m.l≤8388608:=by have:=hl1 (by omega);omega
      go_upto_region 15 with (fail)
      rw [show (Value.int IntKind.i64 ((m.l:Int)+(N:Int)))=iv (m.l+N) by simp,setCell_eq_setRow w2 _ _ _ _ _ _ H10.out,Nk];have H5:Hid ((w2.setRow g10 (rnC (m.sh N))).heap[g10]? = some (.cells (rnC (m.sh N)) 64 (0,0))):=Lib.hid (setRow_heap w2 g10 _ _ _ _ H10.out);have hO5:=hO.kept (B3 w2 g10 (rnC (m.sh N))) HF.out;have hE5:=hEn.setRow hg10 (rnC (m.sh N));rw [← Z0 N HA.out];clear q5 q6 z5 z6 hl1 hr1;obtain ⟨w5,hw5⟩:∃ W,w2.setRow g10 (rnC (m.sh N))=W:=⟨_,rfl⟩;rw [hw5] at H5 hO5 hE5;simp only [hw5];clear hw5;clear hO hEn H10 HF;have hs5:=hE5.size;go_upto_region 8 with (first
       | (refine wpList_load_row rfl 64 (.tmp 10) rfl _ rfl _ _ _ _ H5.out Tryz.underlying64 rfl (Et _) ?_)
       | (refine Cb rfl [m.sh N] 1 rfl (by simp) (by simp) _ rfl (by go_simp) ?_;rw [Ff])
       | (at_builtin;refine wpList_append_lies _ rfl _ _ 53 rfl w.heap.size 64 i0 (.agg Br) 9 72 Tryz.underlying53 hi hz0 hz1 hz2 rfl (by decide) _ _ _ rfl (hO5.alloc _) _ 1 1 (rnC (m.sh N)).toList rfl (Gf _) (Gi w5 (m.sh N)) (Ge (m.sh N)) (by decide) (by unfold maxLen;omega) (by omega) (by simp;omega) _ rfl ?_;intro g7 c7 w7 hO7 hgr7 _ _))
      have hE7:=(hE5.alloc (.cells (rnC (m.sh N)) 64)).grown hgr7 (fun k e=>by have:=(hO5.lt k e).1;omega);have hO8:w7.ownsRow w.heap.size 64 9 (.slice (some ⟨g7,0,none⟩) (N+(i+1)) c7) (N+(i+1)) (flR (xs++(ys.take (i+1)).map (RNode.sh N))):=by
       rw [htk.out,Gp,Fz];exact hO7
      clear hO7 hgr7 hO5 hE5 H5;rw [show N+i+1=N+(i+1) by omega];go_wp2;go_roundw
      case rel=>exact ⟨i+1,g7,c7,by omega,rfl,by go_num,hE7,hO8⟩
      case measure=>simp [intOf];omega
     ·have hlm:m.l≤8388608:=by have:=hl1 (by omega);omega
      have hrm:m.r≤8388608:=by have:=hr1 (by omega);omega
      go_upto_region 13 with (fail)
      rw [show (Value.int IntKind.i64 ((m.l:Int)+(N:Int)))=iv (m.l+N) by simp,setCell_eq_setRow w2 _ _ _ _ _ _ H10.out,Nk];have H3:=setRow_heap w2 g10 _ (rnC ⟨m.kind,m.l+N,m.r,m.c,m.min,m.max⟩) _ _ H10.out;have hO3:=hO.kept (B3 w2 g10 (rnC ⟨m.kind,m.l+N,m.r,m.c,m.min,m.max⟩)) HF.out;have hE3:=hEn.setRow hg10 (rnC ⟨m.kind,m.l+N,m.r,m.c,m.min,m.max⟩);clear q5 q6 z5 z6 hl1 hr1;obtain ⟨w3,hw3⟩:∃ W,w2.setRow g10 (rnC ⟨m.kind,m.l+N,m.r,m.c,m.min,m.max⟩)=W:=⟨_,rfl⟩;rw [hw3] at H3 hO3 hE3;simp only [hw3];clear hw3;have q6:=(cell_of_row w3 g10 6 _ _ _ H3).trans (show (rnC ⟨m.kind,m.l+N,m.r,m.c,m.min,m.max⟩)[6]? = some (iv m.r) from rfl);have z6:=frozen_of_row w3 g10 6 _ _ H3;have H3:=Lib.hid H3;go_upto_region 15 with (fail)
      rw [show (Value.int IntKind.i64 ((m.r:Int)+(N:Int)))=iv (m.r+N) by simp,setCell_eq_setRow w3 _ _ _ _ _ _ H3.out,Aas];have H5:Hid ((w3.setRow g10 (rnC (m.sh N))).heap[g10]? = some (.cells (rnC (m.sh N)) 64 (0,0))):=Lib.hid (setRow_heap w3 g10 _ _ _ _ H3.out);have hO5:=hO3.kept (B3 w3 g10 (rnC (m.sh N))) HF.out;have hE5:=hE3.setRow hg10 (rnC (m.sh N));have hsh:=Zz N HA.out;rw [show rnC ⟨m.kind,m.l+N,m.r+N,m.c,m.min,m.max⟩=rnC (m.sh N) by rw [hsh]];clear q6 z6 hsh;obtain ⟨w5,hw5⟩:∃ W,w3.setRow g10 (rnC (m.sh N))=W:=⟨_,rfl⟩;rw [hw5] at H5 hO5 hE5;simp only [hw5];clear hw5;clear hO hEn H10 HF;have hs5:=hE5.size;go_upto_region 8 with (first
       | (refine wpList_load_row rfl 64 (.tmp 10) rfl _ rfl _ _ _ _ H5.out Tryz.underlying64 rfl (Et _) ?_)
       | (refine Cb rfl [m.sh N] 1 rfl (by simp) (by simp) _ rfl (by go_simp) ?_;rw [Ff])
       | (at_builtin;refine wpList_append_lies _ rfl _ _ 53 rfl w.heap.size 64 i0 (.agg Br) 9 72 Tryz.underlying53 hi hz0 hz1 hz2 rfl (by decide) _ _ _ rfl (hO5.alloc _) _ 1 1 (rnC (m.sh N)).toList rfl (Gf _) (Gi w5 (m.sh N)) (Ge (m.sh N)) (by decide) (by unfold maxLen;omega) (by omega) (by simp;omega) _ rfl ?_;intro g7 c7 w7 hO7 hgr7 _ _))
      have hE7:=(hE5.alloc (.cells (rnC (m.sh N)) 64)).grown hgr7 (fun k e=>by have:=(hO5.lt k e).1;omega);have hO8:w7.ownsRow w.heap.size 64 9 (.slice (some ⟨g7,0,none⟩) (N+(i+1)) c7) (N+(i+1)) (flR (xs++(ys.take (i+1)).map (RNode.sh N))):=by
       rw [htk.out,Gp,Fz];exact hO7
      clear hO7 hgr7 hO5 hE5 H5;rw [show N+i+1=N+(i+1) by omega];go_wp2;go_roundw
      case rel=>exact ⟨i+1,g7,c7,by omega,rfl,by go_num,hE7,hO8⟩
      case measure=>simp [intOf];omega
    ·obtain rfl:M=i:=by omega
     rw [Mp ys M HM.out] at hO;have hwN:IntKind.i64.wrap ((N:Int)-1)=((N-1:Nat):Int):=by rw [show (N:Int)-1=((N-1:Nat):Int) by omega];exact IntWalk.i64_in _ ⟨by omega,by omega⟩
     have hwM:IntKind.i64.wrap (((N+M:Nat):Int)-1)=((N+M-1:Nat):Int):=by rw [show ((N+M:Nat):Int)-1=((N+M-1:Nat):Int) by omega];exact IntWalk.i64_in _ ⟨by omega,by omega⟩
     obtain ⟨T,hT⟩:∃ T,N+M=T:=⟨_,rfl⟩;obtain ⟨T1,hT1⟩:∃ T1,T-1=T1:=⟨_,rfl⟩;obtain ⟨N1,hN1⟩:∃ N1,N-1=N1:=⟨_,rfl⟩;rw [hT] at hO hwM;rw [hT1] at hwM;rw [hN1] at hwN;have hT0:1≤T:=by omega
     have hTl:T≤16777216:=by omega
     have HBIN2:Hid (bin k xs ys=xs++ys.map (RNode.sh N)++[⟨k,N1,T1,0#256,0,0⟩]):=Lib.hid (by rw [HBIN.out,hT,hT1,hN1]);have HTT:Hid (xs.length+ys.length=T):=Lib.hid (by rw [HN.out,HM.out,hT]);simp only [hT];clear hT hT1 hN1;have hB2:=Lib.hid (Aat k N1 T1);go_wp2_with (first
      | (refine Cb rfl [⟨k,N1,T1,0#256,0,0⟩] 1 rfl (by simp) (by simp) _ rfl (by go_simp;exact hB2.out.symm) ?_;rw [Ff])
      | (at_builtin;refine wpList_append_lies _ rfl _ _ 53 rfl w.heap.size 64 i0 (.agg Br) 9 72 Tryz.underlying53 hi hz0 hz1 hz2 rfl (by decide) _ _ _ rfl (hO.alloc _) _ 1 1 (rnC ⟨k,N1,T1,0#256,0,0⟩).toList rfl (Gf _) (Gi wr ⟨k,N1,T1,0#256,0,0⟩) (Ge ⟨k,N1,T1,0#256,0,0⟩) (by decide) (by unfold maxLen;omega) (by omega) (by simp;omega) _ rfl ?_;intro g7 c7 w7 hO7 hgr7 _ _))
     have hE7:=(hE.alloc (.cells (rnC ⟨k,N1,T1,0#256,0,0⟩) 64)).grown hgr7 (fun k e=>by have:=(hO.lt k e).1;omega);go_ret;have hrx:RxAt w7 g7 0 (bin k xs ys):=R9 (by rw [HBIN2.out,Gp,Fz];exact hO7);exact ⟨⟨.slice (some ⟨g7,0,none⟩) (T+1) c7,rfl,g7,0,c7,by rw [Gw,HTT.out],hrx⟩,hE7⟩
def StkV (W:World) (v:Value) (ss:List (List RNode)):Prop:=
 ∃ vs:List Value,vs.length=ss.length∧Sl W v 1 ss.length (fun i=>vs.getD i undef)∧∀ i,i<ss.length→RxV W (vs.getD i undef) (ss.getD i [])
theorem StkV.ext {W W':World} {v:Value} {ss:List (List RNode)} (h:StkV W v ss) (hE:Ext W W'):StkV W' v ss:=by
 obtain ⟨vs,h1,h2,h3⟩:=h;exact ⟨vs,h1,h2.ext hE,fun i hi=>(h3 i hi).ext hE⟩
theorem Yb (vs:List Value) (i:Nat) (h:i<vs.length):vs.take (i+1)=vs.take i++[vs.getD i undef]:=by
 rw [List.take_succ_eq_append_getElem h,List.getD_eq_getElem?_getD,List.getElem?_eq_getElem h];rfl
theorem Ue:(Tryz.prog.info? 53).map (fun i=>(i.zero,i.size,i.bytes))=some (some (.slice none 0 0),1,24):=by kernel_rfl
set_option maxHeartbeats 2000000 in
theorem Q4 (ss:List (List RNode)) (n:Nat) (hn:n≤ss.length) (hl:ss.length≤8388608) (xs:List RNode) (v vx:Value) (w:World) (h:StkV w v ss) (hx:RxV w vx xs) :
  Calls Tryz.prog 113 #[v,iv n,vx] w fun e w'=>(∃ v',e=.returned v'∧StkV w' v' (ss.take n++[xs]))∧Ext w w':=by
 obtain ⟨i0,hi,hz0,hz1,hz2⟩:=info_parts Ue;obtain ⟨vs,hvl,hS,hV⟩:=h;have HS:=Lib.hid (fun (h0:0<ss.length)=>Sl.form hS h0);obtain ⟨a,cap,rfl⟩:=Sl.len hS;have HV:=Lib.hid hV;have HX:=Lib.hid hx;have HVL:=Lib.hid hvl;obtain ⟨xb,xo,xc,rfl,-⟩:=hx;have hE0:=(Ext.refl w).alloc (.cells #[] 53);have hO0:=Lb w 53 1;obtain ⟨K,hK⟩:∃ K,ss.length=K:=⟨_,rfl⟩;have HK:=Lib.hid hK;obtain ⟨xn,hxn⟩:∃ y,xs.length=y:=⟨_,rfl⟩;simp only [hxn] at HX;rw [hK] at hn hl HS HVL;simp only [hK,hxn];clear hK hS hV hvl hxn;go_enter Tryz.func113,Tryz.ntmps113;go_upto_region 2 with (fail)
 obtain ⟨w1,hw1⟩:∃ W,w.alloc (.cells #[] 53)=W:=⟨_,rfl⟩;rw [hw1] at hE0 hO0;simp only [hw1];clear hw1;go_wp2_with (fail);go_loopw [7,8] (fun vx vi W=>∃ (i g c:Nat),i≤n∧vx=.slice (some ⟨g,0,none⟩) i c∧vi=.int .i64 i∧Ext w W∧W.ownsRow w.heap.size 53 1 (.slice (some ⟨g,0,none⟩) i c) i (vs.take i))
  (fun _ vi _=>n-(intOf vi).toNat)
 case atStart=>exact ⟨0,_,_,by omega,rfl,rfl,hE0,hO0⟩
 case round=>
  clear hE0 hO0;obtain ⟨i,g,c,hin,rfl,rfl,hE,hO⟩:=hrel;have hsz:=hE.size;by_cases hlt:i<n
  ·obtain ⟨b,o,c',hve,hcell⟩:=HS.out (by omega);injection hve with e1 _ e2
   subst e1 e2;have hiK:i<K:=by omega
   have hiKI:(i:Int)<(K:Int):=by omega
   have hinI:(i:Int)<(n:Int):=by omega
   have cx:=hE.cell (hcell i (by omega));have htk:=Lib.hid (Yb vs i (by rw [HVL.out];omega));obtain ⟨bi,oi,ci,hvi,-⟩:=HV.out i (by rw [HK.out];omega);obtain ⟨li,hli⟩:∃ y,(ss.getD i []).length=y:=⟨_,rfl⟩;rw [hvi,hli] at cx htk;clear hvi hcell hli;go_upto_region 4 with (first
    | (at_builtin;refine wpList_append_lies _ rfl _ _ 127 rfl w.heap.size 53 i0 (.slice none 0 0) 1 24 Tryz.underlying127 hi hz0 hz1 hz2 rfl (by decide) _ _ _ rfl (hO.alloc _) _ 1 1 [.slice (some ⟨bi,oi,none⟩) li ci] rfl rfl (cell_one_new _ _ _) (by simp [Value.oneCell']) (by decide) (by unfold maxLen;omega) (by omega) (by simp;omega) _ rfl ?_;intro g7 c7 w7 hO7 hgr7 _ _))
   have hE7:=(hE.alloc (.cells #[.slice (some ⟨bi,oi,none⟩) li ci] 53)).grown hgr7 (fun k e=>by have:=(hO.lt k e).1;omega);have hO8:w7.ownsRow w.heap.size 53 1 (.slice (some ⟨g7,0,none⟩) (i+1) c7) (i+1) (vs.take (i+1)):=by
    rw [htk.out];exact hO7
   clear hO7 hgr7 cx;go_wp2;go_roundw
   case rel=>exact ⟨i+1,g7,c7,by omega,rfl,by go_num,hE7,hO8⟩
   case measure=>simp [intOf];omega
  ·obtain rfl:n=i:=by omega
   go_wp2_with (first
    | (at_builtin;refine wpList_append_lies _ rfl _ _ 127 rfl w.heap.size 53 i0 (.slice none 0 0) 1 24 Tryz.underlying127 hi hz0 hz1 hz2 rfl (by decide) _ _ _ rfl (hO.alloc _) _ 1 1 [.slice (some ⟨xb,xo,none⟩) xn xc] rfl rfl (cell_one_new _ _ _) (by simp [Value.oneCell']) (by decide) (by unfold maxLen;omega) (by omega) (by simp;omega) _ rfl ?_;intro g7 c7 w7 hO7 hgr7 _ _))
   have hE7:=(hE.alloc (.cells #[.slice (some ⟨xb,xo,none⟩) xn xc] 53)).grown hgr7 (fun k e=>by have:=(hO.lt k e).1;omega);go_ret;refine ⟨⟨_,rfl,vs.take n++[.slice (some ⟨xb,xo,none⟩) xn xc],?_,?_,fun i hi'=>?_⟩,hE7⟩
   ·simp only [List.length_append,List.length_take,HVL.out,HK.out];rfl
   ·have hlen:(ss.take n++[xs]).length=n+1:=by simp only [List.length_append,List.length_take,HK.out,List.length_singleton];omega
    rw [hlen];exact Sl.of_owns hO7 (by omega) undef
   ·have hlen:(ss.take n++[xs]).length=n+1:=by simp only [List.length_append,List.length_take,HK.out,List.length_singleton];omega
    rw [hlen] at hi';have h1:(vs.take n).length=n:=by rw [List.length_take,HVL.out];omega
    have h2:(ss.take n).length=n:=by rw [List.length_take,HK.out];omega
    by_cases e:i<n
    ·have:=(HV.out i (by rw [HK.out];omega)).ext hE7;rw [List.getD_eq_getElem?_getD,List.getElem?_append_left (by omega),List.getElem?_take,if_pos e,← List.getD_eq_getElem?_getD];rw [List.getD_eq_getElem?_getD (l:=ss.take n++[xs]),List.getElem?_append_left (by omega),List.getElem?_take,if_pos e,← List.getD_eq_getElem?_getD];exact this
    ·obtain rfl:i=n:=by omega
     rw [List.getD_eq_getElem?_getD,List.getElem?_append_right (by omega),h1,Nat.sub_self];rw [List.getD_eq_getElem?_getD (l:=ss.take i++[xs]),List.getElem?_append_right (by omega),h2,Nat.sub_self];exact HX.out.ext hE7
abbrev zrK (k:Nat):Array Value:=#[iv k,.int .u64 0,.int .u64 0,.int .u64 0,.int .u64 0,.int .i64 0,.int .i64 0,.int .i64 0,.int .i64 0]
theorem Mm (k:Nat):zrK k=rnC ⟨k,0,0,0#256,0,0⟩:=by simp [rnC,rnA,J8]
theorem Mn (k:Nat):(zrK k).all (·.oneCell')=true:=by simp [Value.oneCell']
theorem Oz (k:Nat) (hk:k=1∨k=2):RNode.ok ⟨k,0,0,0#256,0,0⟩ 0:=by
 have ha:arK k=0:=by unfold arK;rw [if_neg (by omega),if_neg (by omega)]
 refine ⟨by show 1≤k;omega,by show k≤8;omega,fun h=>?_,fun _=>rfl,fun h=>?_,fun _=>rfl,fun _=>rfl,fun _=>⟨rfl,rfl⟩,fun h=>?_⟩
 ·have h:0<arK k:=h;omega
 ·have h:1<arK k:=h;omega
 ·have h:k=8:=h;omega
theorem Pv (c:Cls):RNode.ok ⟨3,0,0,c,0,0⟩ 0:=by
 have e:arK 3=0:=rfl;refine ⟨by show 1≤3;omega,by show 3≤8;omega,fun h=>?_,fun _=>rfl,fun h=>?_,fun _=>rfl,fun h=>absurd rfl h,fun _=>⟨rfl,rfl⟩,fun h=>?_⟩
 ·have h:0<arK 3:=h;omega
 ·have h:1<arK 3:=h;omega
 ·have h:3=8:=h;omega
theorem Ajs (c:Cls) (b:Int) (hb0:0≤b) (hb:b<256) (w:World) :
  Calls Tryz.prog 140 #[.agg (Aa c),.int .u8 b] w fun e w'=>(∃ c':Cls,e=.returned (.agg (Aa c')))∧Ext w w':=
 (Xi c b hb0 hb w).mono fun e w' ⟨h1,h2⟩=>⟨⟨_,h1⟩,h2⟩
set_option maxHeartbeats 2000000 in
theorem Ae7 (k q:Nat) (hk:k<14) (hq:q<19) (w:World) :
  Calls Tryz.prog 114 #[iv k,iv q] w fun e w'=>(∃ n:RNode,e=.returned (.agg (rnC n))∧n.ok 0)∧Ext w w':=by
 have hE0:=(Ext.refl w).alloc (.cells Br 64);have H4:=Ab w (.cells Br 64);go_enter Tryz.func114,Tryz.ntmps114;go_upto_region 1 with (fail)
 obtain ⟨w1,hw1⟩:∃ W,w.alloc (.cells Br 64)=W:=⟨_,rfl⟩;rw [hw1] at hE0 H4;simp only [hw1];clear hw1;have H4:=Lib.hid H4;have hcase:k=0∨k=1∨k=3∨(k≠0∧k≠1∧k≠3):=by omega
 rcases hcase with rfl|rfl|rfl|⟨k0,k1,k3⟩
 ·go_wp2_with (first
   | (refine wpList_store_row rfl 64 (.tmp 4) (.tmp 11) rfl _ _ rfl rfl _ _ H4.out Cg rfl (Mn 1) ?_))
  refine bodyPost_ret (v:=.agg (zrK 1)) (results_cell_row rfl _ _ _ _ _ _ _ rfl (setRow_heap w1 _ _ (zrK 1) 64 (0,0) H4.out) Tryz.underlying64 rfl Cg) rfl ?_;exact ⟨⟨_,by rw [Mm],Oz 1 (by omega)⟩,hE0.setRow (by omega) _⟩
 ·go_wp2_with (first
   | (refine wpList_store_row rfl 64 (.tmp 4) (.tmp 14) rfl _ _ rfl rfl _ _ H4.out Cg rfl (Mn 2) ?_))
  refine bodyPost_ret (v:=.agg (zrK 2)) (results_cell_row rfl _ _ _ _ _ _ _ rfl (setRow_heap w1 _ _ (zrK 2) 64 (0,0) H4.out) Tryz.underlying64 rfl Cg) rfl ?_;exact ⟨⟨_,by rw [Mm],Oz 2 (by omega)⟩,hE0.setRow (by omega) _⟩
 ·go_upto_region 8 with (fail)
  have hE1:=hE0.alloc (.cells zA 62);have H4':=Lib.hid (Af H4.out (.cells zA 62));have H5:=Ab w1 (.cells zA 62);rw [← Ee] at H5;have hg5:w.heap.size≤w1.heap.size:=hE0.size;have hg45:w.heap.size<w1.heap.size:=Ak H4.out;obtain ⟨w2,hw2⟩:∃ W,w1.alloc (.cells zA 62)=W:=⟨_,rfl⟩;rw [Ee,hw2] at H5;rw [← Ee] at H5;rw [hw2] at H4' hE1;simp only [hw2];clear hw2 H4;generalize w1.heap.size=g5 at *;have H5:=Lib.hid H5;clear hE0;go_wp2_with (fail);go_loopw [6] (fun vi W=>∃ (i:Nat) (c:Cls),i≤3∧vi=.int .i64 i∧Ext w W∧Hid (W.heap[w.heap.size]? = some (.cells Br 64 (0,0)))∧Hid (W.heap[g5]? = some (.cells (Aa c) 62 (0,0))))
   (fun vi _=>3-(intOf vi).toNat)
  case atStart=>exact ⟨0,_,by omega,rfl,hE1,H4',H5⟩
  case round=>
   clear hE1 H4' H5;obtain ⟨i,c,hi3,rfl,hE,H4,H5⟩:=hrel;have f140:=fun (b:Int) (h0:0≤b) (h1:b<256) W=>Lib.hid (Ajs c b h0 h1 W)
   by_cases hlt:i<3
   ·have hcase:i=0∨i=1∨i=2:=by omega
    rcases hcase with rfl|rfl|rfl
    ·go_wp2_with (first
      | (refine wpList_load_row rfl 62 (.tmp 5) rfl _ rfl _ _ _ _ H5.out Tryz.underlying62 rfl Au ?_)
      | (go_at_call 140;(with_reducible refine (f140 _ (by omega) (by omega) _).out.mono ?_);rintro e w3 ⟨⟨c',rfl⟩,hE3⟩;have H43:=Lib.hid (hE3.heap H4.out);have H53:=Lib.hid (hE3.heap H5.out);have hE4:=hE.trans hE3;clear hE3)
      | (refine wpList_store_row rfl 62 (.tmp 5) (.tmp 37) rfl _ _ rfl rfl _ _ H53.out Au rfl (De _) ?_))
     all_goals
      go_roundw
      case rel=>first
       | exact ⟨1,c',by omega,rfl,hE4.setRow hg5 _,Lib.hid (Bg H43.out (by omega) _),Lib.hid (setRow_heap _ _ _ _ _ _ H53.out)⟩
       | exact ⟨1,c,by omega,rfl,hE,H4,H5⟩
      case measure=>simp [intOf]
    ·go_wp2_with (first
      | (refine wpList_load_row rfl 62 (.tmp 5) rfl _ rfl _ _ _ _ H5.out Tryz.underlying62 rfl Au ?_)
      | (go_at_call 140;(with_reducible refine (f140 _ (by omega) (by omega) _).out.mono ?_);rintro e w3 ⟨⟨c',rfl⟩,hE3⟩;have H43:=Lib.hid (hE3.heap H4.out);have H53:=Lib.hid (hE3.heap H5.out);have hE4:=hE.trans hE3;clear hE3)
      | (refine wpList_store_row rfl 62 (.tmp 5) (.tmp 37) rfl _ _ rfl rfl _ _ H53.out Au rfl (De _) ?_))
     all_goals
      go_roundw
      case rel=>first
       | exact ⟨2,c',by omega,rfl,hE4.setRow hg5 _,Lib.hid (Bg H43.out (by omega) _),Lib.hid (setRow_heap _ _ _ _ _ _ H53.out)⟩
       | exact ⟨2,c,by omega,rfl,hE,H4,H5⟩
      case measure=>simp [intOf]
    ·go_wp2_with (first
      | (refine wpList_load_row rfl 62 (.tmp 5) rfl _ rfl _ _ _ _ H5.out Tryz.underlying62 rfl Au ?_)
      | (go_at_call 140;(with_reducible refine (f140 _ (by omega) (by omega) _).out.mono ?_);rintro e w3 ⟨⟨c',rfl⟩,hE3⟩;have H43:=Lib.hid (hE3.heap H4.out);have H53:=Lib.hid (hE3.heap H5.out);have hE4:=hE.trans hE3;clear hE3)
      | (refine wpList_store_row rfl 62 (.tmp 5) (.tmp 37) rfl _ _ rfl rfl _ _ H53.out Au rfl (De _) ?_))
     all_goals
      go_roundw
      case rel=>first
       | exact ⟨3,c',by omega,rfl,hE4.setRow hg5 _,Lib.hid (Bg H43.out (by omega) _),Lib.hid (setRow_heap _ _ _ _ _ _ H53.out)⟩
       | exact ⟨3,c,by omega,rfl,hE,H4,H5⟩
      case measure=>simp [intOf]
   ·obtain rfl:i=3:=by omega
    clear f140;by_cases hq8:q<8
    ·go_wp2_with (first
      | (refine wpList_load_row rfl 62 (.tmp 5) rfl _ rfl _ _ _ _ H5.out Tryz.underlying62 rfl Au ?_)
      | (refine wpList_store_row rfl 64 (.tmp 4) (.tmp 55) rfl _ _ rfl rfl _ _ H4.out Cg rfl (by simp [Value.oneCell']) ?_))
     refine bodyPost_ret (v:=.agg (rnC ⟨3,0,0,c,0,0⟩)) (results_cell_row rfl _ _ _ _ _ _ _ rfl (setRow_heap wr _ _ (rnC ⟨3,0,0,c,0,0⟩) 64 (0,0) H4.out) Tryz.underlying64 rfl Cg) rfl ?_;exact ⟨⟨_,rfl,Pv c⟩,hE.setRow (by omega) _⟩
    ·have f141:=fun W=>Lib.hid (Ajm W)
     go_upto_region 15 with (first
      | (go_at_call 141;(with_reducible refine (f141 _).out.mono ?_);rintro e w3 ⟨⟨c2,rfl⟩,hE3⟩;have H4:=Lib.hid (hE3.heap H4.out);have H5:=Lib.hid (hE3.heap H5.out);have hE:=hE.trans hE3;clear hE3)
      | (refine wpList_store_row rfl 62 (.tmp 7) (.tmp 40) rfl _ _ rfl rfl _ _ (Ab w3 (.cells zA 62)) Au rfl (De _) ?_))
     have hEb:=(hE.alloc (.cells zA 62)).setRow (g:=w3.heap.size) hE.size (Aa c2);have hg57:g5≠w3.heap.size:=by have:=Ak H5.out;omega
     have H7:=Lib.hid (setRow_heap (w3.alloc (.cells zA 62)) w3.heap.size _ (Aa c2) _ _ (Ab w3 (.cells zA 62)));have H4:=Lib.hid (Bg (Af H4.out (.cells zA 62)) (show w.heap.size≠w3.heap.size by have:=Ak H4.out;omega) (Aa c2));have H5:=Lib.hid (Bg (Af H5.out (.cells zA 62)) (show g5≠w3.heap.size by have:=Ak H5.out;omega) (Aa c2));obtain ⟨w4,hw4⟩:∃ W,(w3.alloc (.cells zA 62)).setRow w3.heap.size (Aa c2)=W:=⟨_,rfl⟩;rw [hw4] at hEb H4 H5 H7;simp only [hw4];clear hw4 hE;generalize w3.heap.size=g7 at *;go_wp2_with (fail);go_loopw [8] (fun vi W=>∃ (i:Nat) (c:Cls),i≤4∧vi=.int .i64 i∧Ext w W∧Hid (W.heap[w.heap.size]? = some (.cells Br 64 (0,0)))∧Hid (W.heap[g5]? = some (.cells (Aa c) 62 (0,0)))∧Hid (W.heap[g7]? = some (.cells (Aa c2) 62 (0,0))))
      (fun vi _=>4-(intOf vi).toNat)
     case atStart=>exact ⟨0,c,by omega,rfl,hEb,H4,H5,H7⟩
     case round=>
      clear hEb H4 H5 H7;obtain ⟨i,c,hi4,rfl,hE,H4,H5,H7⟩:=hrel;by_cases hlt:i<4
      ·have hltI:(i:Int)<4:=by omega
       obtain ⟨wo,hwo⟩:∃ W,W=wr:=⟨_,rfl⟩;subst hwo;have c5:=(cell_of_row wo.drew g5 i _ _ _ H5.out).trans (E1 c i hlt);have c7:=(cell_of_row wo.drew g7 i _ _ _ H7.out).trans (E1 c2 i hlt);have z5:=frozen_of_row wo.drew g5 i _ _ H5.out;have hx:Hid (∃ c',(Aa c).setIfInBounds i (.int .u64 (bits .xor .u64 (wd c2 i) (wd c i)))=Aa c'):=Lib.hid (by
        unfold wd;rw [u64_xor_nat _ _ (B9 _ _) (B9 _ _)];exact Ahx c i hlt _ (Nat.xor_lt_two_pow (n:=64) (B9 _ _) (B9 _ _)))
       have hb1:=E7 c i;have hb2:=E7 c2 i;go_upto_region 18 with (fail)
       go_region
       all_goals
        obtain ⟨c',hc'⟩:=hx.out;rw [setCell_eq_setRow wo _ _ _ _ _ _ H5.out,hc'];have hE':=(hE.setRow hg5 (Aa c')).drew;have H4':Hid ((wo.setRow g5 (Aa c')).drew.heap[w.heap.size]? = some (.cells Br 64 (0,0))):=Lib.hid (Bg H4.out (by omega) (Aa c'));have H5':Hid ((wo.setRow g5 (Aa c')).drew.heap[g5]? = some (.cells (Aa c') 62 (0,0))):=Lib.hid (setRow_heap wo g5 _ _ _ _ H5.out);have H7':Hid ((wo.setRow g5 (Aa c')).drew.heap[g7]? = some (.cells (Aa c2) 62 (0,0))):=Lib.hid (Bg H7.out (by omega) (Aa c'));generalize (wo.setRow g5 (Aa c')).drew=w9 at *;go_wp2;go_roundw
        case rel=>exact ⟨i+1,c',by omega,by go_num,hE',H4',H5',H7'⟩
        case measure=>simp [intOf];omega
      ·obtain rfl:i=4:=by omega
       go_wp2_with (first
        | (refine wpList_load_row rfl 62 (.tmp 5) rfl _ rfl _ _ _ _ H5.out Tryz.underlying62 rfl Au ?_)
        | (refine wpList_store_row rfl 64 (.tmp 4) (.tmp 55) rfl _ _ rfl rfl _ _ H4.out Cg rfl (by simp [Value.oneCell']) ?_))
       refine bodyPost_ret (v:=.agg (rnC ⟨3,0,0,c,0,0⟩)) (results_cell_row rfl _ _ _ _ _ _ _ rfl (setRow_heap wr _ _ (rnC ⟨3,0,0,c,0,0⟩) 64 (0,0) H4.out) Tryz.underlying64 rfl Cg) rfl ?_;exact ⟨⟨_,rfl,Pv c⟩,hE.setRow (by omega) _⟩
 ·have b0:((k:Int)==0)=false:=by simp;omega
  have b1:((k:Int)==1)=false:=by simp;omega
  have b3:((k:Int) != 3)=true:=by simp;omega
  have b3':((k:Int)==3)=false:=by simp;omega
  have f139:=fun (b:Int) (h0:0≤b) (h1:b<256) W=>Lib.hid (Ac9 b h0 h1 W)
  go_wp2_with (first
   | (go_at_call 139;(with_reducible refine (f139 _ (by omega) (by omega) _).out.mono ?_);rintro e w2 ⟨⟨c,rfl⟩,hE2⟩;have H2:=Lib.hid (hE2.heap H4.out);have hE3:=hE0.trans hE2;clear hE2)
   | (refine wpList_store_row rfl 64 (.tmp 4) (.tmp 22) rfl _ _ rfl rfl _ _ H2.out Cg rfl (by simp [Value.oneCell']) ?_))
  refine bodyPost_ret (v:=.agg (rnC ⟨3,0,0,c,0,0⟩)) (results_cell_row rfl _ _ _ _ _ _ _ rfl (setRow_heap w2 _ _ (rnC ⟨3,0,0,c,0,0⟩) 64 (0,0) H2.out) Tryz.underlying64 rfl Cg) rfl ?_;exact ⟨⟨_,rfl,Pv c⟩,hE3.setRow (by omega) _⟩
end Go.Proofs.YtaiogolidlamiaaGreatDoor
