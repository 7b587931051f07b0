import Derived.Test.YtaiogolidlamiaaGreatDoorE02
import Derived.Test.YtaiogolidlamiaaGreatDoorE01
set_option linter.unusedVariables false
set_option linter.unusedSimpArgs false
namespace Go.Proofs.YtaiogolidlamiaaGreatDoor
set_option maxRecDepth 100000
open Go.RowKit Go.Shelf
set_option maxHeartbeats 4000000 in
theorem Abm (ss:List (List RNode)) (hss:OkS ss) (ht:Cj ss≤4194304) (hl:ss.length≤4194304) (x:Nat) (hx:x<256) (h2:x % 14=4∨x % 14=5∨x % 14=6∨x % 14=13→ss.length<2) (h1:7≤x % 14∧x % 14≤11→ss.length<1) (v:Value) (w:World) (h:StkV w v ss) :
  Calls Tryz.prog 81 #[v,.int .u8 x] w (Ih ss x w):=by
 have HS:=Lib.hid h;obtain ⟨vs,hvl,hS,-⟩:=h;obtain ⟨a,cap,rfl⟩:=Sl.len hS;have HP:=fun (m:RNode) (hm:m.ok 0)=>Lib.hid (Abp hss m x (fun ⟨e,e2⟩=>by have:=h2 (by omega);omega) hm)
 obtain ⟨q,hq⟩:∃ q:Nat,x / 14=q:=⟨_,rfl⟩;have HQ:Hid ((x:Int) / 14=(q:Int)):=Lib.hid (by omega);have hq19:q<19:=by omega
 obtain ⟨k,hk⟩:∃ k:Nat,x % 14=k:=⟨_,rfl⟩;have hk14:k<14:=by omega
 have HK:Hid ((x:Int) % 14=(k:Int)):=Lib.hid (by omega);rw [hk] at h1 h2;have f114:=fun W=>Lib.hid (Ae7 k q hk14 hq19 W)
 have HW:=fun (m:RNode) W (hW:Ext w W) (vx:Value) (hx:RxV W vx [m])=>Lib.hid (Q4 ss ss.length (Nat.le_refl _) (by omega) [m] _ vx W (HS.out.ext hW) hx)
 obtain ⟨N,hN⟩:∃ N,ss.length=N:=⟨_,rfl⟩;have HT:Hid (∀ y:List RNode,ss.take N++[y]=ss.take ss.length++[y]):=Lib.hid fun y=>by rw [hN]
 rw [hN] at h1 h2 hl HW;rw [hN];clear hss ht hvl hS hq hk hN;have hE:=Ext.refl w;have hcase:k=0∨k=1∨k=2∨k=3∨k=4∨k=5∨k=6∨k=7∨k=8∨k=9∨k=10∨k=11∨k=12∨k=13:=by omega
 rcases hcase with rfl|rfl|rfl|rfl|rfl|rfl|rfl|rfl|rfl|rfl|rfl|rfl|rfl|rfl
 ·have HK0:Hid ((x:Int) % 14=0):=Lib.hid HK.out;have f:=fun W=>Lib.hid (show Calls Tryz.prog 114 #[.int .i64 (0:Int),iv q] W (fun e w'=>(∃ n:RNode,e=.returned (.agg (rnC n))∧n.ok 0)∧Ext W w') from (f114 W).out)
  clear h1 h2 hk14 HK f114;go_enter Tryz.func81,Tryz.ntmps81;go_upto_region 4 with (fail)
  simp only [HK0.out,HQ.out];go_upto_region 24 with (fail)
  all_goals
   go_wp2_with (first
    | (go_at_call 114;(with_reducible refine (f _).out.mono ?_);rintro e w2 ⟨⟨m,rfl,hm⟩,hE2⟩;have HPm:=HP m hm;clear hm)
    | (refine Cb rfl [m] 1 rfl (by simp) (by simp) _ rfl (by go_simp) ?_)
    | (go_at_call 113;have hrx:RxV (w2.alloc (.cells (flR [m]).toArray 64)) (.slice (some ⟨w2.heap.size,0,none⟩) 1 1) [m]:=⟨w2.heap.size,0,1,rfl,Cv (Ab w2 (.cells (flR [m]).toArray 64))⟩;have hEx:=(hE.trans hE2).alloc (.cells (flR [m]).toArray 64);(with_reducible refine (HW m _ hEx _ hrx).out.mono ?_);rintro e w3 ⟨⟨v',rfl,hv'⟩,hE3⟩;have HV:=Lib.hid hv';clear hv'))
   go_ret;exact ⟨⟨v',_,rfl,by rw [← HT.out];exact HV.out,HPm.out⟩,((hE.trans hE2).alloc _).trans hE3⟩
 ·have HK0:Hid ((x:Int) % 14=1):=Lib.hid HK.out;have f:=fun W=>Lib.hid (show Calls Tryz.prog 114 #[.int .i64 (1:Int),iv q] W (fun e w'=>(∃ n:RNode,e=.returned (.agg (rnC n))∧n.ok 0)∧Ext W w') from (f114 W).out)
  clear h1 h2 hk14 HK f114;go_enter Tryz.func81,Tryz.ntmps81;go_upto_region 4 with (fail)
  simp only [HK0.out,HQ.out];go_upto_region 24 with (fail)
  all_goals
   go_wp2_with (first
    | (go_at_call 114;(with_reducible refine (f _).out.mono ?_);rintro e w2 ⟨⟨m,rfl,hm⟩,hE2⟩;have HPm:=HP m hm;clear hm)
    | (refine Cb rfl [m] 1 rfl (by simp) (by simp) _ rfl (by go_simp) ?_)
    | (go_at_call 113;have hrx:RxV (w2.alloc (.cells (flR [m]).toArray 64)) (.slice (some ⟨w2.heap.size,0,none⟩) 1 1) [m]:=⟨w2.heap.size,0,1,rfl,Cv (Ab w2 (.cells (flR [m]).toArray 64))⟩;have hEx:=(hE.trans hE2).alloc (.cells (flR [m]).toArray 64);(with_reducible refine (HW m _ hEx _ hrx).out.mono ?_);rintro e w3 ⟨⟨v',rfl,hv'⟩,hE3⟩;have HV:=Lib.hid hv';clear hv'))
   go_ret;exact ⟨⟨v',_,rfl,by rw [← HT.out];exact HV.out,HPm.out⟩,((hE.trans hE2).alloc _).trans hE3⟩
 ·have HK0:Hid ((x:Int) % 14=2):=Lib.hid HK.out;have f:=fun W=>Lib.hid (show Calls Tryz.prog 114 #[.int .i64 (2:Int),iv q] W (fun e w'=>(∃ n:RNode,e=.returned (.agg (rnC n))∧n.ok 0)∧Ext W w') from (f114 W).out)
  clear h1 h2 hk14 HK f114;go_enter Tryz.func81,Tryz.ntmps81;go_upto_region 4 with (fail)
  simp only [HK0.out,HQ.out];go_upto_region 24 with (fail)
  all_goals
   go_wp2_with (first
    | (go_at_call 114;(with_reducible refine (f _).out.mono ?_);rintro e w2 ⟨⟨m,rfl,hm⟩,hE2⟩;have HPm:=HP m hm;clear hm)
    | (refine Cb rfl [m] 1 rfl (by simp) (by simp) _ rfl (by go_simp) ?_)
    | (go_at_call 113;have hrx:RxV (w2.alloc (.cells (flR [m]).toArray 64)) (.slice (some ⟨w2.heap.size,0,none⟩) 1 1) [m]:=⟨w2.heap.size,0,1,rfl,Cv (Ab w2 (.cells (flR [m]).toArray 64))⟩;have hEx:=(hE.trans hE2).alloc (.cells (flR [m]).toArray 64);(with_reducible refine (HW m _ hEx _ hrx).out.mono ?_);rintro e w3 ⟨⟨v',rfl,hv'⟩,hE3⟩;have HV:=Lib.hid hv';clear hv'))
   go_ret;exact ⟨⟨v',_,rfl,by rw [← HT.out];exact HV.out,HPm.out⟩,((hE.trans hE2).alloc _).trans hE3⟩
 ·have HK0:Hid ((x:Int) % 14=3):=Lib.hid HK.out;have f:=fun W=>Lib.hid (show Calls Tryz.prog 114 #[.int .i64 (3:Int),iv q] W (fun e w'=>(∃ n:RNode,e=.returned (.agg (rnC n))∧n.ok 0)∧Ext W w') from (f114 W).out)
  clear h1 h2 hk14 HK f114;go_enter Tryz.func81,Tryz.ntmps81;go_upto_region 4 with (fail)
  simp only [HK0.out,HQ.out];go_upto_region 24 with (fail)
  all_goals
   go_wp2_with (first
    | (go_at_call 114;(with_reducible refine (f _).out.mono ?_);rintro e w2 ⟨⟨m,rfl,hm⟩,hE2⟩;have HPm:=HP m hm;clear hm)
    | (refine Cb rfl [m] 1 rfl (by simp) (by simp) _ rfl (by go_simp) ?_)
    | (go_at_call 113;have hrx:RxV (w2.alloc (.cells (flR [m]).toArray 64)) (.slice (some ⟨w2.heap.size,0,none⟩) 1 1) [m]:=⟨w2.heap.size,0,1,rfl,Cv (Ab w2 (.cells (flR [m]).toArray 64))⟩;have hEx:=(hE.trans hE2).alloc (.cells (flR [m]).toArray 64);(with_reducible refine (HW m _ hEx _ hrx).out.mono ?_);rintro e w3 ⟨⟨v',rfl,hv'⟩,hE3⟩;have HV:=Lib.hid hv';clear hv'))
   go_ret;exact ⟨⟨v',_,rfl,by rw [← HT.out];exact HV.out,HPm.out⟩,((hE.trans hE2).alloc _).trans hE3⟩
 ·have HK0:Hid ((x:Int) % 14=4):=Lib.hid HK.out;have hd:¬ (2:Int)≤(N:Int):=by have:=h2 (by omega);omega
  have f:=fun W=>Lib.hid (show Calls Tryz.prog 114 #[.int .i64 (4:Int),iv q] W (fun e w'=>(∃ n:RNode,e=.returned (.agg (rnC n))∧n.ok 0)∧Ext W w') from (f114 W).out)
  clear h1 h2 hk14 HK f114;go_enter Tryz.func81,Tryz.ntmps81;go_upto_region 4 with (fail)
  simp only [HK0.out,HQ.out];go_upto_region 24 with (fail)
  all_goals
   go_wp2_with (first
    | (go_at_call 114;(with_reducible refine (f _).out.mono ?_);rintro e w2 ⟨⟨m,rfl,hm⟩,hE2⟩;have HPm:=HP m hm;clear hm)
    | (refine Cb rfl [m] 1 rfl (by simp) (by simp) _ rfl (by go_simp) ?_)
    | (go_at_call 113;have hrx:RxV (w2.alloc (.cells (flR [m]).toArray 64)) (.slice (some ⟨w2.heap.size,0,none⟩) 1 1) [m]:=⟨w2.heap.size,0,1,rfl,Cv (Ab w2 (.cells (flR [m]).toArray 64))⟩;have hEx:=(hE.trans hE2).alloc (.cells (flR [m]).toArray 64);(with_reducible refine (HW m _ hEx _ hrx).out.mono ?_);rintro e w3 ⟨⟨v',rfl,hv'⟩,hE3⟩;have HV:=Lib.hid hv';clear hv'))
   go_ret;exact ⟨⟨v',_,rfl,by rw [← HT.out];exact HV.out,HPm.out⟩,((hE.trans hE2).alloc _).trans hE3⟩
 ·have HK0:Hid ((x:Int) % 14=5):=Lib.hid HK.out;have hd:¬ (2:Int)≤(N:Int):=by have:=h2 (by omega);omega
  have f:=fun W=>Lib.hid (show Calls Tryz.prog 114 #[.int .i64 (5:Int),iv q] W (fun e w'=>(∃ n:RNode,e=.returned (.agg (rnC n))∧n.ok 0)∧Ext W w') from (f114 W).out)
  clear h1 h2 hk14 HK f114;go_enter Tryz.func81,Tryz.ntmps81;go_upto_region 4 with (fail)
  simp only [HK0.out,HQ.out];go_upto_region 24 with (fail)
  all_goals
   go_wp2_with (first
    | (go_at_call 114;(with_reducible refine (f _).out.mono ?_);rintro e w2 ⟨⟨m,rfl,hm⟩,hE2⟩;have HPm:=HP m hm;clear hm)
    | (refine Cb rfl [m] 1 rfl (by simp) (by simp) _ rfl (by go_simp) ?_)
    | (go_at_call 113;have hrx:RxV (w2.alloc (.cells (flR [m]).toArray 64)) (.slice (some ⟨w2.heap.size,0,none⟩) 1 1) [m]:=⟨w2.heap.size,0,1,rfl,Cv (Ab w2 (.cells (flR [m]).toArray 64))⟩;have hEx:=(hE.trans hE2).alloc (.cells (flR [m]).toArray 64);(with_reducible refine (HW m _ hEx _ hrx).out.mono ?_);rintro e w3 ⟨⟨v',rfl,hv'⟩,hE3⟩;have HV:=Lib.hid hv';clear hv'))
   go_ret;exact ⟨⟨v',_,rfl,by rw [← HT.out];exact HV.out,HPm.out⟩,((hE.trans hE2).alloc _).trans hE3⟩
 ·have HK0:Hid ((x:Int) % 14=6):=Lib.hid HK.out;have hd:¬ (2:Int)≤(N:Int):=by have:=h2 (by omega);omega
  have f:=fun W=>Lib.hid (show Calls Tryz.prog 114 #[.int .i64 (6:Int),iv q] W (fun e w'=>(∃ n:RNode,e=.returned (.agg (rnC n))∧n.ok 0)∧Ext W w') from (f114 W).out)
  clear h1 h2 hk14 HK f114;go_enter Tryz.func81,Tryz.ntmps81;go_upto_region 4 with (fail)
  simp only [HK0.out,HQ.out];go_upto_region 24 with (fail)
  all_goals
   go_wp2_with (first
    | (go_at_call 114;(with_reducible refine (f _).out.mono ?_);rintro e w2 ⟨⟨m,rfl,hm⟩,hE2⟩;have HPm:=HP m hm;clear hm)
    | (refine Cb rfl [m] 1 rfl (by simp) (by simp) _ rfl (by go_simp) ?_)
    | (go_at_call 113;have hrx:RxV (w2.alloc (.cells (flR [m]).toArray 64)) (.slice (some ⟨w2.heap.size,0,none⟩) 1 1) [m]:=⟨w2.heap.size,0,1,rfl,Cv (Ab w2 (.cells (flR [m]).toArray 64))⟩;have hEx:=(hE.trans hE2).alloc (.cells (flR [m]).toArray 64);(with_reducible refine (HW m _ hEx _ hrx).out.mono ?_);rintro e w3 ⟨⟨v',rfl,hv'⟩,hE3⟩;have HV:=Lib.hid hv';clear hv'))
   go_ret;exact ⟨⟨v',_,rfl,by rw [← HT.out];exact HV.out,HPm.out⟩,((hE.trans hE2).alloc _).trans hE3⟩
 ·have HK0:Hid ((x:Int) % 14=7):=Lib.hid HK.out;have hd:¬ (2:Int)≤(N:Int):=by have:=h1 (by omega);omega
  have hd1:¬ (1:Int)≤(N:Int):=by have:=h1 (by omega);omega
  have f:=fun W=>Lib.hid (show Calls Tryz.prog 114 #[.int .i64 (7:Int),iv q] W (fun e w'=>(∃ n:RNode,e=.returned (.agg (rnC n))∧n.ok 0)∧Ext W w') from (f114 W).out)
  clear h1 h2 hk14 HK f114;go_enter Tryz.func81,Tryz.ntmps81;go_upto_region 4 with (fail)
  simp only [HK0.out,HQ.out];go_upto_region 24 with (fail)
  all_goals
   go_wp2_with (first
    | (go_at_call 114;(with_reducible refine (f _).out.mono ?_);rintro e w2 ⟨⟨m,rfl,hm⟩,hE2⟩;have HPm:=HP m hm;clear hm)
    | (refine Cb rfl [m] 1 rfl (by simp) (by simp) _ rfl (by go_simp) ?_)
    | (go_at_call 113;have hrx:RxV (w2.alloc (.cells (flR [m]).toArray 64)) (.slice (some ⟨w2.heap.size,0,none⟩) 1 1) [m]:=⟨w2.heap.size,0,1,rfl,Cv (Ab w2 (.cells (flR [m]).toArray 64))⟩;have hEx:=(hE.trans hE2).alloc (.cells (flR [m]).toArray 64);(with_reducible refine (HW m _ hEx _ hrx).out.mono ?_);rintro e w3 ⟨⟨v',rfl,hv'⟩,hE3⟩;have HV:=Lib.hid hv';clear hv'))
   go_ret;exact ⟨⟨v',_,rfl,by rw [← HT.out];exact HV.out,HPm.out⟩,((hE.trans hE2).alloc _).trans hE3⟩
 ·have HK0:Hid ((x:Int) % 14=8):=Lib.hid HK.out;have hd:¬ (2:Int)≤(N:Int):=by have:=h1 (by omega);omega
  have hd1:¬ (1:Int)≤(N:Int):=by have:=h1 (by omega);omega
  have f:=fun W=>Lib.hid (show Calls Tryz.prog 114 #[.int .i64 (8:Int),iv q] W (fun e w'=>(∃ n:RNode,e=.returned (.agg (rnC n))∧n.ok 0)∧Ext W w') from (f114 W).out)
  clear h1 h2 hk14 HK f114;go_enter Tryz.func81,Tryz.ntmps81;go_upto_region 4 with (fail)
  simp only [HK0.out,HQ.out];go_upto_region 24 with (fail)
  all_goals
   go_wp2_with (first
    | (go_at_call 114;(with_reducible refine (f _).out.mono ?_);rintro e w2 ⟨⟨m,rfl,hm⟩,hE2⟩;have HPm:=HP m hm;clear hm)
    | (refine Cb rfl [m] 1 rfl (by simp) (by simp) _ rfl (by go_simp) ?_)
    | (go_at_call 113;have hrx:RxV (w2.alloc (.cells (flR [m]).toArray 64)) (.slice (some ⟨w2.heap.size,0,none⟩) 1 1) [m]:=⟨w2.heap.size,0,1,rfl,Cv (Ab w2 (.cells (flR [m]).toArray 64))⟩;have hEx:=(hE.trans hE2).alloc (.cells (flR [m]).toArray 64);(with_reducible refine (HW m _ hEx _ hrx).out.mono ?_);rintro e w3 ⟨⟨v',rfl,hv'⟩,hE3⟩;have HV:=Lib.hid hv';clear hv'))
   go_ret;exact ⟨⟨v',_,rfl,by rw [← HT.out];exact HV.out,HPm.out⟩,((hE.trans hE2).alloc _).trans hE3⟩
 ·have HK0:Hid ((x:Int) % 14=9):=Lib.hid HK.out;have hd:¬ (2:Int)≤(N:Int):=by have:=h1 (by omega);omega
  have hd1:¬ (1:Int)≤(N:Int):=by have:=h1 (by omega);omega
  have f:=fun W=>Lib.hid (show Calls Tryz.prog 114 #[.int .i64 (9:Int),iv q] W (fun e w'=>(∃ n:RNode,e=.returned (.agg (rnC n))∧n.ok 0)∧Ext W w') from (f114 W).out)
  clear h1 h2 hk14 HK f114;go_enter Tryz.func81,Tryz.ntmps81;go_upto_region 4 with (fail)
  simp only [HK0.out,HQ.out];go_upto_region 24 with (fail)
  all_goals
   go_wp2_with (first
    | (go_at_call 114;(with_reducible refine (f _).out.mono ?_);rintro e w2 ⟨⟨m,rfl,hm⟩,hE2⟩;have HPm:=HP m hm;clear hm)
    | (refine Cb rfl [m] 1 rfl (by simp) (by simp) _ rfl (by go_simp) ?_)
    | (go_at_call 113;have hrx:RxV (w2.alloc (.cells (flR [m]).toArray 64)) (.slice (some ⟨w2.heap.size,0,none⟩) 1 1) [m]:=⟨w2.heap.size,0,1,rfl,Cv (Ab w2 (.cells (flR [m]).toArray 64))⟩;have hEx:=(hE.trans hE2).alloc (.cells (flR [m]).toArray 64);(with_reducible refine (HW m _ hEx _ hrx).out.mono ?_);rintro e w3 ⟨⟨v',rfl,hv'⟩,hE3⟩;have HV:=Lib.hid hv';clear hv'))
   go_ret;exact ⟨⟨v',_,rfl,by rw [← HT.out];exact HV.out,HPm.out⟩,((hE.trans hE2).alloc _).trans hE3⟩
 ·have HK0:Hid ((x:Int) % 14=10):=Lib.hid HK.out;have hd:¬ (2:Int)≤(N:Int):=by have:=h1 (by omega);omega
  have hd1:¬ (1:Int)≤(N:Int):=by have:=h1 (by omega);omega
  have f:=fun W=>Lib.hid (show Calls Tryz.prog 114 #[.int .i64 (10:Int),iv q] W (fun e w'=>(∃ n:RNode,e=.returned (.agg (rnC n))∧n.ok 0)∧Ext W w') from (f114 W).out)
  clear h1 h2 hk14 HK f114;go_enter Tryz.func81,Tryz.ntmps81;go_upto_region 4 with (fail)
  simp only [HK0.out,HQ.out];go_upto_region 24 with (fail)
  all_goals
   go_wp2_with (first
    | (go_at_call 114;(with_reducible refine (f _).out.mono ?_);rintro e w2 ⟨⟨m,rfl,hm⟩,hE2⟩;have HPm:=HP m hm;clear hm)
    | (refine Cb rfl [m] 1 rfl (by simp) (by simp) _ rfl (by go_simp) ?_)
    | (go_at_call 113;have hrx:RxV (w2.alloc (.cells (flR [m]).toArray 64)) (.slice (some ⟨w2.heap.size,0,none⟩) 1 1) [m]:=⟨w2.heap.size,0,1,rfl,Cv (Ab w2 (.cells (flR [m]).toArray 64))⟩;have hEx:=(hE.trans hE2).alloc (.cells (flR [m]).toArray 64);(with_reducible refine (HW m _ hEx _ hrx).out.mono ?_);rintro e w3 ⟨⟨v',rfl,hv'⟩,hE3⟩;have HV:=Lib.hid hv';clear hv'))
   go_ret;exact ⟨⟨v',_,rfl,by rw [← HT.out];exact HV.out,HPm.out⟩,((hE.trans hE2).alloc _).trans hE3⟩
 ·have HK0:Hid ((x:Int) % 14=11):=Lib.hid HK.out;have hd:¬ (2:Int)≤(N:Int):=by have:=h1 (by omega);omega
  have hd1:¬ (1:Int)≤(N:Int):=by have:=h1 (by omega);omega
  have f:=fun W=>Lib.hid (show Calls Tryz.prog 114 #[.int .i64 (11:Int),iv q] W (fun e w'=>(∃ n:RNode,e=.returned (.agg (rnC n))∧n.ok 0)∧Ext W w') from (f114 W).out)
  clear h1 h2 hk14 HK f114;go_enter Tryz.func81,Tryz.ntmps81;go_upto_region 4 with (fail)
  simp only [HK0.out,HQ.out];go_upto_region 24 with (fail)
  all_goals
   go_wp2_with (first
    | (go_at_call 114;(with_reducible refine (f _).out.mono ?_);rintro e w2 ⟨⟨m,rfl,hm⟩,hE2⟩;have HPm:=HP m hm;clear hm)
    | (refine Cb rfl [m] 1 rfl (by simp) (by simp) _ rfl (by go_simp) ?_)
    | (go_at_call 113;have hrx:RxV (w2.alloc (.cells (flR [m]).toArray 64)) (.slice (some ⟨w2.heap.size,0,none⟩) 1 1) [m]:=⟨w2.heap.size,0,1,rfl,Cv (Ab w2 (.cells (flR [m]).toArray 64))⟩;have hEx:=(hE.trans hE2).alloc (.cells (flR [m]).toArray 64);(with_reducible refine (HW m _ hEx _ hrx).out.mono ?_);rintro e w3 ⟨⟨v',rfl,hv'⟩,hE3⟩;have HV:=Lib.hid hv';clear hv'))
   go_ret;exact ⟨⟨v',_,rfl,by rw [← HT.out];exact HV.out,HPm.out⟩,((hE.trans hE2).alloc _).trans hE3⟩
 ·have HK0:Hid ((x:Int) % 14=12):=Lib.hid HK.out;have f:=fun W=>Lib.hid (show Calls Tryz.prog 114 #[.int .i64 (12:Int),iv q] W (fun e w'=>(∃ n:RNode,e=.returned (.agg (rnC n))∧n.ok 0)∧Ext W w') from (f114 W).out)
  clear h1 h2 hk14 HK f114;go_enter Tryz.func81,Tryz.ntmps81;go_upto_region 4 with (fail)
  simp only [HK0.out,HQ.out];go_upto_region 24 with (fail)
  all_goals
   go_wp2_with (first
    | (go_at_call 114;(with_reducible refine (f _).out.mono ?_);rintro e w2 ⟨⟨m,rfl,hm⟩,hE2⟩;have HPm:=HP m hm;clear hm)
    | (refine Cb rfl [m] 1 rfl (by simp) (by simp) _ rfl (by go_simp) ?_)
    | (go_at_call 113;have hrx:RxV (w2.alloc (.cells (flR [m]).toArray 64)) (.slice (some ⟨w2.heap.size,0,none⟩) 1 1) [m]:=⟨w2.heap.size,0,1,rfl,Cv (Ab w2 (.cells (flR [m]).toArray 64))⟩;have hEx:=(hE.trans hE2).alloc (.cells (flR [m]).toArray 64);(with_reducible refine (HW m _ hEx _ hrx).out.mono ?_);rintro e w3 ⟨⟨v',rfl,hv'⟩,hE3⟩;have HV:=Lib.hid hv';clear hv'))
   go_ret;exact ⟨⟨v',_,rfl,by rw [← HT.out];exact HV.out,HPm.out⟩,((hE.trans hE2).alloc _).trans hE3⟩
 ·have HK0:Hid ((x:Int) % 14=13):=Lib.hid HK.out;have hd:¬ (2:Int)≤(N:Int):=by have:=h2 (by omega);omega
  have f:=fun W=>Lib.hid (show Calls Tryz.prog 114 #[.int .i64 (13:Int),iv q] W (fun e w'=>(∃ n:RNode,e=.returned (.agg (rnC n))∧n.ok 0)∧Ext W w') from (f114 W).out)
  clear h1 h2 hk14 HK f114;go_enter Tryz.func81,Tryz.ntmps81;go_upto_region 4 with (fail)
  simp only [HK0.out,HQ.out];go_upto_region 24 with (fail)
  all_goals
   go_wp2_with (first
    | (go_at_call 114;(with_reducible refine (f _).out.mono ?_);rintro e w2 ⟨⟨m,rfl,hm⟩,hE2⟩;have HPm:=HP m hm;clear hm)
    | (refine Cb rfl [m] 1 rfl (by simp) (by simp) _ rfl (by go_simp) ?_)
    | (go_at_call 113;have hrx:RxV (w2.alloc (.cells (flR [m]).toArray 64)) (.slice (some ⟨w2.heap.size,0,none⟩) 1 1) [m]:=⟨w2.heap.size,0,1,rfl,Cv (Ab w2 (.cells (flR [m]).toArray 64))⟩;have hEx:=(hE.trans hE2).alloc (.cells (flR [m]).toArray 64);(with_reducible refine (HW m _ hEx _ hrx).out.mono ?_);rintro e w3 ⟨⟨v',rfl,hv'⟩,hE3⟩;have HV:=Lib.hid hv';clear hv'))
   go_ret;exact ⟨⟨v',_,rfl,by rw [← HT.out];exact HV.out,HPm.out⟩,((hE.trans hE2).alloc _).trans hE3⟩
theorem Abn (ss:List (List RNode)) (hss:OkS ss) (ht:Cj ss≤4194304) (hl:ss.length≤4194304) (x:Nat) (hx:x<256) (v:Value) (w:World) (h:StkV w v ss) :
  Calls Tryz.prog 81 #[v,.int .u8 x] w (Ih ss x w):=by
 by_cases h2:(x % 14=4∨x % 14=5∨x % 14=6∨x % 14=13)∧2≤ss.length
 ·exact Abk ss hss ht hl x hx (ss.length-2) (by omega) h2.1 v w h
 ·by_cases h1:(7≤x % 14∧x % 14≤11)∧1≤ss.length
  ·exact Abl ss hss ht hl x hx (ss.length-1) (by omega) h1.1 v w h
  ·exact Abm ss hss ht hl x hx (fun hk=>by
    rcases Nat.lt_or_ge ss.length 2 with h|h
    ·exact h
    ·exact absurd ⟨hk,h⟩ h2) (fun hk=>by
    rcases Nat.lt_or_ge ss.length 1 with h|h
    ·exact h
    ·exact absurd ⟨hk,h⟩ h1) v w h
def ByC (W:World) (v:Value) (l:List UInt8):Prop:=ByW W v l∧∃ a c,v=.slice a l.length c∧l.length≤c
theorem ByC.ext {W W':World} {v:Value} {l:List UInt8} (h:ByC W v l) (hE:Ext W W'):ByC W' v l:=⟨h.1.ext hE,h.2⟩
theorem ByC.take {W:World} {a:Option Addr} {c:Nat} {l:List UInt8} (h:ByC W (.slice a l.length c) l) (n:Nat) (hn:n≤l.length):ByC W (.slice a n c) (l.take n):=by
 obtain ⟨⟨h63,h0⟩,a',c',e,hc⟩:=h;injection e with _ _ e
 subst e;have hl:(l.take n).length=n:=by rw [List.length_take];omega
 refine ⟨⟨by omega,?_⟩,a,c,by rw [hl],by omega⟩;rw [hl];by_cases hz:n=0
 ·subst hz;exact .inl ⟨rfl,_,_,rfl⟩
 ·rcases h0 with ⟨h1,_⟩|⟨h1,b,off,cap,hv,hb,hcell⟩
  ·omega
  ·injection hv with hv1 _ hv2
   subst hv1 hv2;refine .inr ⟨by omega,b,off,_,rfl,hb,fun i hi=>?_⟩;rw [hcell i (by omega)]
   congr 2
   rw [List.getD_eq_getElem?_getD,List.getD_eq_getElem?_getD,List.getElem?_take,if_pos hi]
def Ki:Value→Nat
 | .slice _ n _=>n
 | _=>0
def Ajx (most:Nat) (w:World) (e:Ending) (w':World):Prop:=(∃ v' xs,e=.returned v'∧RxV w' v' xs∧WRx xs∧xs.length≤most)∧Ext w w'
theorem Y3 (W:World) (a:Option Addr) (c:Nat):StkV W (.slice a 0 c) []:=⟨[],rfl,⟨by simp,.inl ⟨rfl,_,_,rfl⟩⟩,fun i hi=>absurd hi (by simp)⟩
theorem Adb:OkS []:=fun i hi=>absurd hi (by simp)
theorem Ae8:RNode.ok ⟨2,0,0,0#256,0,0⟩ 0:=Oz 2 (by omega)
set_option maxHeartbeats 4000000 in
theorem Aeg (most:Nat) (hm:1≤most) (hmb:most≤200):∀ (L:Nat),L≤1048576→∀ (l:List UInt8),l.length=L→∀ (v:Value) (w:World),ByC w v l→Calls Tryz.prog 35 #[v,iv most] w (Ajx most w):=by
 intro L;induction L using Nat.strongRecOn with
 | ind L ih=>
 intro hLb l hl v w hv;have HIH:=Lib.hid ih;clear ih;have HV:=Lib.hid hv;obtain ⟨a,c,rfl,hlc⟩:=hv.2;obtain ⟨a',b,o,c',he,ha1,-,ha3⟩:=hv.1.split;injection he with e1 _ e2
 subst e1 e2;have HA:=Lib.hid ha1;have HC:=Lib.hid (fun W (hW:Ext w W) i (hi:i<l.length)=>hW.cell (ha3 i hi));have HL:=Lib.hid hl;have f81:=fun (ss:List (List RNode)) (h1:OkS ss) (h2:Cj ss≤4194304) (h3:ss.length≤4194304) (x:Nat) (hx:x<256) (v:Value) W (hs:StkV W v ss)=>Lib.hid (Abn ss h1 h2 h3 x hx v W hs)
 rw [hl] at hlc HA HC;rw [hl];clear hv ha1 ha3 hl;have hE0:=(Ext.refl w).alloc (.cells #[] 53);have hO0:=Lb w 53 1;go_enter Tryz.func35,Tryz.ntmps35;go_upto_region 2 with (fail)
 obtain ⟨w1,hw1⟩:∃ W,w.alloc (.cells #[] 53)=W:=⟨_,rfl⟩;rw [hw1] at hE0 hO0;simp only [hw1];clear hw1;go_wp2_with (fail);go_loopw [5,6] (fun vs vi W=>∃ (i:Nat) (ss:List (List RNode)) (sa:Option Addr) (sc:Nat),i≤L∧vs=.slice sa ss.length sc∧vi=.int .i64 i∧Ext w W∧Hid (StkV W (.slice sa ss.length sc) ss)∧Hid (OkS ss)∧Cj ss≤i∧ss.length≤i∧(0<i→0<ss.length)∧Hid (i=0→W.ownsRow w.heap.size 53 1 (.slice sa 0 sc) 0 []))
  (fun _ vi _=>L-(intOf vi).toNat)
 case atStart=>exact ⟨0,[],_,_,by omega,rfl,rfl,hE0,Lib.hid (Y3 _ _ _),Lib.hid Adb,by simp [Cj],by simp,by omega,Lib.hid (fun _=>hO0)⟩
 case round=>
  clear hE0 hO0;obtain ⟨i,ss,sa,sc,hiL,rfl,rfl,hE,HS,HOK,ht,hn,hpos,HO⟩:=hrel;obtain ⟨n,hnn⟩:∃ n,ss.length=n:=⟨_,rfl⟩;have HNN:=Lib.hid hnn;rw [hnn] at hn hpos HS;simp only [hnn];clear hnn;by_cases hlt:i<L
  ·have hltI:(i:Int)<(L:Int):=by omega
   obtain rfl:=HA.out (by omega);have cx:=HC.out wr hE i hlt;obtain ⟨y,hy⟩:∃ y,l.getD i 0=y:=⟨_,rfl⟩;rw [hy] at cx;have hy8:=y.toNat_lt;clear hy;have f:=f81 ss HOK.out (by omega) (by rw [HNN.out];omega) y.toNat hy8 _ wr HS.out;clear f81;go_upto_region 4 with (go_at_call 81;(with_reducible refine f.out.mono ?_);rintro e w2 ⟨⟨v',ss',rfl,hs',hp⟩,hE2⟩;have HS':=Lib.hid hs';have HP:=Lib.hid hp;clear hs' hp)
   obtain ⟨vs2,hvl2,hS2,-⟩:=HS'.out;obtain ⟨sa2,sc2,rfl⟩:=Sl.len hS2;have hp1:=HP.out.tot;have hp2:=HP.out.len;have hp3:=HP.out.pos;have hEn:=hE.trans hE2;rw [HNN.out] at hp2;have HOK':=Lib.hid HP.out.ok;clear hS2 hvl2 hE hE2 cx;obtain ⟨n2,hn2⟩:∃ n,ss'.length=n:=⟨_,rfl⟩;have HN2:=Lib.hid hn2;rw [hn2] at hp2 hp3 HS';simp only [hn2];clear hn2;go_wp2;go_roundw
   case rel=>exact ⟨i+1,ss',sa2,sc2,by omega,by rw [HN2.out],by go_num,hEn,by rw [HN2.out];exact HS',HOK',by omega,by rw [HN2.out];omega,fun _=>by rw [HN2.out];omega,Lib.hid (fun e=>by omega)⟩
   case measure=>simp [intOf];omega
  ·obtain rfl:L=i:=by omega
   by_cases hL0:L=0
   ·subst hL0;obtain rfl:n=0:=by omega
    have hO:=HO.out rfl;clear hpos HO ht hn hiL hlt HS HOK HNN;obtain ⟨i1,hi1,hy0,hy1,hy2⟩:=info_parts Ue;have hs2:=hE.size;have hnw:=cell_one_new (wr.alloc (.cells (rnC ⟨2,0,0,0#256,0,0⟩) 64)) (.slice (some ⟨wr.heap.size,0,none⟩) 1 1) 53;rw [World.size_alloc] at hnw;have HNW:=Lib.hid hnw;clear hnw;go_upto_region 8 with (first
     | (refine Cb rfl [⟨2,0,0,0#256,0,0⟩] 1 rfl (by simp) (by simp) _ rfl (by go_simp;exact Mm 2) ?_;rw [Ff])
     | (at_builtin;refine wpList_append_lies _ rfl _ _ 127 rfl w.heap.size 53 i1 (.slice none 0 0) 1 24 Tryz.underlying127 hi1 hy0 hy1 hy2 rfl (by decide) _ _ _ rfl ((hO.alloc _).alloc _) _ 1 1 [.slice (some ⟨wr.heap.size,0,none⟩) 1 1] rfl rfl HNW.out (by simp [Value.oneCell']) (by decide) (by unfold maxLen;omega) (by omega) (by simp;omega) _ rfl ?_;intro g7 c7 w7 hO7 hgr7 _ _))
    have hE7:=((hE.alloc (.cells (rnC ⟨2,0,0,0#256,0,0⟩) 64)).alloc (.cells #[.slice (some ⟨wr.heap.size,0,none⟩) 1 1] 53)).grown hgr7 (fun k e=>by have:=(hO.lt k e).1;omega);have hbl:=(hgr7.block wr.heap.size (by rw [World.size_alloc,World.size_alloc];omega) (fun e=>by have:=(hO.lt _ e.symm).2;omega)).trans (Af (Ab wr (.cells (rnC ⟨2,0,0,0#256,0,0⟩) 64)) (.cells #[.slice (some ⟨wr.heap.size,0,none⟩) 1 1] 53));have HS7:Hid (StkV w7 (.slice (some ⟨g7,0,none⟩) 1 c7) [[⟨2,0,0,0#256,0,0⟩]]):=Lib.hid ⟨[.slice (some ⟨wr.heap.size,0,none⟩) 1 1],rfl,Sl.of_owns hO7 (by omega) undef,fun i hi=>by
     obtain rfl:i=0:=by simpa using hi
     exact ⟨wr.heap.size,0,1,rfl,Cv (ns:=[⟨2,0,0,0#256,0,0⟩]) (by rw [Ff];exact hbl)⟩⟩
    have HOK7:Hid (OkS [[⟨2,0,0,0#256,0,0⟩]]):=Lib.hid fun i hi=>by
     obtain rfl:i=0:=by simpa using hi
     exact Qm Ae8
    clear hbl hO7 hgr7 hO hE hs2;go_wp2_with (fail);obtain ⟨wq,hwq⟩:∃ W,W=w7:=⟨_,rfl⟩;subst hwq;go_loopw [5] (fun vs W=>∃ (ss:List (List RNode)) (sa:Option Addr) (sc:Nat),vs=.slice sa ss.length sc∧Ext w W∧Hid (StkV W (.slice sa ss.length sc) ss)∧Hid (OkS ss)∧0<ss.length∧Cj ss+ss.length≤2)
     (fun vs _=>Ki vs)
    case atStart=>exact ⟨[[⟨2,0,0,0#256,0,0⟩]],some ⟨g7,0,none⟩,c7,rfl,hE7,HS7,HOK7,by decide,by decide⟩
    case round=>
     clear hE7 HS7 HOK7;obtain ⟨ss,sa,sc,rfl,hE,HS,HOK,hpos,ht⟩:=hrel;obtain ⟨n,hnn⟩:∃ n,ss.length=n:=⟨_,rfl⟩;have HNN:=Lib.hid hnn;rw [hnn] at hpos ht HS;simp only [hnn];clear hnn;by_cases hlt:1<n
     ·have hltI:(1:Int)<(n:Int):=by omega
      have f:=Lib.hid (show Calls Tryz.prog 81 #[.slice sa n sc,.int .u8 5] wr (Ih ss 5 wr) from (f81 ss HOK.out (by omega) (by rw [HNN.out];omega) 5 (by omega) _ wr HS.out).out);go_upto_region 9 with (fail)
      go_wp2_with (go_at_call 81;(with_reducible refine f.out.mono ?_);rintro e w2 ⟨⟨v',ss',rfl,hs',hp⟩,hE2⟩;have HS':=Lib.hid hs';have HP:=Lib.hid hp;clear hs' hp);obtain ⟨vs2,hvl2,hS2,-⟩:=HS'.out;obtain ⟨sa2,sc2,rfl⟩:=Sl.len hS2;have hp1:=HP.out.tot;have hp3:=HP.out.pos;have hp5:=HP.out.five rfl (by rw [HNN.out];omega);have hEn:=hE.trans hE2;rw [HNN.out] at hp5;have HOK':=Lib.hid HP.out.ok;clear hS2 hvl2 hE hE2;obtain ⟨n2,hn2⟩:∃ n,ss'.length=n:=⟨_,rfl⟩;have HN2:=Lib.hid hn2;rw [hn2] at hp5 hp3 HS';simp only [hn2];clear hn2;go_roundw
      case rel=>exact ⟨ss',sa2,sc2,by rw [HN2.out],hEn,by rw [HN2.out];exact HS',HOK',by rw [HN2.out];omega,by rw [HN2.out];omega⟩
      case measure=>simp [Ki];omega
     ·have hn1:n=1:=by omega
      subst hn1;obtain ⟨b5,o5,c5,he5,hat⟩:=HS.out.at_ (by rw [HNN.out];omega);injection he5 with e1 e3 e2
      clear e3;subst e1 e2;obtain ⟨u,cu,hu⟩:=hat 0 (by rw [HNN.out];omega);have hok:=HOK.out 0 (by rw [HNN.out];omega);have hlx:=Ip ss 0 (by rw [HNN.out];omega);obtain ⟨xs,hxs⟩:∃ xs,ss.getD 0 []=xs:=⟨_,rfl⟩;rw [hxs] at hu hok hlx;rw [Nat.add_zero] at cu;clear hat hxs;have HU:=Lib.hid hu;obtain ⟨ub,uo,uc,rfl,-⟩:=hu;obtain ⟨m,hm2⟩:∃ m,xs.length=m:=⟨_,rfl⟩;have HM:=Lib.hid hm2;rw [hm2] at hlx cu HU;have HOKX:=Lib.hid hok;clear hm2 hok;by_cases hmo:m≤most
      ·have hmoI:¬ (most:Int)<(m:Int):=by omega
       go_wp2;go_ret;exact ⟨⟨_,xs,rfl,HU.out,HOKX.out,by rw [HM.out];exact hmo⟩,hE⟩
      ·omega
   ·have hnz:=hpos (by omega);have b0:((n:Int)==0)=false:=by simp;omega
    clear HO;go_upto_region 8 with (fail)
    go_wp2_with (fail);obtain ⟨wq,hwq⟩:∃ W,W=wr:=⟨_,rfl⟩;subst hwq;go_loopw [5] (fun vs W=>∃ (ss:List (List RNode)) (sa:Option Addr) (sc:Nat),vs=.slice sa ss.length sc∧Ext w W∧Hid (StkV W (.slice sa ss.length sc) ss)∧Hid (OkS ss)∧0<ss.length∧Cj ss+ss.length≤2*L)
     (fun vs _=>Ki vs)
    case atStart=>exact ⟨ss,sa,sc,by rw [HNN.out],hE,by rw [HNN.out];exact HS,HOK,by rw [HNN.out];omega,by rw [HNN.out];omega⟩
    case round=>
     clear hE HS HOK ht hn hpos hnz b0;obtain ⟨ss,sa,sc,rfl,hE,HS,HOK,hpos,ht⟩:=hrel;obtain ⟨n,hnn⟩:∃ n,ss.length=n:=⟨_,rfl⟩;have HNN:=Lib.hid hnn;rw [hnn] at hpos ht HS;simp only [hnn];clear hnn;by_cases hlt:1<n
     ·have hltI:(1:Int)<(n:Int):=by omega
      have f:=Lib.hid (show Calls Tryz.prog 81 #[.slice sa n sc,.int .u8 5] wr (Ih ss 5 wr) from (f81 ss HOK.out (by omega) (by rw [HNN.out];omega) 5 (by omega) _ wr HS.out).out);go_upto_region 9 with (fail)
      go_wp2_with (go_at_call 81;(with_reducible refine f.out.mono ?_);rintro e w2 ⟨⟨v',ss',rfl,hs',hp⟩,hE2⟩;have HS':=Lib.hid hs';have HP:=Lib.hid hp;clear hs' hp);obtain ⟨vs2,hvl2,hS2,-⟩:=HS'.out;obtain ⟨sa2,sc2,rfl⟩:=Sl.len hS2;have hp1:=HP.out.tot;have hp3:=HP.out.pos;have hp5:=HP.out.five rfl (by rw [HNN.out];omega);have hEn:=hE.trans hE2;rw [HNN.out] at hp5;have HOK':=Lib.hid HP.out.ok;clear hS2 hvl2 hE hE2;obtain ⟨n2,hn2⟩:∃ n,ss'.length=n:=⟨_,rfl⟩;have HN2:=Lib.hid hn2;rw [hn2] at hp5 hp3 HS';simp only [hn2];clear hn2;go_roundw
      case rel=>exact ⟨ss',sa2,sc2,by rw [HN2.out],hEn,by rw [HN2.out];exact HS',HOK',by rw [HN2.out];omega,by rw [HN2.out];omega⟩
      case measure=>simp [Ki];omega
     ·have hn1:n=1:=by omega
      subst hn1;obtain ⟨b5,o5,c5,he5,hat⟩:=HS.out.at_ (by rw [HNN.out];omega);injection he5 with e1 e3 e2
      clear e3;subst e1 e2;obtain ⟨u,cu,hu⟩:=hat 0 (by rw [HNN.out];omega);have hok:=HOK.out 0 (by rw [HNN.out];omega);have hlx:=Ip ss 0 (by rw [HNN.out];omega);obtain ⟨xs,hxs⟩:∃ xs,ss.getD 0 []=xs:=⟨_,rfl⟩;rw [hxs] at hu hok hlx;rw [Nat.add_zero] at cu;clear hat hxs;have HU:=Lib.hid hu;obtain ⟨ub,uo,uc,rfl,-⟩:=hu;obtain ⟨m,hm2⟩:∃ m,xs.length=m:=⟨_,rfl⟩;have HM:=Lib.hid hm2;rw [hm2] at hlx cu HU;have HOKX:=Lib.hid hok;clear hm2 hok;by_cases hmo:m≤most
      ·have hmoI:¬ (most:Int)<(m:Int):=by omega
       go_wp2;go_ret;exact ⟨⟨_,xs,rfl,HU.out,HOKX.out,by rw [HM.out];exact hmo⟩,hE⟩
      ·have hmoI:(most:Int)<(m:Int):=by omega
       have hi1:(0:Int)≤(L:Int) / 2:=by omega
       have hi2:(L:Int) / 2≤(c:Int):=by omega
       have hi3:((L:Int) / 2).toNat=L / 2:=by omega
       have HR:=Lib.hid (fun W (hW:Ext w W)=>HIH.out (L / 2) (by omega) (by omega) (l.take (L / 2)) (by rw [List.length_take,HL.out];omega) (.slice a (L / 2) c) W (((HV.out.take (L / 2) (by rw [HL.out];omega))).ext hW));obtain rfl:=HA.out (by omega);go_wp2_with (go_at_call 35;(with_reducible refine (HR.out _ hE).mono ?_);rintro e w3 ⟨⟨v3,xs3,rfl,h31,h32,h33⟩,hE3⟩);go_ret;exact ⟨⟨v3,xs3,rfl,h31,h32,h33⟩,hE.trans hE3⟩
def ekR:Option Dfa→Int
 | some _=>0
 | none=>2
theorem Afs (W:World):IsD W zD dN:=⟨_,_,_,rfl,Sl.nil _ _ _,⟨[],rfl,Sl.nil _ _ _,fun i hi=>absurd hi (by simp [dN])⟩,Sl.nil _ _ _⟩
theorem Gv (xs:List RNode) (hx:WRx xs) (hl:xs.length≤200) (v:Value) (w:World) (hT:Tab w) (hsz:0<w.heap.size) (h:RxV w v xs) :
  Calls Tryz.prog 36 #[v] w fun e w'=>∃ r d v k,e=.returned (.tuple #[v,.int .i64 k])∧IsD w' v d∧(Bf xs [] r∧d=r.getD dN∧k=ekR r)∧Ext w w':=by
 obtain ⟨b,o,c,rfl,h⟩:=h;exact (P8 xs (hx.vrx hl) b o c w hT hsz h).mono fun e w' ⟨r,h1,h2,h3⟩=>by
  cases r with
  | none=>exact ⟨none,dN,zD,2,h1,Afs w',⟨h2,rfl,rfl⟩,h3⟩
  | some d=>
   obtain ⟨u,hu,hD⟩:=h1;exact ⟨some d,d,u,0,hu,hD,⟨h2,rfl,rfl⟩,h3⟩
theorem Ww:∀ (x:List RNode) (ds:List Dfa),okD ds→Ll x ds.length→∀ d,Bf x ds (some d)→(x=[]→0<ds.length)→Val d∧d.nxt.length≤64
 | [],ds,hok,_,d,h,h0=>by
  injection (show some d=some _ from h) with h
  subst h;exact hok _ (by have:=h0 rfl;omega)
 | n::x,ds,hok,hg,d,⟨q,h1,h2⟩,_=>by
  cases q with
  | none=>cases (show some d=none from h2)
  | some e=>
   have he:=Tp hok hg.1 h1;refine Ww x (ds++[e]) (fun j hj=>?_) (by rw [List.length_append];exact hg.2) d h2 (by intro _;simp);rw [List.length_append,List.length_singleton] at hj;by_cases e':j<ds.length
   ·rw [Bi _ _ _ _ e'];exact hok j e'
   ·obtain rfl:j=ds.length:=by omega
    rw [Bw];exact he
theorem P6 {xs:List RNode} (h:WRx xs) {d:Dfa} (hd:Bf xs [] (some d)):Val d∧d.nxt.length≤64:=
 Ww xs [] (fun i hi=>absurd hi (by simp)) (Pc xs _ fun i hi=>by rw [List.length_nil,Nat.zero_add];exact Up (h.node i hi)) d hd (fun e=>by have:=h.pos;rw [e] at this;cases this)
theorem Tz (most:Nat) (k:Int) (hk:k=most) (hm:1≤most) (hmb:most≤200) (l:List UInt8) (hl:l.length≤1048576) (v:Value) (w:World) (h:ByC w v l) :
  Calls Tryz.prog 35 #[v,.int .i64 k] w fun e w'=>∃ u xs,e=.returned u∧RxV w' u xs∧(WRx xs∧xs.length≤most)∧Ext w w':=by
 subst hk;exact (Aeg most hm hmb l.length hl l rfl v w h).mono fun e w' ⟨⟨v',xs,h1,h2,h3,h4⟩,h5⟩=>⟨v',xs,h1,h2,⟨h3,h4⟩,h5⟩
abbrev A7:Array Value:=#[.int .i64 7,.int .u64 0,.int .u64 0,.int .u64 0,.int .u64 0,.int .i64 0,.int .i64 0,.int .i64 0,.int .i64 0]
end Go.Proofs.YtaiogolidlamiaaGreatDoor
