import Derived.Test.YtaiogolidlamiaaGreatDoorM13
set_option linter.unusedVariables false
set_option linter.unusedSimpArgs false
namespace Go.Proofs.YtaiogolidlamiaaGreatDoor
set_option maxRecDepth 100000
open Go.RowKit Go.Shelf
def zD:Value:=.agg #[.slice none 0 0,.slice none 0 0,.slice none 0 0]
def ResOf (W:World) (e:Ending):Option Dfa→Prop
 | some d=>∃ v,e=.returned (.tuple #[v,.int .i64 0])∧IsD W v d
 | none=>e=.returned (.tuple #[zD,.int .i64 2])
theorem K8 {o:Nat} {x:Value} (h:(#[Value.slice none 0 0,Value.slice none 0 0,Value.slice none 0 0])[o]? = some x):x=.slice none 0 0:=by
 have:o=0∨o=1∨o=2∨3≤o:=by omega
 rcases this with rfl|rfl|rfl|ho
 ·simpa using h.symm
 ·simpa using h.symm
 ·simpa using h.symm
 ·rw [Array.getElem?_eq_none (by simpa using ho)] at h;cases h
theorem IsD.setRow {W:World} {v:Value} {d:Dfa} (hv:Val d) (h:IsD W v d) {g:Nat} {e:TypeId} {fr:Nat × Nat} (hg:W.heap[g]? = some (.cells #[.slice none 0 0,.slice none 0 0,.slice none 0 0] e fr)) (cs:Array Value):IsD (W.setRow g cs) v d:=by
 obtain ⟨vc,vn,va,rfl,h1,⟨vs,hvs,hN,hr⟩,h3⟩:=h;refine ⟨vc,vn,va,rfl,Sl.setRow h1 hg (fun i _ o ho=>by cases K8 ho) (by omega) cs,⟨vs,hvs,Sl.setRow hN hg (fun i hi o ho=>?_) (by omega) cs,fun i hi=>Sl.setRow (hr i hi) hg (fun i _ o ho=>by cases K8 ho) (by omega) cs⟩,Sl.setRow h3 hg (fun i _ o ho=>by cases K8 ho) (by omega) cs⟩;have hi:i<d.nxt.length:=by simpa using hi
 obtain ⟨b,off,cap,hv1,_⟩:=Sl.form (hr i hi) (by rw [hv.row i hi];exact hv.parts.pos);have:=K8 ho;rw [hv1] at this;cases this
theorem IsD.agg {W:World} {v:Value} {d:Dfa} (h:IsD W v d):∃ ac lc cc an cn aa la ca,v=.agg (dA (.slice ac lc cc) (.slice an d.nxt.length cn) (.slice aa la ca)):=by
 obtain ⟨vc,vn,va,rfl,h1,⟨vs,hvs,hN,hr⟩,h3⟩:=h;obtain ⟨ac,cc,rfl⟩:=Sl.len h1;obtain ⟨an,cn,rfl⟩:=Sl.len hN;obtain ⟨aa,ca,rfl⟩:=Sl.len h3;exact ⟨_,_,_,_,_,_,_,_,rfl⟩
theorem Fl:Tryz.prog.built 30 []=some #[.slice none 0 0,.slice none 0 0,.slice none 0 0]:=by kernel_rfl
theorem Ex:(#[Value.slice none 0 0,Value.slice none 0 0,Value.slice none 0 0]).all (·.oneCell')=true:=by simp [Value.oneCell']
set_option maxHeartbeats 4000000 in
theorem Ot (t:Tbl) (hv:TVal t) (hn:t.nxt.length≤65536) (A:Array Value) (w:World) (h:IsT w A t) :
  Calls Tryz.prog 77 #[.agg A] w fun e w'=>∃ r,ResOf w' e r∧Lim (fun u=>t.has u=true) r∧Ext w w':=by
 obtain ⟨_,_,_,_,_,_,hAs,hAo,_⟩:=h.opened hv;have i108:(Tryz.prog.info? 108).map (·.size)=some A.size:=by rw [hAs];exact Bv
 have HIT:=Lib.hid h;have HV:=Lib.hid hv;have hE0:=((Ext.refl w).alloc (.cells A 108)).alloc (.cells #[.slice none 0 0,.slice none 0 0,.slice none 0 0] 30);have H0:=Af (Ab w (.cells A 108)) (.cells #[.slice none 0 0,.slice none 0 0,.slice none 0 0] 30);have H1:=heap_alloc2_new w (.cells A 108) (.cells #[.slice none 0 0,.slice none 0 0,.slice none 0 0] 30);clear h hv hAs hAo;go_enter Tryz.func77,Tryz.ntmps77;go_upto_region 1 with (fail)
 obtain ⟨w1,hw1⟩:∃ W,(w.alloc (.cells A 108)).alloc (.cells #[.slice none 0 0,.slice none 0 0,.slice none 0 0] 30)=W:=⟨_,rfl⟩;have hs1:w1.heap.size=w.heap.size+1+1:=by rw [← hw1,World.size_alloc,World.size_alloc]
 rw [hw1] at hE0 H0 H1;simp only [hw1];clear hw1;have HB0:=Lib.hid H0;have HB1:=Lib.hid H1;clear H0 H1;have hC:=Lib.hid (Jq t HV.out hn A w1 (HIT.out.ext hE0));go_upto_region 2 with (first
  | (refine wpList_load_row rfl 108 (.tmp 1) rfl _ rfl _ _ _ _ HB0.out Tryz.underlying108 rfl i108 ?_)
  | (go_at_call 69;with_reducible refine hC.out.mono ?_;rintro e w2 ⟨v,d,rfl,hD,hcan,hhas,hE2⟩;obtain ⟨ac,lc,cc,an,cn,aa,la,ca,rfl⟩:=hD.agg)
  | (refine wpList_store_row rfl 30 (.tmp 4) (.tmp 6) rfl _ _ rfl rfl _ _ (Ab w2 _) Ad rfl (An _ _ _ rfl rfl rfl) ?_))
 have hE3:=hE2.trans (((Ext.refl w2).alloc (.cells #[.slice none 0 0,.slice none 0 0,.slice none 0 0] 30)).setRow (Nat.le_refl _) (dA (.slice ac lc cc) (.slice an d.nxt.length cn) (.slice aa la ca)));have hD3:=hD.ext (((Ext.refl w2).alloc (.cells #[.slice none 0 0,.slice none 0 0,.slice none 0 0] 30)).setRow (Nat.le_refl _) (dA (.slice ac lc cc) (.slice an d.nxt.length cn) (.slice aa la ca)));have hB3:=setRow_heap (w2.alloc (.cells #[.slice none 0 0,.slice none 0 0,.slice none 0 0] 30)) w2.heap.size _ (dA (.slice ac lc cc) (.slice an d.nxt.length cn) (.slice aa la ca)) _ _ (Ab w2 _);obtain ⟨w3,hw3⟩:∃ W,(w2.alloc (.cells #[.slice none 0 0,.slice none 0 0,.slice none 0 0] 30)).setRow w2.heap.size (dA (.slice ac lc cc) (.slice an d.nxt.length cn) (.slice aa la ca))=W:=⟨_,rfl⟩;rw [hw3] at hE3 hD3 hB3;simp only [hw3];clear hw3 hD hE2;have HB1x:=Lib.hid (hE3.heap HB1.out);have HD3:=Lib.hid hD3;have HC3:=Lib.hid hcan;have HH:=Lib.hid hhas;have c1:=(cell_of_row w3 w2.heap.size 1 _ _ _ hB3).trans (show (dA (.slice ac lc cc) (.slice an d.nxt.length cn) (.slice aa la ca))[1]? = some (.slice an d.nxt.length cn) from rfl);have HB3:=Lib.hid hB3;clear hD3 hcan hhas hB3 hC;by_cases hbig:64<d.nxt.length
 ·have hBz:=Lib.hid Fl;go_wp2_with (first
   | (refine Ci rfl 30 _ rfl #[.slice none 0 0,.slice none 0 0,.slice none 0 0] ?_ ?_;(simp;with_reducible exact hBz.out))
   | (refine wpList_store_row rfl 30 (.tmp 2) (.tmp 11) rfl _ _ rfl rfl _ _ HB1x.out Ad rfl Ex ?_))
  refine bodyPost_ret (v:=.tuple #[zD,.int .i64 2]) (A2 rfl _ _ _ _ _ _ _ rfl _ rfl (setRow_heap w3 _ _ #[.slice none 0 0,.slice none 0 0,.slice none 0 0] 30 (0,0) HB1x.out) Tryz.underlying30 rfl Ad) rfl ?_;exact ⟨none,rfl,⟨d,HC3.out,fun u=>by rw [HH.out],hbig⟩,(hE0.trans hE3).setRow (by omega) _⟩
 ·go_wp2_with (first
   | (refine wpList_load_row rfl 30 (.tmp 4) rfl _ rfl _ _ _ _ HB3.out Tryz.underlying30 rfl Ad ?_)
   | (refine wpList_store_row rfl 30 (.tmp 2) (.tmp 12) rfl _ _ rfl rfl _ _ HB1x.out Ad rfl (An _ _ _ rfl rfl rfl) ?_))
  refine bodyPost_ret (v:=.tuple #[.agg (dA (.slice ac lc cc) (.slice an d.nxt.length cn) (.slice aa la ca)),.int .i64 0]) (A2 rfl _ _ _ _ _ _ _ rfl _ rfl (setRow_heap w3 _ _ (dA (.slice ac lc cc) (.slice an d.nxt.length cn) (.slice aa la ca)) 30 (0,0) HB1x.out) Tryz.underlying30 rfl Ad) rfl ?_;exact ⟨some d,⟨_,rfl,HD3.out.setRow HC3.out.val HB1x.out _⟩,⟨HC3.out,fun u=>by rw [HH.out],by omega⟩,(hE0.trans hE3).setRow (by omega) _⟩
set_option maxHeartbeats 4000000 in
theorem Ig (d:Dfa) (hv:Val d) (hn:d.nxt.length≤64) (v:Value) (w:World) (hT:Tab w) (hsz:0<w.heap.size) (h:IsD w v d) :
  Calls Tryz.prog 28 #[v] w fun e w'=>∃ r,ResOf w' e (some r)∧Cano r∧(∀ u,r.has u=d.has u)∧Ext w w':=by
 have HD:=Lib.hid h;have HV:=Lib.hid hv;obtain ⟨ac,lc,cc,an,cn,aa,la,ca,rfl⟩:=h.agg;have hE0:=((Ext.refl w).alloc (.cells (dA (.slice ac lc cc) (.slice an d.nxt.length cn) (.slice aa la ca)) 30)).alloc (.cells #[.slice none 0 0,.slice none 0 0,.slice none 0 0] 30);have H0:=Af (Ab w (.cells (dA (.slice ac lc cc) (.slice an d.nxt.length cn) (.slice aa la ca)) 30)) (.cells #[.slice none 0 0,.slice none 0 0,.slice none 0 0] 30);have H1:=heap_alloc2_new w (.cells (dA (.slice ac lc cc) (.slice an d.nxt.length cn) (.slice aa la ca)) 30) (.cells #[.slice none 0 0,.slice none 0 0,.slice none 0 0] 30);have f47:=fun W (hW:Ext w W)=>Lib.hid (Dr d hv hn _ W (HD.out.ext hW))
 have f68:=fun W (hW:Ext w W)=>Lib.hid (Is d hv _ W (hT.below hW.below hsz) (Nat.lt_of_lt_of_le hsz hW.size) (HD.out.ext hW))
 clear h hv hT;go_enter Tryz.func28,Tryz.ntmps28;go_upto_region 1 with (fail)
 obtain ⟨w1,hw1⟩:∃ W,(w.alloc (.cells (dA (.slice ac lc cc) (.slice an d.nxt.length cn) (.slice aa la ca)) 30)).alloc (.cells #[.slice none 0 0,.slice none 0 0,.slice none 0 0] 30)=W:=⟨_,rfl⟩;have hw1':(w.alloc (.cells #[.slice ac lc cc,.slice an d.nxt.length cn,.slice aa la ca] 30)).alloc (.cells #[.slice none 0 0,.slice none 0 0,.slice none 0 0] 30)=w1:=hw1;rw [hw1] at hE0 H0 H1;simp only [hw1];have hs1:w1.heap.size=w.heap.size+1+1:=by rw [← hw1,World.size_alloc,World.size_alloc]
 clear hw1 hw1';have HB0:=Lib.hid H0;have HB1:=Lib.hid H1;clear H0 H1;go_upto_region 3 with (first
  | (refine wpList_load_row rfl 30 (.tmp 1) rfl _ rfl _ _ _ _ HB0.out Tryz.underlying30 rfl Ad ?_)
  | (go_at_call 47;with_reducible refine (f47 _ hE0).out.mono ?_;rintro e w2 ⟨rfl,hE2⟩))
 have HB0:=Lib.hid (hE2.heap HB0.out);have HB1:=Lib.hid (hE2.heap HB1.out);have hE3:=hE0.trans hE2;have hs2:=hE2.size;clear f47 hE0 hE2;go_wp2_with (first
  | (refine wpList_load_row rfl 30 (.tmp 1) rfl _ rfl _ _ _ _ HB0.out Tryz.underlying30 rfl Ad ?_)
  | (go_at_call 68;(with_reducible refine (f68 _ hE3).out.mono ?_);rintro e w3 ⟨A,rfl,hA,hE4⟩;have hE5:=hE3.trans hE4;have HB1:=Lib.hid (hE4.heap HB1.out);have hC:=Lib.hid (Jq (Ae d) (Be HV.out) (show d.nxt.length≤65536 by omega) A w3 hA))
  | (go_at_call 69;with_reducible refine hC.out.mono ?_;rintro e w4 ⟨v,r,rfl,hr,hcan,hhas,hE6⟩;have HR:=Lib.hid hr;have HCa:=Lib.hid hcan;have HH:=Lib.hid hhas;clear hcan hhas;obtain ⟨ac',lc',cc',an',cn',aa',la',ca',rfl⟩:=hr.agg;clear hr;have hE7:=hE5.trans hE6;have HB1:=Lib.hid (hE6.heap HB1.out))
  | (refine wpList_store_row rfl 30 (.tmp 2) (.tmp 10) rfl _ _ rfl rfl _ _ HB1.out Ad rfl (An _ _ _ rfl rfl rfl) ?_))
 refine bodyPost_ret (v:=.tuple #[.agg (dA (.slice ac' lc' cc') (.slice an' r.nxt.length cn') (.slice aa' la' ca')),.int .i64 0]) (A2 rfl _ _ _ _ _ _ _ rfl _ rfl (setRow_heap w4 _ _ (dA (.slice ac' lc' cc') (.slice an' r.nxt.length cn') (.slice aa' la' ca')) 30 (0,0) HB1.out) Tryz.underlying30 rfl Ad) rfl ?_;exact ⟨r,⟨_,rfl,HR.out.setRow HCa.out.val HB1.out _⟩,HCa.out,fun u=>by rw [HH.out,Dt],hE7.setRow (by omega) _⟩
def El (n:Nat) (A:List Bool) (k:Nat):List Bool:=(List.range n).map fun j=>if j<k then !A.getD j false else false
theorem Oh (n:Nat) (A:List Bool) (k:Nat):(El n A k).length=n:=by simp [El]
theorem Adk (n:Nat) (A:List Bool):El n A 0=List.replicate n false:=by
 apply List.ext_getElem?;intro i;simp only [El,List.getElem?_map,List.getElem?_replicate,Nat.not_lt_zero,if_false];by_cases h:i<n
 ·simp [h]
 ·simp [h]
theorem Adm (n:Nat) (A:List Bool) (hA:A.length=n):El n A n=A.map (!·):=by
 subst hA;apply List.ext_getElem?;intro i;simp only [El,List.getElem?_map];by_cases h:i<A.length
 ·simp [h,List.getD_eq_getElem?_getD]
 ·simp [h]
theorem Adl (n:Nat) (A:List Bool) (k:Nat) (hk:k<n):(El n A k).set k (!A.getD k false)=El n A (k+1):=by
 apply List.ext_getElem?;intro i;rw [List.getElem?_set,Oh];simp only [El,List.getElem?_map];by_cases h:i<n
 ·rw [List.getElem?_range h];by_cases e:k=i
  ·subst e;simp [hk]
  ·simp only [e,if_false,Option.map_some];by_cases h1:i<k
   ·rw [if_pos h1,if_pos (by omega)]
   ·rw [if_neg h1,if_neg (by omega)]
 ·rw [if_neg (by omega)];simp [h]
theorem M2 (c:Nat→Nat) (n:Nat) (vn va v:Value):(Ag c n vn va).setIfInBounds 258 v=Ag c n vn v:=by
 apply Array.ext';rw [Array.toList_setIfInBounds];unfold Ag;simp only;apply List.ext_getElem?;intro i;unfold Du;rw [List.getElem?_set];by_cases hi:i<256
 ·have:258≠i:=by omega
  rw [if_neg this,List.getElem?_append_left (by simpa using hi),List.getElem?_append_left (by simpa using hi)]
 ·by_cases e:258=i
  ·subst e;simp [List.getElem?_append_right]
  ·rw [if_neg e,List.getElem?_append_right (by simp;omega),List.getElem?_append_right (by simp;omega)];obtain ⟨j,rfl⟩:∃ j,i=256+j:=⟨i-256,by omega⟩;have hj:j≠2:=by omega
   simp only [List.length_map,List.length_range,Nat.add_sub_cancel_left]
   match j,hj with
   | 0,_=>rfl
   | 1,_=>rfl
   | j+3,_=>rfl
set_option maxHeartbeats 4000000 in
theorem Tl (d:Dfa) (hv:Val d) (hn:d.nxt.length≤64) (v:Value) (w:World) (hT:Tab w) (hsz:0<w.heap.size) (h:IsD w v d) :
  Calls Tryz.prog 32 #[v] w fun e w'=>∃ r,ResOf w' e (some r)∧Cano r∧(∀ u,r.has u=!d.has u)∧Ext w w':=by
 have HD:=Lib.hid h;have HV:=Lib.hid hv;obtain ⟨ac,lc,cc,an,cn,aa,la,ca,rfl⟩:=h.agg;have hE0:=((Ext.refl w).alloc (.cells (dA (.slice ac lc cc) (.slice an d.nxt.length cn) (.slice aa la ca)) 30)).alloc (.cells #[.slice none 0 0,.slice none 0 0,.slice none 0 0] 30);have H0:=Af (Ab w (.cells (dA (.slice ac lc cc) (.slice an d.nxt.length cn) (.slice aa la ca)) 30)) (.cells #[.slice none 0 0,.slice none 0 0,.slice none 0 0] 30);have H1:=heap_alloc2_new w (.cells (dA (.slice ac lc cc) (.slice an d.nxt.length cn) (.slice aa la ca)) 30) (.cells #[.slice none 0 0,.slice none 0 0,.slice none 0 0] 30);have f47:=fun W (hW:Ext w W)=>Lib.hid (Dr d hv hn _ W (HD.out.ext hW))
 have f68:=fun W (hW:Ext w W)=>Lib.hid (Is d hv _ W (hT.below hW.below hsz) (Nat.lt_of_lt_of_le hsz hW.size) (HD.out.ext hW))
 obtain ⟨j0,hj,hy0,hy1,hy2⟩:=info_parts Fd;have hn0:=hv.pos;clear h hv hT;go_enter Tryz.func32,Tryz.ntmps32;go_upto_region 1 with (fail)
 obtain ⟨w1,hw1⟩:∃ W,(w.alloc (.cells (dA (.slice ac lc cc) (.slice an d.nxt.length cn) (.slice aa la ca)) 30)).alloc (.cells #[.slice none 0 0,.slice none 0 0,.slice none 0 0] 30)=W:=⟨_,rfl⟩;rw [hw1] at hE0 H0 H1;simp only [hw1];have hs1:w1.heap.size=w.heap.size+1+1:=by rw [← hw1,World.size_alloc,World.size_alloc]
 clear hw1;have HB0:=Lib.hid H0;have HB1:=Lib.hid H1;clear H0 H1;go_upto_region 3 with (first
  | (refine wpList_load_row rfl 30 (.tmp 1) rfl _ rfl _ _ _ _ HB0.out Tryz.underlying30 rfl Ad ?_)
  | (go_at_call 47;with_reducible refine (f47 _ hE0).out.mono ?_;rintro e w2 ⟨rfl,hE2⟩))
 have HB0:=Lib.hid (hE2.heap HB0.out);have HB1:=Lib.hid (hE2.heap HB1.out);have hE3:=hE0.trans hE2;have hs2:=hE2.size;clear f47 hE0 hE2;go_upto_region 4 with (first
  | (refine wpList_load_row rfl 30 (.tmp 1) rfl _ rfl _ _ _ _ HB0.out Tryz.underlying30 rfl Ad ?_)
  | (go_at_call 68;((with_reducible refine (f68 _ hE3).out.mono ?_);rintro e w3 ⟨A,rfl,hA,hE4⟩;have hE5:=hE3.trans hE4;have hs34:=hE4.size;have HB1:=Lib.hid (hE4.heap HB1.out);obtain ⟨vn,va,rfl,hAn,hAa⟩:=hA;obtain ⟨ba,oa,ca',rfl,hac⟩:=L9 hAa (show 0<d.acc.length by rw [HV.out.accL];exact hn0);obtain ⟨bn',an',cn',rfl⟩:∃ a n c,vn=.slice a n c:=(by obtain ⟨vs,_,hs,_⟩:=hAn;obtain ⟨a,c,rfl⟩:=hs.len;exact ⟨_,_,_,rfl⟩);have hsA:Tryz.zeroCells108.size=(Ag (Ae d).cell (Ae d).cells (.slice bn' an' cn') (.slice (some ⟨ba,oa,none⟩) (Ae d).acc.length ca')).size:=(by rw [Cl,D1]);have hiA:(Tryz.prog.info? 108).map (·.size)=some (Ag (Ae d).cell (Ae d).cells (.slice bn' an' cn') (.slice (some ⟨ba,oa,none⟩) (Ae d).acc.length ca')).size:=(by rw [D1];exact Bv);have hoA:=Ga (Ae d).cell (Ae d).cells (.slice bn' an' cn') (.slice (some ⟨ba,oa,none⟩) (Ae d).acc.length ca') rfl rfl))
  | (refine wpList_store_row rfl 108 (.tmp 4) (.tmp 13) rfl _ _ rfl rfl _ _ (Ab w3 (.cells Tryz.zeroCells108 108)) hiA hsA hoA ?_))
 have hm:(Ae d).acc.length=d.nxt.length:=HV.out.accL;have hE43:=((Ext.refl w3).alloc (.cells Tryz.zeroCells108 108)).setRow (Nat.le_refl w3.heap.size) (Ag (Ae d).cell (Ae d).cells (.slice bn' an' cn') (.slice (some ⟨ba,oa,none⟩) (Ae d).acc.length ca'));have H5:=setRow_heap (w3.alloc (.cells Tryz.zeroCells108 108)) _ _ (Ag (Ae d).cell (Ae d).cells (.slice bn' an' cn') (.slice (some ⟨ba,oa,none⟩) (Ae d).acc.length ca')) 108 (0,0) (Ab w3 (.cells Tryz.zeroCells108 108));obtain ⟨w4,hw4⟩:∃ W,(w3.alloc (.cells Tryz.zeroCells108 108)).setRow w3.heap.size (Ag (Ae d).cell (Ae d).cells (.slice bn' an' cn') (.slice (some ⟨ba,oa,none⟩) (Ae d).acc.length ca'))=W:=⟨_,rfl⟩;have hs4:w3.heap.size<w4.heap.size:=by rw [← hw4,size_setRow,World.size_alloc];omega
 rw [hw4] at hE43 H5;simp only [hw4];clear hw4;rw [hm] at H5 hiA hoA;simp only [hm];have HAC:=Lib.hid (fun (W:World) (hW:Ext w4 W) j (hj:j<d.nxt.length)=>(hE43.trans hW).cell (hac j (by rw [hm];exact hj)));have HAn:=Lib.hid hAn;have HH5:=Lib.hid H5;have HB1:=Lib.hid (hE43.heap HB1.out);have hs3:=hE5.size;have k8:=(cell_of_row w4 w3.heap.size 258 _ _ _ H5).trans (Gc _ _ _ _);clear hac hAn hAa H5 hE4 hsA f68 hm;generalize hB4:w3.heap.size=B4 at *;have hle4:=Nat.le_of_eq hB4;clear hB4;go_upto_region 5 with (at_make;refine wpList_make_full _ rfl _ _ 28 rfl w4.heap.size 4 j0 (.bool false) 1 Tryz.underlying28 hj hy0 hy1 .i64 .i64 _ _ d.nxt.length rfl rfl rfl rfl (by rw [hy2];omega) (by unfold maxLen;omega) (Nat.le_refl _) ?_;intro w5 hown5 hgr5)
 have hE6:Ext w4 w5:=(Ext.refl w4).grown hgr5 (fun k e=>by cases e);have hV5:w5.ownsRow w4.heap.size 4 1 (.slice (some ⟨w4.heap.size,0,none⟩) d.nxt.length d.nxt.length) d.nxt.length ((El d.nxt.length d.acc 0).map Value.bool):=by rw [Adk,← Ca];exact hown5
 clear hown5 hgr5 k8;have k8:=(cell_of_row w5 B4 258 _ _ _ (hE6.heap HH5.out)).trans (Gc _ _ _ _);generalize hgb:w4.heap.size=gb at *;have HGB:=Lib.hid hgb;clear hgb;go_wp2_with (fail);clear k8;go_loopw [21] (fun i W=>∃ k:Nat,k≤d.nxt.length∧i=.int .i64 k∧Ext w4 W∧W.ownsRow gb 4 1 (.slice (some ⟨gb,0,none⟩) d.nxt.length d.nxt.length) d.nxt.length ((El d.nxt.length d.acc k).map Value.bool)) (fun i _=>d.nxt.length-(intOf i).toNat)
 case atStart=>exact ⟨0,by omega,rfl,hE6,hV5⟩
 case round=>
  clear hE6 hV5;obtain ⟨k,hk,rfl,hE6,hV5⟩:=hrel;have hgb1:w4.heap.size≤gb:=Nat.le_of_eq HGB.out;by_cases hlt:k<d.nxt.length
  ·have ca:wr.cell? ⟨ba,oa+k,none⟩=some (.bool (d.acc.getD k false)):=HAC.out wr hE6 k hlt;have cv:=Ap false hV5 (Oh _ _ _).symm k (by rw [Oh];exact hlt);have fv:=hV5.frozenAt k;obtain ⟨hV6,hgr6⟩:=A3 hV5 k (!d.acc.getD k false);rw [Adl _ _ _ hlt] at hV6;have hE7:=hE6.grown hgr6 (fun k e=>by cases e;exact hgb1);clear hgr6 hV5 hE6;generalize d.acc.getD k false=bx at *;cases bx
   ·go_wp2_with (fail);go_roundw
    case rel=>exact ⟨k+1,by omega,by go_num,hE7,hV6⟩
    case measure=>simp [intOf];omega
   ·go_wp2_with (fail);go_roundw
    case rel=>exact ⟨k+1,by omega,by go_num,hE7,hV6⟩
    case measure=>simp [intOf];omega
  ·obtain rfl:k=d.nxt.length:=by omega
   rw [Adm _ _ HV.out.accL] at hV5;have hH5:=hE6.heap HH5.out;have k8:=(cell_of_row wr B4 258 _ _ _ hH5).trans (Gc _ _ _ _);have f8:=frozen_of_row wr B4 258 _ _ hH5;have hgr:=B3 wr B4 (Ag (Ae d).cell (Ae d).cells (.slice bn' an' cn') (.slice (some ⟨gb,0,none⟩) d.nxt.length d.nxt.length));have hsc:wr.setCell ⟨B4,258,none⟩ (.slice (some ⟨gb,0,none⟩) d.nxt.length d.nxt.length)=wr.setRow B4 (Ag (Ae d).cell (Ae d).cells (.slice bn' an' cn') (.slice (some ⟨gb,0,none⟩) d.nxt.length d.nxt.length)):=by
    rw [setCell_eq_setRow wr _ _ _ _ _ _ hH5,M2]
   have hgb4:B4<gb:=by omega
   have hV6:=hV5.kept hgr (.inr (fun e=>by have:gb=B4:=Option.some.inj e;omega));have hB6:=setRow_heap wr B4 _ (Ag (Ae d).cell (Ae d).cells (.slice bn' an' cn') (.slice (some ⟨gb,0,none⟩) d.nxt.length d.nxt.length)) _ _ hH5;have hE7:=((hE5.trans hE43).trans hE6);have hE8:=hE7.setRow (by omega) (Ag (Ae d).cell (Ae d).cells (.slice bn' an' cn') (.slice (some ⟨gb,0,none⟩) d.nxt.length d.nxt.length));have hIT:IsT (wr.setRow B4 (Ag (Ae d).cell (Ae d).cells (.slice bn' an' cn') (.slice (some ⟨gb,0,none⟩) d.nxt.length d.nxt.length))) (Ag (Ae d).cell (Ae d).cells (.slice bn' an' cn') (.slice (some ⟨gb,0,none⟩) d.nxt.length d.nxt.length)) (Gh (Ae d)):=by
    refine ⟨_,_,rfl,?_,OwnB.bools (base:=gb) (l:=d.acc.map (!·)) (by
     show World.ownsRow _ _ _ _ _ _ _;rw [List.length_map,HV.out.accL];exact hV6) (by rw [List.length_map,HV.out.accL];omega)⟩
    exact HAn.out.ext ((hE43.trans hE6).setRow hle4 _)
   have HB1:=Lib.hid (Bg (hE6.heap HB1.out) (show w.heap.size+1≠B4 by omega) (Ag (Ae d).cell (Ae d).cells (.slice bn' an' cn') (.slice (some ⟨gb,0,none⟩) d.nxt.length d.nxt.length)));clear hH5 hV5 hV6 hE43 hE7 hgr;go_upto_region 11 with (fail)
   clear k8 f8 hsc;obtain ⟨w6,hw6⟩:∃ W,wr.setRow B4 (Ag (Ae d).cell (Ae d).cells (.slice bn' an' cn') (.slice (some ⟨gb,0,none⟩) d.nxt.length d.nxt.length))=W:=⟨_,rfl⟩;rw [hw6] at hIT hB6 hE8 HB1;rw [hw6];clear hw6;have HB6:=Lib.hid hB6;have hiB:(Tryz.prog.info? 108).map (·.size)=some (Ag (Ae d).cell (Ae d).cells (.slice bn' an' cn') (.slice (some ⟨gb,0,none⟩) d.nxt.length d.nxt.length)).size:=by rw [D1];exact Bv
   have hC:=Lib.hid (Jq (Gh (Ae d)) (Tj (Be HV.out)) (show d.nxt.length≤65536 by omega) _ w6 hIT);clear hB6 hIT;obtain ⟨A6,hA6⟩:∃ X,Ag (Ae d).cell (Ae d).cells (.slice bn' an' cn') (.slice (some ⟨gb,0,none⟩) d.nxt.length d.nxt.length)=X:=⟨_,rfl⟩;rw [hA6] at HB6 hiB hC;clear hA6;go_wp2_with (first
    | (refine wpList_load_row rfl 108 (.tmp 4) rfl _ rfl _ _ _ _ HB6.out Tryz.underlying108 rfl hiB ?_)
    | (go_at_call 69;(with_reducible refine hC.out.mono ?_);rintro e w7 ⟨v,r,rfl,hr,hcan,hhas,hE9⟩;have HR:=Lib.hid hr;have HCa:=Lib.hid hcan;have HH:=Lib.hid hhas;clear hcan hhas;obtain ⟨ac',lc',cc',an'',cn'',aa',la',ca'',rfl⟩:=hr.agg;clear hr;have hE10:=hE8.trans hE9;have HB1:=Lib.hid (hE9.heap HB1.out))
    | (refine wpList_store_row rfl 30 (.tmp 2) (.tmp 35) rfl _ _ rfl rfl _ _ HB1.out Ad rfl (An _ _ _ rfl rfl rfl) ?_))
   refine bodyPost_ret (v:=.tuple #[.agg (dA (.slice ac' lc' cc') (.slice an'' r.nxt.length cn'') (.slice aa' la' ca'')),.int .i64 0]) (A2 rfl _ _ _ _ _ _ _ rfl _ rfl (setRow_heap w7 _ _ (dA (.slice ac' lc' cc') (.slice an'' r.nxt.length cn'') (.slice aa' la' ca'')) 30 (0,0) HB1.out) Tryz.underlying30 rfl Ad) rfl ?_;exact ⟨r,⟨_,rfl,HR.out.setRow HCa.out.val HB1.out _⟩,HCa.out,fun u=>by rw [HH.out,Tk (Be HV.out),Dt],hE10.setRow (by omega) _⟩
open Go.RowKit Go.Shelf Go.WideMaps
open Go.Maps (Keyed)
structure Sta where
 p:Nat
 q:Nat
 s:Nat
deriving DecidableEq
def stL (x:Sta):List Value:=[iv x.p,iv x.q,.int .u64 (x.s:Int)]
def stA (x:Sta):Array Value:=#[iv x.p,iv x.q,.int .u64 (x.s:Int)]
def stV (x:Sta):Value:=.agg (stA x)
theorem Rr (x y:Sta) (h:stV x=stV y):x=y:=by
 cases x;cases y
 simp [stV,stA] at h;simp;omega
def Sta.ok (x:Sta):Prop:=x.p<9223372036854775808∧x.q<9223372036854775808∧x.s<18446744073709551616
theorem X7 (i:Nat) (hi:i<18446744073709551616):(Lit.int .u64 (i:Int)).wf=true:=by
 have e1:IntKind.u64.min=0:=rfl;have e2:IntKind.u64.max=18446744073709551615:=rfl;simp [Lit.wf,IntKind.wrap,IntKind.signed,IntKind.bits,e1,e2];omega
theorem Lh:Keyed Tryz.prog 116:=Keyed.of_law (deep_law_laid O3 (m:=3) (by omega) (of_decide_eq_true (by kernel_rfl)) (by kernel_rfl) (by rw [Tryz.underlying116]))
theorem Ry:∃ m,Tryz.prog.types.size=m+3:=⟨Tryz.prog.types.size-3,by have:3≤Tryz.prog.types.size:=of_decide_eq_true (by kernel_rfl);omega⟩
theorem Afg:Tryz.prog.keyType 116=true:=by kernel_rfl
theorem Vx:Tryz.prog.cellsOf 116=3:=by kernel_rfl
theorem Vy:Tryz.prog.cellsOf 114=1:=by kernel_rfl
theorem co3:Tryz.prog.cellsOf 3=1:=by kernel_rfl
theorem Ahn:Tryz.prog.cellsOf 60=1:=by kernel_rfl
theorem kl3 (d i:Nat) (h:i<9223372036854775808):Tryz.prog.keyLits (d+1) 3 [iv i]=some [.int .i64 i]:=by
 unfold Program.keyLits;simp only [Tryz.underlying3];rw [if_pos ⟨trivial,Il _ h⟩]
theorem Afh (d i:Nat) (h:i<18446744073709551616):Tryz.prog.keyLits (d+1) 60 [.int .u64 (i:Int)]=some [.int .u64 i]:=by
 unfold Program.keyLits;simp only [Tryz.underlying60];rw [if_pos ⟨trivial,X7 _ h⟩]
theorem Afi (d i:Nat) (h:i<18446744073709551616):Tryz.prog.keyLits (d+2) 114 [.int .u64 (i:Int)]=some [.int .u64 i]:=by
 show Program.keyLits Tryz.prog ((d+1)+1) 114 _=_;unfold Program.keyLits;simp only [Tryz.underlying114];rw [if_pos (by rw [Vy];rfl),show List.range 1=[0] from rfl,List.mapM_cons,List.mapM_nil,Ahn];simp only [Nat.zero_mul,List.drop_zero,List.take_succ_cons,List.take_zero];rw [Afh _ _ h];rfl
theorem Rq (x:Sta) (h:x.ok):∃ l,keyOf Tryz.prog 116 (stV x)=some l:=by
 obtain ⟨h1,h2,h3⟩:=h;obtain ⟨m,hm⟩:=Ry;refine ⟨.string (keyBytes [.int .i64 x.p,.int .i64 x.q,.int .u64 x.s]),?_⟩;unfold keyOf;simp only [Tryz.underlying116];rw [if_pos (by simp [Afg,Value.formed,stV,stA,Tryz.underlying116,Vx]),hm];have e:(stV x).cells.toList=[iv x.p,iv x.q,.int .u64 (x.s:Int)]:=rfl;rw [e];have:Tryz.prog.keyLits (m+3+1) 116 [iv x.p,iv x.q,.int .u64 (x.s:Int)]=some [.int .i64 x.p,.int .i64 x.q,.int .u64 x.s]:=by
  show Program.keyLits Tryz.prog ((m+3)+1) 116 _=_;unfold Program.keyLits;simp only [Tryz.underlying116];rw [if_pos (by rw [Vx];exact ⟨rfl,by kernel_rfl⟩)];rw [List.mapM_cons,List.mapM_cons,List.mapM_cons,List.mapM_nil];simp only [co3,Vy,List.drop_zero,List.drop_succ_cons,List.take_succ_cons,List.take_zero];rw [show m+3=(m+2)+1 by omega,kl3 _ _ h1,kl3 _ _ h2,show m+2+1=(m+1)+2 by omega,Afi _ _ h3];rfl
 rw [this];rfl
theorem Dc:(Tryz.prog.info? 116).map (·.size)=some 3:=by kernel_rfl
theorem Afy:(Tryz.prog.info? 116).map (fun i=>(i.zero,i.size,i.bytes))=some (some (.agg #[.int .i64 0,.int .i64 0,.int .u64 0]),3,24):=by kernel_rfl
theorem Rs (x:Sta):(stA x).all (·.oneCell')=true:=by simp [stA,Value.oneCell']
end Go.Proofs.YtaiogolidlamiaaGreatDoor
