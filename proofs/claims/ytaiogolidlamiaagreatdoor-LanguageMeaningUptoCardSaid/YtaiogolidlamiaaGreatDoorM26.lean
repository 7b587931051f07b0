import Derived.Test.YtaiogolidlamiaaGreatDoorM21
import Derived.Test.YtaiogolidlamiaaGreatDoorM25
set_option linter.unusedVariables false
set_option linter.unusedSimpArgs false
namespace Go.Proofs.YtaiogolidlamiaaGreatDoor
set_option maxRecDepth 100000
open Go.RowKit Go.Shelf
def rnA (k l r:Nat) (c:Cls) (mn:Nat) (mx:Int):Array Value:=#[iv k,.int .u64 (wd c 0),.int .u64 (wd c 1),.int .u64 (wd c 2),.int .u64 (wd c 3),iv l,iv r,iv mn,.int .i64 mx]
def DsAt (W:World) (b o:Nat) (ds:List Dfa):Prop:=∀ i,i<ds.length→∃ v1 v2 v3,W.rangeAt b (o+i*3) [v1,v2,v3]∧IsD W (.agg #[v1,v2,v3]) (ds.getD i dN)
theorem DsAt.ext {W W':World} {b o:Nat} {ds:List Dfa} (h:DsAt W b o ds) (hE:Ext W W'):DsAt W' b o ds:=fun i hi=>by
 obtain ⟨v1,v2,v3,h1,h2⟩:=h i hi;exact ⟨v1,v2,v3,fun j v hj=>hE.cell (h1 j v hj),h2.ext hE⟩
theorem Cg:(Tryz.prog.info? 64).map (·.size)=some 9:=by kernel_rfl
theorem Fe (v1 v2 v3:Value):(Tryz.prog.info? 30).map (·.size)=some [v1,v2,v3].length:=by kernel_rfl
theorem Ey (v1 v2 v3 v4:Value):(Tryz.prog.info? 62).map (·.size)=some [v1,v2,v3,v4].length:=by kernel_rfl
theorem Sh {d:Dfa} (hd:Val d) (hdn:d.nxt.length≤64) {lo:Nat} {hi:Int} {r:Option Dfa} (h:Ei d lo hi r) (q:Dfa) (hq:r=some q):Val q∧q.nxt.length≤64:=by
 subst hq;obtain ⟨e,he,p,h1,h2⟩:=h;have hel:=K7 (show Fit e (fun w=>w=[]) from he);cases p with
 | none=>cases (show some q=none from h2)
 | some p=>
  obtain ⟨hpv,hpl⟩:=I1 lo e p he.1.val (by omega) h1;unfold Dz at h2;simp only at h2;by_cases c1:hi=lo
  ·rw [if_pos c1] at h2;injection h2 with h2
   subst h2;exact ⟨hpv,hpl⟩
  ·rw [if_neg c1] at h2;by_cases c2:hi<0
   ·rw [if_pos c2] at h2;obtain ⟨s,h3,h4⟩:=h2;cases s with
    | none=>cases (show some q=none from h4)
    | some s=>exact Ie (show Dg p s (some q) from h4) q rfl
   ·rw [if_neg c2] at h2;obtain ⟨s,h3,h4⟩:=h2;cases s with
    | none=>cases (show some q=none from h4)
    | some s=>exact I1 _ p q hpv hpl (show C6 p s _ (some q) from h4)
def okD (ds:List Dfa):Prop:=∀ i,i<ds.length→Val (ds.getD i dN)∧(ds.getD i dN).nxt.length≤64
set_option maxHeartbeats 8000000 in
theorem Ado (k l r:Nat) (c:Cls) (mn:Nat) (mx:Int) (ds:List Dfa) (hg:(RNode.mk k l r c mn mx).good ds.length) (hmn:mn≤16) (hmx:mx=-1∨(mn:Int)≤mx) (hmx16:mx≤16) (hok:okD ds) (b o N cap:Nat) (hN:ds.length≤N) (hNl:N≤200) (w:World) (hT:Tab w) (hsz:0<w.heap.size) (hds:DsAt w b o ds) :
  Calls Tryz.prog 83 #[.agg (rnA k l r c mn mx),.slice (some ⟨b,o,none⟩) N cap] w fun e w'=>∃ q,ResOf w' e q∧C7 (RNode.mk k l r c mn mx) ds q∧Ext w w':=by
 have HTa:=Lib.hid (fun W (hW:Ext w W)=>hT.below hW.below hsz);have HOK:=Lib.hid hok;have HDS:=Lib.hid hds;have hE0:=((Ext.refl w).alloc (.cells (rnA k l r c mn mx) 64)).alloc (.cells #[.slice none 0 0,.slice none 0 0,.slice none 0 0] 30);have H2:=Af (Ab w (.cells (rnA k l r c mn mx) 64)) (.cells #[.slice none 0 0,.slice none 0 0,.slice none 0 0] 30);have H4:=heap_alloc2_new w (.cells (rnA k l r c mn mx) 64) (.cells #[.slice none 0 0,.slice none 0 0,.slice none 0 0] 30);obtain ⟨g1,g2,g3,g4,g5⟩:=hg;simp only at g1 g2 g3 g4 g5;have f117:=fun W (hW:Ext w W)=>Lib.hid (Tm W (HTa.out W hW) (Nat.lt_of_lt_of_le hsz hW.size))
 have f45:=fun W (hW:Ext w W)=>Lib.hid (Mv [] (by simp) _ W (Wr W))
 have f118:=fun W (hW:Ext w W)=>Lib.hid (Aey c W (HTa.out W hW) (Nat.lt_of_lt_of_le hsz hW.size))
 clear hT hok hds;go_enter Tryz.func83,Tryz.ntmps83;go_upto_region 1 with (fail)
 obtain ⟨w1,hw1⟩:∃ W,(w.alloc (.cells (rnA k l r c mn mx) 64)).alloc (.cells #[.slice none 0 0,.slice none 0 0,.slice none 0 0] 30)=W:=⟨_,rfl⟩;rw [hw1] at hE0 H2 H4;simp only [hw1];clear hw1;have HKs:=Lib.hid (fun (W:World) (hW:W.heap[w.heap.size]? = some (.cells (rnA k l r c mn mx) 64 (0,0)))=>(⟨(cell_of_row W _ 0 _ _ _ hW).trans rfl,(cell_of_row W _ 5 _ _ _ hW).trans rfl,(cell_of_row W _ 6 _ _ _ hW).trans rfl,(cell_of_row W _ 7 _ _ _ hW).trans rfl,(cell_of_row W _ 8 _ _ _ hW).trans rfl⟩ :
  W.cell? ⟨w.heap.size,0,none⟩=some (iv k)∧W.cell? ⟨w.heap.size,5,none⟩=some (iv l)∧W.cell? ⟨w.heap.size,6,none⟩=some (iv r)∧W.cell? ⟨w.heap.size,7,none⟩=some (iv mn)∧W.cell? ⟨w.heap.size,8,none⟩=some (.int .i64 mx)))
 have hr62:w1.rangeAt w.heap.size 1 [.int .u64 (wd c 0),.int .u64 (wd c 1),.int .u64 (wd c 2),.int .u64 (wd c 3)]:=fun j v hj=>by
  rw [cell_of_row w1 _ _ _ _ _ H2]
  match j,hj with
  | 0,hj=>exact hj
  | 1,hj=>exact hj
  | 2,hj=>exact hj
  | 3,hj=>exact hj
 have HR62:=Lib.hid hr62;have H2:=Lib.hid H2;have H4:=Lib.hid H4;have HE0:=Lib.hid hE0;clear hE0 hr62;have hk:=(HKs.out w1 H2.out).1;have hcase:k=1∨k=2∨k=3∨k=4∨k=5∨k=6∨k=7∨k=8:=by omega
 rcases hcase with rfl|rfl|rfl|rfl|rfl|rfl|rfl|rfl
 ·go_wp2_with (first
  | (go_at_call 117;(with_reducible refine (f117 _ HE0.out).out.mono ?_);rintro e w2 ⟨re,hres,hcan,hhas,hE2⟩;obtain ⟨ac1,lc1,cc1,an1,ln1,cn1,aa1,la1,ca1,k1,rfl⟩:=hres.form;have HRes:=Lib.hid hres;have HCan:=Lib.hid hcan;have HHas:=Lib.hid hhas;have HE2:=Lib.hid (HE0.out.trans hE2);have H4:=Lib.hid (hE2.heap H4.out);clear hres hcan hhas hE2)
  | (refine wpList_store_row rfl 30 (.tmp 4) (.tmp 11) rfl _ _ rfl rfl _ _ H4.out Ad rfl (An _ _ _ rfl rfl rfl) ?_))
  refine bodyPost_ret (v:=.tuple #[.agg (dA (.slice ac1 lc1 cc1) (.slice an1 ln1 cn1) (.slice aa1 la1 ca1)),.int .i64 k1]) (A2 rfl _ _ _ _ _ _ _ rfl _ rfl (setRow_heap w2 _ _ (dA (.slice ac1 lc1 cc1) (.slice an1 ln1 cn1) (.slice aa1 la1 ca1)) 30 (0,0) H4.out) Tryz.underlying30 rfl Ad) rfl ?_;refine ⟨some re,HRes.out.setRow (fun d' h=>by injection h with h;subst h;exact HCan.out.val) H4.out _,?_,HE2.out.setRow (by omega) _⟩;show Dp _ _;exact ⟨re,rfl,HCan.out,fun u=>by rw [HHas.out];simp⟩
 ·go_wp2_with (first
  | (go_at_call 45;(with_reducible refine (f45 _ HE0.out).out.mono ?_);rintro e w2 ⟨re,hres,hcan,hhas,hE2⟩;obtain ⟨ac1,lc1,cc1,an1,ln1,cn1,aa1,la1,ca1,k1,rfl⟩:=hres.form;have HRes:=Lib.hid hres;have HCan:=Lib.hid hcan;have HHas:=Lib.hid hhas;have HE2:=Lib.hid (HE0.out.trans hE2);have H4:=Lib.hid (hE2.heap H4.out);clear hres hcan hhas hE2)
  | (refine wpList_store_row rfl 30 (.tmp 4) (.tmp 16) rfl _ _ rfl rfl _ _ H4.out Ad rfl (An _ _ _ rfl rfl rfl) ?_))
  refine bodyPost_ret (v:=.tuple #[.agg (dA (.slice ac1 lc1 cc1) (.slice an1 ln1 cn1) (.slice aa1 la1 ca1)),.int .i64 k1]) (A2 rfl _ _ _ _ _ _ _ rfl _ rfl (setRow_heap w2 _ _ (dA (.slice ac1 lc1 cc1) (.slice an1 ln1 cn1) (.slice aa1 la1 ca1)) 30 (0,0) H4.out) Tryz.underlying30 rfl Ad) rfl ?_;refine ⟨some re,HRes.out.setRow (fun d' h=>by injection h with h;subst h;exact HCan.out.val) H4.out _,?_,HE2.out.setRow (by omega) _⟩;show Dp _ _;exact ⟨re,rfl,HCan.out,HHas.out⟩
 ·go_wp2_with (first
  | (refine wpList_load_mid rfl 62 (.tmp 20) rfl _ 1 rfl _ _ HR62.out Tryz.underlying62 rfl (Ey _ _ _ _) ?_)
  | (go_at_call 118;(with_reducible refine (f118 _ HE0.out).out.mono ?_);rintro e w2 ⟨re,hres,hcan,hhas,hE2⟩;obtain ⟨ac1,lc1,cc1,an1,ln1,cn1,aa1,la1,ca1,k1,rfl⟩:=hres.form;have HRes:=Lib.hid hres;have HCan:=Lib.hid hcan;have HHas:=Lib.hid hhas;have HE2:=Lib.hid (HE0.out.trans hE2);have H4:=Lib.hid (hE2.heap H4.out);clear hres hcan hhas hE2)
  | (refine wpList_store_row rfl 30 (.tmp 4) (.tmp 23) rfl _ _ rfl rfl _ _ H4.out Ad rfl (An _ _ _ rfl rfl rfl) ?_))
  refine bodyPost_ret (v:=.tuple #[.agg (dA (.slice ac1 lc1 cc1) (.slice an1 ln1 cn1) (.slice aa1 la1 ca1)),.int .i64 k1]) (A2 rfl _ _ _ _ _ _ _ rfl _ rfl (setRow_heap w2 _ _ (dA (.slice ac1 lc1 cc1) (.slice an1 ln1 cn1) (.slice aa1 la1 ca1)) 30 (0,0) H4.out) Tryz.underlying30 rfl Ad) rfl ?_;refine ⟨some re,HRes.out.setRow (fun d' h=>by injection h with h;subst h;exact HCan.out.val) H4.out _,?_,HE2.out.setRow (by omega) _⟩;show Dp _ _;exact ⟨re,rfl,HCan.out,HHas.out⟩
 ·obtain ⟨hl1,hr1⟩:=g1 (by simp);obtain ⟨x1,x2,x3,hxr,hxD⟩:=HDS.out l hl1;obtain ⟨y1,y2,y3,hyr,hyD⟩:=HDS.out r hr1;obtain ⟨hxv,hxl⟩:=HOK.out l hl1;obtain ⟨hyv,hyl⟩:=HOK.out r hr1;have hlN:l<N:=by omega
  have hrN:r<N:=by omega
  have HXR:=Lib.hid (fun (W:World) (hW:Ext w W) j v hj=>hW.cell (hxr j v hj));have HYR:=Lib.hid (fun (W:World) (hW:Ext w W) j v hj=>hW.cell (hyr j v hj));have fc:=fun W (hW:Ext w W)=>Lib.hid (Pr (ds.getD l dN) (ds.getD r dN) hxv hyv hxl hyl _ _ W (HTa.out W hW) (Nat.lt_of_lt_of_le hsz hW.size) (hxD.ext hW) (hyD.ext hW))
  clear hxr hyr hxD hyD;go_upto_region 9 with (fail)
  clear hk;refine Dh 14 [(0,true),(1,true),(2,true),(3,true),(4,true),(5,true),(6,true),(7,true),(8,true),(9,true),(10,false),(11,true),(12,true),(13,false),(14,false)] (by kernel_rfl) (by kernel_rfl) (fun _ _ _ _ h=>h)
   (fun V=>Ext w V∧V.heap[w.heap.size]? = some (.cells (rnA 4 l r c mn mx) 64 (0,0))) ⟨HE0.out.trans (Ext.refl w1).drew,(Ext.refl w1).drew.heap H2.out⟩ ?_
  have hCd:Ext w w1.drew∧w1.drew.heap[w.heap.size]? = some (.cells (rnA 4 l r c mn mx) 64 (0,0)):=⟨HE0.out.trans (Ext.refl w1).drew,(Ext.refl w1).drew.heap H2.out⟩;have H4d:=(Ext.refl w1).drew.heap H4.out;obtain ⟨wy,hwy⟩:∃ V,w1.drew=V:=⟨_,rfl⟩;rw [hwy] at hCd H4d;rw [hwy];clear hwy;iterate 4
   refine Ax (v:=?_) rfl rfl (fun V hV=>?_) ?_
   rotate_left
   ·obtain ⟨c0,c5,c6,c7,c8⟩:=HKs.out V hV.2;clear hV;go_simp;first|done|with_reducible rfl
   simp only [Act.put,List.setIfInBounds_toArray,List.set_cons_zero,List.set_cons_succ]
  refine Ax (v:=.agg #[x1,x2,x3]) rfl rfl (fun V hV=>?_) ?_
  ·exact F0 30 (.tmp 30) rfl b (o+l*3) rfl _ _ (HXR.out V hV.1) Tryz.underlying30 rfl (Fe _ _ _)
  simp only [Act.put,List.setIfInBounds_toArray,List.set_cons_zero,List.set_cons_succ];iterate 4
   refine Ax (v:=?_) rfl rfl (fun V hV=>?_) ?_
   rotate_left
   ·obtain ⟨c0,c5,c6,c7,c8⟩:=HKs.out V hV.2;clear hV;go_simp;first|done|with_reducible rfl
   simp only [Act.put,List.setIfInBounds_toArray,List.set_cons_zero,List.set_cons_succ]
  refine Ax (v:=.agg #[y1,y2,y3]) rfl rfl (fun V hV=>?_) ?_
  ·exact F0 30 (.tmp 35) rfl b (o+r*3) rfl _ _ (HYR.out V hV.1) Tryz.underlying30 rfl (Fe _ _ _)
  simp only [Act.put,List.setIfInBounds_toArray,List.set_cons_zero,List.set_cons_succ];refine B2 rfl (fun Kk hK=>?_);go_simp
  (with_reducible refine (fc wy hCd.1).out.mono ?_)
  rintro e w2 ⟨re,hres,hrel,hE2⟩;obtain ⟨ac1,lc1,cc1,an1,ln1,cn1,aa1,la1,ca1,k1,rfl⟩:=hres.form;have H4:=Lib.hid (hE2.heap H4d);have HRes:=Lib.hid hres;have HRel:=Lib.hid hrel;have HE2:=Lib.hid (hCd.1.trans hE2);have HC2:=Lib.hid (hE2.heap hCd.2);clear hres hrel fc H4d;refine hK _ _ (fun _=>⟨HE2.out,HC2.out⟩) ?_;clear hK Kk;refine Ax (v:=.agg (dA (.slice ac1 lc1 cc1) (.slice an1 ln1 cn1) (.slice aa1 la1 ca1))) rfl rfl (fun V _=>?_) ?_
  ·go_simp
  simp only [Act.put,List.setIfInBounds_toArray,List.set_cons_zero,List.set_cons_succ];refine Ax (v:=.int .i64 k1) rfl rfl (fun V _=>?_) ?_
  ·go_simp
  simp only [Act.put,List.setIfInBounds_toArray,List.set_cons_zero,List.set_cons_succ];refine B2 rfl (fun Kk hK=>?_);refine Hc 30 (.tmp 4) (.tmp 38) rfl rfl _ _ rfl rfl _ _ H4.out Ad rfl (An _ _ _ rfl rfl rfl) ?_;refine hK _ _ (fun _=>⟨HE2.out.setRow (show w.heap.size≤w.heap.size+1 by omega) _,Bg HC2.out (show w.heap.size≠w.heap.size+1 by omega) _⟩) ?_;clear hK Kk;refine B2 rfl (fun Kk hK=>?_);go_simp;refine hK _ _ (fun h=>absurd h (by omega)) ?_;clear hK Kk;refine Di ?_;clear hCd hE2;go_wp2;refine bodyPost_ret (v:=.tuple #[.agg (dA (.slice ac1 lc1 cc1) (.slice an1 ln1 cn1) (.slice aa1 la1 ca1)),.int .i64 k1]) (A2 rfl _ _ _ _ _ _ _ rfl _ rfl (setRow_heap w2 _ _ (dA (.slice ac1 lc1 cc1) (.slice an1 ln1 cn1) (.slice aa1 la1 ca1)) 30 (0,0) H4.out) Tryz.underlying30 rfl Ad) rfl ?_;refine ⟨re,HRes.out.setRow (fun d' h=>(Ie HRel.out d' h).1) H4.out _,?_,HE2.out.setRow (by omega) _⟩;exact HRel.out
 ·obtain ⟨hl1,hr1⟩:=g1 (by simp);obtain ⟨x1,x2,x3,hxr,hxD⟩:=HDS.out l hl1;obtain ⟨y1,y2,y3,hyr,hyD⟩:=HDS.out r hr1;obtain ⟨hxv,hxl⟩:=HOK.out l hl1;obtain ⟨hyv,hyl⟩:=HOK.out r hr1;have hlN:l<N:=by omega
  have hrN:r<N:=by omega
  have HXR:=Lib.hid (fun (W:World) (hW:Ext w W) j v hj=>hW.cell (hxr j v hj));have HYR:=Lib.hid (fun (W:World) (hW:Ext w W) j v hj=>hW.cell (hyr j v hj));have fc:=fun W (hW:Ext w W)=>Lib.hid (Od (ds.getD l dN) (ds.getD r dN) hxv hyv hxl hyl _ _ W (HTa.out W hW) (Nat.lt_of_lt_of_le hsz hW.size) (hxD.ext hW) (hyD.ext hW))
  clear hxr hyr hxD hyD;go_upto_region 11 with (fail)
  clear hk;refine Dh 14 [(0,true),(1,true),(2,true),(3,true),(4,true),(5,true),(6,true),(7,true),(8,true),(9,true),(10,false),(11,true),(12,true),(13,false),(14,false)] (by kernel_rfl) (by kernel_rfl) (fun _ _ _ _ h=>h)
   (fun V=>Ext w V∧V.heap[w.heap.size]? = some (.cells (rnA 5 l r c mn mx) 64 (0,0))) ⟨HE0.out.trans (Ext.refl w1).drew,(Ext.refl w1).drew.heap H2.out⟩ ?_
  have hCd:Ext w w1.drew∧w1.drew.heap[w.heap.size]? = some (.cells (rnA 5 l r c mn mx) 64 (0,0)):=⟨HE0.out.trans (Ext.refl w1).drew,(Ext.refl w1).drew.heap H2.out⟩;have H4d:=(Ext.refl w1).drew.heap H4.out;obtain ⟨wy,hwy⟩:∃ V,w1.drew=V:=⟨_,rfl⟩;rw [hwy] at hCd H4d;rw [hwy];clear hwy;iterate 4
   refine Ax (v:=?_) rfl rfl (fun V hV=>?_) ?_
   rotate_left
   ·obtain ⟨c0,c5,c6,c7,c8⟩:=HKs.out V hV.2;clear hV;go_simp;first|done|with_reducible rfl
   simp only [Act.put,List.setIfInBounds_toArray,List.set_cons_zero,List.set_cons_succ]
  refine Ax (v:=.agg #[x1,x2,x3]) rfl rfl (fun V hV=>?_) ?_
  ·exact F0 30 (.tmp 45) rfl b (o+l*3) rfl _ _ (HXR.out V hV.1) Tryz.underlying30 rfl (Fe _ _ _)
  simp only [Act.put,List.setIfInBounds_toArray,List.set_cons_zero,List.set_cons_succ];iterate 4
   refine Ax (v:=?_) rfl rfl (fun V hV=>?_) ?_
   rotate_left
   ·obtain ⟨c0,c5,c6,c7,c8⟩:=HKs.out V hV.2;clear hV;go_simp;first|done|with_reducible rfl
   simp only [Act.put,List.setIfInBounds_toArray,List.set_cons_zero,List.set_cons_succ]
  refine Ax (v:=.agg #[y1,y2,y3]) rfl rfl (fun V hV=>?_) ?_
  ·exact F0 30 (.tmp 50) rfl b (o+r*3) rfl _ _ (HYR.out V hV.1) Tryz.underlying30 rfl (Fe _ _ _)
  simp only [Act.put,List.setIfInBounds_toArray,List.set_cons_zero,List.set_cons_succ];refine B2 rfl (fun Kk hK=>?_);go_simp
  (with_reducible refine (fc wy hCd.1).out.mono ?_)
  rintro e w2 ⟨re,hres,hrel,hE2⟩;obtain ⟨ac1,lc1,cc1,an1,ln1,cn1,aa1,la1,ca1,k1,rfl⟩:=hres.form;have H4:=Lib.hid (hE2.heap H4d);have HRes:=Lib.hid hres;have HRel:=Lib.hid hrel;have HE2:=Lib.hid (hCd.1.trans hE2);have HC2:=Lib.hid (hE2.heap hCd.2);clear hres hrel fc H4d;refine hK _ _ (fun _=>⟨HE2.out,HC2.out⟩) ?_;clear hK Kk;refine Ax (v:=.agg (dA (.slice ac1 lc1 cc1) (.slice an1 ln1 cn1) (.slice aa1 la1 ca1))) rfl rfl (fun V _=>?_) ?_
  ·go_simp
  simp only [Act.put,List.setIfInBounds_toArray,List.set_cons_zero,List.set_cons_succ];refine Ax (v:=.int .i64 k1) rfl rfl (fun V _=>?_) ?_
  ·go_simp
  simp only [Act.put,List.setIfInBounds_toArray,List.set_cons_zero,List.set_cons_succ];refine B2 rfl (fun Kk hK=>?_);refine Hc 30 (.tmp 4) (.tmp 53) rfl rfl _ _ rfl rfl _ _ H4.out Ad rfl (An _ _ _ rfl rfl rfl) ?_;refine hK _ _ (fun _=>⟨HE2.out.setRow (show w.heap.size≤w.heap.size+1 by omega) _,Bg HC2.out (show w.heap.size≠w.heap.size+1 by omega) _⟩) ?_;clear hK Kk;refine B2 rfl (fun Kk hK=>?_);go_simp;refine hK _ _ (fun h=>absurd h (by omega)) ?_;clear hK Kk;refine Di ?_;clear hCd hE2;go_wp2;refine bodyPost_ret (v:=.tuple #[.agg (dA (.slice ac1 lc1 cc1) (.slice an1 ln1 cn1) (.slice aa1 la1 ca1)),.int .i64 k1]) (A2 rfl _ _ _ _ _ _ _ rfl _ rfl (setRow_heap w2 _ _ (dA (.slice ac1 lc1 cc1) (.slice an1 ln1 cn1) (.slice aa1 la1 ca1)) 30 (0,0) H4.out) Tryz.underlying30 rfl Ad) rfl ?_;refine ⟨re,HRes.out.setRow (Gl HRel.out) H4.out _,?_,HE2.out.setRow (by omega) _⟩;exact HRel.out
 ·obtain ⟨hl1,hr1⟩:=g1 (by simp);obtain ⟨x1,x2,x3,hxr,hxD⟩:=HDS.out l hl1;obtain ⟨y1,y2,y3,hyr,hyD⟩:=HDS.out r hr1;obtain ⟨hxv,hxl⟩:=HOK.out l hl1;obtain ⟨hyv,hyl⟩:=HOK.out r hr1;have hlN:l<N:=by omega
  have hrN:r<N:=by omega
  have HXR:=Lib.hid (fun (W:World) (hW:Ext w W) j v hj=>hW.cell (hxr j v hj));have HYR:=Lib.hid (fun (W:World) (hW:Ext w W) j v hj=>hW.cell (hyr j v hj));have fc:=fun W (hW:Ext w W)=>Lib.hid (Ajl (ds.getD l dN) (ds.getD r dN) hxv hyv hxl hyl _ _ W (HTa.out W hW) (Nat.lt_of_lt_of_le hsz hW.size) (hxD.ext hW) (hyD.ext hW))
  clear hxr hyr hxD hyD;go_upto_region 13 with (fail)
  clear hk;refine Dh 14 [(0,true),(1,true),(2,true),(3,true),(4,true),(5,true),(6,true),(7,true),(8,true),(9,true),(10,false),(11,true),(12,true),(13,false),(14,false)] (by kernel_rfl) (by kernel_rfl) (fun _ _ _ _ h=>h)
   (fun V=>Ext w V∧V.heap[w.heap.size]? = some (.cells (rnA 6 l r c mn mx) 64 (0,0))) ⟨HE0.out.trans (Ext.refl w1).drew,(Ext.refl w1).drew.heap H2.out⟩ ?_
  have hCd:Ext w w1.drew∧w1.drew.heap[w.heap.size]? = some (.cells (rnA 6 l r c mn mx) 64 (0,0)):=⟨HE0.out.trans (Ext.refl w1).drew,(Ext.refl w1).drew.heap H2.out⟩;have H4d:=(Ext.refl w1).drew.heap H4.out;obtain ⟨wy,hwy⟩:∃ V,w1.drew=V:=⟨_,rfl⟩;rw [hwy] at hCd H4d;rw [hwy];clear hwy;iterate 4
   refine Ax (v:=?_) rfl rfl (fun V hV=>?_) ?_
   rotate_left
   ·obtain ⟨c0,c5,c6,c7,c8⟩:=HKs.out V hV.2;clear hV;go_simp;first|done|with_reducible rfl
   simp only [Act.put,List.setIfInBounds_toArray,List.set_cons_zero,List.set_cons_succ]
  refine Ax (v:=.agg #[x1,x2,x3]) rfl rfl (fun V hV=>?_) ?_
  ·exact F0 30 (.tmp 60) rfl b (o+l*3) rfl _ _ (HXR.out V hV.1) Tryz.underlying30 rfl (Fe _ _ _)
  simp only [Act.put,List.setIfInBounds_toArray,List.set_cons_zero,List.set_cons_succ];iterate 4
   refine Ax (v:=?_) rfl rfl (fun V hV=>?_) ?_
   rotate_left
   ·obtain ⟨c0,c5,c6,c7,c8⟩:=HKs.out V hV.2;clear hV;go_simp;first|done|with_reducible rfl
   simp only [Act.put,List.setIfInBounds_toArray,List.set_cons_zero,List.set_cons_succ]
  refine Ax (v:=.agg #[y1,y2,y3]) rfl rfl (fun V hV=>?_) ?_
  ·exact F0 30 (.tmp 65) rfl b (o+r*3) rfl _ _ (HYR.out V hV.1) Tryz.underlying30 rfl (Fe _ _ _)
  simp only [Act.put,List.setIfInBounds_toArray,List.set_cons_zero,List.set_cons_succ];refine B2 rfl (fun Kk hK=>?_);go_simp
  (with_reducible refine (fc wy hCd.1).out.mono ?_)
  rintro e w2 ⟨re,hres,hrel,hE2⟩;obtain ⟨ac1,lc1,cc1,an1,ln1,cn1,aa1,la1,ca1,k1,rfl⟩:=hres.form;have H4:=Lib.hid (hE2.heap H4d);have HRes:=Lib.hid hres;have HRel:=Lib.hid hrel;have HE2:=Lib.hid (hCd.1.trans hE2);have HC2:=Lib.hid (hE2.heap hCd.2);clear hres hrel fc H4d;refine hK _ _ (fun _=>⟨HE2.out,HC2.out⟩) ?_;clear hK Kk;refine Ax (v:=.agg (dA (.slice ac1 lc1 cc1) (.slice an1 ln1 cn1) (.slice aa1 la1 ca1))) rfl rfl (fun V _=>?_) ?_
  ·go_simp
  simp only [Act.put,List.setIfInBounds_toArray,List.set_cons_zero,List.set_cons_succ];refine Ax (v:=.int .i64 k1) rfl rfl (fun V _=>?_) ?_
  ·go_simp
  simp only [Act.put,List.setIfInBounds_toArray,List.set_cons_zero,List.set_cons_succ];refine B2 rfl (fun Kk hK=>?_);refine Hc 30 (.tmp 4) (.tmp 68) rfl rfl _ _ rfl rfl _ _ H4.out Ad rfl (An _ _ _ rfl rfl rfl) ?_;refine hK _ _ (fun _=>⟨HE2.out.setRow (show w.heap.size≤w.heap.size+1 by omega) _,Bg HC2.out (show w.heap.size≠w.heap.size+1 by omega) _⟩) ?_;clear hK Kk;refine B2 rfl (fun Kk hK=>?_);go_simp;refine hK _ _ (fun h=>absurd h (by omega)) ?_;clear hK Kk;refine Di ?_;clear hCd hE2;go_wp2;refine bodyPost_ret (v:=.tuple #[.agg (dA (.slice ac1 lc1 cc1) (.slice an1 ln1 cn1) (.slice aa1 la1 ca1)),.int .i64 k1]) (A2 rfl _ _ _ _ _ _ _ rfl _ rfl (setRow_heap w2 _ _ (dA (.slice ac1 lc1 cc1) (.slice an1 ln1 cn1) (.slice aa1 la1 ca1)) 30 (0,0) H4.out) Tryz.underlying30 rfl Ad) rfl ?_;refine ⟨re,HRes.out.setRow (Gl HRel.out) H4.out _,?_,HE2.out.setRow (by omega) _⟩;exact HRel.out
 ·have hl1:=g2 (by simp);obtain ⟨x1,x2,x3,hxr,hxD⟩:=HDS.out l hl1;obtain ⟨hxv,hxl⟩:=HOK.out l hl1;have hlN:l<N:=by omega
  have HXR:=Lib.hid (fun (W:World) (hW:Ext w W) j v hj=>hW.cell (hxr j v hj));have fc:=fun W (hW:Ext w W)=>Lib.hid (Tl (ds.getD l dN) hxv hxl _ W (HTa.out W hW) (Nat.lt_of_lt_of_le hsz hW.size) (hxD.ext hW))
  obtain ⟨c0,c5,c6,c7,c8⟩:=HKs.out w1 H2.out;clear hxr hxD;go_wp2_with (first
   | (refine wpList_load_mid rfl 30 (.tmp 75) rfl b (o+l*3) rfl _ _ (HXR.out w1 HE0.out) Tryz.underlying30 rfl (Fe _ _ _) ?_)
   | (go_at_call 32;(with_reducible refine (fc _ HE0.out).out.mono ?_);rintro e w2 ⟨re,hres,hcan,hhas,hE2⟩;obtain ⟨ac1,lc1,cc1,an1,ln1,cn1,aa1,la1,ca1,k1,rfl⟩:=hres.form;have HRes:=Lib.hid hres;have HCan:=Lib.hid hcan;have HHas:=Lib.hid hhas;have HE2:=Lib.hid (HE0.out.trans hE2);have H4:=Lib.hid (hE2.heap H4.out);clear hres hcan hhas hE2)
   | (refine wpList_store_row rfl 30 (.tmp 4) (.tmp 78) rfl _ _ rfl rfl _ _ H4.out Ad rfl (An _ _ _ rfl rfl rfl) ?_))
  refine bodyPost_ret (v:=.tuple #[.agg (dA (.slice ac1 lc1 cc1) (.slice an1 ln1 cn1) (.slice aa1 la1 ca1)),.int .i64 k1]) (A2 rfl _ _ _ _ _ _ _ rfl _ rfl (setRow_heap w2 _ _ (dA (.slice ac1 lc1 cc1) (.slice an1 ln1 cn1) (.slice aa1 la1 ca1)) 30 (0,0) H4.out) Tryz.underlying30 rfl Ad) rfl ?_;refine ⟨some re,HRes.out.setRow (fun d' h=>by injection h with h;subst h;exact HCan.out.val) H4.out _,?_,HE2.out.setRow (by omega) _⟩;show Dp _ _;exact ⟨re,rfl,HCan.out,fun u=>by rw [HHas.out];simp⟩
 ·have hl1:=g2 (by simp);obtain ⟨x1,x2,x3,hxr,hxD⟩:=HDS.out l hl1;obtain ⟨hxv,hxl⟩:=HOK.out l hl1;have hlN:l<N:=by omega
  have HXR:=Lib.hid (fun (W:World) (hW:Ext w W) j v hj=>hW.cell (hxr j v hj));have fc:=fun W (hW:Ext w W)=>Lib.hid (Aa2 (ds.getD l dN) hxv hxl mn hmn mx hmx hmx16 _ W (HTa.out W hW) (Nat.lt_of_lt_of_le hsz hW.size) (hxD.ext hW))
  clear hxr hxD;go_upto_region 16 with (fail)
  clear hk;refine Dh 13 [(0,true),(1,true),(2,true),(3,true),(4,true),(5,true),(6,true),(7,true),(8,true),(9,false),(10,true),(11,true),(12,false),(13,false)] (by kernel_rfl) (by kernel_rfl) (fun _ _ _ _ h=>h)
   (fun V=>Ext w V∧V.heap[w.heap.size]? = some (.cells (rnA 8 l r c mn mx) 64 (0,0))) ⟨HE0.out.trans (Ext.refl w1).drew,(Ext.refl w1).drew.heap H2.out⟩ ?_
  have hCd:Ext w w1.drew∧w1.drew.heap[w.heap.size]? = some (.cells (rnA 8 l r c mn mx) 64 (0,0)):=⟨HE0.out.trans (Ext.refl w1).drew,(Ext.refl w1).drew.heap H2.out⟩;have H4d:=(Ext.refl w1).drew.heap H4.out;obtain ⟨wy,hwy⟩:∃ V,w1.drew=V:=⟨_,rfl⟩;rw [hwy] at hCd H4d;rw [hwy];clear hwy;iterate 4
   refine Ax (v:=?_) rfl rfl (fun V hV=>?_) ?_
   rotate_left
   ·obtain ⟨c0,c5,c6,c7,c8⟩:=HKs.out V hV.2;clear hV;go_simp;first|done|with_reducible rfl
   simp only [Act.put,List.setIfInBounds_toArray,List.set_cons_zero,List.set_cons_succ]
  refine Ax (v:=.agg #[x1,x2,x3]) rfl rfl (fun V hV=>?_) ?_
  ·exact F0 30 (.tmp 83) rfl b (o+l*3) rfl _ _ (HXR.out V hV.1) Tryz.underlying30 rfl (Fe _ _ _)
  simp only [Act.put,List.setIfInBounds_toArray,List.set_cons_zero,List.set_cons_succ];iterate 4
   refine Ax (v:=?_) rfl rfl (fun V hV=>?_) ?_
   rotate_left
   ·obtain ⟨c0,c5,c6,c7,c8⟩:=HKs.out V hV.2;clear hV;go_simp;first|done|with_reducible rfl
   simp only [Act.put,List.setIfInBounds_toArray,List.set_cons_zero,List.set_cons_succ]
  refine B2 rfl (fun Kk hK=>?_);go_simp
  (with_reducible refine (fc wy hCd.1).out.mono ?_)
  rintro e w2 ⟨re,hres,hrel,hE2⟩;obtain ⟨ac1,lc1,cc1,an1,ln1,cn1,aa1,la1,ca1,k1,rfl⟩:=hres.form;have H4:=Lib.hid (hE2.heap H4d);have HRes:=Lib.hid hres;have HRel:=Lib.hid hrel;have HE2:=Lib.hid (hCd.1.trans hE2);have HC2:=Lib.hid (hE2.heap hCd.2);clear hres hrel fc H4d;refine hK _ _ (fun _=>⟨HE2.out,HC2.out⟩) ?_;clear hK Kk;refine Ax (v:=.agg (dA (.slice ac1 lc1 cc1) (.slice an1 ln1 cn1) (.slice aa1 la1 ca1))) rfl rfl (fun V _=>?_) ?_
  ·go_simp
  simp only [Act.put,List.setIfInBounds_toArray,List.set_cons_zero,List.set_cons_succ];refine Ax (v:=.int .i64 k1) rfl rfl (fun V _=>?_) ?_
  ·go_simp
  simp only [Act.put,List.setIfInBounds_toArray,List.set_cons_zero,List.set_cons_succ];refine B2 rfl (fun Kk hK=>?_);refine Hc 30 (.tmp 4) (.tmp 90) rfl rfl _ _ rfl rfl _ _ H4.out Ad rfl (An _ _ _ rfl rfl rfl) ?_;refine hK _ _ (fun _=>⟨HE2.out.setRow (show w.heap.size≤w.heap.size+1 by omega) _,Bg HC2.out (show w.heap.size≠w.heap.size+1 by omega) _⟩) ?_;clear hK Kk;refine B2 rfl (fun Kk hK=>?_);go_simp;refine hK _ _ (fun h=>absurd h (by omega)) ?_;clear hK Kk;refine Di ?_;clear hCd hE2;go_wp2;refine bodyPost_ret (v:=.tuple #[.agg (dA (.slice ac1 lc1 cc1) (.slice an1 ln1 cn1) (.slice aa1 la1 ca1)),.int .i64 k1]) (A2 rfl _ _ _ _ _ _ _ rfl _ rfl (setRow_heap w2 _ _ (dA (.slice ac1 lc1 cc1) (.slice an1 ln1 cn1) (.slice aa1 la1 ca1)) 30 (0,0) H4.out) Tryz.underlying30 rfl Ad) rfl ?_;refine ⟨re,HRes.out.setRow (fun d' h=>(Sh hxv hxl (HRel.out) d' h).1) H4.out _,HRel.out,HE2.out.setRow (by omega) _⟩
def arK (k:Nat):Nat:=if k=4∨k=5∨k=6 then 2 else if k=7∨k=8 then 1 else 0
theorem W6 (k:Nat) (hk:1≤k) (hk8:k≤8) (w:World):Calls Tryz.prog 116 #[iv k] w fun e w'=>e=.returned (iv (arK k))∧w'=w:=by
 have hcase:k=1∨k=2∨k=3∨k=4∨k=5∨k=6∨k=7∨k=8:=by omega
 rcases hcase with rfl|rfl|rfl|rfl|rfl|rfl|rfl|rfl<;>
 ·go_enter Tryz.func116,Tryz.ntmps116;go_wp2;go_ret;exact ⟨rfl,rfl⟩
theorem Ub (x i g:Nat) (hx:x<i) (W:World) (hc:W.cell? ⟨g,0,none⟩=some (iv i)) :
  Calls Tryz.prog 142 #[iv x,.pointer (some ⟨g,0,none⟩)] W fun e w'=>e=.returned (.bool true)∧w'=W:=by
 have h0:(0:Int)≤(x:Int):=by omega
 have h1:(x:Int)<(i:Int):=by omega
 go_enter Tryz.func142,Tryz.ntmps142;go_wp2;go_ret;exact ⟨rfl,rfl⟩
structure VNode (k l r:Nat) (c:Cls) (mn:Nat) (mx:Int) (i:Nat):Prop where
 k1:1≤k
 k8:k≤8
 l1:0<arK k→l<i
 l0:arK k=0→l=0
 r1:1<arK k→r<i
 r0:arK k<2→r=0
 c0:k≠3→c=0#256
 m0:k≠8→mn=0∧mx=0
 m8:k=8→mn≤16∧mx≤16∧-1≤mx∧(mx≠-1→(mn:Int)≤mx)
set_option maxHeartbeats 4000000 in
theorem Ah0 (k l r:Nat) (c:Cls) (mn:Nat) (mx:Int) (i:Nat) (h:VNode k l r c mn mx i) (w:World) :
  Calls Tryz.prog 115 #[.agg (rnA k l r c mn mx),iv i] w fun e w'=>e=.returned (.int .i64 0)∧Ext w w':=by
 obtain ⟨k1,k8,l1,l0,r1,r0,c0,m0,m8⟩:=h;have hE0:=((Ext.refl w).alloc (.cells (rnA k l r c mn mx) 64)).alloc (.cells #[iv i] 3);have H2:=Af (Ab w (.cells (rnA k l r c mn mx) 64)) (.cells #[iv i] 3);have H3:=heap_alloc2_new w (.cells (rnA k l r c mn mx) 64) (.cells #[iv i] 3);have f116:=fun W=>Lib.hid (W6 k k1 k8 W)
 have e142:=enters_of Tryz.func142 (by kernel_rfl) rfl;have hcase:k=1∨k=2∨k=3∨k=4∨k=5∨k=6∨k=7∨k=8:=by omega
 go_enter Tryz.func115,Tryz.ntmps115;go_upto_region 1 with (fail)
 obtain ⟨w1,hw1⟩:∃ W,(w.alloc (.cells (rnA k l r c mn mx) 64)).alloc (.cells #[iv i] 3)=W:=⟨_,rfl⟩;have hw1':(w.alloc (.cells (rnA k l r c mn mx) 64)).alloc (.cells #[.int .i64 (i:Int)] 3)=w1:=hw1;rw [hw1] at hE0 H2 H3;simp only [hw1'];clear hw1 hw1';have q0:=(cell_of_row w1 _ 0 _ _ _ H2).trans (show (rnA k l r c mn mx)[0]? = some (iv k) from rfl);have q5:=(cell_of_row w1 _ 5 _ _ _ H2).trans (show (rnA k l r c mn mx)[5]? = some (iv l) from rfl);have q6:=(cell_of_row w1 _ 6 _ _ _ H2).trans (show (rnA k l r c mn mx)[6]? = some (iv r) from rfl);have q7:=(cell_of_row w1 _ 7 _ _ _ H2).trans (show (rnA k l r c mn mx)[7]? = some (iv mn) from rfl);have q8:=(cell_of_row w1 _ 8 _ _ _ H2).trans (show (rnA k l r c mn mx)[8]? = some (.int .i64 mx) from rfl);have qi:=(cell_of_row w1 _ 0 _ _ _ H3).trans (show (#[iv i]:Array Value)[0]? = some (iv i) from rfl);have hr62:w1.rangeAt w.heap.size 1 [.int .u64 (wd c 0),.int .u64 (wd c 1),.int .u64 (wd c 2),.int .u64 (wd c 3)]:=fun j v hj=>by
  rw [cell_of_row w1 _ _ _ _ _ H2]
  match j,hj with
  | 0,hj=>exact hj
  | 1,hj=>exact hj
  | 2,hj=>exact hj
  | 3,hj=>exact hj
 have HR62:=Lib.hid hr62;have HE0:=Lib.hid hE0;have HL:=Lib.hid (fun hl:l<i=>Ub l i (w.heap.size+1) hl w1 qi);have HRr:=Lib.hid (fun hr:r<i=>Ub r i (w.heap.size+1) hr w1 qi);have HZ:=Lib.hid (fun hc:c=0#256=>Lr c true (by rw [hc];rfl));have g3:=Jb;clear H2 H3 hr62 hE0;rcases hcase with rfl|rfl|rfl|rfl|rfl|rfl|rfl|rfl
 ·obtain rfl:=l0 rfl;obtain rfl:=r0 (by decide);have hz:=HZ.out (c0 (by decide));obtain ⟨rfl,rfl⟩:=m0 (by decide);clear k1 k8 l1 l0 r1 r0 c0 m0 m8;go_wp2_with (first
   | (go_at_call 116;(with_reducible refine (f116 _).out.mono ?_);rintro e W' ⟨rfl,rfl⟩)
   | (refine Dq rfl (wp_load_mid 62 (.tmp 57) rfl _ 1 rfl _ _ HR62.out Tryz.underlying62 rfl (Ey _ _ _ _) ?_)))
  go_ret;exact ⟨rfl,HE0.out⟩
 ·obtain rfl:=l0 rfl;obtain rfl:=r0 (by decide);have hz:=HZ.out (c0 (by decide));obtain ⟨rfl,rfl⟩:=m0 (by decide);clear k1 k8 l1 l0 r1 r0 c0 m0 m8;go_wp2_with (first
   | (go_at_call 116;(with_reducible refine (f116 _).out.mono ?_);rintro e W' ⟨rfl,rfl⟩)
   | (refine Dq rfl (wp_load_mid 62 (.tmp 57) rfl _ 1 rfl _ _ HR62.out Tryz.underlying62 rfl (Ey _ _ _ _) ?_)))
  go_ret;exact ⟨rfl,HE0.out⟩
 ·obtain rfl:=l0 rfl;obtain rfl:=r0 (by decide);obtain ⟨rfl,rfl⟩:=m0 (by decide);clear k1 k8 l1 l0 r1 r0 c0 m0 m8;go_wp2_with (first
   | (go_at_call 116;(with_reducible refine (f116 _).out.mono ?_);rintro e W' ⟨rfl,rfl⟩)
   | (refine Dq rfl (wp_load_mid 62 (.tmp 57) rfl _ 1 rfl _ _ HR62.out Tryz.underlying62 rfl (Ey _ _ _ _) ?_)))
  go_ret;exact ⟨rfl,HE0.out⟩
 ·have fl:=Lib.hid (HL.out (l1 (by decide)));have fr:=Lib.hid (HRr.out (r1 (by decide)));have hz:=HZ.out (c0 (by decide));obtain ⟨rfl,rfl⟩:=m0 (by decide);clear k1 k8 l1 l0 r1 r0 c0 m0 m8;go_wp2_with (first
   | (go_at_call 116;(with_reducible refine (f116 _).out.mono ?_);rintro e W' ⟨rfl,rfl⟩)
   | (go_at_call 142;(with_reducible refine fl.out.mono ?_);rintro e W' ⟨rfl,rfl⟩)
   | (go_at_call 142;(with_reducible refine fr.out.mono ?_);rintro e W' ⟨rfl,rfl⟩)
   | (refine Dq rfl (wp_load_mid 62 (.tmp 57) rfl _ 1 rfl _ _ HR62.out Tryz.underlying62 rfl (Ey _ _ _ _) ?_)))
  go_ret;exact ⟨rfl,HE0.out⟩
 ·have fl:=Lib.hid (HL.out (l1 (by decide)));have fr:=Lib.hid (HRr.out (r1 (by decide)));have hz:=HZ.out (c0 (by decide));obtain ⟨rfl,rfl⟩:=m0 (by decide);clear k1 k8 l1 l0 r1 r0 c0 m0 m8;go_wp2_with (first
   | (go_at_call 116;(with_reducible refine (f116 _).out.mono ?_);rintro e W' ⟨rfl,rfl⟩)
   | (go_at_call 142;(with_reducible refine fl.out.mono ?_);rintro e W' ⟨rfl,rfl⟩)
   | (go_at_call 142;(with_reducible refine fr.out.mono ?_);rintro e W' ⟨rfl,rfl⟩)
   | (refine Dq rfl (wp_load_mid 62 (.tmp 57) rfl _ 1 rfl _ _ HR62.out Tryz.underlying62 rfl (Ey _ _ _ _) ?_)))
  go_ret;exact ⟨rfl,HE0.out⟩
 ·have fl:=Lib.hid (HL.out (l1 (by decide)));have fr:=Lib.hid (HRr.out (r1 (by decide)));have hz:=HZ.out (c0 (by decide));obtain ⟨rfl,rfl⟩:=m0 (by decide);clear k1 k8 l1 l0 r1 r0 c0 m0 m8;go_wp2_with (first
   | (go_at_call 116;(with_reducible refine (f116 _).out.mono ?_);rintro e W' ⟨rfl,rfl⟩)
   | (go_at_call 142;(with_reducible refine fl.out.mono ?_);rintro e W' ⟨rfl,rfl⟩)
   | (go_at_call 142;(with_reducible refine fr.out.mono ?_);rintro e W' ⟨rfl,rfl⟩)
   | (refine Dq rfl (wp_load_mid 62 (.tmp 57) rfl _ 1 rfl _ _ HR62.out Tryz.underlying62 rfl (Ey _ _ _ _) ?_)))
  go_ret;exact ⟨rfl,HE0.out⟩
 ·have fl:=Lib.hid (HL.out (l1 (by decide)));obtain rfl:=r0 (by decide);have hz:=HZ.out (c0 (by decide));obtain ⟨rfl,rfl⟩:=m0 (by decide);clear k1 k8 l1 l0 r1 r0 c0 m0 m8;go_wp2_with (first
   | (go_at_call 116;(with_reducible refine (f116 _).out.mono ?_);rintro e W' ⟨rfl,rfl⟩)
   | (go_at_call 142;(with_reducible refine fl.out.mono ?_);rintro e W' ⟨rfl,rfl⟩)
   | (refine Dq rfl (wp_load_mid 62 (.tmp 57) rfl _ 1 rfl _ _ HR62.out Tryz.underlying62 rfl (Ey _ _ _ _) ?_)))
  go_ret;exact ⟨rfl,HE0.out⟩
 ·have fl:=Lib.hid (HL.out (l1 (by decide)));obtain rfl:=r0 (by decide);have hz:=HZ.out (c0 (by decide));obtain ⟨m1,m2,m3,m4⟩:=m8 rfl;clear k1 k8 l1 l0 r1 r0 c0 m0 m8;have n1:¬ (mn:Int)<0:=by omega
  have n2:¬ mx < -1:=by omega
  have n3:¬ (16:Int)<(mn:Int):=by omega
  have n4:¬ (16:Int)<mx:=by omega
  by_cases hm:mx=-1
  ·subst hm;clear m2 m3 m4 n2 n4;go_wp2_with (first
    | (go_at_call 116;(with_reducible refine (f116 _).out.mono ?_);rintro e W' ⟨rfl,rfl⟩)
    | (go_at_call 142;(with_reducible refine fl.out.mono ?_);rintro e W' ⟨rfl,rfl⟩)
    | (refine Dq rfl (wp_load_mid 62 (.tmp 57) rfl _ 1 rfl _ _ HR62.out Tryz.underlying62 rfl (Ey _ _ _ _) ?_)))
   go_ret;exact ⟨rfl,HE0.out⟩
  ·have n5:¬ mx<(mn:Int):=by have:=m4 hm;omega
   have n6:(mx != -1)=true:=by simp [hm]
   clear m4;go_wp2_with (first
    | (go_at_call 116;(with_reducible refine (f116 _).out.mono ?_);rintro e W' ⟨rfl,rfl⟩)
    | (go_at_call 142;(with_reducible refine fl.out.mono ?_);rintro e W' ⟨rfl,rfl⟩)
    | (refine Dq rfl (wp_load_mid 62 (.tmp 57) rfl _ 1 rfl _ _ HR62.out Tryz.underlying62 rfl (Ey _ _ _ _) ?_)))
   go_ret;exact ⟨rfl,HE0.out⟩
end Go.Proofs.YtaiogolidlamiaaGreatDoor
