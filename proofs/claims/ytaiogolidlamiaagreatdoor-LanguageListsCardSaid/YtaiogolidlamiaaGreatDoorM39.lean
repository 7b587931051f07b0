import Derived.Test.YtaiogolidlamiaaGreatDoorM38
import Derived.Test.YtaiogolidlamiaaGreatDoorM22
set_option linter.unusedVariables false
set_option linter.unusedSimpArgs false
namespace Go.Proofs.YtaiogolidlamiaaGreatDoor
set_option maxRecDepth 100000
open Go.RowKit Go.Shelf
theorem G5 {α:Type} {l:List α} {d:α} {j:Nat} (h:j<l.length):l.getD j d∈l:=by
 rw [List.getD_eq_getElem?_getD,List.getElem?_eq_getElem h];exact List.getElem_mem h
theorem J8 {W:World} {base e n:Nat} {v:Value} {xs:List Value} (h:W.ownsRow base e 1 v n xs) (h0:0<n):∃ g c,v=.slice (some ⟨g,0,none⟩) n c:=by
 obtain ⟨hl,⟨rfl,rfl⟩|⟨g,cap,cur,rfl,_⟩⟩:=h
 ·omega
 ·exact ⟨g,cap,rfl⟩
theorem Yz {W W':World} {base:Nat} {vs:List Value} {R:List (List Nat)} {av:Option Nat→Prop} {s g:Nat} {r:List Nat} (h:RowsO W base vs R av) (hap:vs.Pairwise fun v v'=>v.ownBlock≠v'.ownBlock) (hs:s<R.length)
  (hg:(vs.getD s undef).ownBlock=some g) (hgr:W.grownBy W' (some g)) (hr:OwnI W' base (vs.getD s undef) r):RowsO W' base vs (R.set s r) av:=by
 refine ⟨by rw [List.length_set];exact h.1,fun j hj=>?_⟩;rw [List.length_set] at hj;by_cases e:s=j
 ·subst e;refine ⟨?_,(h.2 s hj).2⟩;rw [List.getD_eq_getElem?_getD (l:=R.set s r),List.getElem?_set,if_pos rfl,if_pos hj];exact hr
 ·refine ⟨?_,(h.2 j hj).2⟩;rw [List.getD_eq_getElem?_getD (l:=R.set s r),List.getElem?_set,if_neg e,← List.getD_eq_getElem?_getD];refine (h.2 j hj).1.kept hgr (.inr ?_);rw [← hg];have hjv:j<vs.length:=by rw [h.1];exact hj
  have hsv:s<vs.length:=by rw [h.1];exact hs
  have hp:=List.pairwise_iff_getElem.1 hap;rw [List.getD_eq_getElem?_getD,List.getElem?_eq_getElem hjv,List.getD_eq_getElem?_getD,List.getElem?_eq_getElem hsv];rcases Nat.lt_or_ge s j with hlt|hge
  ·exact (hp s j hsv hjv hlt).symm
  ·exact hp j s hjv hsv (by omega)
set_option maxHeartbeats 4000000 in
theorem Aaq (S A:Nat) (hS:S<256) (hA:A<256) (vt:Value) (l:List UInt8) (w:World) (ht:ByW w vt l) :
  Calls Tryz.prog 13 #[.agg #[.int .u8 S,vt,.int .u8 A]] w fun e w'=>∃ v d,e=.returned v∧IsD w' v d∧(Val d∧d.nxt.length≤6∧∀ u,d.has u=true→∀ x∈u,97≤x.toNat∧x.toNat<100)∧Ext w w':=by
 obtain ⟨i0,hi,hz0,hz1,hz2⟩:=info_parts Cv;obtain ⟨i4,hi4,hy0,hy1,hy2⟩:=info_parts Eb;obtain ⟨i6,hi6,hx0,hx1,hx2⟩:=info_parts (show (Tryz.prog.info? 68).map (fun i=>(i.zero,i.size,i.bytes))=some (some (.slice none 0 0),1,24) by kernel_rfl);have f26:=fun W (hW:Ext w W)=>Lib.hid (Ace S A hS hA vt l W (ht.ext hW))
 obtain ⟨at',bt,ot,ct,rfl,-,-,-⟩:=ht.split;have hE:=((Ext.refl w).alloc (.cells #[.int .u8 S,.slice at' l.length ct,.int .u8 A] 24)).alloc (.cells #[.slice none 0 0,.slice none 0 0,.slice none 0 0] 30);have H0:=Af (Ab w (.cells #[.int .u8 S,.slice at' l.length ct,.int .u8 A] 24)) (.cells #[.slice none 0 0,.slice none 0 0,.slice none 0 0] 30);have H1:=heap_alloc2_new w (.cells #[.int .u8 S,.slice at' l.length ct,.int .u8 A] 24) (.cells #[.slice none 0 0,.slice none 0 0,.slice none 0 0] 30);have hir:=Sv S at' l.length ct A;obtain ⟨R1,hR1⟩:∃ X,(#[.int .u8 S,.slice at' l.length ct,.int .u8 A]:Array Value)=X:=⟨_,rfl⟩;rw [show Ex S at' l.length ct A=R1 from hR1] at hir;rw [hR1] at hE H0 H1 f26;rw [hR1];clear ht hR1;go_enter Tryz.func13,Tryz.ntmps13;go_upto_region 1 with (fail)
 obtain ⟨w1,hw1⟩:∃ W,(w.alloc (.cells R1 24)).alloc (.cells #[.slice none 0 0,.slice none 0 0,.slice none 0 0] 30)=W:=⟨_,rfl⟩;have hs1:w1.heap.size=w.heap.size+1+1:=by rw [← hw1,World.size_alloc,World.size_alloc]
 rw [hw1] at hE H0 H1;simp only [hw1];clear hw1;have HB0:=Lib.hid H0;have HB1:=Lib.hid H1;have HS1:=Lib.hid hs1;have HEW:=Lib.hid hE;clear H0 H1 hs1;have f26:=f26 w1 hE;go_upto_region 2 with (first
  | (refine wpList_load_row rfl 24 (.tmp 1) rfl _ rfl _ _ _ _ HB0.out Tryz.underlying24 rfl hir ?_)
  | (go_at_call 26;(with_reducible refine f26.out.mono ?_);rintro e wm ⟨L,N,R,Ac,vs,vn,va,ac,cc,base,rfl,hM,hb,hEm⟩;obtain ⟨an,cpn,rfl⟩:=Df hM.nxt;obtain ⟨aa,cpa,rfl⟩:=Df hM.acc)
  | (refine wpList_store_row rfl 30 (.tmp 3) (.tmp 9) rfl _ _ rfl rfl _ _ (Ab wm _) Ad rfl (Aq _ _ _ rfl rfl rfl) ?_))
 have hvN:vs.length=N:=hM.rows.1.trans hM.ok.1;have hm0:0<vs.length:=by rw [hvN];exact hM.n1
 have hm5:vs.length≤5:=by rw [hvN];exact hM.n5
 have hL3:=hM.l3;obtain ⟨gn,cn',hvn⟩:=J8 hM.nxt hm0;injection hvn with e1 _ e2
 subst e1 e2;have hbs:base≤gn∧gn<wm.heap.size:=hM.nxt.lt gn rfl;have hgr:=Bv (wm.alloc (.cells #[.slice none 0 0,.slice none 0 0,.slice none 0 0] 30)) wm.heap.size (dA (.slice ac (L+1) cc) (.slice (some ⟨gn,0,none⟩) vs.length cpn) (.slice aa Ac.length cpa));have hV:=((hM.rows.av (av':=fun o=>o=some wm.heap.size) (fun v l ho hav e=>by have:=(ho.lt _ e).2;omega)).alloc (.cells #[.slice none 0 0,.slice none 0 0,.slice none 0 0] 30)).kept hgr (fun v l ho hav=>.inr hav);have hN:=(hM.nxt.alloc (.cells #[.slice none 0 0,.slice none 0 0,.slice none 0 0] 30)).kept hgr (.inr fun e=>by have:=(hM.nxt.lt _ e).2;omega);have hA':=(hM.acc.alloc (.cells #[.slice none 0 0,.slice none 0 0,.slice none 0 0] 30)).kept hgr (.inr fun e=>by have:=(hM.acc.lt _ e).2;omega);obtain ⟨hEb,hX⟩:=Gx wm (dA (.slice ac (L+1) cc) (.slice (some ⟨gn,0,none⟩) vs.length cpn) (.slice aa Ac.length cpa));have hE2:=hEm.trans hEb;obtain ⟨gc,oc,rfl,hgcb⟩:=hM.clb;have HCs:=Lib.hid (hM.cls.ext hEb);have hsz:base≤((wm.alloc (.cells #[.slice none 0 0,.slice none 0 0,.slice none 0 0] 30)).setRow wm.heap.size (dA (.slice (some ⟨gc,oc,none⟩) (L+1) cc) (.slice (some ⟨gn,0,none⟩) vs.length cpn) (.slice aa Ac.length cpa))).heap.size:=by rw [size_setRow,World.size_alloc];omega
 have hgd:wm.heap.size<((wm.alloc (.cells #[.slice none 0 0,.slice none 0 0,.slice none 0 0] 30)).setRow wm.heap.size (dA (.slice (some ⟨gc,oc,none⟩) (L+1) cc) (.slice (some ⟨gn,0,none⟩) vs.length cpn) (.slice aa Ac.length cpa))).heap.size:=by rw [size_setRow,World.size_alloc];omega
 have HOK:=Lib.hid hM.ok;have HAP:=Lib.hid hM.apart;have HVN:=Lib.hid hvN;have HG:Hid (∀ v∈vs,v.ownBlock≠some wm.heap.size):=Lib.hid fun v hv=>by
  obtain ⟨j,hj,rfl⟩:=List.getElem_of_mem hv;have:=(hV.2 j (by rw [← hV.1];exact hj)).2;rw [List.getD_eq_getElem?_getD,List.getElem?_eq_getElem hj] at this;exact this
 replace hV:=hV.av (av':=fun _=>False) (fun v l ho hav e=>e);obtain ⟨wb,hwb⟩:∃ W,(wm.alloc (.cells #[.slice none 0 0,.slice none 0 0,.slice none 0 0] 30)).setRow wm.heap.size (dA (.slice (some ⟨gc,oc,none⟩) (L+1) cc) (.slice (some ⟨gn,0,none⟩) vs.length cpn) (.slice aa Ac.length cpa))=W:=⟨_,rfl⟩;rw [hwb] at hV hN hA' hX hE2 HCs hsz hgd;simp only [hwb];have hgdw:w1.heap.size≤wm.heap.size:=hEm.size;have hgng:gn<wm.heap.size:=hbs.2;have hab:∀ k,(Value.slice aa Ac.length cpa).ownBlock=some k→base≤k∧k<wm.heap.size:=fun k e=>hM.acc.lt k e
 obtain ⟨gd,hgde⟩:∃ y,wm.heap.size=y:=⟨_,rfl⟩;rw [hgde] at HG hX hgd hgdw hgng hab;have HAB:Hid ((Value.slice aa Ac.length cpa).ownBlock=some gd→gd<gd):=Lib.hid fun e=>(hab gd e).2
 have HAC:Hid (∀ k,(Value.slice aa Ac.length cpa).ownBlock=some k→base≤k):=Lib.hid fun k e=>(hab k e).1
 clear hab;simp only [hgde];have hbw:w1.heap.size≤base:=hb;clear hwb hgde hgr hEb hEm hM f26 hb hvN hbs;obtain ⟨m,hm⟩:∃ m,vs.length=m:=⟨_,rfl⟩;have HM:Hid (vs.length=m):=Lib.hid hm;rw [hm] at HVN hm0 hm5 hN hX;simp only [hm];clear hm;have HX:=Lib.hid hX;clear hX;have c1:=(cell_of_row wb gd 1 _ _ _ HX.out).trans (show (dA (.slice (some ⟨gc,oc,none⟩) (L+1) cc) (.slice (some ⟨gn,0,none⟩) m cpn) (.slice aa Ac.length cpa))[1]? = some (.slice (some ⟨gn,0,none⟩) m cpn) from rfl);go_upto_region 3 with (fail)
 clear c1;have hE5:=hE2.alloc (.cells #[] 3);have HX5:=Lib.hid (Af HX.out (.cells #[] 3));have hN5:=hN.alloc (.cells #[] 3);have hA5:=hA'.alloc (.cells #[] 3);have hV5:=(hV.av (av':=fun o=>o=some wb.heap.size) (fun v l ho hav e=>by have:=(ho.lt _ e).2;omega)).alloc (.cells #[] 3);have hQ5:OwnI (wb.alloc (.cells #[] 3)) base (.slice (some ⟨wb.heap.size,0,none⟩) 0 0) []:=World.ownsRow_lit (base:=base) (e:=3) (size:=1) wb #[] 0 hsz (by unfold maxLen;omega) rfl;have HCs5:=Lib.hid (HCs.out.ext ((Ext.refl wb).alloc (.cells #[] 3)));go_upto_region 4 with (fail)
 have hsz5:base≤(wb.alloc (.cells #[] 3)).heap.size:=by rw [World.size_alloc];omega
 have hgd5:gd<(wb.alloc (.cells #[] 3)).heap.size:=by rw [World.size_alloc];omega
 have hg0:gd≠wb.heap.size:=by omega
 obtain ⟨wq,hwq⟩:∃ W,wb.alloc (.cells #[] 3)=W:=⟨_,rfl⟩;rw [hwq] at hE5 HX5 hN5 hA5 hV5 hQ5 hsz5 hgd5 HCs5;rw [hwq];clear hwq hsz HX hN hA' hV hE2 hgd HCs;generalize wb.heap.size=g0 at *;go_wp2_with (fail);go_loopw [5,6] (fun vr vi W=>∃ (k g c:Nat) (r:List Nat),k≤L+1∧vr=.slice (some ⟨g,0,none⟩) r.length c∧vi=.int .i64 k∧gd≠g∧Ext w1 W∧Hid (Cs W (.slice (some ⟨gc,oc,none⟩) (L+1) cc) (Bu L 256))∧base≤W.heap.size∧gd<W.heap.size∧Hid (W.heap[gd]? = some (.cells (dA (.slice (some ⟨gc,oc,none⟩) (L+1) cc) (.slice (some ⟨gn,0,none⟩) m cpn) (.slice aa Ac.length cpa)) 30 (0,0)))∧
   W.ownsRow base 68 1 (.slice (some ⟨gn,0,none⟩) m cpn) m vs∧OwnB W base (.slice aa Ac.length cpa) Ac∧RowsO W base vs R (fun o=>o=some g)∧OwnI W base (.slice (some ⟨g,0,none⟩) r.length c) r∧Hid (r=List.replicate k m))
  (fun _ vi _=>L+1-(intOf vi).toNat)
 case atStart=>exact ⟨0,g0,0,[],by omega,rfl,rfl,hg0,hE5,HCs5,hsz5,hgd5,HX5,hN5,hA5,hV5,hQ5,Lib.hid rfl⟩
 case round=>
  clear hE5 hsz5 hgd5 HX5 hN5 hA5 hV5 hQ5 hg0 HCs5;obtain ⟨k,g,c,r,hk,rfl,rfl,hgg,hE,HCs,hsz,hgd,HX,hN,hA',hV,hQ,HR⟩:=hrel;obtain ⟨wo,hwo⟩:∃ W,W=wr:=⟨_,rfl⟩;subst hwo;have c0:=(cell_of_row wo gd 0 _ _ _ HX.out).trans (show (dA (.slice (some ⟨gc,oc,none⟩) (L+1) cc) (.slice (some ⟨gn,0,none⟩) m cpn) (.slice aa Ac.length cpa))[0]? = some (.slice (some ⟨gc,oc,none⟩) (L+1) cc) from rfl);by_cases hkl:k<L+1
  ·have hkI:(k:Int)<(L:Int)+1:=by omega
   go_upto_region 7 with (fail)
   clear c0;have hrl:r.length=k:=by rw [HR.out];simp
   have hrb:r.length≤65536:=by omega
   clear hrl;go_wp2_with (at_builtin;refine wpList_append_lies _ rfl _ _ 68 rfl base 3 i0 (.int .i64 0) 1 8 Tryz.underlying68 hi hz0 hz1 hz2 rfl (by decide) _ _ _ rfl (hQ.alloc _) _ 1 1 [iv m] rfl rfl (cell_one_new _ _ _) (by simp [Value.oneCell']) (by decide) (by unfold maxLen;omega) (by omega) (by simp;omega) _ rfl ?_;intro g7 c7 w7 hQ7 hgr7 hat7 _);have hE7:=(hE.alloc (.cells #[iv m] 3)).grown hgr7 (fun k e=>by have:=(hQ.lt k e).1;omega);have HX7:=Lib.hid ((hgr7.block gd (Nat.lt_of_lt_of_le hgd (by rw [World.size_alloc];omega)) (fun e=>hgg (Option.some.inj e))).trans (Af HX.out _));have HCs7:=Lib.hid (Sl.grown (HCs.out.ext ((Ext.refl wo).alloc (.cells #[iv m] 3))) hgr7 (fun e=>by have:=(hQ.lt gc e.symm).1;omega));have hN7:=(hN.alloc (.cells #[iv m] 3)).kept hgr7 (Ag hN hQ (by decide));have hA7:=(hA'.alloc (.cells #[iv m] 3)).kept hgr7 (Ag hA' hQ (by decide));have hV7:=hV.moved hat7 hgr7;have hsz7:base≤w7.heap.size:=by
    have:=hgr7.size;rw [World.size_alloc] at this;omega
   have hgd7:gd<w7.heap.size:=by
    have:=hgr7.size;rw [World.size_alloc] at this;omega
   have hgg7:gd≠g7:=by
    rcases hat7 with h|h
    ·injection h with h;rw [← h];exact hgg
    ·rw [World.size_alloc] at h;omega
   have HQ7:Hid (OwnI w7 base (.slice (some ⟨g7,0,none⟩) (r++[m]).length c7) (r++[m])):=Lib.hid (by
    show World.ownsRow _ _ _ _ _ _ _;rw [List.length_append,List.map_append];exact hQ7)
   have HR7:Hid (r++[m]=List.replicate (k+1) m):=Lib.hid (by rw [HR.out,List.replicate_succ']);clear hgr7 hat7 hE HX HCs hN hA' hV hQ hQ7 hgg hsz hgd;go_roundw
   case rel=>exact ⟨k+1,g7,c7,r++[m],by omega,by rw [List.length_append];rfl,by go_num,hgg7,hE7,HCs7,hsz7,hgd7,HX7,hN7,hA7,hV7,HQ7.out,HR7⟩
   case measure=>simp [intOf];omega
  ·have HK:Hid (k=L+1):=Lib.hid (by omega);have HB:Hid (∀ v∈vs,v.ownBlock≠some g):=Lib.hid fun v hv=>by
    obtain ⟨j,hj,rfl⟩:=List.getElem_of_mem hv;have:=(hV.2 j (by rw [← hV.1];exact hj)).2;rw [List.getD_eq_getElem?_getD,List.getElem?_eq_getElem hj] at this;exact this
   replace hV:=hV.av (av':=fun _=>False) (fun v l ho hav e=>e);rw [← Aas m L R] at hV;have HRL:Hid (r.length=L+1):=Lib.hid (by rw [HR.out,HK.out];simp);obtain ⟨q,hq⟩:∃ q,r.length=q:=⟨_,rfl⟩;unfold OwnI at hQ;rw [hq] at hQ HRL;simp only [hq];have HQE:=Lib.hid hq;clear hq;go_upto_region 9 with (fail)
   clear c0 hk hkl;go_loopw [7] (fun vi W=>∃ s:Nat,s≤m∧vi=.int .i64 s∧Ext w1 W∧Hid (Cs W (.slice (some ⟨gc,oc,none⟩) (L+1) cc) (Bu L 256))∧base≤W.heap.size∧gd<W.heap.size∧Hid (W.heap[gd]? = some (.cells (dA (.slice (some ⟨gc,oc,none⟩) (L+1) cc) (.slice (some ⟨gn,0,none⟩) m cpn) (.slice aa Ac.length cpa)) 30 (0,0)))∧
     W.ownsRow base 68 1 (.slice (some ⟨gn,0,none⟩) m cpn) m vs∧OwnB W base (.slice aa Ac.length cpa) Ac∧RowsO W base vs (Cm m L s R) (fun _=>False)∧W.ownsRow base 3 1 (.slice (some ⟨g,0,none⟩) q c) q (r.map iv))
    (fun vi _=>m-(intOf vi).toNat)
   case atStart=>exact ⟨0,by omega,rfl,hE,HCs,hsz,hgd,HX,hN,hA',hV,hQ⟩
   case round=>
    clear hE HX HCs hN hA' hV hQ hsz hgd;obtain ⟨s,hs,rfl,hE,HCs,hsz,hgd,HX,hN,hA',hV,hQ⟩:=hrel;by_cases hsm:s<m
    ·go_upto_region 11 with (fail)
     have hsR:s<R.length:=by rw [← hV.1.trans (D9 _ _ _ _),HM.out];exact hsm
     have hVs:=(hV.2 s (by rw [D9];exact hsR)).1;rw [M3 _ _ _ _ _ hsR,if_neg (Nat.lt_irrefl s)] at hVs;have hrs:(R.getD s []).length=L+1:=(HOK.out.2.2 s (by rw [← HOK.out.1];exact hsR)).1;obtain ⟨gs,cs,hvs⟩:=J8 hVs (by rw [hrs];omega);have hsv:s<vs.length:=by rw [HM.out];exact hsm
     have hgs:gd≠gs:=fun e=>HG.out _ (G5 (d:=undef) hsv) (by rw [hvs,e];rfl)
     have hgq:g≠gs:=fun e=>HB.out _ (G5 (d:=undef) hsv) (by rw [hvs,e];rfl)
     have HVS:=Lib.hid hvs;have hO:=hVs;rw [hvs] at hO;have hgsb:=(hO.lt gs rfl).1;have cn:=(hN.cellAt s (by omega)).trans (show vs[s]? = some (vs.getD s undef) by rw [List.getD_eq_getElem?_getD,List.getElem?_eq_getElem hsv];rfl);rw [hvs] at cn;unfold OwnI at hO;rw [hrs] at hO cn;have c1:∀ W:World,W.heap[gd]? = some (.cells (dA (.slice (some ⟨gc,oc,none⟩) (L+1) cc) (.slice (some ⟨gn,0,none⟩) m cpn) (.slice aa Ac.length cpa)) 30 (0,0))→W.cell? ⟨gd,1,none⟩=some (.slice (some ⟨gn,0,none⟩) m cpn):=fun W hW=>(cell_of_row W gd 1 _ _ _ hW).trans rfl
     have c0:∀ W:World,W.heap[gd]? = some (.cells (dA (.slice (some ⟨gc,oc,none⟩) (L+1) cc) (.slice (some ⟨gn,0,none⟩) m cpn) (.slice aa Ac.length cpa)) 30 (0,0))→W.cell? ⟨gd,0,none⟩=some (.slice (some ⟨gc,oc,none⟩) (L+1) cc):=fun W hW=>(cell_of_row W gd 0 _ _ _ hW).trans rfl
     have hsI:(s:Int)<(m:Int):=by omega
     have hwL:IntKind.i64.wrap (L:Int)=(L:Int):=IntWalk.i64_in _ ⟨by omega,by omega⟩;have hLL:(L:Int)<(L:Int)+1:=by omega
     have hL0:(0:Int)≤(L:Int):=by omega
     refine Cr 11 [(0,true),(1,true),(2,true),(3,true),(4,true),(5,true),(6,true),(7,true),(8,true),(9,true),(10,true),(11,false)] (by kernel_rfl) (by kernel_rfl) (fun _ _ _ _ h=>h)
      (fun W=>W.heap[gd]? = some (.cells (dA (.slice (some ⟨gc,oc,none⟩) (L+1) cc) (.slice (some ⟨gn,0,none⟩) m cpn) (.slice aa Ac.length cpa)) 30 (0,0))∧W.cell? ⟨gn,s,none⟩=some (.slice (some ⟨gs,0,none⟩) (L+1) cs)) ⟨HX.out,cn⟩ ?_
     clear cn;iterate 11
      refine D7 (v:=?_) rfl rfl (fun W hW=>?_) ?_
      rotate_left
      ·obtain ⟨hWD,hWn⟩:=hW;have k1:=c1 W hWD;have k0:=c0 W hWD;clear hWD;go_simp;first|done|with_reducible rfl
      simp only [Act.put,List.setIfInBounds_toArray,List.set_cons_zero,List.set_cons_succ]
     have hE9:=hE.drew;have hO9:=Ah hO (Ext.refl wr).drew;have hN9:=Ah hN (Ext.refl wr).drew;have hA9:=Ah hA' (Ext.refl wr).drew;have hQ9:=Ah hQ (Ext.refl wr).drew;have hV9:=hV.kept ((Ext.refl wr).drew.grownBy none) (fun v l _ _=>by cases v.ownBlock<;>simp);have HX9:Hid (wr.drew.heap[gd]? = some (.cells (dA (.slice (some ⟨gc,oc,none⟩) (L+1) cc) (.slice (some ⟨gn,0,none⟩) m cpn) (.slice aa Ac.length cpa)) 30 (0,0))):=Lib.hid HX.out;have HCs9:Hid (Cs wr.drew (.slice (some ⟨gc,oc,none⟩) (L+1) cc) (Bu L 256)):=Lib.hid (HCs.out.ext (Ext.refl wr).drew);have hsz9:base≤wr.drew.heap.size:=hsz;have hgd9:gd<wr.drew.heap.size:=hgd;obtain ⟨w9,hw9⟩:∃ W,wr.drew=W:=⟨_,rfl⟩;rw [hw9] at hE9 hO9 hN9 hA9 hQ9 hV9 HX9 HCs9 hsz9 hgd9;rw [hw9];clear hw9 hE hO hN hA' hQ hV HX HCs hsz hgd c0 c1 hVs;have k3:w9.cell? ⟨gs,L,none⟩=some (iv ((R.getD s []).getD L 0)):=An (f:=iv) 0 hO9 hrs.symm L (by omega);have f3:=hO9.frozenAt L;refine Cg rfl (fun K hK=>?_);go_simp;refine hK _ _ (fun h=>absurd h (by omega)) ?_;clear hK K k3 f3;refine Cu ?_;obtain ⟨hO10,hgr⟩:=Av (f:=iv) hO9 L m;have hE10:=hE9.grown hgr (fun k e=>by injection e with e;omega);have hN10:=hN9.kept hgr (Ag hN9 hO9 (by decide));have hA10:=hA9.kept hgr (Ag hA9 hO9 (by decide));have hQ10:=hQ9.kept hgr (.inr fun e=>hgq (Option.some.inj e));have HX10:=Lib.hid ((hgr.block gd hgd9 (fun e=>hgs (Option.some.inj e))).trans HX9.out);have HCs10:=Lib.hid (Sl.grown HCs9.out hgr (fun e=>by injection e with e;omega));have hV10:=Yz hV9 HAP.out (by rw [D9];exact hsR) (by rw [HVS.out];rfl) hgr (r:=(R.getD s []).set L m) (by
      rw [HVS.out,hrs];unfold OwnI;rw [List.length_set,hrs];exact hO10)
     rw [← Aat m L s R hsR] at hV10;have hsz10:base≤(w9.setCell ⟨gs,L,none⟩ (iv m)).heap.size:=Nat.le_trans hsz9 hgr.size;have hgd10:gd<(w9.setCell ⟨gs,L,none⟩ (iv m)).heap.size:=Nat.lt_of_lt_of_le hgd9 hgr.size;obtain ⟨wx,hwx⟩:∃ W,w9.setCell ⟨gs,L,none⟩ (iv m)=W:=⟨_,rfl⟩;rw [hwx] at hE10 hN10 hA10 hQ10 HX10 HCs10 hV10 hsz10 hgd10;rw [hwx];clear hwx hgr hE9 hO9 hN9 hA9 hQ9 hV9 HX9 HCs9 hsz9 hgd9 hO10 hrs hvs hwL hLL hL0 hsI hgs hgq hgsb;go_wp2;go_roundw
     case rel=>exact ⟨s+1,by omega,by go_num,hE10,HCs10,hsz10,hgd10,HX10,hN10,hA10,hV10,hQ10⟩
     case measure=>simp [intOf];omega
    ·obtain rfl:s=m:=by omega
     have hmb:s≤5:=hm5;have hAl:Ac.length≤5:=by rw [HOK.out.2.1,← HVN.out];exact hm5
     have hbgn:=(hN.lt gn rfl).1;go_upto_region 12 with (fail)
     have c1:=(cell_of_row wr gd 1 _ _ _ HX.out).trans (show (dA (.slice (some ⟨gc,oc,none⟩) (L+1) cc) (.slice (some ⟨gn,0,none⟩) s cpn) (.slice aa Ac.length cpa))[1]? = some (.slice (some ⟨gn,0,none⟩) s cpn) from rfl);go_upto_region 13 with (at_builtin;refine wpList_append_lies _ rfl _ _ 27 rfl base 68 i6 (.slice none 0 0) 1 24 Tryz.underlying27 hi6 hx0 hx1 hx2 rfl (by decide) _ s vs rfl (hN.alloc _) _ 1 1 [.slice (some ⟨g,0,none⟩) q c] rfl rfl (cell_one_new _ _ _) (by simp [Value.oneCell']) (by decide) (by unfold maxLen;omega) (by omega) (by simp;omega) _ rfl ?_;intro g7 c7 w7 hN7 hgr7 hat7 _;have HX7:Hid (w7.heap[gd]? = _):=Lib.hid ((hgr7.block gd (Nat.lt_of_lt_of_le hgd (by rw [World.size_alloc];omega)) (fun e=>by have h:gd=gn:=Option.some.inj e;omega)).trans (Af HX.out _));have c17:=(cell_of_row w7 gd 1 _ _ _ HX7.out).trans (show (dA (.slice (some ⟨gc,oc,none⟩) (L+1) cc) (.slice (some ⟨gn,0,none⟩) s cpn) (.slice aa Ac.length cpa))[1]? = some (.slice (some ⟨gn,0,none⟩) s cpn) from rfl);have f17:=frozen_of_row w7 gd 1 _ _ HX7.out)
     clear c1 c17 f17;have hE7:=(hE.alloc (.cells #[.slice (some ⟨g,0,none⟩) q c] 68)).grown hgr7 (fun k e=>by have:=(hN.lt k e).1;omega);have hQ7:=(hQ.alloc (.cells #[.slice (some ⟨g,0,none⟩) q c] 68)).kept hgr7 (Ag hQ hN (by decide));have hA7:=(hA'.alloc (.cells #[.slice (some ⟨g,0,none⟩) q c] 68)).kept hgr7 (Ag hA' hN (by decide));have hV7:=(hV.alloc (.cells #[.slice (some ⟨g,0,none⟩) q c] 68)).kept hgr7 (fun v l ho _=>Ag ho (hN.alloc (.cells #[.slice (some ⟨g,0,none⟩) q c] 68)) (by decide));have HCs7:=Lib.hid (Sl.grown (HCs.out.ext ((Ext.refl wr).alloc (.cells #[.slice (some ⟨g,0,none⟩) q c] 68))) hgr7 (fun e=>by have h:gc=gn:=Option.some.inj e;omega));have hsz7:base≤w7.heap.size:=by
      have:=hgr7.size;rw [World.size_alloc] at this;omega
     have hgd7:gd<w7.heap.size:=by
      have:=hgr7.size;rw [World.size_alloc] at this;omega
     have hg7:gd≠g7:=by
      rcases hat7 with h|h
      ·have h:gn=g7:=Option.some.inj h;omega
      ·rw [World.size_alloc] at h;omega
     have hV7g:RowsO w7 base vs (Cm s L s R) (fun o=>o=some gd):=⟨hV7.1,fun j hj=>⟨(hV7.2 j hj).1,HG.out _ (G5 (by rw [hV7.1];exact hj))⟩⟩;have hN7':w7.ownsRow base 68 1 (.slice (some ⟨g7,0,none⟩) (s+1) c7) (vs++[Value.slice (some ⟨g,0,none⟩) q c]).length (vs++[Value.slice (some ⟨g,0,none⟩) q c]):=by
      rw [List.length_append,HM.out];exact hN7
     obtain ⟨vn8,hvn8⟩:∃ v,Value.slice (some ⟨g7,0,none⟩) (s+1) c7=v:=⟨_,rfl⟩;have hb8:vn8.ownBlock=some g7:=by rw [← hvn8];rfl
     rw [hvn8] at hN7';have hgr8:=Bv w7 gd (dA (.slice (some ⟨gc,oc,none⟩) (L+1) cc) vn8 (.slice aa Ac.length cpa));have hsc:w7.setCell ⟨gd,1,none⟩ vn8=w7.setRow gd (dA (.slice (some ⟨gc,oc,none⟩) (L+1) cc) vn8 (.slice aa Ac.length cpa)):=setCell_eq_setRow w7 _ _ _ _ _ _ HX7.out;have hE8:=hE7.setRow hgdw (dA (.slice (some ⟨gc,oc,none⟩) (L+1) cc) vn8 (.slice aa Ac.length cpa));have hQ8:=hQ7.kept hgr8 (.inr fun e=>hgg (Option.some.inj e).symm);have hN8:=hN7'.kept hgr8 (.inr fun e=>by rw [hb8] at e;exact hg7 (Option.some.inj e).symm);have hA8:=hA7.kept hgr8 (.inr fun e=>by have:=HAB.out e;omega);have hV8:=hV7g.kept hgr8 (fun v l ho hav=>.inr hav);have HCs8:=Lib.hid (Sl.grown HCs7.out hgr8 (fun e=>by have h:gc=gd:=Option.some.inj e;omega));have HX8:=Lib.hid (setRow_heap w7 gd _ (dA (.slice (some ⟨gc,oc,none⟩) (L+1) cc) vn8 (.slice aa Ac.length cpa)) _ _ HX7.out);have hsz8:base≤(w7.setRow gd (dA (.slice (some ⟨gc,oc,none⟩) (L+1) cc) vn8 (.slice aa Ac.length cpa))).heap.size:=by rw [size_setRow];exact hsz7
     have hgd8:gd<(w7.setRow gd (dA (.slice (some ⟨gc,oc,none⟩) (L+1) cc) vn8 (.slice aa Ac.length cpa))).heap.size:=by rw [size_setRow];exact hgd7
     rw [hvn8,hsc];have HVN8:=Lib.hid hvn8;clear hvn8 hgr8 hQ7 hN7 hN7' hA7 hV7 hV7g hE7 hsz7 HX7 hsc hgd7 HCs7 hgr7 hat7 hE hN hA' hV hQ HCs hsz hgd HX;obtain ⟨w8,hw8⟩:∃ W,w7.setRow gd (dA (.slice (some ⟨gc,oc,none⟩) (L+1) cc) vn8 (.slice aa Ac.length cpa))=W:=⟨_,rfl⟩;rw [hw8] at hQ8 hN8 hA8 hV8 HX8 hE8 hsz8 hgd8 HCs8;rw [hw8];clear hw8;have c2:=(cell_of_row w8 gd 2 _ _ _ HX8.out).trans (show (dA (.slice (some ⟨gc,oc,none⟩) (L+1) cc) vn8 (.slice aa Ac.length cpa))[2]? = some (.slice aa Ac.length cpa) from rfl);go_upto_region 14 with (at_builtin;refine wpList_append_lies _ rfl _ _ 28 rfl base 4 i4 (.bool false) 1 1 Tryz.underlying28 hi4 hy0 hy1 hy2 rfl (by decide) _ Ac.length (Ac.map Value.bool) rfl (hA8.alloc _) _ 1 1 [.bool false] rfl rfl (cell_one_new _ _ _) (by simp [Value.oneCell']) (by decide) (by unfold maxLen;omega) (by omega) (by simp;omega) _ rfl ?_;intro g9 c9 w9 hA9 hgr9 hat9 _;have HX9:Hid (w9.heap[gd]? = _):=Lib.hid ((hgr9.block gd (Nat.lt_of_lt_of_le hgd8 (by rw [World.size_alloc];omega)) (fun e=>by have:=HAB.out e.symm;omega)).trans (Af HX8.out _));have c29:=(cell_of_row w9 gd 2 _ _ _ HX9.out).trans (show (dA (.slice (some ⟨gc,oc,none⟩) (L+1) cc) vn8 (.slice aa Ac.length cpa))[2]? = some (.slice aa Ac.length cpa) from rfl);have f29:=frozen_of_row w9 gd 2 _ _ HX9.out)
     clear c2 c29 f29;have hE9:=(hE8.alloc (.cells #[.bool false] 4)).grown hgr9 (fun k e=>by have:=HAC.out k e;omega);have hQ9:=(hQ8.alloc (.cells #[.bool false] 4)).kept hgr9 (Ag hQ8 hA8 (by decide));have hN9:=(hN8.alloc (.cells #[.bool false] 4)).kept hgr9 (Ag hN8 hA8 (by decide));have hV9:=(hV8.alloc (.cells #[.bool false] 4)).kept hgr9 (fun v l ho _=>Ag ho (hA8.alloc (.cells #[.bool false] 4)) (by decide));have HCs9:=Lib.hid (Sl.grown (HCs8.out.ext ((Ext.refl w8).alloc (.cells #[.bool false] 4))) hgr9 (fun e=>by have:=HAC.out gc e.symm;omega));have hg9:gd≠g9:=by
      rcases hat9 with h|h
      ·intro e;rw [← e] at h;exact absurd (HAB.out h) (Nat.lt_irrefl _)
      ·rw [World.size_alloc] at h;omega
     have hA9':OwnB w9 base (.slice (some ⟨g9,0,none⟩) (Ac.length+1) c9) (Ac++[false]):=by
      show World.ownsRow _ _ _ _ _ _ _;rw [List.length_append,List.map_append];exact hA9
     obtain ⟨va8,hva8⟩:∃ v,Value.slice (some ⟨g9,0,none⟩) (Ac.length+1) c9=v:=⟨_,rfl⟩;have hb9:va8.ownBlock=some g9:=by rw [← hva8];rfl
     rw [hva8] at hA9';have hgr10:=Bv w9 gd (dA (.slice (some ⟨gc,oc,none⟩) (L+1) cc) vn8 va8);have hsc:w9.setCell ⟨gd,2,none⟩ va8=w9.setRow gd (dA (.slice (some ⟨gc,oc,none⟩) (L+1) cc) vn8 va8):=setCell_eq_setRow w9 _ _ _ _ _ _ HX9.out;have hE10:=hE9.setRow hgdw (dA (.slice (some ⟨gc,oc,none⟩) (L+1) cc) vn8 va8);have hQ10:=hQ9.kept hgr10 (.inr fun e=>hgg (Option.some.inj e).symm);have hN10:=hN9.kept hgr10 (.inr fun e=>by rw [hb8] at e;exact hg7 (Option.some.inj e).symm);have hA10:=hA9'.kept hgr10 (.inr fun e=>by rw [hb9] at e;exact hg9 (Option.some.inj e).symm);have hV10:=hV9.kept hgr10 (fun v l ho hav=>.inr hav);have HCs10:=Lib.hid (Sl.grown HCs9.out hgr10 (fun e=>by have h:gc=gd:=Option.some.inj e;omega));have HX10:=Lib.hid (setRow_heap w9 gd _ (dA (.slice (some ⟨gc,oc,none⟩) (L+1) cc) vn8 va8) _ _ HX9.out);rw [hva8,hsc];have HVA8:=Lib.hid hva8;clear hva8 hgr10 hQ9 hN9 hA9 hA9' hV9 hE9 HX9 hsc HCs9 hgr9 hat9 hE8 hN8 hA8 hV8 hQ8 HCs8 hsz8 hgd8 HX8;obtain ⟨w10,hw10⟩:∃ W,w9.setRow gd (dA (.slice (some ⟨gc,oc,none⟩) (L+1) cc) vn8 va8)=W:=⟨_,rfl⟩;rw [hw10] at hQ10 hN10 hA10 hV10 HX10 hE10 HCs10;rw [hw10];clear hw10;have hOwn:OwnI w10 base (.slice (some ⟨g,0,none⟩) q c) r:=by unfold OwnI;rw [HQE.out];exact hQ10
     have hRows:=(hV10.av (av':=fun _=>False) (fun v l _ _ e=>e)).snoc hOwn (fun e=>e);have hOK:=M2 HOK.out;have hvm:s=N:=HVN.out;have hr2:r=List.replicate (L+1) N:=by rw [HR.out,HK.out,hvm]
     rw [hvm,hr2] at hRows;have hIs:IsD w10 (.agg (dA (.slice (some ⟨gc,oc,none⟩) (L+1) cc) vn8 va8)) (Ch L N R Ac):=
      ⟨_,_,_,rfl,HCs10.out,hRows.rows hN10 (by have e:=hOK.1;show (Ch L N R Ac).nxt.length≤_;omega) (fun j hj=>by
       have h2:j<N+1:=by rw [← hOK.1];exact hj
       have:=(hOK.2.2 j h2).1;show ((Ch L N R Ac).nxt.getD j []).length≤_;rw [this];omega),OwnB.bools hA10 (by have e:=hOK.2.1;show (Ch L N R Ac).acc.length≤_;omega)⟩
     have HIs:=Lib.hid hIs;have HB1x:=Lib.hid (hE10.heap HB1.out);clear hIs hRows hOK hvm hr2 hOwn hQ10 hN10 hA10 hV10;obtain rfl:=HVN8.out;obtain rfl:=HVA8.out;go_wp2_with (first
      | (refine wpList_load_row rfl 30 (.tmp 3) rfl _ rfl _ _ _ _ HX10.out Tryz.underlying30 rfl Ad ?_)
      | (refine wpList_store_row rfl 30 (.tmp 2) (.tmp 52) rfl _ _ rfl rfl _ _ HB1x.out Ad rfl (Aq _ _ _ rfl rfl rfl) ?_))
     refine bodyPost_ret (v:=.agg (dA (.slice (some ⟨gc,oc,none⟩) (L+1) cc) (.slice (some ⟨g7,0,none⟩) (s+1) c7) (.slice (some ⟨g9,0,none⟩) (Ac.length+1) c9))) (results_cell_row rfl _ _ _ _ _ _ _ rfl (setRow_heap w10 _ _ (dA (.slice (some ⟨gc,oc,none⟩) (L+1) cc) (.slice (some ⟨g7,0,none⟩) (s+1) c7) (.slice (some ⟨g9,0,none⟩) (Ac.length+1) c9)) 30 (0,0) HB1x.out) Tryz.underlying30 rfl Ad) rfl ?_;exact ⟨_,rfl,Ch L N R Ac,IsD.setRow (M1 hL3 HOK.out) HIs.out HB1x.out _,⟨M1 hL3 HOK.out,by rw [Rg HOK.out,← HVN.out];omega,Aar hL3 HOK.out⟩,(HEW.out.trans hE10).setRow (by omega) _⟩
theorem X7 {u v:List UInt8} (h:Slx u v):u.length<v.length∨(u.length=v.length∧∃ k,k<u.length∧(∀ i,i<k→u.getD i 0=v.getD i 0)∧(u.getD k 0).toNat<(v.getD k 0).toNat):=by
 rcases h with h|⟨h,p,a,b,u',v',rfl,rfl,hab⟩
 ·exact .inl h
 ·refine .inr ⟨h,p.length,by simp,fun i hi=>?_,?_⟩
  ·simp only [List.getD_eq_getElem?_getD,List.getElem?_append_left hi]
  ·simp only [List.getD_eq_getElem?_getD,List.getElem?_append_right (Nat.le_refl _),Nat.sub_self,List.getElem?_cons_zero,Option.getD_some];exact hab
set_option maxHeartbeats 2000000 in
theorem Ada (u v:List UInt8) (h:Slx u v) (va vb:Value) (w:World) (hu:By w va u) (hv:By w vb v) (hn:v.length≤1000) :
  Calls Tryz.prog 41 #[va,vb] w fun e w'=>e=.returned (.bool true)∧Ext w w':=by
 obtain ⟨aa,ba,oa,ca,rfl,ha1,ha3⟩:=hu.split;obtain ⟨ab,bb,ob,cb,rfl,hb1,hb3⟩:=hv.split;have HA:=Lib.hid (fun (W:World) (hW:Ext w W) i (hi:i<u.length)=>hW.cell (ha3 i hi));have HB:=Lib.hid (fun (W:World) (hW:Ext w W) i (hi:i<v.length)=>hW.cell (hb3 i hi));have HA1:=Lib.hid ha1;have HB1:=Lib.hid hb1;have HS:=Lib.hid (X7 h);clear hu hv ha1 ha3 hb1 hb3 h;obtain ⟨n,hnu⟩:∃ n,u.length=n:=⟨_,rfl⟩;obtain ⟨m,hmv⟩:∃ m,v.length=m:=⟨_,rfl⟩;rw [hnu] at HA HA1 HS;rw [hmv] at HB HB1 HS hn;simp only [hnu,hmv];clear hnu hmv;have hE:=Ext.refl w;go_enter Tryz.func41,Tryz.ntmps41;by_cases hlt:n<m
 ·have hI:(n:Int)<(m:Int):=by omega
  have hI':¬ (n:Int)=(m:Int):=by omega
  clear HS;go_wp2;go_ret;exact ⟨rfl,hE⟩
 ·obtain ⟨rfl,k,hk,hsm,hks⟩:n=m∧∃ k,k<n∧(∀ i,i<k→u.getD i 0=v.getD i 0)∧(u.getD k 0).toNat<(v.getD k 0).toNat:=by
   rcases HS.out with h|h
   ·exact absurd h hlt
   ·exact h
  clear HS hlt;have HSM:=Lib.hid hsm;have HKS:=Lib.hid hks;clear hsm hks;obtain rfl:=HA1.out (by omega);obtain rfl:=HB1.out (by omega);go_wp2_with (fail);go_loopw [5] (fun vi W=>∃ i:Nat,i≤k∧vi=.int .i64 i∧Ext w W)
   (fun vi _=>n-(intOf vi).toNat)
  case atStart=>exact ⟨0,by omega,rfl,hE⟩
  case round=>
   clear hE;obtain ⟨i,hi,rfl,hE⟩:=hrel;obtain ⟨wo,hwo⟩:∃ W,W=wr:=⟨_,rfl⟩;subst hwo;have cu:=HA.out wo hE i (by omega);have cv:=HB.out wo hE i (by omega);have cu':=HA.out wo.drew hE.drew i (by omega);have cv':=HB.out wo.drew hE.drew i (by omega);have hin:(i:Int)<(n:Int):=by omega
   obtain ⟨x,hx⟩:∃ x,u.getD i 0=x:=⟨_,rfl⟩;obtain ⟨y,hy⟩:∃ y,v.getD i 0=y:=⟨_,rfl⟩;have hx8:=x.toNat_lt;have hy8:=y.toNat_lt;have HX:=Lib.hid hx;have HY:=Lib.hid hy;rw [hx] at cu cu';rw [hy] at cv cv';clear hx hy;by_cases hik:i<k
   ·have hxy:x=y:=by rw [← HX.out,← HY.out];exact HSM.out i hik
    subst hxy;go_upto_region 6 with (fail)
    go_region
    go_wp2;go_roundw
    case rel=>exact ⟨i+1,by omega,by go_num,hE.drew⟩
    case measure=>simp [intOf];omega
   ·obtain rfl:i=k:=by omega
    have hxy:(x.toNat:Int)<(y.toNat:Int):=by have:=HKS.out;rw [HX.out,HY.out] at this;omega
    have hne:¬ (x.toNat:Int)=(y.toNat:Int):=by omega
    go_upto_region 6 with (fail)
    go_region
    go_upto_region 7 with (fail)
    go_region
    go_wp2;go_ret;exact ⟨rfl,hE.drew.drew⟩
theorem Mc (u v:List UInt8) (va vb:Value) (w:World) (hu:By w va u) (hv:By w vb v) :
  Calls Tryz.prog 42 #[va,vb] w fun e w'=>e=.returned (.bool (decide (u=v)))∧Ext w w':=by
 have h1:=Gm va u w hu;have h2:=Gm vb v w hv;have hE:=Ext.refl w;go_enter Tryz.func42,Tryz.ntmps42;go_wp2;have hb:(u==v)=decide (u=v):=by rw [Bool.eq_iff_iff];simp
 rw [hb];go_ret;exact ⟨rfl,hE⟩
def rkB:Nat→Nat
 | 0=>0
 | n+1=>256*rkB n+1
theorem Qp:∀ n,rkB (n+1)=rkB n+256 ^ n
 | 0=>rfl
 | n+1=>by
  have:=Qp n;rw [show rkB (n+1+1)=256*rkB (n+1)+1 from rfl,show rkB (n+1)=256*rkB n+1 from rfl,Nat.pow_succ];rw [show rkB (n+1)=256*rkB n+1 from rfl] at this;omega
theorem Y2 {a b:Nat} (h:a≤b):rkB a≤rkB b:=by
 induction h with
 | refl=>exact Nat.le_refl _
 | step h ih=>exact Nat.le_trans ih (by show _≤256*rkB _+1;omega)
theorem J0 (u:List UInt8):rkB u.length≤rk u∧rk u<rkB (u.length+1):=by
 induction u using Du with
 | h0=>exact ⟨Nat.le_refl _,by decide⟩
 | h1 u x ih=>
  have hx:=x.toNat_lt;rw [Fa,List.length_append,List.length_singleton];obtain ⟨h1,h2⟩:=ih;rw [show rkB (u.length+1+1)=256*rkB (u.length+1)+1 from rfl];rw [show rkB (u.length+1)=256*rkB u.length+1 from rfl] at h2 ⊢;omega
theorem Qo (p q:List UInt8):rk (p++q)=rk p*256 ^ q.length+rk q:=by
 induction q using Du with
 | h0=>simp [rk]
 | h1 q x ih=>
  rw [← List.append_assoc,Fa,ih,Fa,List.length_append,List.length_singleton,Nat.pow_succ,Nat.mul_add,← Nat.mul_assoc (rk p)];have:256*(rk p*256 ^ q.length)=rk p*256 ^ q.length*256:=Nat.mul_comm _ _;omega
theorem Qn {u v:List UInt8} (h:Slx u v):rk u<rk v:=by
 rcases h with h|⟨h,p,a,b,u',v',rfl,rfl,hab⟩
 ·have h1:=(J0 u).2;have h2:=(J0 v).1;have h3:=Y2 (show u.length+1≤v.length from h);omega
 ·have hl:u'.length=v'.length:=by simpa using h
  have e1:p++a::u'=(p++[a])++u':=by simp
  have e2:p++b::v'=(p++[b])++v':=by simp
  rw [e1,e2,Qo,Qo _ v',Fa,Fa,hl];have h1:=(J0 u').2;have h2:=(J0 v').1;rw [hl,Qp] at h1;have h3:(256*rk p+a.toNat+1)*256 ^ v'.length+256 ^ v'.length≤(256*rk p+b.toNat+1)*256 ^ v'.length:=by
   rw [← Nat.succ_mul];exact Nat.mul_le_mul_right _ (by omega)
  omega
theorem Y1 {u v:List UInt8} (h:rk u≤rk v):u.length≤v.length:=by
 refine Nat.le_of_not_lt fun hl=>?_
 have:=Qn (u:=v) (v:=u) (.inl hl);omega
theorem Acu (L:List UInt8→Bool) (n:Nat) (u:List UInt8) (hu:L u=true) (hm:∀ v,L v=true→rk u≤rk v) (h0:0<(A2 L (n+1)).length):(A2 L (n+1)).getD 0 []=u:=by
 have hs:=Ng L (n+1);generalize hl:A2 L (n+1)=l at *;cases l with
 | nil=>simp at h0
 | cons a l=>
  show a=u;have ha:a∈A2 L (n+1):=by rw [hl];exact List.mem_cons_self
  obtain ⟨ha1,ha2⟩:=(Ez L a (n+1)).1 ha;have h1:=hm a ha2;have hin:u∈A2 L (n+1):=(Ez L u (n+1)).2 ⟨by have:=Y1 h1;omega,hu⟩;rw [hl] at hin;rcases List.mem_cons.1 hin with h|h
  ·exact h.symm
  ·have:=Qn (List.rel_of_pairwise_cons hs h);omega
theorem Acr (L:List UInt8→Bool) (n:Nat) (u:List UInt8) (hu:L u=true) (h0:(A2 L (n+1)).length=0):n<u.length:=by
 refine Nat.lt_of_not_le fun h=>?_
 have:=(Ez L u (n+1)).2 ⟨by omega,hu⟩;rw [List.eq_nil_of_length_eq_zero h0] at this;simp at this
theorem Acs (L:List UInt8→Bool) (n i:Nat) (hi:i+1<(A2 L n).length):Slx ((A2 L n).getD i []) ((A2 L n).getD (i+1) []):=by
 have:=List.pairwise_iff_getElem.1 (Ng L n) i (i+1) (by omega) hi (by omega);rw [List.getD_eq_getElem?_getD,List.getElem?_eq_getElem (by omega),List.getD_eq_getElem?_getD,List.getElem?_eq_getElem hi];exact this
theorem Pt (l:List (List UInt8)) (i:Nat) (h:i<l.length):l.take (i+1)=l.take i++[l.getD i []]:=by
 rw [List.take_succ_eq_append_getElem h,List.getD_eq_getElem?_getD,List.getElem?_eq_getElem h];rfl
theorem Sk (l:List (List UInt8)) (i k:Nat) (h:i<l.length):B0 (l.take (i+1)) k=B0 (l.take i) k+if (l.getD i []).length=k then 1 else 0:=by
 rw [Pt l i h];unfold B0;rw [List.countP_append]
 congr 1
 by_cases e:(l.getD i []).length=k
 ·rw [if_pos e];simp only [List.countP_cons,List.countP_nil,e,beq_self_eq_true,if_true]
 ·rw [if_neg e];simp only [List.countP_cons,List.countP_nil,beq_iff_eq,if_neg e]
theorem Kf (l:List (List UInt8)) (x:List UInt8) (i:Nat) (h:i<l.length):x∈l.take (i+1)↔x∈l.take i∨l.getD i []=x:=by
 rw [Pt l i h,List.mem_append,List.mem_singleton];constructor
 ·rintro (h|h)
  ·exact .inl h
  ·exact .inr h.symm
 ·rintro (h|h)
  ·exact .inl h
  ·exact .inr h.symm
end Go.Proofs.YtaiogolidlamiaaGreatDoor
