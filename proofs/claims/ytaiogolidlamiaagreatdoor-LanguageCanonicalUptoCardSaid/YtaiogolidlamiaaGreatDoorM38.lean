import Derived.Test.YtaiogolidlamiaaGreatDoorM36
import Derived.Test.YtaiogolidlamiaaGreatDoorM37
import Derived.Deep.Upon
import Derived.Test.YtaiogolidlamiaaGreatDoorM09
import Derived.Test.YtaiogolidlamiaaGreatDoorM10
set_option linter.unusedVariables false
set_option linter.unusedSimpArgs false
namespace Go.Proofs.YtaiogolidlamiaaGreatDoor
set_option maxRecDepth 100000
open Go.RowKit Go.Shelf
structure RawAt (W:World) (S:Nat) (a:Option Addr) (n c A:Nat):Prop where
 hs:S<256
 ha:A<256
 by_:∃ l:List UInt8,l.length=n∧ByW W (.slice a n c) l
theorem RawAt.ext {W W':World} {S:Nat} {a:Option Addr} {n c A:Nat} (h:RawAt W S a n c A) (hE:Ext W W'):RawAt W' S a n c A:=
 ⟨h.hs,h.ha,by obtain ⟨l,h1,h2⟩:=h.by_;exact ⟨l,h1,h2.ext hE⟩⟩
theorem Ld {α:Type} [DecidableEq α] (l l':List α) (d:α) (h:l.length=l'.length) (hq:∀ q,q<l.length→l.getD q d=l'.getD q d):l=l':=by
 apply List.ext_getElem h;intro i h1 h2;have:=hq i h1;rw [List.getD_eq_getElem?_getD,List.getD_eq_getElem?_getD,List.getElem?_eq_getElem h1,List.getElem?_eq_getElem h2] at this;exact this
set_option maxHeartbeats 1000000 in
theorem Aaa (l l':List Nat) (v v':Value) (w:World) (h:Ints w v l) (h':Ints w v' l') :
  Calls Tryz.prog 66 #[v,v'] w fun e w'=>e=.returned (.bool (decide (l=l')))∧Ext w w':=by
 obtain ⟨a,c,rfl⟩:=Sl.len h;obtain ⟨a',c',rfl⟩:=Sl.len h';by_cases hl:l.length=l'.length
 ·have hb:=h.1;have HC:Hid (0<l.length→∃ b o b' o',a=some ⟨b,o,none⟩∧a'=some ⟨b',o',none⟩∧(∀ i,i<l.length→w.cell? ⟨b,o+i,none⟩=some (iv (l.getD i 0)))∧∀ i,i<l.length→w.cell? ⟨b',o'+i,none⟩=some (iv (l'.getD i 0))):=Lib.hid fun h0=>by
   obtain ⟨b,o,c1,e1,k1⟩:=Sl.form h h0;obtain ⟨b',o',c2,e2,k2⟩:=Sl.form h' (by omega);injection e1 with e1
   injection e2 with e2
   exact ⟨b,o,b',o',e1,e2,fun i hi=>k1 i (by omega),fun i hi=>k2 i (by omega)⟩
  have HL:=Lib.hid hl;rw [← hl];obtain ⟨n,hn⟩:∃ n,l.length=n:=⟨_,rfl⟩;rw [hn] at HC hb;rw [hn];have HN:=Lib.hid hn;clear h h' hl hn;go_enter Tryz.func66,Tryz.ntmps66;go_wp2_with (fail);go_loopw [5] (fun vi W=>∃ j:Nat,j≤n∧vi=.int .i64 j∧Ext w W∧Hid (∀ q,q<j→l.getD q 0=l'.getD q 0))
   (fun vi _=>n-(intOf vi).toNat)
  case atStart=>exact ⟨0,by omega,rfl,Ext.refl w,Lib.hid fun q hq=>by omega⟩
  case round=>
   obtain ⟨j,hj,rfl,hE,HQ⟩:=hrel;by_cases hlt:j<n
   ·obtain ⟨b,o,b',o',rfl,rfl,k1,k2⟩:=HC.out (by omega);have k1:=Aw (hE.cell (k1 j hlt));have k2:=Aw (hE.cell (k2 j hlt));obtain ⟨x,hx⟩:∃ x,l.getD j 0=x:=⟨_,rfl⟩;obtain ⟨y,hy⟩:∃ y,l'.getD j 0=y:=⟨_,rfl⟩;rw [hx] at k1;rw [hy] at k2;have HX:=Lib.hid hx;have HY:=Lib.hid hy;clear hx hy;go_upto_region 6 with (fail)
    refine Da (by kernel_rfl) (by kernel_rfl) ?_;iterate 9 (with_reducible refine wpQuiet_step (fun K hK=>?_);go_simp;first|(refine hK _ ?_;clear hK K))
    refine wpQuiet_nil ?_;rintro _ ⟨e,rfl⟩;have hE':=hE.trans e.ext;clear k1 k2;generalize e.W=w5 at *;by_cases hxy:x=y
    ·have hxi:(x:Int)=(y:Int):=by omega
     go_wp2;go_roundw
     case rel=>exact ⟨j+1,by omega,by go_num,hE',Lib.hid fun q hq=>by
      by_cases hqj:q<j
      ·exact HQ.out q hqj
      ·obtain rfl:q=j:=by omega
       rw [HX.out,HY.out,hxy]⟩
     case measure=>simp [intOf];omega
    ·have hxi:¬ (x:Int)=(y:Int):=by omega
     have hne:Hid (decide (l=l')=false):=Lib.hid (decide_eq_false fun e=>hxy (by rw [← HX.out,← HY.out,e]));go_wp2;go_ret;exact ⟨by rw [hne.out];rfl,hE'⟩
   ·obtain rfl:j=n:=by omega
    have heq:Hid (decide (l=l')=true):=Lib.hid (decide_eq_true (Ld l l' 0 HL.out fun q hq=>HQ.out q (by rw [← HN.out];exact hq)));go_wp2;go_ret;exact ⟨by rw [heq.out];rfl,hE⟩
 ·have hne:Hid (decide (l=l')=false):=Lib.hid (decide_eq_false fun e=>hl (by rw [e]));have hli:¬ (l.length:Int)=(l'.length:Int):=by omega
  go_enter Tryz.func66,Tryz.ntmps66;go_wp2_with (fail);go_ret;exact ⟨by rw [hne.out];rfl,Ext.refl w⟩
theorem Vs {d d':Dfa} (h1:d.cls=d'.cls) (h2:d.nxt=d'.nxt) (h3:d.acc=d'.acc):d=d':=by
 cases d;cases d';simp at h1 h2 h3;simp [h1,h2,h3]
theorem Ahg (d d':Dfa):(d.cls=d'.cls∧d.nxt=d'.nxt∧d.acc=d'.acc)↔d=d':=
 ⟨fun ⟨h1,h2,h3⟩=>Vs h1 h2 h3,fun h=>by subst h;exact ⟨rfl,rfl,rfl⟩⟩
instance dfaDec:DecidableEq Dfa:=fun d d'=>decidable_of_iff _ (Ahg d d')
theorem Ahi {w W:World} {a a':Option Addr} {c c':Nat} {l l':List Cls} (h:Cs w (.slice a l.length c) l) (h':Cs w (.slice a' l'.length c') l') (hE:Ext w W) (j:Nat) (hj:j<l.length) (hj':j<l'.length) :
  ∃ b o b' o',a=some ⟨b,o,none⟩∧a'=some ⟨b',o',none⟩∧((∀ e:EW W,e.W.cell? ⟨b,o+j*4,none⟩=some (.int .u64 (wd (l.getD j 0#256) 0)))∧(∀ e:EW W,e.W.cell? ⟨b,o+j*4+1,none⟩=some (.int .u64 (wd (l.getD j 0#256) 1)))∧
  (∀ e:EW W,e.W.cell? ⟨b,o+j*4+2,none⟩=some (.int .u64 (wd (l.getD j 0#256) 2)))∧(∀ e:EW W,e.W.cell? ⟨b,o+j*4+3,none⟩=some (.int .u64 (wd (l.getD j 0#256) 3))))∧
  ((∀ e:EW W,e.W.cell? ⟨b',o'+j*4,none⟩=some (.int .u64 (wd (l'.getD j 0#256) 0)))∧(∀ e:EW W,e.W.cell? ⟨b',o'+j*4+1,none⟩=some (.int .u64 (wd (l'.getD j 0#256) 1)))∧
  (∀ e:EW W,e.W.cell? ⟨b',o'+j*4+2,none⟩=some (.int .u64 (wd (l'.getD j 0#256) 2)))∧(∀ e:EW W,e.W.cell? ⟨b',o'+j*4+3,none⟩=some (.int .u64 (wd (l'.getD j 0#256) 3)))):=by
 obtain ⟨b,o,c1,he1,hx⟩:=Sl.form h (by omega);obtain ⟨b',o',c2,he2,hy⟩:=Sl.form h' (by omega);injection he1 with he1 _ _
 injection he2 with he2 _ _
 exact ⟨b,o,b',o',he1,he2,Jk (fun i hi=>hE.cell (hx i hi)) j hj,Jk (fun i hi=>hE.cell (hy i hi)) j hj'⟩
theorem Rx {w W:World} {a a':Option Addr} {c c' n n':Nat} {f f':Nat→Value} (h:Sl w (.slice a n c) 1 n f) (h':Sl w (.slice a' n' c') 1 n' f') (hE:Ext w W) (j:Nat) (hj:j<n) (hj':j<n') :
  ∃ b o b' o',a=some ⟨b,o,none⟩∧a'=some ⟨b',o',none⟩∧(∀ e:EW W,e.W.cell? ⟨b,o+j,none⟩=some (f j))∧(∀ e:EW W,e.W.cell? ⟨b',o'+j,none⟩=some (f' j)):=by
 obtain ⟨b,o,c1,he1,hx⟩:=Sl.form h (by omega);obtain ⟨b',o',c2,he2,hy⟩:=Sl.form h' (by omega);injection he1 with he1 _ _
 injection he2 with he2 _ _
 exact ⟨b,o,b',o',he1,he2,Aw (hE.cell (hx j (by omega))),Aw (hE.cell (hy j (by omega)))⟩
set_option maxHeartbeats 4000000 in
theorem Fs (d d':Dfa) (v v':Value) (w:World) (h:IsD w v d) (h':IsD w v' d') :
  Calls Tryz.prog 24 #[v,v'] w fun e w'=>e=.returned (.bool (decide (d=d')))∧Ext w w':=by
 obtain ⟨vc,vn,va,rfl,hc,hr,ha⟩:=h;obtain ⟨vc',vn',va',rfl,hc',hr',ha'⟩:=h';obtain ⟨vs,hvs,hrs,hri⟩:=hr;obtain ⟨vs',hvs',hrs',hri'⟩:=hr';obtain ⟨ac,cc,rfl⟩:=Sl.len hc;obtain ⟨ac',cc',rfl⟩:=Sl.len hc';obtain ⟨an,cn,rfl⟩:=Sl.len hrs;obtain ⟨an',cn',rfl⟩:=Sl.len hrs';obtain ⟨aa,ca,rfl⟩:=Sl.len ha;obtain ⟨aa',ca',rfl⟩:=Sl.len ha';have hE0:=((Ext.refl w).alloc (.cells (dA (.slice ac d.cls.length cc) (.slice an d.nxt.length cn) (.slice aa d.acc.length ca)) 30)).alloc (.cells (dA (.slice ac' d'.cls.length cc') (.slice an' d'.nxt.length cn') (.slice aa' d'.acc.length ca')) 30);have H2:=Af (Ab w (.cells (dA (.slice ac d.cls.length cc) (.slice an d.nxt.length cn) (.slice aa d.acc.length ca)) 30)) (.cells (dA (.slice ac' d'.cls.length cc') (.slice an' d'.nxt.length cn') (.slice aa' d'.acc.length ca')) 30);have H3:=heap_alloc2_new w (.cells (dA (.slice ac d.cls.length cc) (.slice an d.nxt.length cn) (.slice aa d.acc.length ca)) 30) (.cells (dA (.slice ac' d'.cls.length cc') (.slice an' d'.nxt.length cn') (.slice aa' d'.acc.length ca')) 30);obtain ⟨w1,hw1⟩:∃ W,(w.alloc (.cells (dA (.slice ac d.cls.length cc) (.slice an d.nxt.length cn) (.slice aa d.acc.length ca)) 30)).alloc (.cells (dA (.slice ac' d'.cls.length cc') (.slice an' d'.nxt.length cn') (.slice aa' d'.acc.length ca')) 30)=W:=⟨_,rfl⟩;have HK:Hid (∀ W,Ext w1 W→(W.cell? ⟨w.heap.size,0,none⟩=some (.slice ac d.cls.length cc)∧W.cell? ⟨w.heap.size,1,none⟩=some (.slice an d.nxt.length cn)∧W.cell? ⟨w.heap.size,2,none⟩=some (.slice aa d.acc.length ca))∧
   (W.cell? ⟨w.heap.size+1,0,none⟩=some (.slice ac' d'.cls.length cc')∧W.cell? ⟨w.heap.size+1,1,none⟩=some (.slice an' d'.nxt.length cn')∧W.cell? ⟨w.heap.size+1,2,none⟩=some (.slice aa' d'.acc.length ca'))):=Lib.hid fun W hW=>by
  rw [hw1] at H2 H3;exact ⟨⟨(cell_of_row W _ 0 _ _ _ (hW.heap H2)).trans rfl,(cell_of_row W _ 1 _ _ _ (hW.heap H2)).trans rfl,(cell_of_row W _ 2 _ _ _ (hW.heap H2)).trans rfl⟩,
   (cell_of_row W _ 0 _ _ _ (hW.heap H3)).trans rfl,(cell_of_row W _ 1 _ _ _ (hW.heap H3)).trans rfl,(cell_of_row W _ 2 _ _ _ (hW.heap H3)).trans rfl⟩
 rw [hw1] at hE0;have HE0:=Lib.hid hE0;have HC:=Lib.hid (fun W (hW:Ext w1 W) j (h1:j<d.cls.length) (h2:j<d'.cls.length)=>Ahi hc hc' (hE0.trans hW) j h1 h2);have HR:=Lib.hid (fun W (hW:Ext w1 W) j (h1:j<d.nxt.length) (h2:j<d'.nxt.length)=>Rx hrs hrs' (hE0.trans hW) j h1 h2);have HRI:=Lib.hid (fun W (hW:Ext w1 W) j (h1:j<d.nxt.length) (h2:j<d'.nxt.length)=>Aaa _ _ _ _ W ((hri j h1).ext (hE0.trans hW)) ((hri' j h2).ext (hE0.trans hW)));have HA:=Lib.hid (fun W (hW:Ext w1 W) j (h1:j<d.acc.length) (h2:j<d'.acc.length)=>Rx ha ha' (hE0.trans hW) j h1 h2);obtain ⟨n1,hn1⟩:∃ n,d.cls.length=n:=⟨_,rfl⟩;obtain ⟨n2,hn2⟩:∃ n,d.nxt.length=n:=⟨_,rfl⟩;obtain ⟨n3,hn3⟩:∃ n,d.acc.length=n:=⟨_,rfl⟩;obtain ⟨m1,hm1⟩:∃ n,d'.cls.length=n:=⟨_,rfl⟩;obtain ⟨m2,hm2⟩:∃ n,d'.nxt.length=n:=⟨_,rfl⟩;obtain ⟨m3,hm3⟩:∃ n,d'.acc.length=n:=⟨_,rfl⟩;have b1:=hc.1;have b2:=hrs.1;have b3:=ha.1;rw [hn1,hn2,hn3,hm1,hm2,hm3] at HK;rw [hn1] at b1;rw [hn2] at b2;rw [hn3] at b3;rw [hn1,hm1] at HC;rw [hn2,hm2] at HR HRI;rw [hn3,hm3] at HA;have HN:=Lib.hid (And.intro hn1 (And.intro hn2 hn3));have HM:=Lib.hid (And.intro hm1 (And.intro hm2 hm3));have hz:∀ W,W=w1→Ext w1 W:=fun W h=>h▸Ext.refl w1
 have hw2:=hw1;rw [hn1,hn2,hn3,hm1,hm2,hm3] at hw2;have HW:=Lib.hid hw2;have hne:Hid (¬ (n1=m1∧n2=m2∧n3=m3)→¬ d=d'):=Lib.hid fun hx e=>hx (by subst e;exact ⟨HN.out.1.symm.trans HM.out.1,HN.out.2.1.symm.trans HM.out.2.1,HN.out.2.2.symm.trans HM.out.2.2⟩)
 rw [hn1,hn2,hn3,hm1,hm2,hm3];clear hn1 hn2 hn3 hm1 hm2 hm3 hc hc' hrs hrs' hri hri' ha ha' H2 H3 hE0 hw1 hw2 hvs hvs';go_enter Tryz.func24,Tryz.ntmps24;go_upto_region 1 with (fail)
 simp only [dA] at HW;rw [HW.out];clear HW;obtain ⟨⟨k0,k1,k2⟩,k3,k4,k5⟩:=HK.out w1 (Ext.refl w1);by_cases e1:n1=m1
 ·by_cases e2:n2=m2
  ·by_cases e3:n3=m3
   ·subst e1 e2 e3;go_wp2_with (fail);clear k0 k1 k2 k3 k4 k5;go_loopw [5] (fun vi W=>∃ j:Nat,j≤n1∧vi=.int .i64 j∧Ext w1 W∧Hid (∀ q,q<j→d.cls.getD q 0#256=d'.cls.getD q 0#256))
     (fun vi _=>n1-(intOf vi).toNat)
    case atStart=>exact ⟨0,by omega,rfl,Ext.refl w1,Lib.hid fun q hq=>by omega⟩
    case round=>
     obtain ⟨j,hj,rfl,hE,HQ⟩:=hrel;obtain ⟨⟨k0,k1,k2⟩,k3,k4,k5⟩:=HK.out wr hE;by_cases hlt:j<n1
     ·obtain ⟨b,o,b',o',rfl,rfl,⟨x0,x1,x2,x3⟩,y0,y1,y2,y3⟩:=HC.out wr hE j hlt hlt;obtain ⟨x,hxd⟩:∃ x,d.cls.getD j 0#256=x:=⟨_,rfl⟩;obtain ⟨y,hyd⟩:∃ y,d'.cls.getD j 0#256=y:=⟨_,rfl⟩;rw [hxd] at x0 x1 x2 x3;rw [hyd] at y0 y1 y2 y3;have HX:=Lib.hid hxd;have HY:=Lib.hid hyd;have hg:=Adv x y;obtain ⟨bx,hbx⟩:∃ b,(x != y)=b:=⟨_,rfl⟩;rw [hbx] at hg;have HBX:=Lib.hid hbx;clear hbx;clear hxd hyd;have k0:=Aw k0;have k3:=Aw k3;go_upto_region 6 with (fail)
      refine Da (by kernel_rfl) (by kernel_rfl) ?_;iterate 11 (with_reducible refine wpQuiet_step (fun K hK=>?_);go_simp;first|(refine hK _ ?_;clear hK K))
      refine wpQuiet_nil ?_;rintro _ ⟨e,rfl⟩;have hE':=hE.trans e.ext;clear k0 k1 k2 k3 k4 k5 x0 x1 x2 x3 y0 y1 y2 y3;generalize e.W=w5 at *;cases bx with
      | false=>
       have hxy:x=y:=by have:=HBX.out;simpa using this
       go_wp2;go_roundw
       case rel=>exact ⟨j+1,by omega,by go_num,hE',Lib.hid fun q hq=>by
        by_cases hqj:q<j
        ·exact HQ.out q hqj
        ·obtain rfl:q=j:=by omega
         rw [HX.out,HY.out,hxy]⟩
       case measure=>simp [intOf];omega
      | true=>
       have hxy:¬ x=y:=by have:=HBX.out;simpa using this
       have hdd:Hid (¬ d=d'):=Lib.hid fun e=>hxy (by rw [← HX.out,← HY.out,e])
       go_wp2;go_ret;exact ⟨by rw [decide_eq_false hdd.out];rfl,HE0.out.trans hE'⟩
     ·obtain rfl:j=n1:=by omega
      have HQ1:=HQ;have hE1:=hE;clear k1 k2 k4 k5 hE;go_wp2_with (fail);clear k0 k3;go_loopw [6] (fun vi W=>∃ j:Nat,j≤n2∧vi=.int .i64 j∧Ext w1 W∧Hid (∀ q,q<j→d.nxt.getD q []=d'.nxt.getD q []))
       (fun vi _=>n2-(intOf vi).toNat)
      case atStart=>exact ⟨0,by omega,rfl,hE1,Lib.hid fun q hq=>by omega⟩
      case round=>
       clear hE1;obtain ⟨j,hj,rfl,hE,HQ⟩:=hrel;obtain ⟨⟨k0,k1,k2⟩,k3,k4,k5⟩:=HK.out wr hE;by_cases hlt:j<n2
       ·obtain ⟨b,o,b',o',rfl,rfl,r1,r2⟩:=HR.out wr hE j hlt hlt;obtain ⟨u,hu⟩:∃ u,vs.getD j undef=u:=⟨_,rfl⟩;obtain ⟨u',hu'⟩:∃ u,vs'.getD j undef=u:=⟨_,rfl⟩;have f66:=fun (e:EW wr)=>Lib.hid (HRI.out e.W (hE.trans e.ext) j hlt hlt)
        rw [hu] at r1 f66;rw [hu'] at r2 f66;obtain ⟨x,hxd⟩:∃ x,d.nxt.getD j []=x:=⟨_,rfl⟩;obtain ⟨y,hyd⟩:∃ y,d'.nxt.getD j []=y:=⟨_,rfl⟩;rw [hxd,hyd] at f66;have HX:=Lib.hid hxd;have HY:=Lib.hid hyd;obtain ⟨bx,hbx⟩:∃ b,decide (x=y)=b:=⟨_,rfl⟩;rw [hbx] at f66;have HBX:=Lib.hid hbx;clear hbx hxd hyd hu hu';have k1:=Aw k1;have k4:=Aw k4;go_upto_region 11 with (fail)
        refine Da (by kernel_rfl) (by kernel_rfl) ?_;iterate 12 (with_reducible refine wpQuiet_step (fun K hK=>?_);go_simp;first|(refine hK _ ?_;clear hK K)|(apply Exists.intro;refine ⟨fun _=>?_,hK _ ?_⟩;(with_reducible exact F4 (f66 _).out);clear hK K))
        refine wpQuiet_nil ?_;rintro _ ⟨e,rfl⟩;have hE':=hE.trans e.ext;clear k0 k1 k2 k3 k4 k5 r1 r2 f66;generalize e.W=w5 at *;cases bx with
        | true=>
         have hxy:x=y:=of_decide_eq_true HBX.out;go_wp2;go_roundw
         case rel=>exact ⟨j+1,by omega,by go_num,hE',Lib.hid fun q hq=>by
          by_cases hqj:q<j
          ·exact HQ.out q hqj
          ·obtain rfl:q=j:=by omega
           rw [HX.out,HY.out,hxy]⟩
         case measure=>simp [intOf];omega
        | false=>
         have hxy:¬ x=y:=of_decide_eq_false HBX.out;have hdd:Hid (¬ d=d'):=Lib.hid fun e=>hxy (by rw [← HX.out,← HY.out,e])
         go_wp2;go_ret;exact ⟨by rw [decide_eq_false hdd.out];rfl,HE0.out.trans hE'⟩
       ·obtain rfl:j=n2:=by omega
        have HQ2:=HQ;have hE1:=hE;clear k0 k2 k3 k5 hE;go_wp2_with (fail);clear k1 k4;go_loopw [7] (fun vi W=>∃ j:Nat,j≤n3∧vi=.int .i64 j∧Ext w1 W∧Hid (∀ q,q<j→d.acc.getD q false=d'.acc.getD q false))
         (fun vi _=>n3-(intOf vi).toNat)
        case atStart=>exact ⟨0,by omega,rfl,hE1,Lib.hid fun q hq=>by omega⟩
        case round=>
         clear hE1;obtain ⟨j,hj,rfl,hE,HQ⟩:=hrel;obtain ⟨⟨k0,k1,k2⟩,k3,k4,k5⟩:=HK.out wr hE;by_cases hlt:j<n3
         ·obtain ⟨b,o,b',o',rfl,rfl,r1,r2⟩:=HA.out wr hE j hlt hlt;obtain ⟨x,hxd⟩:∃ x,d.acc.getD j false=x:=⟨_,rfl⟩;obtain ⟨y,hyd⟩:∃ y,d'.acc.getD j false=y:=⟨_,rfl⟩;rw [hxd] at r1;rw [hyd] at r2;have HX:=Lib.hid hxd;have HY:=Lib.hid hyd;clear hxd hyd;have k2:=Aw k2;have k5:=Aw k5;rcases (show (x=true∧y=true)∨(x=false∧y=false)∨(x=true∧y=false)∨(x=false∧y=true) by cases x<;>cases y<;>simp) with h|h|h|h
          ·obtain ⟨rfl,rfl⟩:=h;go_upto_region 16 with (fail)
           refine Da (by kernel_rfl) (by kernel_rfl) ?_;iterate 11 (with_reducible refine wpQuiet_step (fun K hK=>?_);go_simp;first|(refine hK _ ?_;clear hK K))
           refine wpQuiet_nil ?_;rintro _ ⟨e,rfl⟩;have hE':=hE.trans e.ext;clear k0 k1 k2 k3 k4 k5 r1 r2;generalize e.W=w5 at *;go_wp2;go_roundw
           case rel=>exact ⟨j+1,by omega,by go_num,hE',Lib.hid fun q hq=>by
            by_cases hqj:q<j
            ·exact HQ.out q hqj
            ·obtain rfl:q=j:=by omega
             rw [HX.out,HY.out]⟩
           case measure=>simp [intOf];omega
          ·obtain ⟨rfl,rfl⟩:=h;go_upto_region 16 with (fail)
           refine Da (by kernel_rfl) (by kernel_rfl) ?_;iterate 11 (with_reducible refine wpQuiet_step (fun K hK=>?_);go_simp;first|(refine hK _ ?_;clear hK K))
           refine wpQuiet_nil ?_;rintro _ ⟨e,rfl⟩;have hE':=hE.trans e.ext;clear k0 k1 k2 k3 k4 k5 r1 r2;generalize e.W=w5 at *;go_wp2;go_roundw
           case rel=>exact ⟨j+1,by omega,by go_num,hE',Lib.hid fun q hq=>by
            by_cases hqj:q<j
            ·exact HQ.out q hqj
            ·obtain rfl:q=j:=by omega
             rw [HX.out,HY.out]⟩
           case measure=>simp [intOf];omega
          ·obtain ⟨rfl,rfl⟩:=h;go_upto_region 16 with (fail)
           refine Da (by kernel_rfl) (by kernel_rfl) ?_;iterate 11 (with_reducible refine wpQuiet_step (fun K hK=>?_);go_simp;first|(refine hK _ ?_;clear hK K))
           refine wpQuiet_nil ?_;rintro _ ⟨e,rfl⟩;have hE':=hE.trans e.ext;clear k0 k1 k2 k3 k4 k5 r1 r2;generalize e.W=w5 at *;have hdd:Hid (¬ d=d'):=Lib.hid fun e=>by
            have h1:=HX.out;have h2:=HY.out;rw [e,h2] at h1;cases h1
           go_wp2;go_ret;exact ⟨by rw [decide_eq_false hdd.out];rfl,HE0.out.trans hE'⟩
          ·obtain ⟨rfl,rfl⟩:=h;go_upto_region 16 with (fail)
           refine Da (by kernel_rfl) (by kernel_rfl) ?_;iterate 11 (with_reducible refine wpQuiet_step (fun K hK=>?_);go_simp;first|(refine hK _ ?_;clear hK K))
           refine wpQuiet_nil ?_;rintro _ ⟨e,rfl⟩;have hE':=hE.trans e.ext;clear k0 k1 k2 k3 k4 k5 r1 r2;generalize e.W=w5 at *;have hdd:Hid (¬ d=d'):=Lib.hid fun e=>by
            have h1:=HX.out;have h2:=HY.out;rw [e,h2] at h1;cases h1
           go_wp2;go_ret;exact ⟨by rw [decide_eq_false hdd.out];rfl,HE0.out.trans hE'⟩
         ·obtain rfl:j=n3:=by omega
          have hdd:Hid (d=d'):=Lib.hid (Vs (Ld _ _ 0#256 (HN.out.1.trans HM.out.1.symm) fun q hq=>HQ1.out q (by rw [← HN.out.1];exact hq))
           (Ld _ _ [] (HN.out.2.1.trans HM.out.2.1.symm) fun q hq=>HQ2.out q (by rw [← HN.out.2.1];exact hq)) (Ld _ _ false (HN.out.2.2.trans HM.out.2.2.symm) fun q hq=>HQ.out q (by rw [← HN.out.2.2];exact hq)))
          clear k0 k1 k3 k4;go_wp2;go_ret;exact ⟨by rw [decide_eq_true hdd.out];rfl,HE0.out.trans hE⟩
   ·have e3i:¬ (n3:Int)=(m3:Int):=by omega
    subst e1 e2;go_wp2;go_ret;exact ⟨by rw [decide_eq_false (hne.out (by omega))];rfl,HE0.out⟩
  ·have e2i:¬ (n2:Int)=(m2:Int):=by omega
   subst e1;go_wp2;go_ret;exact ⟨by rw [decide_eq_false (hne.out (by omega))];rfl,HE0.out⟩
 ·have e1i:¬ (n1:Int)=(m1:Int):=by omega
  go_wp2;go_ret;exact ⟨by rw [decide_eq_false (hne.out (by omega))];rfl,HE0.out⟩
theorem Xz {P:Program} {w:World} {ops:Array Oper} {rest:List Oper} {o:Oper} {a:Act} {Q:Exit→Act→World→Prop} (hgd:o.guard=none) (s x:Operand) (t:TypeId)
  (ho:o.op=.call { callee:=.builtin .append,args:=#[s,x],argTypes:=#[t,t] })
  (e:TypeId) (i:TypeInfo) (ht:P.underlying t=some (.slice e)) (hi:P.info? e=some i)
  (ad:Option Addr) (n c:Nat) (hnc:n≤c) (hs:a.eval s=.slice ad n c) (ad':Addr) (c':Nat) (hx:a.eval x=.slice (some ad') 0 c')
  (h:wpList P ops Q rest (a.put o.dst (.slice ad n c)) w):wpList P ops Q (o::rest) a w:=by
 refine wpList_plain hgd fun K hK=>?_
 have hrun:=run_append_nothing (P:=P) w t t o.type e i ht hi ad n c hnc _ (Src.ofSlice w ht ad' 0 c' [] (by simp) (by simp) (by simp));unfold Oper.wp;simp [execOp,ho,resolve,invoke,builtin,hs,hx,hrun,Result.andThen];exact hK _ _ h
def LeastF (L:List UInt8→Bool) (W:World) (e:Ending):Prop:=
 (∃ u v,e=.returned (.tuple #[v,.bool true])∧By W v u∧L u=true∧∀ u',L u'=true→rk u≤rk u')∨(e=.returned (.tuple #[.slice none 0 0,.bool false])∧∀ u,L u=false)
theorem Ve {t:Tbl} {i b:Nat} {l:List Nat} {W:Nat→List UInt8} {F:List (Option Nat)} {Y:List UInt8} (h:FB t i b l W F Y):∀ k j,j≤k→j<l.length→(W (l.getD j 0)).length≤j
 | 0,j,hj,hl=>by
  obtain rfl:j=0:=by omega
  rw [h.head,h.w0];simp
 | k+1,j,hj,hl=>by
  by_cases h0:l.getD j 0=0
  ·rw [h0,h.w0];simp
  ·have hm:=C3 l j 0 hl;have hs:=(h.seen _ (h.lt _ hm)).2 hm;obtain ⟨p,hp⟩:=Option.isSome_iff_exists.1 hs;obtain ⟨hpl,hw⟩:=h.from_ _ p hp h0;obtain ⟨q,hq,rfl⟩:=Gj hpl;have hr:rk (W (l.getD q 0))<rk (W (l.getD j 0)):=by rw [hw,Nm];omega
   have hqj:q<j:=by
    rcases Nat.lt_trichotomy q j with h1|h1|h1
    ·exact h1
    ·subst h1;omega
    ·have:=h.inc j q h1 hq;omega
   have:=Ve h k q (by omega) hq;rw [hw,List.length_append,List.length_singleton];omega
theorem Aii {W:World} {g:Nat} {l:List UInt8} (h:∀ k,k<l.length→W.cell? ⟨g,k,none⟩=some (bv (l.getD k 0))) (j:Nat) (u:Value) (hj:(l.map bv)[j]? = some u):W.cell? ((⟨g,0,none⟩:Addr).add j)=some u:=by
 obtain ⟨hj1,hj2⟩:=List.getElem?_eq_some_iff.1 hj;have hjl:j<l.length:=by rwa [List.length_map] at hj1
 have e:(⟨g,0,none⟩:Addr).add j=⟨g,j,none⟩:=by
  unfold Addr.add;by_cases h0:j=0
  ·subst h0;rfl
  ·simp [h0]
 rw [e,h j hjl,← hj2,List.getElem_map,List.getD_eq_getElem?_getD,List.getElem?_eq_getElem hjl];rfl
set_option maxHeartbeats 2000000 in
theorem Ym (t:Tbl) (hv:TVal t) (hn:t.nxt.length≤65536) (A:Array Value) (w:World) (h:IsT w A t) :
  Calls Tryz.prog 87 #[.agg A] w fun e w'=>LeastF t.has w' e∧Ext w w':=by
 obtain ⟨bn,on,cn,ba,oa,ca,hAs,hAo,hAc,_,hA7,hA8,hR,hacc⟩:=h.opened hv;have hn0:=hv.pos;have HR:=Lib.hid hR;have HV:=Lib.hid hv;have HACC:=Lib.hid hacc;obtain ⟨i0,hi,hz0,hz1,hz2⟩:=info_parts Dm;obtain ⟨j0,hj,hy0,hy1,hy2⟩:=info_parts O9;have hE0:=(Ext.refl w).alloc (.cells A 108);have H0:=Ab w (.cells A 108);have HK7:=Lib.hid (fun (W:World) (hW:Ext (w.alloc (.cells A 108)) W)=>(cell_of_row W w.heap.size 257 _ _ _ (hW.heap H0)).trans hA7);have HK8:=Lib.hid (fun (W:World) (hW:Ext (w.alloc (.cells A 108)) W)=>(cell_of_row W w.heap.size 258 _ _ _ (hW.heap H0)).trans hA8);have HKC:=Lib.hid (fun (W:World) (hW:Ext (w.alloc (.cells A 108)) W) b (hb:b<256)=>(cell_of_row W w.heap.size b _ _ _ (hW.heap H0)).trans (hAc b hb));clear hR hv h H0 hA7 hA8 hAc hAo hAs hacc;go_enter Tryz.func87,Tryz.ntmps87;go_upto_region 1 with (fail)
 generalize w.alloc (.cells A 108)=w1 at *;have k1:=HK7.out w1 (Ext.refl w1);go_upto_region 2 with (at_make;refine wpList_make_full _ rfl _ _ 68 rfl w1.heap.size 3 i0 (.int .i64 0) 1 Tryz.underlying68 hi hz0 hz1 .i64 .i64 _ _ t.nxt.length rfl rfl rfl rfl (by rw [hz2];omega) (by unfold maxLen;omega) (Nat.le_refl _) ?_;intro w2 hown2 hgrow2)
 have hE2:Ext w1 w2:=(Ext.refl w1).grown hgrow2 (fun k e=>by cases e);have hF2:w2.ownsRow w1.heap.size 3 1 (.slice (some ⟨w1.heap.size,0,none⟩) t.nxt.length t.nxt.length) t.nxt.length ((Dn t.nxt.length 0).map ov):=by rw [Pi,← Ca];exact hown2
 have hs2:w1.heap.size<w2.heap.size:=(hF2.lt _ rfl).2;clear hown2 hgrow2 k1;have k2:=HK7.out w2 hE2;go_upto_region 3 with (at_make;refine wpList_make_full _ rfl _ _ 22 rfl w2.heap.size 5 j0 (.int .u8 0) 1 Tryz.underlying22 hj hy0 hy1 .i64 .i64 _ _ t.nxt.length rfl rfl rfl rfl (by rw [hy2];omega) (by unfold maxLen;omega) (Nat.le_refl _) ?_;intro w3 hown3 hgrow3)
 have hE3:=hE2.grown hgrow3 (fun k e=>by cases e);have hF3:=Bt hF2 hgrow3;have hY3:w3.ownsRow w2.heap.size 5 1 (.slice (some ⟨w2.heap.size,0,none⟩) t.nxt.length t.nxt.length) t.nxt.length ((List.replicate t.nxt.length (0:UInt8)).map bv):=by rw [← Ca];exact hown3
 have hs3:w2.heap.size<w3.heap.size:=(hY3.lt _ rfl).2;clear hown3 hgrow3 k2 hF2 hE2;generalize hgs:w1.heap.size=gs at *;generalize hg5:w2.heap.size=g5 at *;have HGS:=Lib.hid hgs;clear hgs hg5;go_wp2_with (fail);go_loopw [23] (fun i W=>∃ k:Nat,k≤t.nxt.length∧i=.int .i64 k∧Ext w1 W∧g5<W.heap.size∧
   W.ownsRow gs 3 1 (.slice (some ⟨gs,0,none⟩) t.nxt.length t.nxt.length) t.nxt.length ((Dn t.nxt.length k).map ov)∧
   W.ownsRow g5 5 1 (.slice (some ⟨g5,0,none⟩) t.nxt.length t.nxt.length) t.nxt.length ((List.replicate t.nxt.length (0:UInt8)).map bv))
  (fun i _=>t.nxt.length-(intOf i).toNat)
 case atStart=>exact ⟨0,by omega,rfl,hE3,hs3,hF3,hY3⟩
 case round=>
  clear hE3 hF3 hY3 hs3;obtain ⟨k,hk,rfl,hE,hsz,hF,hY⟩:=hrel;have hgs1:w1.heap.size≤gs:=Nat.le_of_eq HGS.out;by_cases hlt:k<t.nxt.length
  ·have co:=Ap none hF (Gq _ _).symm k (by rw [Gq];exact hlt);have fo:=hF.frozenAt k;obtain ⟨hFd,hgrd⟩:=A3 hF k none;rw [Pj _ _ hlt] at hFd;have hEd:=hE.grown hgrd (fun k e=>by cases e;exact hgs1);have hYd:=hY.kept hgrd (Ai hY hF (by decide));have hszd:=Nat.lt_of_lt_of_le hsz hgrd.size;clear hgrd hF hE hY;go_wp2_with (fail);go_roundw
   case rel=>exact ⟨k+1,by omega,by go_num,hEd,hszd,hFd,hYd⟩
   case measure=>simp [intOf];omega
  ·obtain rfl:k=t.nxt.length:=by omega
   rw [Pk] at hF;have co:=Ap none hF (by simp) 0 (by simpa using hn0);have fo:=hF.frozenAt 0;obtain ⟨hFd,hgrd⟩:=A3 hF 0 (some 0);have hEd:=hE.grown hgrd (fun k e=>by cases e;exact hgs1);have hYd:=hY.kept hgrd (Ai hY hF (by decide));have hszd:=Nat.lt_of_lt_of_le hsz hgrd.size;clear hgrd hF hE hY hsz;go_upto_region 9 with (fail)
   clear co fo;have hsc:wr.setCell ⟨gs,0,none⟩ (ov (some 0))=wr.setCell ⟨gs,0,none⟩ (.int .i64 0):=rfl;rw [hsc] at hFd hEd hYd hszd;clear hsc;obtain ⟨w4,hw4⟩:∃ W,wr.setCell ⟨gs,0,none⟩ (.int .i64 0)=W:=⟨_,rfl⟩;simp only [hw4] at *;clear hw4;have hE5:=hEd.alloc (.cells #[.int .i64 0] 3);have hF5:=hFd.alloc (.cells #[.int .i64 0] 3);have hY5:=hYd.alloc (.cells #[.int .i64 0] 3);have hl5:OwnI (w4.alloc (.cells #[iv 0] 3)) (g5+1) (.slice (some ⟨w4.heap.size,0,none⟩) 1 1) [0]:=World.ownsRow_lit (base:=g5+1) (e:=3) (size:=1) w4 #[.int .i64 0] 1 (by omega) (by unfold maxLen;omega) rfl;have HS:=Lib.hid (Ag0 HV.out t.nxt.length rfl);clear hEd hFd hYd;go_wp2_with (fail);go_loopw [7,8] (fun v vi W=>∃ (i:Nat) (l:List Nat) (Wd:Nat→List UInt8) (F:List (Option Nat)) (Y:List UInt8) (g c:Nat),i≤l.length∧vi=.int .i64 i∧v=.slice (some ⟨g,0,none⟩) l.length c∧Ext w1 W∧g5<W.heap.size∧
     W.ownsRow gs 3 1 (.slice (some ⟨gs,0,none⟩) t.nxt.length t.nxt.length) t.nxt.length (F.map ov)∧W.ownsRow g5 5 1 (.slice (some ⟨g5,0,none⟩) t.nxt.length t.nxt.length) t.nxt.length (Y.map bv)∧
     OwnI W (g5+1) v l∧Hid (FB t i 0 l Wd F Y))
    (fun _ vi _=>t.nxt.length-(intOf vi).toNat)
   case atStart=>exact ⟨0,[0],fun _=>[],_,_,w4.heap.size,1,by omega,rfl,rfl,hE5,by rw [World.size_alloc];omega,hF5,hY5,hl5,HS⟩
   case round=>
    clear hE5 hF5 hY5 hl5 HS hszd;obtain ⟨i,l,Wd,F,Y,g,c,hil,rfl,rfl,hE,hsz,hF,hY,hI,HF⟩:=hrel;have hln:=HF.out.len_le;have HlF:=Lib.hid HF.out.lenF;have HlY:=Lib.hid HF.out.lenY;by_cases hlt:i<l.length
    ·have cl:=Ap 0 hI rfl i hlt;have hsn:=HF.out.lt _ (C3 l i 0 hlt);obtain ⟨s,hsd⟩:∃ s,l.getD i 0=s:=⟨_,rfl⟩;rw [hsd] at cl hsn;have HSD:=Lib.hid hsd;clear hsd;have k8:=HK8.out wr hE;have ka:=(hE0.trans hE).cell (HACC.out s hsn);obtain ⟨bo,hbo⟩:∃ b,t.ok s=b:=⟨_,rfl⟩;rw [hbo] at ka;have HBO:=Lib.hid hbo;clear hbo;cases bo
     ·obtain ⟨br,or',cr,hrc,hrr⟩:=HR.out s hsn;have HRR:=Lib.hid hrr;have HRC:=Lib.hid hrc;clear hrc hrr;have hok:t.ok (l.getD i 0)=false:=by rw [HSD.out];exact HBO.out
      have hgs1:w1.heap.size≤gs:=Nat.le_of_eq HGS.out;have hgs5:gs<g5:=hs2;go_upto_region 21 with (fail)
      clear cl k8 ka;go_loopw [7,63] (fun v vb W=>∃ (b:Nat) (l':List Nat) (Wd':Nat→List UInt8) (F':List (Option Nat)) (Y':List UInt8) (g' c':Nat),b≤256∧vb=.int .i64 b∧v=.slice (some ⟨g',0,none⟩) l'.length c'∧Ext w1 W∧g5<W.heap.size∧
        W.ownsRow gs 3 1 (.slice (some ⟨gs,0,none⟩) t.nxt.length t.nxt.length) t.nxt.length (F'.map ov)∧W.ownsRow g5 5 1 (.slice (some ⟨g5,0,none⟩) t.nxt.length t.nxt.length) t.nxt.length (Y'.map bv)∧
        OwnI W (g5+1) v l'∧Hid (FB t i b l' Wd' F' Y')∧Hid (i<l'.length∧l'.getD i 0=s))
       (fun _ vb _=>256-(intOf vb).toNat)
      case atStart=>exact ⟨0,l,Wd,F,Y,g,c,by omega,rfl,rfl,hE,hsz,hF,hY,hI,HF,Lib.hid ⟨hlt,HSD.out⟩⟩
      case round=>
       clear hE hsz hF hY hI HlF HlY;obtain ⟨b,l',Wd',F',Y',g',c',hb,rfl,rfl,hE,hsz,hF,hY,hI,HF',HK'⟩:=hrel;have hln':=HF'.out.len_le;have HlF:=Lib.hid HF'.out.lenF;have HlY:=Lib.hid HF'.out.lenY;by_cases hb2:b<256
       ·have hcx:=HV.out.cell_lt b hb2;have cb:=Aw (HKC.out wr hE b hb2);have k7:=Aw (HK7.out wr hE);have cr1:=Aw ((hE0.trans hE).cell HRC.out);have cr2:=Aw ((hE0.trans hE).cell (HRR.out _ hcx));have hxs:t.ent2 s (t.cell b)=t.stp s b:=rfl;have hxn:=HV.out.stp_lt hsn hb2;rw [hxs] at cr2;obtain ⟨x,hxd⟩:∃ x,t.stp s b=x:=⟨_,rfl⟩;rw [hxd] at cr2 hxn;have HXD:=Lib.hid hxd;clear hxd hxs;generalize t.cell b=cx at *;have hbi:(b:Int)<256:=by omega
        generalize htc:t.cells=mx at *;go_upto_region 23 with (fail)
        refine Da (by kernel_rfl) (by kernel_rfl) ?_;iterate 12 (with_reducible refine wpQuiet_step (fun K hK=>?_);go_simp;(refine hK _ ?_;clear hK K))
        refine wpQuiet_nil ?_;rintro _ ⟨e,rfl⟩;clear cb k7 cr1 cr2;have hE:=hE.trans e.ext;have hF:=Ah hF e.ext;have hY:=Ah hY e.ext;have hI:=Ah hI e.ext;have hsz:=Nat.lt_of_lt_of_le hsz e.ext.size;generalize e.W=w5 at *;obtain ⟨fo,hfo⟩:∃ o,F'.getD x none=o:=⟨_,rfl⟩;have co:=Ap none hF HlF.out.symm x (by rw [HlF.out];exact hxn);rw [hfo] at co;cases fo with
        | some p=>
         have HN:=Lib.hid (Ag2 HF'.out HK'.out.1 (by rw [HK'.out.2,HXD.out];exact hxn) (by rw [HK'.out.2,HXD.out,hfo];simp));replace co:w5.cell? ⟨gs,x,none⟩=some (.int .i64 p):=co;have hp0:¬ ((p:Int)<0):=by omega
         clear hfo;go_wp2;go_roundw
         case rel=>exact ⟨b+1,l',Wd',F',Y',g',c',by omega,by go_num,rfl,hE,hsz,hF,hY,hI,HN,HK'⟩
         case measure=>simp [intOf];omega
        | none=>
         have HN:=Lib.hid (Ag5 HV.out HF'.out HK'.out.1 hb2 (by rw [HK'.out.2,HXD.out];exact hfo));rw [HK'.out.2,HXD.out] at HN;replace co:w5.cell? ⟨gs,x,none⟩=some (.int .i64 (-1)):=co;have frF:=hF.frozenAt x;obtain ⟨hF6,hgr6⟩:=A3 hF x (some s);rw [show ov (some s)=.int .i64 (s:Int) from rfl] at hF6 hgr6;have hE6:=hE.grown hgr6 (fun k e=>by cases e;exact hgs1);have hY6:=hY.kept hgr6 (Ai hY hF (by decide));have hI6:=hI.kept hgr6 (Ao hI (by omega));have hsz6:=Nat.lt_of_lt_of_le hsz hgr6.size;have cy6:=Ap 0 hY6 HlY.out.symm x (by rw [HlY.out];exact hxn);have frY:=hY6.frozenAt x;obtain ⟨hY7,hgr7⟩:=A3 hY6 x (UInt8.ofNat b);have hE7:=hE6.grown hgr7 (fun k e=>by cases e;omega);have hF7:=hF6.kept hgr7 (Ai hF6 hY6 (by decide));have hI7:=hI6.kept hgr7 (Ao hI6 (by omega));have hsz7:=Nat.lt_of_lt_of_le hsz6 hgr7.size;have hwb:IntKind.u8.wrap (b:Int)=(b:Int):=IntWalk.u8_in _ ⟨by omega,by omega⟩;have hbb:bv (UInt8.ofNat b)=.int .u8 (b:Int):=by rw [bv,u8n b hb2]
         rw [hbb] at hY7 hgr7 hE7 hF7 hI7 hsz7;clear hfo hgr6 hgr7 hF hY hI hE hsz hE6 hF6 hI6 hsz6;go_upto_region 26 with (fail)
         obtain ⟨w7,hw7⟩:∃ W,(w5.setCell ⟨gs,x,none⟩ (.int .i64 (s:Int))).setCell ⟨g5,x,none⟩ (.int .u8 (b:Int))=W:=⟨_,rfl⟩;simp only [hw7] at *;clear hw7 co frF cy6 frY hY6 hwb hbb;have hgs7:=hE7.size;go_wp2_with (at_builtin;refine wpList_append_lies _ rfl _ _ 68 rfl (g5+1) 3 i0 (.int .i64 0) 1 8 Tryz.underlying68 hi hz0 hz1 hz2 rfl (by decide) _ _ _ rfl (hI7.alloc _) _ 1 1 [iv x] rfl rfl (cell_one_new _ _ _) (by simp [Value.oneCell']) (by decide) (by unfold maxLen;omega) (by omega) (by simp;omega) _ rfl ?_);intro g8 c8 w8 hI8 hgr8 _ _;have hb8:=fun k (hk:(Value.slice (some ⟨g',0,none⟩) l'.length c').ownBlock=some k)=>(hI7.lt k hk).1
         have hF8:=(hF7.alloc (.cells #[iv x] 3)).kept hgr8 (.inr fun e=>by have:=hb8 gs e.symm;omega);have hY8:=(hY7.alloc (.cells #[iv x] 3)).kept hgr8 (.inr fun e=>by have:=hb8 g5 e.symm;omega);have hE8:=(hE7.alloc (.cells #[iv x] 3)).grown hgr8 (fun k e=>by have:=hb8 k e;omega);have hsz8:g5<w8.heap.size:=by have:=hgr8.size;rw [World.size_alloc] at this;omega
         clear hgr8 hI7 hF7 hY7;go_wp2;go_roundw
         case rel=>
          refine ⟨b+1,l'++[x],_,_,_,g8,c8,by omega,by go_num,by rw [List.length_append];rfl,hE8,hsz8,hF8,hY8,?_,HN,Lib.hid ⟨by rw [List.length_append];have:=HK'.out.1;omega,by rw [Bi _ _ _ _ HK'.out.1];exact HK'.out.2⟩⟩;show World.ownsRow _ _ _ _ _ _ _;rw [List.length_append,List.map_append];exact hI8
         case measure=>simp [intOf];omega
       ·obtain rfl:b=256:=by omega
        have e256:((256:Nat):Int)=256:=rfl;simp only [e256];clear e256;have HN:=Lib.hid (Ag4 HF'.out HK'.out.1 (by rw [HK'.out.2];exact HBO.out));go_wp2;go_roundw
        case rel=>exact ⟨i+1,l',Wd',F',Y',g',c',by have:=HK'.out.1;omega,by go_num,rfl,hE,hsz,hF,hY,hI,HN⟩
        case measure=>simp [intOf];omega
     ·go_upto_region 15 with (fail)
      clear cl k8 ka;go_wp2_with (fail);have hE6:=(Ext.refl wr).alloc (.cells #[] 5);have hsn0:Wd s++[]=Wd s:=List.append_nil _;have hsl:=C3 l i 0 hlt;rw [HSD.out] at hsl;have hwl:(Wd s).length≤65536:=by
       have:=Ve HF.out i i (Nat.le_refl _) hlt;rw [HSD.out] at this;omega
      go_loopw [9,10] (fun v9 v10 W=>∃ (x:Nat) (suf:List UInt8) (g' c':Nat),v9=.int .i64 x∧v10=.slice (some ⟨g',0,none⟩) suf.length c'∧(∀ k,k<suf.length→W.cell? ⟨g',k,none⟩=some (bv (suf.getD k 0)))∧g'<W.heap.size∧Ext wr W∧x∈l∧Hid (Wd x++suf=Wd s))
       (fun v9 _ _=>(Wd (intOf v9).toNat).length)
      case atStart=>exact ⟨s,[],wr.heap.size,0,rfl,rfl,fun k hk=>by simp at hk,by rw [World.size_alloc];omega,hE6,hsl,Lib.hid hsn0⟩
      case round=>
       clear hE6 hsn0 hsl;obtain ⟨wl,hwl'⟩:∃ W,W=wr:=⟨_,rfl⟩;subst hwl';obtain ⟨x,suf,g',c',rfl,rfl,hcs,hgs',hEx,hxl,HX⟩:=hrel;have hxn:=HF.out.lt x hxl;by_cases hx0:x=0
       ·subst hx0;have hsu:suf=Wd s:=by have:=HX.out;rw [HF.out.w0] at this;simpa using this
        have hBy:By wl (.slice (some ⟨g',0,none⟩) suf.length c') suf:=by
         refine ⟨by rw [hsu];omega,?_⟩;rcases Nat.eq_zero_or_pos suf.length with h0|h0
         ·exact .inl ⟨h0,_,_,by rw [h0]⟩
         ·exact .inr ⟨h0,g',0,c',rfl,hgs',fun k hk=>by rw [Nat.zero_add];exact hcs k (by omega)⟩
        have HB:=Lib.hid hBy;have hok:=Ag1 HF.out hlt (by rw [HSD.out];exact HBO.out);rw [HSD.out,← hsu] at hok;have HOK:=Lib.hid hok;clear hBy hok hsu hcs;go_wp2;go_ret2;exact ⟨.inl ⟨suf,_,rfl,HB.out,HOK.out.1,HOK.out.2⟩,(hE0.trans hE).trans hEx⟩
       ·have hsx:=(HF.out.seen x hxn).2 hxl;obtain ⟨p,hp⟩:=Option.isSome_iff_exists.1 hsx;obtain ⟨hpl,hw⟩:=HF.out.from_ x p hp hx0;have cY:=Ap 0 (Ah hY hEx) HlY.out.symm x (by rw [HlY.out];exact hxn);have cF:=Ap none (Ah hF hEx) HlF.out.symm x (by rw [HlF.out];exact hxn);rw [hp] at cF;obtain ⟨y,hy⟩:∃ y,Y.getD x 0=y:=⟨_,rfl⟩;rw [hy] at cY hw;have hX':Wd p++(y::suf)=Wd s:=by rw [← HX.out,hw];simp
        have hsl':suf.length+1≤65536:=by
         have:=congrArg List.length hX';simp at this;omega
        have HX':=Lib.hid hX';have hwx:(Wd x).length=(Wd p).length+1:=by rw [hw];simp
        have cF':wl.cell? ⟨gs,x,none⟩=some (.int .i64 p):=cF;have HCF:=Lib.hid (fun (W:World) (hW:Ext wl W)=>hW.cell cF');have hpx:=hpl;clear hy hp hw cF hX' hsx cF';rcases suf with _|⟨z,suf⟩
        ·have hal:=Ab wl (.cells #[bv y] 5);have hca:=(cell_of_row (wl.alloc (.cells #[bv y] 5)) wl.heap.size 0 _ _ _ hal).trans (show (#[bv y]:Array Value)[0]? = some (bv y) from rfl);have hE7:=hEx.alloc (.cells #[bv y] 5);have c4:=HCF.out _ ((Ext.refl wl).alloc (.cells #[bv y] 5));go_wp2_with (at_builtin;refine Xz rfl _ _ 22 rfl 5 j0 Tryz.underlying22 hj _ _ _ (by omega) rfl _ _ rfl ?_);go_roundw
         case rel=>exact ⟨p,[y],wl.heap.size,1,rfl,rfl,fun k hk=>by simp at hk;subst hk;exact hca,by rw [World.size_alloc];omega,hE7,hpx,HX'⟩
         case measure=>simp [intOf];omega
        ·have hszx:=hEx.size;have hlit:=World.ownsRow_lit (base:=wl.heap.size) (e:=5) (size:=1) wl #[bv y] 1 (Nat.le_refl _) (by unfold maxLen;omega) rfl;have hE7:=(Ext.refl wl).alloc (.cells #[bv y] 5);have hnews:=Aii (fun k hk=>hE7.cell (hcs k hk));have HNW:=Lib.hid hnews;have hgz:g'<(wl.alloc (.cells #[bv y] 5)).heap.size:=by rw [World.size_alloc];omega
         clear hnews;go_wp2_with (at_builtin;refine wpList_append_lies _ rfl _ _ 22 rfl wl.heap.size 5 j0 (.int .u8 0) 1 1 Tryz.underlying22 hj hy0 hy1 hy2 rfl (by decide) _ 1 [bv y] rfl hlit ⟨g',0,none⟩ (suf.length+1) _ ((z::suf).map bv) rfl (by simp) HNW.out (by simp [Value.oneCell']) (by omega) (by unfold maxLen;simp at hsl';omega) (by simp at hsl';omega) (by rw [World.size_alloc];omega) _ rfl ?_);intro g7 c7 w7 hI7 hgr7 _ hg7;have hI7':w7.ownsRow wl.heap.size 5 1 (.slice (some ⟨g7,0,none⟩) (1+(suf.length+1)) c7) (1+(suf.length+1)) ((y::z::suf).map bv):=hI7;have hc7:=fun k (hk:k<(y::z::suf).length)=>Ap 0 hI7' (by simp;omega) k hk
         have hE8:Ext wr w7:=(hEx.alloc (.cells #[bv y] 5)).grown hgr7 (fun k e=>by have:wl.heap.size=k:=Option.some.inj e;omega);have c4:=HCF.out w7 (hE7.grown hgr7 (fun k e=>by have:wl.heap.size=k:=Option.some.inj e;omega));clear hI7 hgr7 hlit hI7';go_wp2;go_roundw
         case rel=>exact ⟨p,y::z::suf,g7,c7,rfl,by simp;omega,hc7,hg7,hE8,hpx,HX'⟩
         case measure=>simp [intOf];omega
    ·obtain rfl:i=l.length:=by omega
     have HN:=Lib.hid (Ag3 HF.out (Nat.le_refl _));go_wp2;go_ret2;exact ⟨.inr ⟨rfl,HN.out⟩,hE0.trans hE⟩
def ldA {w:World} {g:Nat} {V:Array Value} (h:w.heap[g]? = some (.cells V 30 (0,0))) (hi:(Tryz.prog.info? 30).map (·.size)=some V.size):Sc Tryz.prog w:=
 .load 30 g V 30 (0,0) _ (fun _ hE=>hE.heap h) Tryz.underlying30 rfl hi
def Eg {P:Program} {w:World} (f:FuncId) (he:Enters P f) (args:List Value) (v:Value) (h:∀ W,Ext w W→Calls P f args.toArray W fun e w'=>e=.returned v∧Ext W w'):Sc P w:=
 .call f he (args.map AV.c) (.c v) (AV.mono_c v) fun W vs hE hh=>by
  rw [D5 hh];exact (h W hE).mono fun e w' ⟨h1,h2⟩=>⟨v,h1,rfl,h2⟩
theorem Ed:Enters Tryz.prog 24:=enters_of Tryz.func24 (by kernel_rfl) rfl
end Go.Proofs.YtaiogolidlamiaaGreatDoor
