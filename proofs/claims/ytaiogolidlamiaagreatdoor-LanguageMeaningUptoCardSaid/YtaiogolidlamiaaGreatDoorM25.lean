import Derived.Test.YtaiogolidlamiaaGreatDoorM24
set_option linter.unusedVariables false
set_option linter.unusedSimpArgs false
namespace Go.Proofs.YtaiogolidlamiaaGreatDoor
set_option maxRecDepth 100000
open Go.RowKit Go.Shelf
theorem Ahy (r:List Nat) (h0:0<r.length) (h1:r.length≤65536) (b o c:Nat) (w:World) (h:∀ s,s<r.length→w.cell? ⟨b,o+s,none⟩=some (iv (r.getD s 0))) :
  Calls Tryz.prog 145 #[.slice (some ⟨b,o,none⟩) r.length c] w fun e w'=>∃ g cg,e=.returned (.slice (some ⟨g,0,none⟩) r.length cg)∧OwnI w' w.heap.size (.slice (some ⟨g,0,none⟩) r.length cg) r∧Ext w w':=by
 obtain ⟨j0,hj,hy0,hy1,hy2⟩:=info_parts Dm;have hown:=World.ownsRow_lit (base:=w.heap.size) (e:=3) (size:=1) w #[] 0 (Nat.le_refl _) (by unfold maxLen;omega) rfl;have hE:=(Ext.refl w).alloc (.cells #[] 3);have hnews:∀ j u,(r.map iv)[j]? = some u→(w.alloc (.cells #[] 3)).cell? ((⟨b,o,none⟩:Addr).add j)=some u:=fun j u hj=>by
  obtain ⟨hj1,hj2⟩:=List.getElem?_eq_some_iff.1 hj;have hjl:j<r.length:=by rwa [List.length_map] at hj1
  have e:(⟨b,o,none⟩:Addr).add j=⟨b,o+j,none⟩:=by
   unfold Addr.add;by_cases h0:j=0
   ·subst h0;rfl
   ·simp [h0]
  rw [e,hE.cell (h j hjl),← hj2,List.getElem_map,List.getD_eq_getElem?_getD,List.getElem?_eq_getElem hjl];rfl
 have HN:=Lib.hid hnews;clear hnews h;have hnil:∀ W,(binOp .eql 68 (.slice (some ⟨b,o,none⟩) r.length c) (.slice none 0 0)).run Tryz.prog W=.ok (.bool false) W:=fun W=>Lib.run_eql_slice_nil W 68 3 _ _ _ _ _ Tryz.underlying68
 go_enter Tryz.func145,Tryz.ntmps145;go_wp2_with (at_builtin;refine wpList_append_lies _ rfl _ _ 68 rfl w.heap.size 3 j0 (.int .i64 0) 1 8 Tryz.underlying68 hj hy0 hy1 hy2 rfl (by decide) _ 0 [] rfl hown ⟨b,o,none⟩ r.length _ (r.map iv) rfl (by simp) HN.out (fun u hu=>by obtain ⟨b',_,rfl⟩:=List.mem_map.1 hu;rfl) h0 (by unfold maxLen;omega) (by omega) (by rw [World.size_alloc];omega) _ rfl ?_);intro g7 c7 w7 hI7 hgr7 _ hg7;have hE7:Ext w w7:=hE.grown hgr7 (fun k e=>by have:w.heap.size=k:=Option.some.inj e;omega);clear hown hgr7;go_wp2;go_ret;exact ⟨g7,c7,rfl,hI7,hE7⟩
theorem Ahj (w:World) (c:Cls):Cs (w.alloc (.cells (Aa c) 62)) (.slice (some ⟨w.heap.size,0,none⟩) 1 1) [c]:=by
 refine ⟨by show (1:Nat)≤_;omega,.inr ⟨by show 0<1;omega,_,0,1,rfl,by rw [World.size_alloc];omega,fun i hi=>?_⟩⟩;have hi:i<4:=by have:i<1*4:=hi;omega
 rw [cell_of_row _ w.heap.size (0+i) _ _ _ (Ab w (.cells (Aa c) 62)),Nat.zero_add,E1 c i hi];have e1:i / 4=0:=by omega
 have e2:i % 4=i:=by omega
 show _=some (Value.int .u64 (wd ([c].getD (i / 4) 0#256) (i % 4)));rw [e1,e2];rfl
theorem Tx {α:Type} (L:List Cls) (F:Cls→α):(List.range L.length).map (fun q=>F (L.getD q 0#256))=L.map F:=by
 apply List.ext_getElem?;intro i;simp only [List.getElem?_map];by_cases h:i<L.length
 ·simp [List.getElem?_range h,List.getD_eq_getElem?_getD,List.getElem?_eq_getElem h]
 ·rw [List.getElem?_eq_none (by simp;omega),List.getElem?_eq_none (by omega)];rfl
def Cp (c k:Cls):Bool:=Bb c (Bh (Al k 256))
theorem Af8 {c:Cls} {L:List Cls} (h:IsCells [c] L) (b:Nat) (hb:b<256):Cp c (L.getD (Aj L b) 0#256)=true↔c.getLsbD b=true:=by
 have hp:=S2 h;have hk:=cell_lt hp hb;have hkb:=Fk hp hb;have hm:L.getD (Aj L b) 0#256∈L:=by rw [List.getD_eq_getElem?_getD,List.getElem?_eq_getElem hk];exact List.getElem_mem hk
 generalize L.getD (Aj L b) 0#256=k at *;obtain ⟨h1,h2,h3⟩:=Ho k (h.nz k hm);obtain ⟨z,hz⟩:∃ z:Nat,Bh (Al k 256)=z:=⟨(Bh (Al k 256)).toNat,by omega⟩;rw [hz,Int.toNat_natCast] at h3;have hz2:z<256:=by omega
 have:=(h.cls k hm b hb hkb z hz2).1 h3;have hcc:=this c (by simp);unfold Cp Bb;rw [hz,Int.toNat_natCast,← hcc]
def Ow (n0 m:Nat) (vc:Value):Nat→Value→World→Prop
 | 0,v,_=>v=vc
 | 1,v,_=>v=iv m
 | 2,v,W=>∃ g,v=.slice (some ⟨g,0,none⟩) m m∧W.ownsRow n0 3 1 v m ((List.replicate m 0).map iv)
 | 3,v,_=>v=vc
 | 4,v,_=>v=iv m
 | 5,v,W=>∃ g,v=.slice (some ⟨g,0,none⟩) m m∧W.ownsRow n0 3 1 v m ((List.replicate m 0).map iv)
 | 6,v,W=>∃ g,v=.slice (some ⟨g,0,none⟩) m m∧W.ownsRow n0 3 1 v m ((List.replicate m 0).map iv)
 | _,v,W=>∃ g,v=.slice (some ⟨g,0,none⟩) m m∧W.ownsRow n0 3 1 v m ((List.replicate m 0).map iv)
def Ov (i j:Nat) (v u:Value):Prop:=((i=2∨i=6)∧(j=5∨j=7)∨(j=2∨j=6)∧(i=5∨i=7))→v≠u
theorem Ae1 (i j:Nat) (v u:Value) (h:Ov i j v u):Ov j i u v:=fun hij=>(h (by omega)).symm
theorem Ae2 (n0 m:Nat) (vc:Value):∀ (i:Nat) (v:Value) (w w':World),Ow n0 m vc i v w→Ext w w'→Ow n0 m vc i v w'
 | 0,_,_,_,h,_=>h
 | 1,_,_,_,h,_=>h
 | 2,_,_,_,⟨g,h1,h2⟩,hE=>⟨g,h1,Ah h2 hE⟩
 | 3,_,_,_,h,_=>h
 | 4,_,_,_,h,_=>h
 | 5,_,_,_,⟨g,h1,h2⟩,hE=>⟨g,h1,Ah h2 hE⟩
 | 6,_,_,_,⟨g,h1,h2⟩,hE=>⟨g,h1,Ah h2 hE⟩
 | _+7,_,_,_,⟨g,h1,h2⟩,hE=>⟨g,h1,Ah h2 hE⟩
theorem lt8 (i:Nat) (h:i<8):i=0∨i=1∨i=2∨i=3∨i=4∨i=5∨i=6∨i=7:=by omega
theorem K1 {W:World} {base m g:Nat} {u:Value} {xs:List Value} (hu:u=.slice (some ⟨g,0,none⟩) m m) (ho:W.ownsRow base 3 1 u m xs) (n c:Nat):Value.slice (some ⟨W.heap.size,0,none⟩) n c≠u:=by
 intro e;rw [hu] at e ho;injection e with e1 _ _
 injection e1 with e1
 injection e1 with e1 _ _
 have:=(ho.lt g rfl).2;omega
set_option maxHeartbeats 2000000 in
theorem Aey (c:Cls) (w:World) (hT:Tab w) (hsz:0<w.heap.size) :
  Calls Tryz.prog 118 #[.agg (Aa c)] w fun e w'=>∃ r,ResOf w' e (some r)∧Cano r∧(∀ u,r.has u=true↔∃ x:UInt8,u=[x]∧c.getLsbD x.toNat=true)∧Ext w w':=by
 have HTa:=Lib.hid (fun W (hW:Ext w W)=>hT.below hW.below hsz);have hE0:=((Ext.refl w).alloc (.cells (Aa c) 62)).alloc (.cells #[.slice none 0 0,.slice none 0 0,.slice none 0 0] 30);have H1:=Af (Ab w (.cells (Aa c) 62)) (.cells #[.slice none 0 0,.slice none 0 0,.slice none 0 0] 30);have H2:=heap_alloc2_new w (.cells (Aa c) 62) (.cells #[.slice none 0 0,.slice none 0 0,.slice none 0 0] 30);have f105:=fun W=>Lib.hid (Rz c W)
 have hzc:=M5 c;clear hT;go_enter Tryz.func118,Tryz.ntmps118;go_upto_region 1 with (fail)
 obtain ⟨w1,hw1⟩:∃ W,(w.alloc (.cells (Aa c) 62)).alloc (.cells #[.slice none 0 0,.slice none 0 0,.slice none 0 0] 30)=W:=⟨_,rfl⟩;rw [hw1] at hE0 H1 H2;simp only [hw1];clear hw1;have HB1:=Lib.hid H1;have HB2:=Lib.hid H2;have HE0:=Lib.hid hE0;clear H1 H2 hE0;obtain ⟨bz,hbz⟩:∃ b,((sz c:Int)==0)=b:=⟨_,rfl⟩;have hbz':bz=true↔c=0#256:=by rw [← hbz,← hzc];simp
 have HBZ:=Lib.hid hbz';clear hbz' hzc;cases bz
 ·go_upto_region 4 with (first
   | (refine wpList_load_row rfl 62 (.tmp 1) rfl _ rfl _ _ _ _ HB1.out Tryz.underlying62 rfl Au ?_)
   | (go_at_call 105;(with_reducible refine (f105 _).out.mono ?_);rintro e w2 ⟨rfl,hE2⟩;have HE2:=Lib.hid (HE0.out.trans hE2);have HB1:=Lib.hid (hE2.heap HB1.out);have HB2:=Lib.hid (hE2.heap HB2.out);clear hE2)
   | (go_at_call 143;(with_reducible refine (Wb [c] _ _ (HTa.out _ (HE2.out.alloc (.cells (Aa c) 62))) (Nat.lt_of_lt_of_le hsz (HE2.out.alloc (.cells (Aa c) 62)).size) (Ahj w2 c)).mono ?_);rintro e w3 ⟨vc,L,rfl,hCs,hP,-,hE3⟩;have HIC:=Lib.hid ((O6 [c]).perm hP);have HCs:=Lib.hid hCs;have hE4:=((Ext.refl w2).alloc (.cells (Aa c) 62)).trans hE3;have HE3:=Lib.hid (HE2.out.trans hE4);have HB1:=Lib.hid (hE4.heap HB1.out);have HB2:=Lib.hid (hE4.heap HB2.out);clear hE3 hE4 hCs hP))
  have hpar:=S2 HIC.out;have hm0:=hpar.pos;have hm1:=hpar.le;obtain ⟨bc,oc,cc,rfl,hcl⟩:=Sl.form HCs.out hm0;have HCL:=Lib.hid hcl;have HPar:=Lib.hid hpar;have hal:=Ab (w3.alloc (.cells #[.bool false,.bool true,.bool false] 4)) (.cells #[.slice none 0 0,.slice none 0 0,.slice none 0 0] 30);clear hcl hpar;generalize hm:L.length=m at *;have HM:=Lib.hid hm;clear hm;go_upto_region 5 with (first
   | (refine wpList_store_row rfl 30 (.tmp 5) (.tmp 21) rfl _ _ rfl rfl _ _ hal Ad rfl (An _ _ _ rfl rfl rfl) ?_))
  clear hal;have hE4:=((Ext.refl w3).alloc (.cells #[.bool false,.bool true,.bool false] 4)).alloc (.cells #[.slice (some ⟨bc,oc,none⟩) m cc,.slice none 0 0,.slice (some ⟨w3.heap.size,0,none⟩) 3 3] 30);have HA:=Af (Ab w3 (.cells #[.bool false,.bool true,.bool false] 4)) (.cells #[.slice (some ⟨bc,oc,none⟩) m cc,.slice none 0 0,.slice (some ⟨w3.heap.size,0,none⟩) 3 3] 30);have H5:=heap_alloc2_new w3 (.cells #[.bool false,.bool true,.bool false] 4) (.cells #[.slice (some ⟨bc,oc,none⟩) m cc,.slice none 0 0,.slice (some ⟨w3.heap.size,0,none⟩) 3 3] 30);obtain ⟨w4,hw4⟩:∃ W,(w3.alloc (.cells #[.bool false,.bool true,.bool false] 4)).alloc (.cells #[.slice (some ⟨bc,oc,none⟩) m cc,.slice none 0 0,.slice (some ⟨w3.heap.size,0,none⟩) 3 3] 30)=W:=⟨_,rfl⟩;have hs4:w4.heap.size=w3.heap.size+1+1:=by rw [← hw4,World.size_alloc,World.size_alloc]
  rw [hw4] at hE4 HA H5;simp only [hw4];clear hw4;have HA:=Lib.hid HA;have H5:=Lib.hid H5;have HE4:=Lib.hid (HE3.out.trans hE4);have HC3:=HCs;have HB23:=HB2;have HE34:=Lib.hid hE4;have HCL:=Lib.hid (fun i hi=>hE4.cell (HCL.out i hi));have HCs:=Lib.hid (HCs.out.ext hE4);have HB1:=Lib.hid (hE4.heap HB1.out);have HB2:=Lib.hid (hE4.heap HB2.out);clear hE4 f105 HE2 HE0;obtain ⟨i0,hi,hz0,hz1,hz2⟩:=info_parts Dm;refine Mt 8 60 rfl (by kernel_rfl) (by kernel_rfl) rfl Ext Ext.refl (fun _ _ _ h k=>h.trans k) (Ow w4.heap.size m (.slice (some ⟨bc,oc,none⟩) m cc)) Ov Ae1 (Ae2 _ _ _) (fun i hi'=>?_) (fun vs w5 hR5 hF hN=>?_)
  ·have hd1:=(Ext.refl w4).drew;rcases lt8 i hi' with rfl|rfl|rfl|rfl|rfl|rfl|rfl|rfl
   ·refine Ay _ _ rfl rfl rfl fun c W hW hdep hdw hkeep=>?_
    have h3:c.tmps.getD 4 undef=.slice (some ⟨bc,oc,none⟩) m cc:=hkeep 4 (by kernel_rfl);go_simp;exact ⟨_,rfl,Ext.refl W,rfl,fun j u _ _ h=>by omega⟩
   ·refine Ay _ _ rfl rfl rfl fun c W hW hdep hdw hkeep=>?_
    have h3:c.tmps.getD 22 undef=.slice (some ⟨bc,oc,none⟩) m cc:=hdep 0 22 (by kernel_rfl);go_simp;exact ⟨_,rfl,Ext.refl W,rfl,fun j u _ _ h=>by omega⟩
   ·refine Ay _ _ rfl rfl rfl fun c W hW hdep hdw hkeep=>?_
    have h3:c.tmps.getD 23 undef=iv m:=hdep 1 23 (by kernel_rfl);refine G0 W _ _ 68 rfl w4.heap.size 3 i0 (.int .i64 0) 1 Tryz.underlying68 hi hz0 hz1 .i64 .i64 _ _ m h3 h3 rfl rfl (by rw [hz2];omega) (by unfold maxLen;omega) (hd1.trans hW).size ?_;intro W' hown hgr;refine ⟨_,rfl,(Ext.refl W).grown hgr (fun k e=>by cases e),⟨_,rfl,by rw [← Ca];exact hown⟩,fun j u _ hu hj=>?_⟩;have hj':j=5∨j=7:=by omega
    rcases hj' with rfl|rfl
    ·obtain ⟨g',hg1,hg2⟩:=hu;exact K1 hg1 hg2 _ _
    ·obtain ⟨g',hg1,hg2⟩:=hu;exact K1 hg1 hg2 _ _
   ·refine Ay _ _ rfl rfl rfl fun c W hW hdep hdw hkeep=>?_
    have h3:c.tmps.getD 4 undef=.slice (some ⟨bc,oc,none⟩) m cc:=hkeep 4 (by kernel_rfl);go_simp;exact ⟨_,rfl,Ext.refl W,rfl,fun j u _ _ h=>by omega⟩
   ·refine Ay _ _ rfl rfl rfl fun c W hW hdep hdw hkeep=>?_
    have h3:c.tmps.getD 25 undef=.slice (some ⟨bc,oc,none⟩) m cc:=hdep 3 25 (by kernel_rfl);go_simp;exact ⟨_,rfl,Ext.refl W,rfl,fun j u _ _ h=>by omega⟩
   ·refine Ay _ _ rfl rfl rfl fun c W hW hdep hdw hkeep=>?_
    have h3:c.tmps.getD 26 undef=iv m:=hdep 4 26 (by kernel_rfl);refine G0 W _ _ 68 rfl w4.heap.size 3 i0 (.int .i64 0) 1 Tryz.underlying68 hi hz0 hz1 .i64 .i64 _ _ m h3 h3 rfl rfl (by rw [hz2];omega) (by unfold maxLen;omega) (hd1.trans hW).size ?_;intro W' hown hgr;refine ⟨_,rfl,(Ext.refl W).grown hgr (fun k e=>by cases e),⟨_,rfl,by rw [← Ca];exact hown⟩,fun j u _ hu hj=>?_⟩;have hj':j=2∨j=6:=by omega
    rcases hj' with rfl|rfl
    ·obtain ⟨g',hg1,hg2⟩:=hu;exact K1 hg1 hg2 _ _
    ·obtain ⟨g',hg1,hg2⟩:=hu;exact K1 hg1 hg2 _ _
   ·refine S0 _ _ rfl rfl rfl fun c W hW hdep hdw hkeep=>?_
    obtain ⟨g,h3,h4⟩:∃ g,c.tmps.getD 24 undef=.slice (some ⟨g,0,none⟩) m m∧W.ownsRow w4.heap.size 3 1 (c.tmps.getD 24 undef) m ((List.replicate m 0).map iv):=hdep 2 24 (by kernel_rfl);rw [h3] at h4;refine Cy (v:=.slice (some ⟨g,0,none⟩) m m) (w':=W) ?_ ?_
    ·simp only [execOp,Act.eval,h3];rfl
    exact ⟨_,rfl,Ext.refl W,⟨g,rfl,h4⟩,fun j u hj6 _ hd hj=>by
     have:=hd 2 24 (by kernel_rfl) (by omega) (by omega);rw [h3] at this;exact this⟩
   ·refine S0 _ _ rfl rfl rfl fun c W hW hdep hdw hkeep=>?_
    obtain ⟨g,h3,h4⟩:∃ g,c.tmps.getD 27 undef=.slice (some ⟨g,0,none⟩) m m∧W.ownsRow w4.heap.size 3 1 (c.tmps.getD 27 undef) m ((List.replicate m 0).map iv):=hdep 5 27 (by kernel_rfl);rw [h3] at h4;refine Cy (v:=.slice (some ⟨g,0,none⟩) m m) (w':=W) ?_ ?_
    ·simp only [execOp,Act.eval,h3];rfl
    exact ⟨_,rfl,Ext.refl W,⟨g,rfl,h4⟩,fun j u hj6 _ hd hj=>by
     have:=hd 5 27 (by kernel_rfl) (by omega) (by omega);rw [h3] at this;exact this⟩
  ·have v0:vs 0=.slice (some ⟨bc,oc,none⟩) m cc:=hF 0 (by omega);have v1:vs 1=iv m:=hF 1 (by omega);obtain ⟨g2,v2,-⟩:∃ g,vs 2=.slice (some ⟨g,0,none⟩) m m∧_:=hF 2 (by omega);have v3:vs 3=.slice (some ⟨bc,oc,none⟩) m cc:=hF 3 (by omega);have v4:vs 4=iv m:=hF 4 (by omega);obtain ⟨g5,v5,-⟩:∃ g,vs 5=.slice (some ⟨g,0,none⟩) m m∧_:=hF 5 (by omega);obtain ⟨g6,v6,hO6⟩:∃ g,vs 6=.slice (some ⟨g,0,none⟩) m m∧_:=hF 6 (by omega);obtain ⟨g7,v7,hO7⟩:∃ g,vs 7=.slice (some ⟨g,0,none⟩) m m∧_:=hF 7 (by omega);have h67:g6≠g7:=fun e=>hN 6 7 (by omega) (by omega) (by omega) (by omega) (by rw [v6,v7,e])
   rw [v6] at hO6;rw [v7] at hO7;have hE5:=(Ext.refl w4).drew.trans hR5;simp only [Ba,v0,v1,v2,v3,v4,v5,v6,v7,List.getElem?_toArray,List.getElem?_cons_zero,List.getElem?_cons_succ,Option.bind_some,Act.put,List.setIfInBounds_toArray,List.set_cons_zero,List.set_cons_succ];clear hF hN v0 v1 v2 v3 v4 v5 v6 v7 hR5;have hgs5:=hE5.size;have hA:Bo (fun q=>if Cp c (L.getD q 0#256) then 1 else 2) m 0=List.replicate m 0:=Jf _ _;have hB:Bo (fun _=>2) m 0=List.replicate m 0:=Jf _ _;rw [← hA] at hO6;rw [← hB] at hO7;clear hA hB;go_wp2_with (fail);go_loopw [30] (fun vk W=>∃ k:Nat,k≤m∧vk=.int .i64 k∧Ext w4 W∧w4.heap.size≤W.heap.size∧W.ownsRow w4.heap.size 3 1 (.slice (some ⟨g6,0,none⟩) m m) m ((Bo (fun q=>if Cp c (L.getD q 0#256) then 1 else 2) m k).map iv)∧
     W.ownsRow w4.heap.size 3 1 (.slice (some ⟨g7,0,none⟩) m m) m ((Bo (fun _=>2) m k).map iv))
    (fun vk _=>m-(intOf vk).toNat)
   case atStart=>exact ⟨0,by omega,rfl,hE5,hgs5,hO6,hO7⟩
   case round=>
    clear hE5 hgs5 hO6 hO7;obtain ⟨k,hk,rfl,hE,hgs,hO6,hO7⟩:=hrel;by_cases hlt:k<m
    ·obtain ⟨a0,a1,a2,a3⟩:=Ic (W:=wr) (fun i hi=>hE.cell (HCL.out i (by rw [← HM.out];exact hi))) k (by rw [HM.out];exact hlt);obtain ⟨K,hK⟩:∃ K,L.getD k 0#256=K:=⟨_,rfl⟩;rw [hK] at a0 a1 a2 a3;have hKn:K≠0#256:=by
      rw [← hK];exact HPar.out.nz _ (by rw [List.getD_eq_getElem?_getD,List.getElem?_eq_getElem (by rw [HM.out];exact hlt)];exact List.getElem_mem _)
     obtain ⟨hz1',hz2',-⟩:=Ho K hKn;obtain ⟨z,hz⟩:∃ z:Nat,Bh (Al K 256)=z:=⟨(Bh (Al K 256)).toNat,by omega⟩;have HKd:=Lib.hid hK;clear hK hKn;go_upto_region 9 with (fail)
     obtain ⟨wz,hwz⟩:∃ W,wr.alloc (.cells (Aa K) 62)=W:=⟨_,rfl⟩;have hEz:Ext wr wz:=hwz▸(Ext.refl wr).alloc _;have H9:=show wz.heap[wr.heap.size]? = some (.cells (Aa K) 62 (0,0)) from hwz▸Ab wr _;simp only [hwz];clear hwz a0 a1 a2 a3;have hg9:w4.heap.size≤wr.heap.size:=hgs;generalize wr.heap.size=g9 at *;have hO6:=Ah hO6 hEz;have hO7:=Ah hO7 hEz;have hE:=hE.trans hEz;have c6:=Ap 0 hO6 (C4 _ _ _).symm k (by rw [C4];exact hlt);have r6:=hO6.frozenAt k;obtain ⟨hP6,hgr6⟩:=A3 hO6 k 2;rw [show iv 2=Value.int .i64 2 from rfl] at hP6 hgr6;have hP7:=hO7.kept hgr6 (.inr fun e=>h67 (Option.some.inj e).symm);have c7:=Ap 0 hP7 (C4 _ _ _).symm k (by rw [C4];exact hlt);have r7:=hP7.frozenAt k;obtain ⟨hQ7,hgr7⟩:=A3 hP7 k 2;rw [show iv 2=Value.int .i64 2 from rfl] at hQ7 hgr7;rw [Gr (fun _=>2) _ _ hlt] at hQ7;have hQ6:=hP6.kept hgr7 (.inr fun e=>h67 (Option.some.inj e));have hl6:w4.heap.size≤g6:=(hO6.lt g6 rfl).1;have hl7:w4.heap.size≤g7:=(hO7.lt g7 rfl).1;have h96:g9≠g6:=fun e=>by
      obtain ⟨C,hC,-⟩:=Fv hO6;rw [← e,H9] at hC;injection hC with h1
      injection h1 with _ h2 _
      exact absurd h2 (by decide)
     have h97:g9≠g7:=fun e=>by
      obtain ⟨C,hC,-⟩:=Fv hO7;rw [← e,H9] at hC;injection hC with h1
      injection h1 with _ h2 _
      exact absurd h2 (by decide)
     have H9:=(hgr6.block g9 (Ak H9) (by simp [h96])).trans H9;have H9:=(hgr7.block g9 (Ak H9) (by simp [h97])).trans H9;have hE:=(hE.grown hgr6 (fun k e=>by cases e;exact hl6)).grown hgr7 (fun k e=>by cases e;exact hl7);clear hgr6 hgr7 hO6 hO7 hP6 hP7 hEz;go_upto_region 10 with (fail)
     clear c6 r6 c7 r7;obtain ⟨wy,hwy⟩:∃ W,(wz.setCell ⟨g6,k,none⟩ (.int .i64 2)).setCell ⟨g7,k,none⟩ (.int .i64 2)=W:=⟨_,rfl⟩;rw [hwy] at hQ6 hQ7 H9 hE;rw [hwy];clear hwy;have H9:=Lib.hid H9;have hEw:=HE4.out.trans hE;have f144:=fun W (hW:Ext wy W)=>Lib.hid ((Oy K W (HTa.out W (hEw.trans hW)) (Nat.lt_of_lt_of_le hsz (hEw.trans hW).size)).mono (R':=fun e w'=>e=.returned (.int .i64 (z:Int))∧Ext W w') fun e w' ⟨h1,h2,_⟩=>⟨by rw [h1,hz],h2⟩)
     have f131:=fun W=>Lib.hid (Uo c (z:Int) (by omega) (by omega) W)
     have hfk:(if Cp c (L.getD k 0#256) then 1 else 2:Nat)=if Bb c (z:Int) then 1 else 2:=by rw [HKd.out];unfold Cp;rw [hz]
     have HFK:=Lib.hid hfk;have hwzz:IntKind.u8.wrap (z:Int)=(z:Int):=IntWalk.u8_in _ ⟨by omega,by omega⟩;obtain ⟨bx,hbx⟩:∃ b,Bb c (z:Int)=b:=⟨_,rfl⟩;rw [hbx] at f131;have HBX:=Lib.hid hbx;have HB1y:=Lib.hid (hE.heap HB1.out);clear hfk hbx hz hEw;refine Dh 4 [(0,true),(1,true),(2,false),(3,true),(4,false)] (by kernel_rfl) (by kernel_rfl) (fun _ _ _ _ h=>h) (fun V=>Ext wy V) (Ext.refl wy).drew ?_;have hE1:=(Ext.refl wy).drew;obtain ⟨wx,hwx⟩:∃ V,wy.drew=V:=⟨_,rfl⟩;rw [hwx] at hE1;rw [hwx];clear hwx;refine Ax (v:=.agg (Aa c)) rfl rfl (fun V hV=>?_) ?_
     ·exact Ec 62 (.tmp 1) rfl w.heap.size rfl _ _ _ _ (hV.heap HB1y.out) Tryz.underlying62 rfl Au
     simp only [Act.put,List.setIfInBounds_toArray,List.set_cons_zero,List.set_cons_succ];refine Ax (v:=.agg (Aa K)) rfl rfl (fun V hV=>?_) ?_
     ·exact Ec 62 (.tmp 9) rfl g9 rfl _ _ _ _ (hV.heap H9.out) Tryz.underlying62 rfl Au
     simp only [Act.put,List.setIfInBounds_toArray,List.set_cons_zero,List.set_cons_succ];refine B2 rfl (fun Kk hK=>?_);go_simp
     (with_reducible refine (f144 wx hE1).out.mono ?_)
     rintro e w7 ⟨rfl,hE3⟩;refine hK _ _ (fun _=>hE1.trans hE3) ?_;clear hK Kk;refine Ax (v:=.int .u8 (z:Int)) rfl rfl (fun V _=>?_) ?_
     ·go_simp
     simp only [Act.put,List.setIfInBounds_toArray,List.set_cons_zero,List.set_cons_succ];refine B2 rfl (fun Kk hK=>?_);go_simp
     (with_reducible refine (f131 w7).out.mono ?_)
     rintro e w8 ⟨rfl,hE8⟩;refine hK _ _ (fun h=>absurd h (by omega)) ?_;clear hK Kk;refine Di ?_;have hEy:=(hE1.trans hE3).trans hE8;have hR6:=Ah hQ6 hEy;have hR7:=Ah hQ7 hEy;have hEf:=hE.trans hEy;have hgsf:=hEf.size;clear hQ6 hQ7 hE hE1 hE3 hE8 hEy f131 f144 hwzz;cases bx
     ·have e2:(Bo (fun q=>if Cp c (L.getD q 0#256) then 1 else 2) m k).set k 2=Bo (fun q=>if Cp c (L.getD q 0#256) then 1 else 2) m (k+1):=by
       rw [← Gr _ _ _ hlt]
       congr 1
       show 2=if Cp c (L.getD k 0#256) then 1 else 2
       rw [HFK.out,HBX.out];rfl
      rw [e2] at hR6;clear e2;go_wp2;go_roundw
      case rel=>exact ⟨k+1,by omega,by go_num,hEf,hgsf,hR6,hR7⟩
      case measure=>simp [intOf];omega
     ·have c6:=Ap 0 hR6 (by rw [List.length_set,C4]) k (by rw [List.length_set,C4];exact hlt);have r6:=hR6.frozenAt k;obtain ⟨hS6,hgr6⟩:=A3 hR6 k 1;have e2:((Bo (fun q=>if Cp c (L.getD q 0#256) then 1 else 2) m k).set k 2).set k 1=Bo (fun q=>if Cp c (L.getD q 0#256) then 1 else 2) m (k+1):=by
       rw [List.set_set,← Gr _ _ _ hlt]
       congr 1
       show 1=if Cp c (L.getD k 0#256) then 1 else 2
       rw [HFK.out,HBX.out];rfl
      rw [e2] at hS6;rw [show iv 1=Value.int .i64 1 from rfl] at hS6 hgr6;have hS7:=hR7.kept hgr6 (.inr fun e=>h67 (Option.some.inj e).symm);have hEg:=hEf.grown hgr6 (fun k e=>by cases e;exact hl6);have hgsg:=hEg.size;clear e2 hgr6 hR6 hR7 hEf hgsf;go_wp2;go_roundw
      case rel=>exact ⟨k+1,by omega,by go_num,hEg,hgsg,hS6,hS7⟩
      case measure=>simp [intOf];omega
    ·obtain rfl:m=k:=by omega
     rw [Lo] at hO6 hO7;have hr7:((List.range m).map fun _=>2).length=m:=by simp
     have f145:=Ahy ((List.range m).map fun _=>2) (by rw [hr7];exact hm0) (by rw [hr7];omega) g7 0 m wr (fun s hs=>by rw [Nat.zero_add];exact Ap 0 hO7 hr7.symm s hs);rw [hr7] at f145;have f145:=Lib.hid f145;clear hr7;go_upto_region 14 with (go_at_call 145;(with_reducible refine f145.out.mono ?_);rintro e w9 ⟨gc,cgc,rfl,hOc,hE9⟩;have hO6:=Ah hO6 hE9;have hO7:=Ah hO7 hE9;have hE:=hE.trans hE9;have hX5:=hE.heap H5.out;have cF:=(cell_of_row (w9.alloc (.cells #[.slice (some ⟨g6,0,none⟩) m m,.slice (some ⟨g7,0,none⟩) m m,.slice (some ⟨gc,0,none⟩) m cgc] 68)) _ 1 _ _ _ (Af hX5 (.cells #[.slice (some ⟨g6,0,none⟩) m m,.slice (some ⟨g7,0,none⟩) m m,.slice (some ⟨gc,0,none⟩) m cgc] 68))).trans (show (#[.slice (some ⟨bc,oc,none⟩) m cc,.slice none 0 0,.slice (some ⟨w3.heap.size,0,none⟩) 3 3]:Array Value)[1]? = some (.slice none 0 0) from rfl);have fF:=frozen_of_row (w9.alloc (.cells #[.slice (some ⟨g6,0,none⟩) m m,.slice (some ⟨g7,0,none⟩) m m,.slice (some ⟨gc,0,none⟩) m cgc] 68)) _ 1 _ _ (Af hX5 (.cells #[.slice (some ⟨g6,0,none⟩) m m,.slice (some ⟨g7,0,none⟩) m m,.slice (some ⟨gc,0,none⟩) m cgc] 68)))
     have hsc:=setCell_eq_setRow (w9.alloc (.cells #[.slice (some ⟨g6,0,none⟩) m m,.slice (some ⟨g7,0,none⟩) m m,.slice (some ⟨gc,0,none⟩) m cgc] 68)) (w3.heap.size+1) 1 _ 30 (0,0) (.slice (some ⟨w9.heap.size,0,none⟩) 3 3) (Af hX5 (.cells #[.slice (some ⟨g6,0,none⟩) m m,.slice (some ⟨g7,0,none⟩) m m,.slice (some ⟨gc,0,none⟩) m cgc] 68));have hsc2:(#[.slice (some ⟨bc,oc,none⟩) m cc,.slice none 0 0,.slice (some ⟨w3.heap.size,0,none⟩) 3 3]:Array Value).setIfInBounds 1 (.slice (some ⟨w9.heap.size,0,none⟩) 3 3)=dA (.slice (some ⟨bc,oc,none⟩) m cc) (.slice (some ⟨w9.heap.size,0,none⟩) 3 3) (.slice (some ⟨w3.heap.size,0,none⟩) 3 3):=rfl;rw [hsc2] at hsc;rw [hsc];clear cF fF hsc hsc2;have hX10:=Af hX5 (.cells #[.slice (some ⟨g6,0,none⟩) m m,.slice (some ⟨g7,0,none⟩) m m,.slice (some ⟨gc,0,none⟩) m cgc] 68);have h68:=Ab w9 (.cells #[.slice (some ⟨g6,0,none⟩) m m,.slice (some ⟨g7,0,none⟩) m m,.slice (some ⟨gc,0,none⟩) m cgc] 68);have hE10:=(HE34.out.trans hE).alloc (.cells #[.slice (some ⟨g6,0,none⟩) m m,.slice (some ⟨g7,0,none⟩) m m,.slice (some ⟨gc,0,none⟩) m cgc] 68);have hA10:=Af (hE.heap HA.out) (.cells #[.slice (some ⟨g6,0,none⟩) m m,.slice (some ⟨g7,0,none⟩) m m,.slice (some ⟨gc,0,none⟩) m cgc] 68);have hO6:=hO6.alloc (.cells #[.slice (some ⟨g6,0,none⟩) m m,.slice (some ⟨g7,0,none⟩) m m,.slice (some ⟨gc,0,none⟩) m cgc] 68);have hO7:=hO7.alloc (.cells #[.slice (some ⟨g6,0,none⟩) m m,.slice (some ⟨g7,0,none⟩) m m,.slice (some ⟨gc,0,none⟩) m cgc] 68);have hOc:w9.ownsRow wr.heap.size 3 1 (.slice (some ⟨gc,0,none⟩) m cgc) m (((List.range m).map fun _=>2).map iv):=by
      have:=hOc;unfold OwnI at this;rw [show ((List.range m).map fun _=>2).length=m by simp] at this;exact this
     have hOc:=hOc.alloc (.cells #[.slice (some ⟨g6,0,none⟩) m m,.slice (some ⟨g7,0,none⟩) m m,.slice (some ⟨gc,0,none⟩) m cgc] 68);obtain ⟨w10,hw10⟩:∃ W,w9.alloc (.cells #[.slice (some ⟨g6,0,none⟩) m m,.slice (some ⟨g7,0,none⟩) m m,.slice (some ⟨gc,0,none⟩) m cgc] 68)=W:=⟨_,rfl⟩;rw [hw10] at hX10 h68 hE10 hA10 hO6 hO7 hOc;simp only [hw10];clear hw10 hX5;have hgr:=B3 w10 (w3.heap.size+1) (dA (.slice (some ⟨bc,oc,none⟩) m cc) (.slice (some ⟨w9.heap.size,0,none⟩) 3 3) (.slice (some ⟨w3.heap.size,0,none⟩) 3 3));have hO6:=hO6.kept hgr (Ev hO6 hX10 (by decide));have hO7:=hO7.kept hgr (Ev hO7 hX10 (by decide));have hOc:=hOc.kept hgr (Ev hOc hX10 (by decide));have h689:w9.heap.size≠w3.heap.size+1:=fun e=>by
      rw [e,hX10] at h68;injection h68 with h1
      injection h1 with _ h2 _
      exact absurd h2 (by decide)
     have h68:=Bg h68 h689 (dA (.slice (some ⟨bc,oc,none⟩) m cc) (.slice (some ⟨w9.heap.size,0,none⟩) 3 3) (.slice (some ⟨w3.heap.size,0,none⟩) 3 3));have hA11:=Bg hA10 (show w3.heap.size≠w3.heap.size+1 by omega) (dA (.slice (some ⟨bc,oc,none⟩) m cc) (.slice (some ⟨w9.heap.size,0,none⟩) 3 3) (.slice (some ⟨w3.heap.size,0,none⟩) 3 3));have hX11:=setRow_heap w10 _ _ (dA (.slice (some ⟨bc,oc,none⟩) m cc) (.slice (some ⟨w9.heap.size,0,none⟩) 3 3) (.slice (some ⟨w3.heap.size,0,none⟩) 3 3)) _ _ hX10;have hE11:=hE10.setRow (show w3.heap.size≤w3.heap.size+1 by omega) (dA (.slice (some ⟨bc,oc,none⟩) m cc) (.slice (some ⟨w9.heap.size,0,none⟩) 3 3) (.slice (some ⟨w3.heap.size,0,none⟩) 3 3));generalize w9.heap.size=b68 at *;obtain ⟨w11,hw11⟩:∃ W,w10.setRow (w3.heap.size+1) (dA (.slice (some ⟨bc,oc,none⟩) m cc) (.slice (some ⟨b68,0,none⟩) 3 3) (.slice (some ⟨w3.heap.size,0,none⟩) 3 3))=W:=⟨_,rfl⟩;rw [hw11] at hO6 hO7 hOc h68 hA11 hX11 hE11;simp only [hw11];clear hw11 hX10 hE10 hA10 hgr;have hIsD:IsD w11 (.agg (dA (.slice (some ⟨bc,oc,none⟩) m cc) (.slice (some ⟨b68,0,none⟩) 3 3) (.slice (some ⟨w3.heap.size,0,none⟩) 3 3))) (Cf L (Cp c)):=by
      have hR6:(List.range m).map (fun q=>if Cp c (L.getD q 0#256) then 1 else 2)=L.map fun k=>if Cp c k then 1 else 2:=by rw [← HM.out];exact Tx L (fun k=>if Cp c k then 1 else 2)
      have hR7:(List.range m).map (fun _=>2)=L.map fun _=>2:=by rw [← HM.out];exact Tx L (fun _=>2)
      rw [hR6] at hO6;rw [hR7] at hO7 hOc;have ints:∀ {base:Nat} {v:Value} {r:List Nat},w11.ownsRow base 3 1 v m (r.map iv)→r.length=m→Ints w11 v r:=fun {base v r} h hl=>by
       have:OwnI w11 base v r:=by unfold OwnI;rw [hl];exact h
       exact this.ints (by omega)
      refine ⟨_,_,_,rfl,HC3.out.ext hE11,⟨[.slice (some ⟨g6,0,none⟩) m m,.slice (some ⟨g7,0,none⟩) m m,.slice (some ⟨gc,0,none⟩) m cgc],rfl,?_,fun i hi=>?_⟩,?_⟩
      ·refine ⟨by show (3:Nat)≤_;omega,.inr ⟨by show 0<3;omega,_,0,3,rfl,Ak h68,fun i hi=>?_⟩⟩;have hi:i<3:=by have:i<3*1:=hi;omega
       rw [Nat.zero_add,cell_of_row w11 _ i _ _ _ h68]
       match i,hi with
       | 0,_=>rfl
       | 1,_=>rfl
       | 2,_=>rfl
      ·have hi:i<3:=hi
       match i,hi with
       | 0,_=>exact (show Ints w11 _ (L.map fun k=>if Cp c k then 1 else 2) from ints hO6 (by rw [List.length_map];exact HM.out))
       | 1,_=>exact (show Ints w11 _ (L.map fun _=>2) from ints hO7 (by rw [List.length_map];exact HM.out))
       | 2,_=>exact (show Ints w11 _ (L.map fun _=>2) from ints hOc (by rw [List.length_map];exact HM.out))
      ·refine ⟨by show (3:Nat)≤_;omega,.inr ⟨by show 0<3;omega,_,0,3,rfl,Ak hA11,fun i hi=>?_⟩⟩;have hi:i<3:=by have:i<3*1:=hi;omega
       rw [Nat.zero_add,cell_of_row w11 _ i _ _ _ hA11]
       match i,hi with
       | 0,_=>rfl
       | 1,_=>rfl
       | 2,_=>rfl
     have hEf:=HE3.out.trans hE11;have hCn:=Lib.hid (Ig (Cf L (Cp c)) (Ae3 HPar.out _) (by show (3:Nat)≤64;omega) _ w11 (HTa.out w11 hEf) (Nat.lt_of_lt_of_le hsz hEf.size) hIsD);have HB2:=Lib.hid (hE11.heap HB23.out);have HX:=Lib.hid hX11;have HEf:=Lib.hid hEf;have HHas:=Lib.hid (fun u=>Ae4 HPar.out (Cp c) c (fun b hb=>Af8 HIC.out b hb) u);clear hIsD hEf hX11 hA11 h68 hO6 hO7 hOc hE hE9 f145 hE11;go_wp2_with (first
      | (refine wpList_load_row rfl 30 (.tmp 5) rfl _ rfl _ _ _ _ HX.out Tryz.underlying30 rfl Ad ?_)
      | (go_at_call 28;(with_reducible refine hCn.out.mono ?_);rintro e w12 ⟨r,hres,hcan,hhas,hE12⟩;obtain ⟨ac2,lc2,cc2,an2,ln2,cn2,aa2,la2,ca2,k2,rfl⟩:=hres.form;have HRes:=Lib.hid hres;have HCan:=Lib.hid hcan;have HH2:=Lib.hid hhas;clear hres hcan hhas;have HB2:=Lib.hid (hE12.heap HB2.out))
      | (refine wpList_store_row rfl 30 (.tmp 2) (.tmp 58) rfl _ _ rfl rfl _ _ HB2.out Ad rfl (An _ _ _ rfl rfl rfl) ?_))
     refine bodyPost_ret (v:=.tuple #[.agg (dA (.slice ac2 lc2 cc2) (.slice an2 ln2 cn2) (.slice aa2 la2 ca2)),.int .i64 k2]) (A2 rfl _ _ _ _ _ _ _ rfl _ rfl (setRow_heap w12 _ _ (dA (.slice ac2 lc2 cc2) (.slice an2 ln2 cn2) (.slice aa2 la2 ca2)) 30 (0,0) HB2.out) Tryz.underlying30 rfl Ad) rfl ?_;exact ⟨r,HRes.out.setRow (fun d' h=>by injection h with h;subst h;exact HCan.out.val) HB2.out _,HCan.out,fun u=>by rw [HH2.out];exact HHas.out u,(HEf.out.trans hE12).setRow (by omega) _⟩
 ·have f117:=fun W (hW:Ext w W)=>Lib.hid (Tm W (HTa.out W hW) (Nat.lt_of_lt_of_le hsz hW.size))
  go_wp2_with (first
   | (refine wpList_load_row rfl 62 (.tmp 1) rfl _ rfl _ _ _ _ HB1.out Tryz.underlying62 rfl Au ?_)
   | (go_at_call 105;(with_reducible refine (f105 _).out.mono ?_);rintro e w2 ⟨rfl,hE2⟩;have HE2:=Lib.hid (HE0.out.trans hE2);have HB2:=Lib.hid (hE2.heap HB2.out);clear hE2)
   | (go_at_call 117;(with_reducible refine (f117 _ HE2.out).out.mono ?_);rintro e w12 ⟨r,hres,hcan,hhas,hE12⟩;obtain ⟨ac2,lc2,cc2,an2,ln2,cn2,aa2,la2,ca2,k2,rfl⟩:=hres.form;have HRes:=Lib.hid hres;have HCan:=Lib.hid hcan;have HH2:=Lib.hid hhas;clear hres hcan hhas;have HB2:=Lib.hid (hE12.heap HB2.out))
   | (refine wpList_store_row rfl 30 (.tmp 2) (.tmp 14) rfl _ _ rfl rfl _ _ HB2.out Ad rfl (An _ _ _ rfl rfl rfl) ?_))
  refine bodyPost_ret (v:=.tuple #[.agg (dA (.slice ac2 lc2 cc2) (.slice an2 ln2 cn2) (.slice aa2 la2 ca2)),.int .i64 k2]) (A2 rfl _ _ _ _ _ _ _ rfl _ rfl (setRow_heap w12 _ _ (dA (.slice ac2 lc2 cc2) (.slice an2 ln2 cn2) (.slice aa2 la2 ca2)) 30 (0,0) HB2.out) Tryz.underlying30 rfl Ad) rfl ?_;refine ⟨r,HRes.out.setRow (fun d' h=>by injection h with h;subst h;exact HCan.out.val) HB2.out _,HCan.out,fun u=>?_,(HE2.out.trans hE12).setRow (by omega) _⟩;rw [HH2.out];have hc0:=HBZ.out.1 (by simp);constructor
  ·intro h;cases h
  ·rintro ⟨x,_,hx⟩;rw [hc0] at hx;simp at hx
end Go.Proofs.YtaiogolidlamiaaGreatDoor
