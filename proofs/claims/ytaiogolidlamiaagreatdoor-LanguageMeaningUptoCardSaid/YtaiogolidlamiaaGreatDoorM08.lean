import Derived.Deep.AppendLies
import Derived.Test.YtaiogolidlamiaaGreatDoorM07
import Derived.OrdersHeld
import Derived.Test.YtaiogolidlamiaaGreatDoorM02
set_option linter.unusedVariables false
set_option linter.unusedSimpArgs false
namespace Go.Proofs.YtaiogolidlamiaaGreatDoor
set_option maxRecDepth 100000
open Go.RowKit Go.Shelf
def Cu (l:List UInt8):Value:=.string ⟨l.toArray⟩
theorem M8 (x y:List UInt8) (h:Cu x=Cu y):x=y:=by simpa [Cu] using h
theorem M7 (l:List UInt8) (hl:l.length≤maxLen):∃ k,keyOf Tryz.prog 9 (Cu l)=some k:=
 ⟨_,Go.WideMaps.keyOf_string_mk Tryz.underlying9 (by simpa [ByteArray.size] using hl)⟩
theorem Jo (w:World) (a b:Value) (t:TypeId):∀ j u,[a,b][j]? = some u→(w.alloc (.cells #[a,b] t)).cell? ((⟨w.heap.size,0,none⟩:Addr).add j)=some u:=fun j u hu=>
 World.news_of_block (Ab w (.cells #[a,b] t)) j u hu
set_option maxHeartbeats 4000000 in
theorem Aa9 (t:Tbl) (hv:TVal t) (hn:t.nxt.length≤65536) (l:List Nat) (hl:Reached t l) (A:Array Value) (vl:Value) (w:World) (h:IsT w A t) (hil:Ints w vl l) :
  Calls Tryz.prog 110 #[.agg A,vl] w fun e w'=>∃ vN vR N R,e=.returned (.tuple #[vN,vR])∧N.length=t.nxt.length∧Blocks t l (fun s=>N.getD s 0) R∧Ints w' vN N∧Ints w' vR R∧Ext w w':=by
 obtain ⟨bn,on,cn,ba,oa,ca,hAs,hAo,_,_,hA7,hA8,hR,hacc⟩:=h.opened hv;obtain ⟨bl,ol,cl,rfl,hlc⟩:=Sl.form hil hl.ne;have hn0:=hv.pos;have hm0:=hv.cpos;have hm1:=hv.cle;have hl0:=hl.ne;have hll:l.length≤t.nxt.length:=by
  have:=Db l (List.range t.nxt.length) hl.nodup fun s hs=>List.mem_range.2 (hl.lt s hs)
  simpa using this
 have HR:=Lib.hid hR;have HV:=Lib.hid hv;have HL:=Lib.hid hl;have HLC:=Lib.hid (fun k (hk:k<l.length)=>hlc k (by omega));have HAcc:=Lib.hid hacc;obtain ⟨i0,hi,hz0,hz1,hz2⟩:=info_parts Dm;obtain ⟨i5,hi5,hy0,hy1,hy2⟩:=info_parts (show (Tryz.prog.info? 5).map (fun i=>(i.zero,i.size,i.bytes))=some (some (.int .u8 0),1,1) by kernel_rfl);have hE0:=(Ext.refl w).alloc (.cells A 108);have H0:=Ab w (.cells A 108);have HK:=Lib.hid (fun (W:World) (hW:Ext (w.alloc (.cells A 108)) W)=>(cell_of_row W w.heap.size 257 _ _ _ (hW.heap H0)).trans hA7);have HK8:=Lib.hid (fun (W:World) (hW:Ext (w.alloc (.cells A 108)) W)=>(cell_of_row W w.heap.size 258 _ _ _ (hW.heap H0)).trans hA8);clear hR hv h H0 hA7 hA8 hAo hAs hlc hil hacc hl;go_enter Tryz.func110,Tryz.ntmps110;go_upto_region 1 with (fail)
 obtain ⟨w1,hw1⟩:∃ W,w.alloc (.cells A 108)=W:=⟨_,rfl⟩;rw [hw1] at hE0 HK HK8;simp only [hw1];clear hw1;have k1:=HK.out w1 (Ext.refl w1);go_upto_region 2 with (at_make;refine wpList_make_full _ rfl _ _ 68 rfl w1.heap.size 3 i0 (.int .i64 0) 1 Tryz.underlying68 hi hz0 hz1 .i64 .i64 _ _ t.nxt.length rfl rfl rfl rfl (by rw [hz2];omega) (by unfold maxLen;omega) (Nat.le_refl _) ?_;intro w2 hown2 hgrow2)
 have hE2:Ext w1 w2:=(Ext.refl w1).grown hgrow2 (fun k e=>by cases e);have hB2:w2.ownsRow w1.heap.size 3 1 (.slice (some ⟨w1.heap.size,0,none⟩) t.nxt.length t.nxt.length) t.nxt.length ((List.replicate t.nxt.length 0).map iv):=by rw [← Ca];exact hown2
 clear hown2 hgrow2 k1;generalize hgb:w1.heap.size=gb at *;have HGB:=Lib.hid hgb;clear hgb;go_wp2_with (fail);go_loopw [26] (fun i W=>∃ (j:Nat) (B:List Nat),j≤l.length∧i=.int .i64 j∧Ext w1 W∧
   W.ownsRow gb 3 1 (.slice (some ⟨gb,0,none⟩) t.nxt.length t.nxt.length) t.nxt.length (B.map iv)∧Hid (AInv t l j B))
  (fun i _=>l.length-(intOf i).toNat)
 case atStart=>exact ⟨0,_,by omega,rfl,hE2,hB2,Lib.hid (Xf t l)⟩
 case round=>
  obtain ⟨j,B,hj,rfl,hE,hB,HI⟩:=hrel;by_cases hlt:j<l.length
  ·have cl:=(hE0.trans hE).cell (HLC.out j hlt);have hsn:=HL.out.lt _ (C3 l j 0 hlt);obtain ⟨s,hsd⟩:∃ s,l.getD j 0=s:=⟨_,rfl⟩;rw [hsd] at cl hsn;have HSD:=Lib.hid hsd;clear hsd;have k8:=HK8.out wr hE;have cacc:=(hE0.trans hE).cell (HAcc.out s hsn);have hBl:=Lib.hid HI.out.len;have hgb1:w1.heap.size≤gb:=Nat.le_of_eq HGB.out;have HY:=Lib.hid (fun ho=>Xe HI.out hlt (by rw [HSD.out];exact hsn) ho);have HN:=Lib.hid (fun ho=>Xg HI.out hlt ho);rw [HSD.out] at HY HN;cases hok:t.ok s
   ·rw [hok] at cacc;have HN':=Lib.hid (HN.out hok);clear hok;go_wp2_with (fail);go_roundw
    case rel=>exact ⟨j+1,B,by omega,by go_num,hE,hB,HN'⟩
    case measure=>simp [intOf];omega
   ·rw [hok] at cacc;have HY':=Lib.hid (HY.out hok);clear hok;obtain ⟨hB',hgr⟩:=A3 hB s 1;have cs:=Ap 0 hB hBl.out.symm s (by rw [hBl.out];exact hsn);have fs:=hB.frozenAt s;go_wp2_with (fail);go_roundw
    case rel=>exact ⟨j+1,B.set s 1,by omega,by go_num,hE.grown hgr (fun k e=>by cases e;exact hgb1),hB',HY'⟩
    case measure=>simp [intOf];omega
  ·obtain rfl:j=l.length:=by omega
   have HO:=Lib.hid (Tb HI.out);clear HI;go_upto_region 8 with (fail)
   obtain ⟨w3,hw3⟩:∃ W,W=wr:=⟨_,rfl⟩;subst hw3;have HC3:Hid (∀ s,s<t.nxt.length→w3.cell? ⟨gb,s,none⟩=some (iv (B.getD s 0))):=Lib.hid fun s hs=>Ap 0 hB HO.out.len.symm s (by rw [HO.out.len];exact hs)
   have hgl3:gb<w3.heap.size:=(hB.lt gb rfl).2;clear hB;go_wp2_with (fail);go_loopw [6,9] (fun v c W=>∃ (B:List Nat) (n g cp:Nat),v=.slice (some ⟨g,0,none⟩) t.nxt.length cp∧c=.int .i64 n∧Ext w1 W∧g<W.heap.size∧
     Hid (∀ s,s<t.nxt.length→W.cell? ⟨g,s,none⟩=some (iv (B.getD s 0)))∧Hid (OInv t l B n))
    (fun _ c _=>l.length-(intOf c).toNat)
   case atStart=>exact ⟨B,0,gb,_,rfl,rfl,hE,hgl3,HC3,HO⟩
   case round=>
    clear HC3 HO hgl3 hE;clear B;obtain ⟨B,n,g,cp,rfl,rfl,hE,hgl,HC,HO⟩:=hrel;have hnl:=HO.out.le;obtain ⟨wo,hwo⟩:∃ W,W=wr:=⟨_,rfl⟩;subst hwo;have hEw:=hE0.trans hE;have HKo:=Lib.hid (fun (W:World) (hW:Ext wo W)=>HK.out W (hE.trans hW));have HRo:=Lib.hid (fun (W:World) (hW:Ext wo W)=>HR.out.ext (hEw.trans hW));have HLo:=Lib.hid (fun (W:World) (hW:Ext wo W) k (hk:k<l.length)=>(hEw.trans hW).cell (HLC.out k hk));have HCo:=Lib.hid (fun (W:World) (hW:Ext wo W) s (hs:s<t.nxt.length)=>hW.cell (HC.out s hs));have hmm:=@run_makeMap Tryz.prog;go_upto_region 10 with (fail)
    clear hmm;have hE3:=(Ext.refl wo).alloc (.map #[] 0);have hmp:=I8 wo 9 Cu;have hs3:(wo.alloc (.map #[] 0)).heap.size=wo.heap.size+1:=World.size_alloc _ _;obtain ⟨w3,hw3⟩:∃ W,wo.alloc (.map #[] 0)=W:=⟨_,rfl⟩;simp only [hw3] at *;clear hw3;go_upto_region 11 with (at_make;refine wpList_make_full _ rfl _ _ 68 rfl w3.heap.size 3 i0 (.int .i64 0) 1 Tryz.underlying68 hi hz0 hz1 .i64 .i64 _ _ t.nxt.length rfl rfl rfl rfl (by rw [hz2];omega) (by unfold maxLen;omega) (Nat.le_refl _) ?_;intro w4 hown4 hgr4)
    have hE4:=hE3.grown hgr4 (fun k e=>by cases e);have hN4:w4.ownsRow w3.heap.size 3 1 (.slice (some ⟨w3.heap.size,0,none⟩) t.nxt.length t.nxt.length) t.nxt.length ((List.replicate t.nxt.length 0).map iv):=by rw [← Ca];exact hown4
    have hmp4:=hmp.kept hgr4 (by simp);have hsz4:wo.heap.size+1<w4.heap.size:=by have:w3.heap.size<w4.heap.size:=(hN4.lt _ rfl).2;omega
    rw [hs3] at hN4;clear hown4 hgr4 hmp hE3;have hI4:=World.ownsRow_nil w4 (wo.heap.size+1+1) 3 1;generalize hgn:w3.heap.size=gn at *;obtain rfl:gn=wo.heap.size+1:=hs3;go_wp2_with (fail);go_loopw [12,45] (fun v i W=>∃ (j:Nat) (N R:List Nat) (f:List UInt8→Option Nat) (a:Option Addr) (cp':Nat),j≤l.length∧i=.int .i64 j∧v=.slice a R.length cp'∧Ext wo W∧wo.heap.size+1<W.heap.size∧
      W.ownsRow (wo.heap.size+1) 3 1 (.slice (some ⟨wo.heap.size+1,0,none⟩) t.nxt.length t.nxt.length) t.nxt.length (N.map iv)∧OwnI W (wo.heap.size+1+1) v R∧IsMp W 9 Cu wo.heap.size R.length f∧
      Hid (NInv l (C2 t fun s=>B.getD s 0) j N R f∧N.length=t.nxt.length))
     (fun _ i _=>l.length-(intOf i).toNat)
    case atStart=>exact ⟨0,_,[],_,none,0,by omega,rfl,rfl,hE4,hsz4,hN4,hI4,hmp4,Lib.hid ⟨Ads l _ _,by simp⟩⟩
    case round=>
     clear hN4 hI4 hmp4 hE4 hsz4;obtain ⟨j,N,R,f,a,cp',hj,rfl,rfl,hE4,hsz4,hN4,hI4,hmp4,HN⟩:=hrel;have hRl:=HN.out.1.le;obtain ⟨w4,hw4⟩:∃ W,W=wr:=⟨_,rfl⟩;subst hw4;by_cases hlt:j<l.length
     ·have cl:=HLo.out w4 hE4 j hlt;have hsm:=C3 l j 0 hlt;have hsn:=HL.out.lt _ hsm;have hx:=HO.out.lt _ hsm;have hgf:=Lib.hid (fun k (hk:k<t.cells)=>HO.out.lt _ (HL.out.closed _ hsm k hk));obtain ⟨s,hsd⟩:∃ s,l.getD j 0=s:=⟨_,rfl⟩;rw [hsd] at cl hsn hx hgf;have HSD:=Lib.hid hsd;clear hsd hsm;obtain ⟨br,or',cr,hrc,hrr⟩:=HRo.out wo (Ext.refl wo) s hsn;have HRC:=Lib.hid (fun (W:World) (hW:Ext wo W)=>hW.cell hrc);have HRR:=Lib.hid (fun (W:World) (hW:Ext wo W) k (hk:k<t.cells)=>hW.cell (hrr k hk));have HXN:=Lib.hid (fun k (hk:k<t.cells)=>HV.out.tgt s hsn k hk);clear hrc hrr;obtain ⟨x,hxd⟩:∃ x,B.getD s 0=x:=⟨_,rfl⟩;rw [hxd] at hx;have HX:=Lib.hid (fun (W:World) (hW:Ext wo W)=>(hW.cell (HC.out s hsn)).trans (by rw [hxd]));have HXD:=Lib.hid hxd;clear hxd;have k1:=HKo.out w4 hE4;have k2:=HRC.out w4 hE4;go_upto_region 15 with (fail)
      go_upto_region 16 with (at_make;refine wpList_make_own _ rfl _ _ 22 rfl (wo.heap.size+1+1) 5 i5 (.int .u8 0) 1 Tryz.underlying22 hi5 hy0 hy1 .i64 .i64 _ (2+2*t.cells) rfl rfl (by push_cast;rfl) (by rw [hy2];omega) (by unfold maxLen;omega) (by omega) ?_;intro w5 hown5 hgr5)
      have hE5:=hE4.grown hgr5 (fun k e=>by cases e);have hN5:=Bt hN4 hgr5;have hI5:=Bt hI4 hgr5;have hmp5:=hmp4.kept hgr5 (by simp);have hsz5:wo.heap.size+1<w5.heap.size:=Nat.lt_of_lt_of_le hsz4 hgr5.size;have hkeep:∀ W,Ext wo W→Ext wo W∧W.cell? ⟨g,s,none⟩=some (iv x):=fun W hW=>⟨hW,HX.out W hW⟩
      have cx:=HX.out w5 hE5;clear k1 k2 cl hgr5 hN4 hI4 hmp4;go_region_held_law (fun W=>Ext wo W∧W.cell? ⟨g,s,none⟩=some (iv x))
       (first|exact hkeep _ hE6|exact hkeep _ (hE5.drew.alloc _)|exact hkeep _ hE5.drew)
       ((refine step_append_lies _ rfl _ _ 22 rfl (wo.heap.size+1+1) 5 i5 (.int .u8 0) 1 1 Tryz.underlying22 hi5 hy0 hy1 hy2 rfl (by decide) _ _ _ rfl ((Ah hown5 (Ext.refl w5).drew).alloc _) _ 2 2 ((A4 x).map bv) rfl rfl (Jo _ _ _ _) (by simp [A4,Value.oneCell']) (by decide) (by unfold maxLen;omega) (by omega) (by simp;omega) _ rfl ?_
         intro g6 c6 w6 hK6 hgr6 hat6 hlt6;have hE6:Ext wo w6:=(hE5.drew.alloc _).grown hgr6 (fun k e=>by have:=(hown5.lt k e).1;omega)))
      have hN6:=((Ah hN5 (Ext.refl w5).drew).alloc _).kept hgr6 (Ai hN5 hown5 (by decide));have hI6:=((Ah hI5 (Ext.refl w5).drew).alloc _).kept hgr6 (Ai hI5 hown5 (by decide));have hmp6:=((hmp5.ext (Ext.refl w5).drew).alloc _).kept hgr6 (hmp5.ne_row hown5);have hsz6:wo.heap.size+1<w6.heap.size:=by
       have h1:(w5.drew.alloc (.cells _ 5)).heap.size≤w6.heap.size:=hgr6.size;rw [World.size_alloc] at h1;have h2:w5.heap.size≤w5.drew.heap.size:=(Ext.refl w5).drew.size;omega
      obtain ⟨gf,hgfd⟩:∃ gf:Nat→Nat,(fun k=>B.getD (t.ent2 s k) 0)=gf:=⟨_,rfl⟩;have HGF:=Lib.hid hgfd;have hK6:w6.ownsRow (wo.heap.size+1+1) 5 1 (.slice (some ⟨g6,0,none⟩) (2+2*0) c6) (2+2*0) ((A4 x++Az gf 0).map bv):=by
       rw [show A4 x++Az gf 0=A4 x by simp [Az]];exact hK6
      have k1:=HKo.out w6 hE6;have k2:=HRC.out w6 hE6;clear hgfd hN5 hI5 hmp5 hown5 hgr6 hat6 hlt6 cx hkeep hE5 hsz5;go_wp2_with (fail);clear k1 k2;go_loopw [15,78] (fun v i W=>∃ (k gk ck:Nat),k≤t.cells∧i=.int .i64 k∧v=.slice (some ⟨gk,0,none⟩) (2+2*k) ck∧Ext wo W∧wo.heap.size+1<W.heap.size∧
        W.ownsRow (wo.heap.size+1) 3 1 (.slice (some ⟨wo.heap.size+1,0,none⟩) t.nxt.length t.nxt.length) t.nxt.length (N.map iv)∧OwnI W (wo.heap.size+1+1) (.slice a R.length cp') R∧IsMp W 9 Cu wo.heap.size R.length f∧
        W.ownsRow (wo.heap.size+1+1) 5 1 v (2+2*k) ((A4 x++Az gf k).map bv))
       (fun _ i _=>t.cells-(intOf i).toNat)
      case atStart=>exact ⟨0,g6,c6,by omega,rfl,rfl,hE6,hsz6,hN6,hI6,hmp6,hK6⟩
      case round=>
       clear hE6 hsz6 hN6 hI6 hmp6 hK6;obtain ⟨k,gk,ck,hk,rfl,rfl,hE5,hsz5,hN5,hI5,hmp5,hown5⟩:=hrel;obtain ⟨w5,hw5⟩:∃ W,W=wr:=⟨_,rfl⟩;subst hw5;by_cases hkc:k<t.cells
       ·have hyn:=HXN.out k hkc;have hz:=hgf.out k hkc;have cy:=HRR.out w5 hE5 k hkc;obtain ⟨y,hyd⟩:∃ y,t.ent2 s k=y:=⟨_,rfl⟩;have HZD:Hid (gf k=B.getD y 0):=Lib.hid (by rw [← HGF.out,← hyd]);rw [hyd] at cy hyn hz;clear hyd;obtain ⟨z,hzd⟩:∃ z,B.getD y 0=z:=⟨_,rfl⟩;rw [hzd] at hz HZD;have HZ:=Lib.hid (fun (W:World) (hW:Ext wo W)=>(hW.cell (HC.out y hyn)).trans (by rw [hzd]));clear hzd;have hkeep:∀ W,Ext wo W→Ext wo W∧W.cell? ⟨g,y,none⟩=some (iv z):=fun W hW=>⟨hW,HZ.out W hW⟩
        have cz:=HZ.out w5 hE5;go_upto_region 20 with (fail)
        clear cy;go_region_held_law (fun W=>Ext wo W∧W.cell? ⟨g,y,none⟩=some (iv z))
         (first|exact hkeep _ hE6|exact hkeep _ (hE5.drew.alloc _)|exact hkeep _ hE5.drew)
         ((refine step_append_lies _ rfl _ _ 22 rfl (wo.heap.size+1+1) 5 i5 (.int .u8 0) 1 1 Tryz.underlying22 hi5 hy0 hy1 hy2 rfl (by decide) _ _ _ rfl ((Ah hown5 (Ext.refl w5).drew).alloc _) _ 2 2 ((A4 z).map bv) rfl rfl (Jo _ _ _ _) (by simp [A4,Value.oneCell']) (by decide) (by unfold maxLen;omega) (by omega) (by simp;omega) _ rfl ?_
           intro g6 c6 w6 hK6 hgr6 hat6 hlt6;have hE6:Ext wo w6:=(hE5.drew.alloc _).grown hgr6 (fun k e=>by have:=(hown5.lt k e).1;omega)))
        have hN6:=((Ah hN5 (Ext.refl w5).drew).alloc _).kept hgr6 (Ai hN5 hown5 (by decide));have hI6:=((Ah hI5 (Ext.refl w5).drew).alloc _).kept hgr6 (Ai hI5 hown5 (by decide));have hmp6:=((hmp5.ext (Ext.refl w5).drew).alloc _).kept hgr6 (hmp5.ne_row hown5);have hsz6:wo.heap.size+1<w6.heap.size:=by
         have h1:(w5.drew.alloc (.cells _ 5)).heap.size≤w6.heap.size:=hgr6.size;rw [World.size_alloc] at h1;have h2:w5.heap.size≤w5.drew.heap.size:=(Ext.refl w5).drew.size;omega
        have hK6:w6.ownsRow (wo.heap.size+1+1) 5 1 (.slice (some ⟨g6,0,none⟩) (2+2*(k+1)) c6) (2+2*(k+1)) ((A4 x++Az gf (k+1)).map bv):=by
         rw [show A4 x++Az gf (k+1)=(A4 x++Az gf k)++A4 z by rw [Az,HZD.out,List.append_assoc],List.map_append];exact hK6
        clear hN5 hI5 hmp5 hown5 hgr6 hat6 hlt6 cz hkeep hE5 hsz5;go_wp2;go_roundw
        case rel=>exact ⟨k+1,g6,c6,by omega,by go_num,rfl,hE6,hsz6,hN6,hI6,hmp6,hK6⟩
        case measure=>simp [intOf];omega
       ·obtain rfl:k=t.cells:=by omega
        have hlenK:(A4 x++Az gf t.cells).length=2+2*t.cells:=by rw [List.length_append,Ib,On]
        have hkeyS:C2 t (fun s=>B.getD s 0) s=A4 x++Az gf t.cells:=by
         show A4 (B.getD s 0)++Az (fun k=>B.getD (t.ent2 s k) 0) t.cells=_;rw [HXD.out,HGF.out]
        obtain ⟨ky,hky⟩:∃ ky,A4 x++Az gf t.cells=ky:=⟨_,rfl⟩;rw [hky] at hlenK hkeyS hown5;have HKY:=Lib.hid hkeyS;clear hky hkeyS;have hcv:(convert 22 9 (.slice (some ⟨gk,0,none⟩) (2+2*t.cells) ck)).run Tryz.prog w5=.ok (Cu ky) w5:=Ke _ _ _ (By.of_owns (by rw [hlenK];exact hown5) (by rw [hlenK];omega));have hkey:=M7 ky (by rw [hlenK];unfold maxLen;omega);have HLK:=Lib.hid hlenK;clear hlenK;cases hf:f ky with
        | some i=>
         have HN':=Adt HN.out.1 HL.out.nodup hlt (by rw [HSD.out,HN.out.2];exact hsn) i (by rw [HSD.out,HKY.out];exact hf);rw [HSD.out] at HN';have HN':=Lib.hid (And.intro HN' (show (N.set s i).length=t.nxt.length by rw [List.length_set];exact HN.out.2));have cn:=Ap 0 hN5 HN.out.2.symm s (by rw [HN.out.2];exact hsn);have fn:=hN5.frozenAt s;obtain ⟨hN6,hgr6⟩:=A3 hN5 s i;have hE6:=hE5.grown hgr6 (fun k e=>by cases e;omega);have hI6:=hI5.kept hgr6 (Ao hI5 (by omega));have hmp6:=hmp5.kept hgr6 (by simp);have hsz6:=Nat.lt_of_lt_of_le hsz5 hgr6.size;clear hgr6 hI5 hN5 hE5 hsz5;go_wp2_with (at_lookup;refine D8 rfl _ _ 155 rfl Fc Tryz.underlying155 rfl hmp5 ky rfl hkey ?_;rw [hf];dsimp only [Option.isSome,Option.getD]);go_roundw
         case rel=>exact ⟨j+1,N.set s i,R,f,a,cp',by omega,by go_num,rfl,hE6,hsz6,hN6,hI6,hmp6,HN'⟩
         case measure=>simp [intOf];omega
        | none=>
         have HN':=Adu HN.out.1 HL.out.nodup hlt (by rw [HSD.out,HN.out.2];exact hsn) (by rw [HSD.out,HKY.out];exact hf);rw [HSD.out,HKY.out] at HN';have HN':=Lib.hid (And.intro HN' (show (N.set s R.length).length=t.nxt.length by rw [List.length_set];exact HN.out.2));have hown6:=hown5;go_upto_region 25 with (at_lookup;refine D8 rfl _ _ 155 rfl Fc Tryz.underlying155 rfl hmp5 ky rfl hkey ?_;rw [hf];dsimp only [Option.isSome,Option.getD])
         go_upto_region 26 with (at_mapUpdate;refine Ik rfl _ _ _ 155 rfl Fc Tryz.underlying155 rfl hmp5 (by unfold maxLen;omega) M8 ky rfl hkey R.length rfl (by omega) ?_;intro w6 hmp6 hgr6)
         clear hcv;have hN6:=hN5.kept hgr6 (hmp5.far hN5);have hI6:=hI5.kept hgr6 (hmp5.far hI5);have hE6:=hE5.grown hgr6 (fun k e=>by cases e;omega);have hsz6:=Nat.lt_of_lt_of_le hsz5 hgr6.size;clear hgr6 hI5 hN5 hE5 hsz5 hmp5 hown5 hown6;go_upto_region 27 with (at_builtin;refine wpList_append_lies _ rfl _ _ 68 rfl (wo.heap.size+1+1) 3 i0 (.int .i64 0) 1 8 Tryz.underlying68 hi hz0 hz1 hz2 rfl (by decide) _ _ _ rfl (hI6.alloc _) _ 1 1 [iv s] rfl rfl (cell_one_new _ _ _) (by simp [Value.oneCell']) (by decide) (by unfold maxLen;omega) (by omega) (by simp;omega) _ rfl ?_;intro g7 c7 w7 hI7 hgr7 _ _)
         have hN7:=(hN6.alloc (.cells #[iv s] 3)).kept hgr7 (.inr (fun e=>by have:=(hI6.lt (wo.heap.size+1) e.symm).1;omega));have hmp7:=(hmp6.alloc (.cells #[iv s] 3)).kept hgr7 (fun e=>by have:=(hI6.lt wo.heap.size e.symm).1;omega);have hE7:=(hE6.alloc (.cells #[iv s] 3)).grown hgr7 (fun k e=>by have:=(hI6.lt k e).1;omega);have hsz7:wo.heap.size+1<w7.heap.size:=by
          have:=hgr7.size;rw [World.size_alloc] at this;omega
         have hI7:OwnI w7 (wo.heap.size+1+1) (.slice (some ⟨g7,0,none⟩) (R.length+1) c7) (R++[s]):=by
          show World.ownsRow _ _ _ _ _ _ _;rw [List.length_append,List.map_append];exact hI7
         clear hgr7 hI6 hN6 hE6 hsz6 hmp6;have cn:=Ap 0 hN7 HN.out.2.symm s (by rw [HN.out.2];exact hsn);have fn:=hN7.frozenAt s;obtain ⟨hN8,hgr8⟩:=A3 hN7 s R.length;have hE8:=hE7.grown hgr8 (fun k e=>by cases e;omega);have hI8:=hI7.kept hgr8 (Ao hI7 (by omega));have hmp8:=hmp7.kept hgr8 (by simp);have hsz8:=Nat.lt_of_lt_of_le hsz7 hgr8.size;clear hgr8 hI7 hN7 hE7 hsz7 hmp7;go_wp2;go_roundw
         case rel=>exact ⟨j+1,N.set s R.length,R++[s],_,_,c7,by omega,by go_num,by rw [List.length_append];rfl,hE8,hsz8,hN8,hI8,by rw [List.length_append];exact hmp8,HN'⟩
         case measure=>simp [intOf];omega
     ·obtain rfl:j=l.length:=by omega
      by_cases he:R.length=n
      ·have heq:((R.length:Int)==(n:Int))=true:=by simp [he]
       have HB:=Lib.hid (Add HV.out HL.out HO.out HN.out.1 he);have hRle:R.length≤4611686018427387904:=by omega
       have hIN:Ints w4 (.slice (some ⟨wo.heap.size+1,0,none⟩) t.nxt.length t.nxt.length) N:=OwnI.ints (base:=wo.heap.size+1) (by
        show World.ownsRow _ _ _ _ _ _ _;rw [HN.out.2];exact hN4) (by rw [HN.out.2];omega)
       have hIR:=hI4.ints hRle;have HN2:=Lib.hid HN.out.2;clear he HO HN;go_wp2;go_ret2;exact ⟨_,_,N,R,rfl,HN2.out,HB.out,hIN,hIR,hEw.trans hE4⟩
      ·have heq:((R.length:Int)==(n:Int))=false:=by simp;omega
       obtain ⟨HO',hlt'⟩:=Adc HV.out HL.out HO.out (by omega) HN.out.2 HN.out.1 he;have HO':=Lib.hid HO';have HC':Hid (∀ s,s<t.nxt.length→w4.cell? ⟨wo.heap.size+1,s,none⟩=some (iv (N.getD s 0))):=Lib.hid fun s hs=>Ap 0 hN4 HN.out.2.symm s (by rw [HN.out.2];exact hs)
       clear he;go_wp2;go_roundw
       case rel=>exact ⟨N,R.length,wo.heap.size+1,_,rfl,rfl,hE.trans hE4,hsz4,HC',HO'⟩
       case measure=>simp [intOf];omega
structure FInv {κ:Type} (key:Nat→κ) (x:Nat) (c:Nat→Nat) (bs:List Nat) (f:κ→Option Nat):Prop where
 le:bs.length≤x
 lt:∀ y,y<x→c y<bs.length
 byte:∀ k,k<bs.length→bs.getD k 0<x∧c (bs.getD k 0)=k
 same:∀ y z,y<x→z<x→(c y=c z↔key y=key z)
 has:∀ y,y<x→f (key y)=some (c y)
 from_:∀ p i,f p=some i→∃ y,y<x∧p=key y∧i=c y
 first:∀ y,y<x→bs.getD (c y) 0≤y
 inc:∀ i j,i<j→j<bs.length→bs.getD i 0<bs.getD j 0
section
variable {κ:Type} {key:Nat→κ} {x:Nat} {c:Nat→Nat} {bs:List Nat} {f:κ→Option Nat}
theorem U4 (key:Nat→κ) (c:Nat→Nat):FInv key 0 c [] (fun _=>none) where
 le:=by simp
 lt:=fun y hy=>by omega
 byte:=fun k hk=>by simp at hk
 same:=fun y z hy=>by omega
 has:=fun y hy=>by omega
 from_:=fun p i h=>by simp at h
 first:=fun y hy=>by omega
 inc:=fun i j h1 h2=>by simp at h2
theorem Pg (h:FInv key x c bs f) (i:Nat) (hi:f (key x)=some i):FInv key (x+1) (fun y=>if y=x then i else c y) bs f:=by
 obtain ⟨z,hz,hp,rfl⟩:=h.from_ _ _ hi;refine ⟨by have:=h.le;omega,fun y hy=>?_,fun k hk=>?_,fun y y' hy hy'=>?_,fun y hy=>?_,fun p i hp=>?_,fun y hy=>?_,h.inc⟩
 ·split
  ·exact h.lt z hz
  ·exact h.lt y (by omega)
 ·obtain ⟨h1,h2⟩:=h.byte k hk;rw [if_neg (by omega)];exact ⟨by omega,h2⟩
 ·by_cases e:y=x<;>by_cases e':y'=x
  ·subst e;subst e';simp
  ·subst e;rw [if_pos rfl,if_neg e',h.same z y' hz (by omega),hp]
  ·subst e';rw [if_neg e,if_pos rfl,h.same y z (by omega) hz,hp]
  ·rw [if_neg e,if_neg e'];exact h.same y y' (by omega) (by omega)
 ·by_cases e:y=x
  ·subst e;rw [if_pos rfl];exact hi
  ·rw [if_neg e];exact h.has y (by omega)
 ·obtain ⟨y,hy,h1,h2⟩:=h.from_ p i hp;exact ⟨y,by omega,h1,by rw [if_neg (by omega)];exact h2⟩
 ·by_cases e:y=x
  ·rw [if_pos e];have:=h.first z hz;omega
  ·rw [if_neg e];exact h.first y (by omega)
theorem U5 [DecidableEq κ] (h:FInv key x c bs f) (hi:f (key x)=none) :
  FInv key (x+1) (fun y=>if y=x then bs.length else c y) (bs++[x]) (fun p=>if p=key x then some bs.length else f p):=by
 have hno:∀ y,y<x→key y≠key x:=fun y hy he=>by
  have:=h.has y hy;rw [he,hi] at this;cases this
 have hl:(bs++[x]).length=bs.length+1:=by simp
 have hend:(bs++[x]).getD bs.length 0=x:=by simp [List.getD_eq_getElem?_getD]
 refine ⟨by have:=h.le;omega,fun y hy=>?_,fun k hk=>?_,fun y y' hy hy'=>?_,fun y hy=>?_,fun p i hp=>?_,fun y hy=>?_,fun i j hij hj=>?_⟩
 ·rw [hl];split
  ·omega
  ·have:=h.lt y (by omega);omega
 ·rw [hl] at hk;by_cases e:k=bs.length
  ·subst e;rw [hend,if_pos rfl];exact ⟨by omega,rfl⟩
  ·have hk':k<bs.length:=by omega
   obtain ⟨h1,h2⟩:=h.byte k hk';rw [Bi _ _ _ _ hk',if_neg (by omega)];exact ⟨by omega,h2⟩
 ·by_cases e:y=x<;>by_cases e':y'=x
  ·subst e;subst e';simp
  ·subst e;have h1:=h.lt y' (by omega);rw [if_pos rfl,if_neg e'];exact ⟨fun h2=>by omega,fun h2=>absurd h2.symm (hno y' (by omega))⟩
  ·subst e';have h1:=h.lt y (by omega);rw [if_neg e,if_pos rfl];exact ⟨fun h2=>by omega,fun h2=>absurd h2 (hno y (by omega))⟩
  ·rw [if_neg e,if_neg e'];exact h.same y y' (by omega) (by omega)
 ·by_cases e:y=x
  ·subst e;simp
  ·have h1:=hno y (by omega);rw [if_neg e,if_neg h1];exact h.has y (by omega)
 ·by_cases e:p=key x
  ·simp only [e,if_true] at hp;cases hp
   exact ⟨x,by omega,e,by rw [if_pos rfl]⟩
  ·simp only [e,if_false] at hp;obtain ⟨y,hy,h1,h2⟩:=h.from_ p i hp;exact ⟨y,by omega,h1,by rw [if_neg (by omega)];exact h2⟩
 ·by_cases e:y=x
  ·rw [if_pos e,hend];omega
  ·rw [if_neg e,Bi _ _ _ _ (h.lt y (by omega))];exact h.first y (by omega)
 ·rw [hl] at hj;by_cases e:j=bs.length
  ·subst e;rw [hend,Bi _ _ _ _ hij];exact (h.byte i hij).1
  ·rw [Bi _ _ _ _ (by omega),Bi _ _ _ _ (by omega)];exact h.inc i j hij (by omega)
end
structure MInv {κ:Type} (cell:Nat→Nat) (n:Nat) (key:Nat→κ) (b b':Nat) (c:Nat→Nat) (bs:List Nat) (f:κ→Option Nat) (O:List (Option Nat)) (C:List Cls):Prop where
 fi:FInv (fun y=>key (cell y)) b c bs f
 lenO:O.length=n
 lenC:C.length=bs.length
 at_:∀ y,y<b→O.getD (cell y) none=some (c y)
 from_:∀ k i,O.getD k none=some i→∃ y,y<b∧cell y=k∧i=c y
 cls:∀ i,i<bs.length→∀ y,y<256→((C.getD i 0#256).getLsbD y=true↔y<b'∧c y=i)
section
variable {κ:Type} {cell:Nat→Nat} {n:Nat} {key:Nat→κ} {b:Nat} {c:Nat→Nat} {bs:List Nat} {f:κ→Option Nat} {O:List (Option Nat)} {C:List Cls}
theorem Adz (cell:Nat→Nat) (n:Nat) (key:Nat→κ) (c:Nat→Nat):MInv cell n key 0 0 c [] (fun _=>none) (List.replicate n none) [] where
 fi:=U4 _ c
 lenO:=by simp
 lenC:=rfl
 at_:=fun y hy=>by omega
 from_:=fun k i h=>by
  rw [List.getD_eq_getElem?_getD,List.getElem?_replicate] at h;split at h<;>simp at h
 cls:=fun i hi=>by simp at hi
theorem Ad0 (h:MInv cell n key b b c bs f O C) (i:Nat) (hi:O.getD (cell b) none=some i):MInv cell n key (b+1) b (fun y=>if y=b then i else c y) bs f O C:=by
 obtain ⟨z,hz,hzc,rfl⟩:=h.from_ _ _ hi;refine ⟨Pg h.fi _ ?_,h.lenO,h.lenC,fun y hy=>?_,fun k i hk=>?_,fun i hi y hy=>?_⟩
 ·show f (key (cell b))=_;rw [← hzc];exact h.fi.has z hz
 ·by_cases e:y=b
  ·subst e;rw [if_pos rfl];exact hi
  ·rw [if_neg e];exact h.at_ y (by omega)
 ·obtain ⟨y,hy,h1,h2⟩:=h.from_ k i hk;exact ⟨y,by omega,h1,by rw [if_neg (by omega)];exact h2⟩
 ·rw [h.cls i hi y hy];constructor
  ·rintro ⟨h1,h2⟩;exact ⟨h1,by rw [if_neg (by omega)];exact h2⟩
  ·rintro ⟨h1,h2⟩;rw [if_neg (by omega)] at h2;exact ⟨h1,h2⟩
theorem Ad2 (h:MInv cell n key b b c bs f O C) (hc:cell b<n) (hn:O.getD (cell b) none=none) (i:Nat) (hi:f (key (cell b))=some i) :
  MInv cell n key (b+1) b (fun y=>if y=b then i else c y) bs f (O.set (cell b) (some i)) C:=by
 have ne:∀ y,y<b→cell y≠cell b:=fun y hy e=>by
  have:=h.at_ y hy;rw [e,hn] at this;cases this
 have hO:cell b<O.length:=by rw [h.lenO];exact hc
 refine ⟨Pg h.fi i hi,by rw [List.length_set];exact h.lenO,h.lenC,fun y hy=>?_,fun k i' hk=>?_,fun i' hi' y hy=>?_⟩
 ·by_cases e:y=b
  ·subst e;rw [if_pos rfl,A5 _ _ _ _ _ hO,if_pos rfl]
  ·rw [if_neg e,A5 _ _ _ _ _ hO,if_neg (ne y (by omega))];exact h.at_ y (by omega)
 ·rw [A5 _ _ _ _ _ hO] at hk;by_cases e:k=cell b
  ·rw [if_pos e] at hk;cases hk
   exact ⟨b,by omega,e.symm,by rw [if_pos rfl]⟩
  ·rw [if_neg e] at hk;obtain ⟨y,hy,h1,h2⟩:=h.from_ k i' hk;exact ⟨y,by omega,h1,by rw [if_neg (by omega)];exact h2⟩
 ·rw [h.cls i' hi' y hy];constructor
  ·rintro ⟨h1,h2⟩;exact ⟨h1,by rw [if_neg (by omega)];exact h2⟩
  ·rintro ⟨h1,h2⟩;rw [if_neg (by omega)] at h2;exact ⟨h1,h2⟩
theorem Ad3 [DecidableEq κ] (h:MInv cell n key b b c bs f O C) (hc:cell b<n) (hn:O.getD (cell b) none=none) (hi:f (key (cell b))=none) :
  MInv cell n key (b+1) b (fun y=>if y=b then bs.length else c y) (bs++[b]) (fun p=>if p=key (cell b) then some bs.length else f p) (O.set (cell b) (some bs.length)) (C++[0#256]):=by
 have ne:∀ y,y<b→cell y≠cell b:=fun y hy e=>by
  have:=h.at_ y hy;rw [e,hn] at this;cases this
 have hO:cell b<O.length:=by rw [h.lenO];exact hc
 refine ⟨U5 h.fi hi,by rw [List.length_set];exact h.lenO,by rw [List.length_append,List.length_append,h.lenC];rfl,fun y hy=>?_,fun k i' hk=>?_,fun i' hi' y hy=>?_⟩
 ·by_cases e:y=b
  ·subst e;rw [if_pos rfl,A5 _ _ _ _ _ hO,if_pos rfl]
  ·rw [if_neg e,A5 _ _ _ _ _ hO,if_neg (ne y (by omega))];exact h.at_ y (by omega)
 ·rw [A5 _ _ _ _ _ hO] at hk;by_cases e:k=cell b
  ·rw [if_pos e] at hk;cases hk
   exact ⟨b,by omega,e.symm,by rw [if_pos rfl]⟩
  ·rw [if_neg e] at hk;obtain ⟨y,hy,h1,h2⟩:=h.from_ k i' hk;exact ⟨y,by omega,h1,by rw [if_neg (by omega)];exact h2⟩
 ·rw [List.length_append,List.length_singleton] at hi';by_cases e:i'=bs.length
  ·have e1:(C++[0#256]).getD i' 0#256=0#256:=by rw [e,← h.lenC];exact Bw _ _ _
   rw [e1];constructor
   ·intro h1;simp at h1
   ·rintro ⟨h1,h2⟩;rw [if_neg (by omega)] at h2;have:=h.fi.lt y h1;omega
  ·rw [Bi _ _ _ _ (by rw [h.lenC];omega),h.cls i' (by omega) y hy];constructor
   ·rintro ⟨h1,h2⟩;exact ⟨h1,by rw [if_neg (by omega)];exact h2⟩
   ·rintro ⟨h1,h2⟩;rw [if_neg (by omega)] at h2;exact ⟨h1,h2⟩
theorem Ad1 (h:MInv cell n key (b+1) b c bs f O C) (u:Cls) (hu:∀ y,y<256→(u.getLsbD y=true↔y=b)) :
  MInv cell n key (b+1) (b+1) c bs f O (C.set (c b) (C.getD (c b) 0#256 ||| u)):=by
 refine ⟨h.fi,h.lenO,by rw [List.length_set];exact h.lenC,h.at_,h.from_,fun i hi y hy=>?_⟩;have hcb:=h.fi.lt b (by omega);rw [A5 _ _ _ _ _ (by rw [h.lenC];exact hcb)];by_cases e:i=c b
 ·subst e;rw [if_pos rfl,BitVec.getLsbD_or,Bool.or_eq_true,h.cls _ hi y hy,hu y hy];constructor
  ·rintro (⟨h1,h2⟩|rfl)
   ·exact ⟨by omega,h2⟩
   ·exact ⟨by omega,rfl⟩
  ·rintro ⟨h1,h2⟩;by_cases e:y=b
   ·exact .inr e
   ·exact .inl ⟨by omega,h2⟩
 ·rw [if_neg e,h.cls i hi y hy];constructor
  ·rintro ⟨h1,h2⟩;exact ⟨by omega,h2⟩
  ·rintro ⟨h1,h2⟩;refine ⟨?_,h2⟩;by_cases e':y=b
   ·subst e';exact absurd h2.symm e
   ·omega
end
def Ia (t:Tbl) (B:Nat→Nat) (R:List Nat) (c:Nat):List UInt8:=Az (fun i=>B (t.ent2 (R.getD i 0) c)) R.length
theorem Ad6 {t:Tbl} (hv:TVal t) {B:Nat→Nat} {R:List Nat} (hB:∀ i,i<R.length→∀ k,k<t.cells→B (t.ent2 (R.getD i 0) k)<65536) {c:Nat→Nat} {bs:List Nat} {f:List UInt8→Option Nat} {O:List (Option Nat)} {C:List Cls}
  (h:MInv t.cell t.cells (Ia t B R) 256 256 c bs f O C):Merged t B R (bs.map t.cell) C:=by
 have bit:∀ y,y<256→(C.getD (c y) 0#256).getLsbD y=true:=fun y hy=>(h.cls _ (h.fi.lt y hy) y hy).2 ⟨hy,rfl⟩
 have keyC:∀ i,i<bs.length→key (C.getD i 0#256)=bs.getD i 0:=fun i hi=>by
  obtain ⟨h1,h2⟩:=h.fi.byte i hi;refine T8 _ _ h1 ?_ fun j hj=>?_
  ·have:=bit _ h1;rwa [h2] at this
  ·rw [← Bool.not_eq_true];intro hb;obtain ⟨_,h3⟩:=(h.cls i hi j (by omega)).1 hb;have:=h.fi.first j (by omega);rw [h3] at this;omega
 have parts:Parts C:=by
  refine ⟨fun x hx=>?_,?_,fun i hi=>⟨_,C3 _ _ _ (by rw [h.lenC];exact h.fi.lt i hi),bit i hi⟩⟩
  ·obtain ⟨i,hi,rfl⟩:=Gk (d:=0#256) hx;rw [h.lenC] at hi;obtain ⟨h1,h2⟩:=h.fi.byte i hi;have:=bit _ h1;rw [h2] at this;exact Fw this
  ·rw [List.pairwise_iff_getElem];intro i j hi hj hij y ⟨h1,h2⟩;by_cases hy:y<256
   ·have e1:=(h.cls i (by rw [← h.lenC];exact hi) y hy).1 (by rw [List.getD_eq_getElem?_getD,List.getElem?_eq_getElem hi];exact h1);have e2:=(h.cls j (by rw [← h.lenC];exact hj) y hy).1 (by rw [List.getD_eq_getElem?_getD,List.getElem?_eq_getElem hj];exact h2);omega
   ·rw [BitVec.getLsbD_of_ge _ _ (by omega)] at h1;cases h1
 have place:∀ y,y<256→Aj C y=c y:=fun y hy=>Fj parts hy (by rw [h.lenC];exact h.fi.lt y hy) (bit y hy)
 have getK:∀ k,k<bs.length→(bs.map t.cell).getD k 0=t.cell (bs.getD k 0):=fun k hk=>by
  simp [List.getD_eq_getElem?_getD,hk]
 have keys:∀ y z,y<256→z<256→(Ia t B R (t.cell y)=Ia t B R (t.cell z)↔∀ i,i<R.length→B (t.ent2 (R.getD i 0) (t.cell y))=B (t.ent2 (R.getD i 0) (t.cell z))):=fun y z hy hz=>
  Lw _ _ _ (fun i hi=>hB i hi _ (hv.cell_lt y hy)) (fun i hi=>hB i hi _ (hv.cell_lt z hz))
 refine ⟨parts,?_,by rw [List.length_map,h.lenC],fun k hk=>?_,fun b hb i hi=>?_,fun k k' hk hk' he=>?_⟩
 ·rw [List.pairwise_iff_getElem];intro i j hi hj hij;have e1:=keyC i (by rw [← h.lenC];exact hi);have e2:=keyC j (by rw [← h.lenC];exact hj);rw [List.getD_eq_getElem?_getD,List.getElem?_eq_getElem hi] at e1;rw [List.getD_eq_getElem?_getD,List.getElem?_eq_getElem hj] at e2;simp only [Option.getD_some] at e1 e2;have:=h.fi.inc i j hij (by rw [← h.lenC];exact hj);rw [e1,e2];omega
 ·rw [List.length_map] at hk;rw [getK k hk];exact hv.cell_lt _ (h.fi.byte k hk).1
 ·have hcb:=h.fi.lt b hb;rw [place b hb,getK _ hcb];obtain ⟨h1,h2⟩:=h.fi.byte _ hcb;exact (keys _ _ h1 hb).1 ((h.fi.same _ _ h1 hb).1 h2) i hi
 ·rw [List.length_map] at hk hk';obtain ⟨h1,h2⟩:=h.fi.byte _ hk;obtain ⟨h3,h4⟩:=h.fi.byte _ hk';rw [← h2,← h4];refine (h.fi.same _ _ h1 h3).2 ((keys _ _ h1 h3).2 fun i hi=>?_);have:=he i hi
  rwa [getK k hk,getK k' hk'] at this
open Go
section
variable {P:Program} {md:Region.Mode} {ops:Array Oper} {Q:Exit→Act→World→Prop} {C:World→Prop} {n:Nat}
def Jy (P:Program) (md:Region.Mode) (ops:Array Oper) (Q:Exit→Act→World→Prop) (C:World→Prop) (n:Nat):Nat→Array Bool→Act→World→Prop
 | 0,listed,a,w=>Region.ready md ops listed=[]∧Q .normal a w
 | f+1,listed,a,w=>(Region.ready md ops listed=[]→Q .normal a w)∧
  ∀ i∈Region.ready md ops listed,wpOp P ops Q i (fun a' w'=>(i<n→C w')∧Jy P md ops Q C n f (listed.setIfInBounds i true) a' w') a w
theorem W9:∀ (f:Nat) (listed:Array Bool) (a:Act) (w:World),Jy P md ops Q C n f listed a w→wpAny P md ops Q f listed a w
 | 0,_,_,_,h=>h
 | f+1,_,_,_,h=>⟨h.1,fun i hi=>wpOp_mono (fun _ _ h'=>W9 f _ _ _ h'.2) (h.2 i hi)⟩
theorem Ajh {i:Nat} {oi:Oper} {v:Value} (hi:ops[i]? = some oi) (hsel:∀ (j:Nat) (o:Oper) cs b,ops[j]? = some o→o.op≠.select cs b)
  (hs:Region.sinkB md ops n=true) (hc:Region.chainB md ops n=true) (hn:n<ops.size) (hin:i<n)
  (hQ:∀ c a w,Q (.panic c) (a.put oi.dst v) w→Q (.panic c) a w) :
  ∀ (f:Nat) (listed:Array Bool) (a:Act) (w:World),HeadInv md ops n listed→
   (∀ j oj,ops[j]? = some oj→j≠i→listed.getD j true=false→(∀ e∈oj.after,Region.binds md e=true→e.on≠i)→oi.apart ops oj=true)→
   i∈Region.ready md ops listed→YieldsIf P ops C oi v a→C w→
   Jy P md ops Q C n f (listed.setIfInBounds i true) (a.put oi.dst v) w→Jy P md ops Q C n (f+1) listed a w:=by
 intro f;induction f with
 | zero=>
  intro listed a w _ _ hr hy hC H;refine ⟨fun h=>(by rw [h] at hr;cases hr),fun j hj=>?_⟩;by_cases hji:j=i
  ·subst hji;exact hy.wpOp hi hC ⟨fun _=>hC,H⟩
  ·have:=ready_mono hj hji;rw [H.1] at this;cases this
 | succ f ih=>
  intro listed a w inv hfree hr hy hC H;have hun:=(mem_ready.1 hr).1;refine ⟨fun h=>(by rw [h] at hr;cases hr),fun j hj=>?_⟩;by_cases hji:j=i
  ·subst hji;exact hy.wpOp hi hC ⟨fun _=>hC,H⟩
  ·have hjn:j<n:=Nat.lt_of_not_le fun h=>tail_waits hs hc hn inv _ i rfl hin hun j h hj
   have h1:=H.2 j (ready_mono hj hji);obtain ⟨hjun,oj,hoj,hall⟩:=mem_ready.1 hj;have hnot:∀ e∈oj.after,Region.binds md e=true→e.on≠i:=fun e he hb heq=>by
    have h1:=hall e he hb;rw [heq,getD_both hun] at h1;cases h1
   have h2:=wpOp_putIf hoj (hfree j oj hoj hji hjun hnot) (fun cs b=>hsel i oi cs b hi) (fun cs b=>hsel j oj cs b hoj) hQ hy h1;have hfree':∀ k ok,ops[k]? = some ok→k≠i→(listed.setIfInBounds j true).getD k true=false→
     (∀ e∈ok.after,Region.binds md e=true→e.on≠i)→oi.apart ops ok=true:=fun k ok hk hki hunk hno=>by
    refine hfree k ok hk hki ?_ hno;by_cases hjk:j=k
    ·subst hjk;exact hjun
    ·rw [getD_set_ne true hjk] at hunk;exact hunk
   refine wpOp_mono (fun a' w' h3=>⟨fun _=>h3.2.1 hjn,ih (listed.setIfInBounds j true) a' w' (inv.set hj hjn) hfree' (ready_mono hr (Ne.symm hji)) h3.1 (h3.2.1 hjn) ?_⟩) h2;rw [Array.setIfInBounds_comm _ _ hji];exact h3.2.2
def D2 (P:Program) (ops:Array Oper) (Q:Exit→Act→World→Prop) (C:World→Prop) (n:Nat):List (Nat × Bool)→Act→World→Prop
 | [],a,w=>Q .normal a w
 | (i,true)::is,a,w=>∃ o v,ops[i]? = some o∧YieldsIf P ops C o v a∧D2 P ops Q C n is (a.put o.dst v) w
 | (i,false)::is,a,w=>wpOp P ops Q i (fun a' w'=>(i<n→C w')∧D2 P ops Q C n is a' w') a w
def Ej (md:Region.Mode) (ops:Array Oper) (n:Nat):List (Nat × Bool)→Array Bool→Bool
 | [],listed=>(Region.ready md ops listed).isEmpty
 | (i,true)::is,listed=>(Region.ready md ops listed).contains i&&decide (i<n)&&Region.free md ops listed i&&Ej md ops n is (listed.setIfInBounds i true)
 | (i,false)::is,listed=>decide (Region.ready md ops listed=[i])&&(is.isEmpty||decide (i<n))&&Ej md ops n is (listed.setIfInBounds i true)
theorem Qe (hsel:Region.noSelect ops=true) (hs:Region.sinkB md ops n=true) (hc:Region.chainB md ops n=true) (hn:n<ops.size)
  (hQ:∀ c a tm w,Q (.panic c) { tmps:=tm,defers:=a.defers } w→Q (.panic c) a w):∀ (is:List (Nat × Bool)) (listed:Array Bool) (a:Act) (w:World),(is≠[]→HeadInv md ops n listed)→Ej md ops n is listed=true→(is≠[]→C w)→
   D2 P ops Q C n is a w→Jy P md ops Q C n is.length listed a w
 | [],listed,a,w,_,hB,_,h=>⟨by simpa [Ej] using hB,h⟩
 | (i,true)::is,listed,a,w,inv,hB,hC,⟨o,v,ho,hy,h⟩=>by
  simp only [Ej,Bool.and_eq_true,decide_eq_true_eq] at hB;obtain ⟨⟨⟨hr,hin⟩,hf⟩,hB'⟩:=hB;have hr':i∈Region.ready md ops listed:=by simpa using hr
  have inv:=inv (by simp);have hC:=hC (by simp);exact Ajh ho (Region.noSelect_spec hsel) hs hc hn hin (fun c a w hp=>by
    cases hd:o.dst with
    | none=>rw [hd] at hp;exact hp
    | some t=>rw [hd] at hp;exact hQ c a _ w hp) _ listed a w inv (Region.free_spec ho hf) hr' hy hC
   (Qe hsel hs hc hn hQ is _ _ w (fun _=>inv.set hr' hin) hB' (fun _=>hC) h)
 | (i,false)::is,listed,a,w,inv,hB,hC,h=>by
  simp only [Ej,Bool.and_eq_true,decide_eq_true_eq,Bool.or_eq_true,List.isEmpty_iff] at hB;obtain ⟨⟨hr,hin⟩,hB'⟩:=hB;have hr':i∈Region.ready md ops listed:=by rw [hr];simp
  refine ⟨fun h1=>(by rw [hr] at h1;cases h1),fun j hj=>?_⟩;rw [hr] at hj;have:j=i:=by simpa using hj
  subst this;refine wpOp_mono (fun a' w' h'=>⟨h'.1,Qe hsel hs hc hn hQ is _ a' w' (fun hne=>?_) hB' (fun hne=>?_) h'.2⟩) h
  ·rcases hin with h0|h0
   ·exact absurd h0 hne
   ·exact (inv (by simp)).set hr' h0
  ·rcases hin with h0|h0
   ·exact absurd h0 hne
   ·exact h'.1 h0
def Ku (md:Region.Mode) (ops:Array Oper) (n:Nat) (is:List (Nat × Bool)):Bool:=
 Region.noSelect ops&&Region.sinkB md ops n&&Region.chainB md ops n&&decide (n<ops.size)&&decide (is.length=ops.size)&&Ej md ops n is (Array.replicate ops.size false)
theorem Dh {id:Nat} {a:Act} {w:World} (n:Nat) (is:List (Nat × Bool)) (hm:P.follows .mixedOrders=true) (hB:Ku .any ops n is=true) (hQ:∀ c a tm w,Q (.panic c) { tmps:=tm,defers:=a.defers } w→Q (.panic c) a w)
  (C:World→Prop) (hC:C w.drew) (h:D2 P ops Q C n is a w.drew):(Code.region id ops true).wp P Q a w:=by
 simp only [Ku,Bool.and_eq_true,decide_eq_true_eq] at hB;obtain ⟨⟨⟨⟨⟨hsel,hs⟩,hc⟩,hn⟩,hlen⟩,hB⟩:=hB;refine wp_region_any hm (W9 (C:=C) (n:=n) _ _ _ _ ?_);rw [← hlen];have inv:HeadInv .any ops n (Array.replicate is.length false):=by
  rw [hlen];exact ⟨by simp,fun j oj _ hl=>(by rw [getD_replicate_false] at hl;cases hl),fun t _ ht=>getD_in (by simpa using ht) (getD_replicate_false _ _)⟩
 exact Qe hsel hs hc hn hQ is _ a _ (fun _=>inv) (by rw [hlen];exact hB) (fun _=>hC) h
theorem Di {a:Act} {w:World} (h:Q .normal a w):D2 P ops Q C n [] a w:=h
theorem Fr {i:Nat} {is:List (Nat × Bool)} {o:Oper} {v:Value} {a:Act} {w:World} (h0:ops[i]? = some o) (hw:Region.wanted o (yielded ops a.tmps)=true) (hy:∀ W,C W→(execOp a.eval o).run P W=.ok (.value v) W)
  (h:D2 P ops Q C n is (a.put o.dst v) w):D2 P ops Q C n ((i,true)::is) a w:=⟨o,v,h0,.inl ⟨hw,hy⟩,h⟩
theorem C8 {i:Nat} {is:List (Nat × Bool)} {o:Oper} {a:Act} {w:World} (h0:ops[i]? = some o)
  (h:∀ K:Act→World→Prop,(∀ a' w',(i<n→C w')→D2 P ops Q C n is a' w'→K a' w')→if Region.wanted o (yielded ops a.tmps)=true then Oper.wp P o a w K Q else K (a.put o.dst undef) w):D2 P ops Q C n ((i,false)::is) a w:=by
 show wpOp P ops Q i _ a w;unfold wpOp;rw [h0];have:=h _ (fun a' w' hc ht=>And.intro hc ht);show if _ then _ else _
 by_cases hw:Region.wanted o (yielded ops a.tmps)=true
 ·rw [if_pos hw] at this ⊢;exact .inl this
 ·rw [if_neg hw] at this ⊢;exact this
end
end Go.Proofs.YtaiogolidlamiaaGreatDoor
