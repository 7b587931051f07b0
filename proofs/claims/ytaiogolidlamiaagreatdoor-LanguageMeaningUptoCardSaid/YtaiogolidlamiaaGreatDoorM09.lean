import Derived.Deep.DeepCutAuto
import Derived.Test.YtaiogolidlamiaaGreatDoorM08
import Derived.Test.YtaiogolidlamiaaGreatDoorM07
set_option linter.unusedVariables false
set_option linter.unusedSimpArgs false
namespace Go.Proofs.YtaiogolidlamiaaGreatDoor
set_option maxRecDepth 100000
open Go.RowKit Go.Shelf
def ov:Option Nat→Value
 | none=>.int .i64 (-1)
 | some i=>iv i
theorem Acs (o:Option Nat):∃ z:Int,ov o=.int .i64 z∧(o=none→z=-1)∧∀ i,o=some i→z=(i:Int):=by
 cases o with
 | none=>exact ⟨-1,rfl,fun _=>rfl,fun i h=>by cases h⟩
 | some i=>exact ⟨i,rfl,(by intro h;cases h),fun j h=>by cases h;rfl⟩
def Dn (n k:Nat):List (Option Nat):=(List.range n).map fun q=>if q<k then none else some 0
theorem Gq (n k:Nat):(Dn n k).length=n:=by simp [Dn]
theorem Pi (n:Nat):Dn n 0=List.replicate n (some 0):=by
 apply List.ext_getElem?;intro i;simp only [Dn,List.getElem?_map,List.getElem?_replicate,Nat.not_lt_zero,if_false];by_cases h:i<n
 ·simp [h]
 ·simp [h]
theorem Pk (n:Nat):Dn n n=List.replicate n none:=by
 apply List.ext_getElem?;intro i;simp only [Dn,List.getElem?_map,List.getElem?_replicate];by_cases h:i<n
 ·simp [h]
 ·simp [h]
theorem Pj (n k:Nat) (hk:k<n):(Dn n k).set k none=Dn n (k+1):=by
 apply List.ext_getElem?;intro i;rw [List.getElem?_set,Gq];simp only [Dn,List.getElem?_map];by_cases h:i<n
 ·rw [List.getElem?_range h];by_cases e:k=i
  ·subst e;simp [hk]
  ·simp only [e,if_false,Option.map_some];by_cases h1:i<k
   ·rw [if_pos h1,if_pos (by omega)]
   ·rw [if_neg h1,if_neg (by omega)]
 ·rw [if_neg (by omega)];simp [h]
theorem Ade (x:UInt8) (y:Nat) (hy:y<256):(ofL [x]).getLsbD y=true↔y=x.toNat:=by
 show (Bj 0#256 (x.toNat:Int)).getLsbD y=true↔_;rw [Jc _ _ _ x.toNat_lt];simp
theorem Aem (z:Nat) (hz:z<65536):(A4 z).map bv=[.int .u8 ((z:Int) % 256),.int .u8 ((z:Int) / 256)]:=by
 simp only [A4,List.map_cons,List.map_nil,bv,UInt8.toNat_ofNat'];rw [show z / 256 % 2 ^ 8=z / 256 by omega];simp
theorem Aik (w:World) (x:UInt8):By (w.alloc (.cells #[bv x] 5)) (.slice (some ⟨w.heap.size,0,none⟩) 1 1) [x]:=by
 refine ⟨by simp,.inr ⟨by simp,w.heap.size,0,1,rfl,by rw [World.size_alloc];omega,fun i hi=>?_⟩⟩;have:i<1:=by simpa using hi
 obtain rfl:i=0:=by omega
 exact cell_of_row _ w.heap.size 0 _ _ _ (Ab w _)
theorem Aij (w:World) (b:Nat):By (w.alloc (.cells #[.int .u8 (IntKind.u8.wrap (b:Int))] 5)) (.slice (some ⟨w.heap.size,0,none⟩) 1 1) [UInt8.ofNat b]:=
 Aik w (UInt8.ofNat b)
set_option maxHeartbeats 4000000 in
theorem Ad8 (t:Tbl) (hv:TVal t) (hn:t.nxt.length≤65536) (N R:List Nat) (hN:N.length=t.nxt.length) (hR0:0<R.length) (hRl:R.length≤65536) (hRm:∀ i,i<R.length→R.getD i 0<t.nxt.length)
  (hB:∀ i,i<R.length→∀ k,k<t.cells→N.getD (t.ent2 (R.getD i 0) k) 0<65536) (A:Array Value) (vN vR:Value) (w:World) (h:IsT w A t) (hiN:Ints w vN N) (hiR:Ints w vR R) :
  Calls Tryz.prog 112 #[.agg A,vN,vR] w fun e w'=>∃ vK vC K C,e=.returned (.tuple #[vK,vC])∧Merged t (fun s=>N.getD s 0) R K C∧Ints w' vK K∧Cs w' vC C∧Ext w w':=by
 obtain ⟨bn,on,cn,ba,oa,ca,hAs,hAo,hAc,hA6,hA7,_,hR,_⟩:=h.opened hv;have hiN':Sl w vN 1 t.nxt.length (fun i=>iv (N.getD i 0)):=by rw [← hN];exact hiN
 obtain ⟨bN,oN,cN,rfl,hNc⟩:=Sl.form hiN' hv.pos;obtain ⟨bR,oR,cR,rfl,hRc⟩:=Sl.form hiR hR0;have hn0:=hv.pos;have hm0:=hv.cpos;have hm1:=hv.cle;have HR:=Lib.hid hR;have HV:=Lib.hid hv;have HBB:=Lib.hid hB;have HRM:=Lib.hid hRm;have HNC:=Lib.hid (fun k (hk:k<t.nxt.length)=>hNc k (by omega));have HRC:=Lib.hid (fun k (hk:k<R.length)=>hRc k (by omega));obtain ⟨i0,hi,hz0,hz1,hz2⟩:=info_parts Dm;obtain ⟨i5,hi5,hy0,hy1,hy2⟩:=info_parts (show (Tryz.prog.info? 5).map (fun i=>(i.zero,i.size,i.bytes))=some (some (.int .u8 0),1,1) by kernel_rfl);obtain ⟨i6,hi6,hx0,hx1,hx2⟩:=info_parts (show (Tryz.prog.info? 62).map (fun i=>(i.zero,i.size,i.bytes))=some (some (.agg zA),4,32) by kernel_rfl);have hE0:=(Ext.refl w).alloc (.cells A 108);have H0:=Ab w (.cells A 108);have HK:=Lib.hid (fun (W:World) (hW:Ext (w.alloc (.cells A 108)) W)=>(cell_of_row W w.heap.size 257 _ _ _ (hW.heap H0)).trans hA7);have HK6:=Lib.hid (fun (W:World) (hW:Ext (w.alloc (.cells A 108)) W)=>(cell_of_row W w.heap.size 256 _ _ _ (hW.heap H0)).trans hA6);have HKC:=Lib.hid (fun (W:World) (hW:Ext (w.alloc (.cells A 108)) W) (b:Nat) (hb:b<256)=>(cell_of_row W w.heap.size b _ _ _ (hW.heap H0)).trans (hAc b hb));clear hR hv h H0 hA6 hA7 hAc hAo hAs hNc hRc hiN hiN' hiR hRm hB hN;have hmm:=@run_makeMap Tryz.prog;go_enter Tryz.func112,Tryz.ntmps112;go_upto_region 1 with (fail)
 obtain ⟨w1,hw1⟩:∃ W,w.alloc (.cells A 108)=W:=⟨_,rfl⟩;rw [hw1] at hE0 HK HK6 HKC;simp only [hw1];clear hw1;go_upto_region 2 with (fail)
 clear hmm;have hE3:=(Ext.refl w1).alloc (.map #[] 0);have hmp:=I8 w1 9 Cu;have hs3:(w1.alloc (.map #[] 0)).heap.size=w1.heap.size+1:=World.size_alloc _ _;obtain ⟨w3,hw3⟩:∃ W,w1.alloc (.map #[] 0)=W:=⟨_,rfl⟩;simp only [hw3] at *;clear hw3;have k6:=HK6.out w3 hE3;go_upto_region 5 with (at_make;refine wpList_make_full _ rfl _ _ 68 rfl w3.heap.size 3 i0 (.int .i64 0) 1 Tryz.underlying68 hi hz0 hz1 .i64 .i64 _ _ t.cells rfl rfl rfl rfl (by rw [hz2];omega) (by unfold maxLen;omega) (Nat.le_refl _) ?_;intro w4 hown4 hgr4)
 have hE4:=hE3.grown hgr4 (fun k e=>by cases e);have hO4:w4.ownsRow w3.heap.size 3 1 (.slice (some ⟨w3.heap.size,0,none⟩) t.cells t.cells) t.cells ((Dn t.cells 0).map ov):=by rw [Pi,← Ca];exact hown4
 have hmp4:=hmp.kept hgr4 (by simp);have hsz4:w1.heap.size+1<w4.heap.size:=by have:w3.heap.size<w4.heap.size:=(hO4.lt _ rfl).2;omega
 rw [hs3] at hO4;clear hown4 hgr4 hmp hE3 k6;generalize hgn:w3.heap.size=gn at *;obtain rfl:gn=w1.heap.size+1:=hs3;go_wp2_with (fail);go_loopw [27] (fun i W=>∃ k:Nat,k≤t.cells∧i=.int .i64 k∧Ext w1 W∧w1.heap.size+1<W.heap.size∧
   W.ownsRow (w1.heap.size+1) 3 1 (.slice (some ⟨w1.heap.size+1,0,none⟩) t.cells t.cells) t.cells ((Dn t.cells k).map ov)∧IsMp W 9 Cu w1.heap.size 0 (fun _=>none))
  (fun i _=>t.cells-(intOf i).toNat)
 case atStart=>exact ⟨0,by omega,rfl,hE4,hsz4,hO4,hmp4⟩
 case round=>
  clear hE4 hsz4 hO4 hmp4;obtain ⟨k,hk,rfl,hE4,hsz4,hO4,hmp4⟩:=hrel;by_cases hlt:k<t.cells
  ·have co:=Ap none hO4 (Gq _ _).symm k (by rw [Gq];exact hlt);have fo:=hO4.frozenAt k;obtain ⟨hO5,hgr5⟩:=A3 hO4 k none;rw [Pj _ _ hlt] at hO5;have hE5:=hE4.grown hgr5 (fun k e=>by cases e;omega);have hmp5:=hmp4.kept hgr5 (by simp);have hsz5:=Nat.lt_of_lt_of_le hsz4 hgr5.size;clear hgr5 hO4 hE4 hmp4;go_wp2_with (fail);go_roundw
   case rel=>exact ⟨k+1,by omega,by go_num,hE5,hsz5,hO5,hmp5⟩
   case measure=>simp [intOf];omega
  ·obtain rfl:k=t.cells:=by omega
   rw [Pk] at hO4;have hI4:=World.ownsRow_nil wr (w1.heap.size+1+1) 3 1;have hC4:=World.ownsRow_nil wr (w1.heap.size+1+1) 62 4;go_wp2_with (fail);go_loopw [9,10,34] (fun vk vc i W=>∃ (b:Nat) (bs:List Nat) (c:Nat→Nat) (f:List UInt8→Option Nat) (O:List (Option Nat)) (C:List Cls) (ak ac:Option Addr) (ck cc:Nat),b≤256∧i=.int .i64 b∧vk=.slice ak bs.length ck∧vc=.slice ac C.length cc∧Ext w1 W∧w1.heap.size+1<W.heap.size∧
     W.ownsRow (w1.heap.size+1) 3 1 (.slice (some ⟨w1.heap.size+1,0,none⟩) t.cells t.cells) t.cells (O.map ov)∧IsMp W 9 Cu w1.heap.size bs.length f∧
     W.ownsRow (w1.heap.size+1+1) 3 1 vk bs.length ((bs.map t.cell).map iv)∧Row W (w1.heap.size+1+1) vc C∧Hid (MInv t.cell t.cells (Ia t (fun s=>N.getD s 0) R) b b c bs f O C))
    (fun _ _ i _=>256-(intOf i).toNat)
   case atStart=>exact ⟨0,[],_,_,_,[],none,none,0,0,by omega,rfl,rfl,rfl,hE4,hsz4,hO4,hmp4,hI4,hC4,Lib.hid (Adz _ _ _ fun _=>0)⟩
   case round=>
    clear hE4 hsz4 hO4 hmp4 hI4 hC4;obtain ⟨b,bs,c,f,O,C,ak,ac,ck,cc,hb,rfl,rfl,rfl,hE4,hsz4,hO4,hmp4,hI4,hC4,HM⟩:=hrel;have hbl:=HM.out.fi.le;have hlC:=Lib.hid HM.out.lenC;have hCl:C.length≤256:=by rw [hlC.out];omega
    by_cases hlt:b<256
    ·obtain ⟨w4,hw4⟩:∃ W,W=wr:=⟨_,rfl⟩;subst hw4;have kb:=HKC.out w4 hE4 b hlt;have hcl:=HV.out.cell_lt b hlt;have co:=Ap none hO4 HM.out.lenO.symm (t.cell b) (by rw [HM.out.lenO];exact hcl);have HS:=Lib.hid (Ad0 HM.out);have HOl:=Lib.hid (Ad2 HM.out hcl);have HNw:=Lib.hid (Ad3 HM.out hcl);obtain ⟨q,hq⟩:∃ q,t.cell b=q:=⟨_,rfl⟩;have HOL:Hid (O.length=t.cells):=Lib.hid HM.out.lenO;rw [hq] at kb hcl co HS HOl HNw;have HQ:=Lib.hid hq;clear hq;obtain ⟨o,ho⟩:∃ o,O.getD q none=o:=⟨_,rfl⟩;rw [ho] at co HS HOl HNw;have HO:=Lib.hid ho;clear ho;obtain ⟨z,hz,hzn,hzs⟩:=Acs o;rw [hz] at co;have HZN:=Lib.hid hzn;have HZS:=Lib.hid hzs;clear hz hzn hzs;go_upto_if 45 with (fail)
     go_cut [9,10] (fun vk vc W=>∃ (bs:List Nat) (c:Nat→Nat) (f:List UInt8→Option Nat) (O:List (Option Nat)) (C:List Cls) (ak ac:Option Addr) (ck cc:Nat),vk=.slice ak bs.length ck∧vc=.slice ac C.length cc∧Ext w1 W∧w1.heap.size+1<W.heap.size∧
      W.ownsRow (w1.heap.size+1) 3 1 (.slice (some ⟨w1.heap.size+1,0,none⟩) t.cells t.cells) t.cells (O.map ov)∧IsMp W 9 Cu w1.heap.size bs.length f∧
      W.ownsRow (w1.heap.size+1+1) 3 1 vk bs.length ((bs.map t.cell).map iv)∧Row W (w1.heap.size+1+1) vc C∧Hid (MInv t.cell t.cells (Ia t (fun s=>N.getD s 0) R) (b+1) b c bs f O C))
     case first=>
      cases o with
      | some i=>
       have HS':=Lib.hid (HS.out i rfl);obtain rfl:=HZS.out i rfl;go_wp2_with (fail);go_meet
       exact ⟨bs,_,f,O,C,ak,ac,ck,cc,rfl,rfl,hE4,hsz4,hO4,hmp4,hI4,hC4,HS'⟩
      | none=>
       obtain rfl:=HZN.out rfl;go_upto_region 15 with (fail)
       go_upto_region 16 with (at_make;refine wpList_make_own _ rfl _ _ 22 rfl (w1.heap.size+1+1) 5 i5 (.int .u8 0) 1 Tryz.underlying22 hi5 hy0 hy1 .i64 .i64 _ (2*R.length) rfl rfl (by push_cast;rfl) (by rw [hy2];omega) (by unfold maxLen;omega) (by omega) ?_;intro w5 hown5 hgr5)
       have hE5:=hE4.grown hgr5 (fun k e=>by cases e);have hO5:=Bt hO4 hgr5;have hI5:=Bt hI4 hgr5;have hC5:=Bt hC4 hgr5;have hmp5:=hmp4.kept hgr5 (by simp);have hsz5:w1.heap.size+1<w5.heap.size:=Nat.lt_of_lt_of_le hsz4 hgr5.size;obtain ⟨gf,hgfd⟩:∃ gf:Nat→Nat,(fun k=>N.getD (t.ent2 (R.getD k 0) q) 0)=gf:=⟨_,rfl⟩;have HGF:=Lib.hid hgfd;have hK5:w5.ownsRow (w1.heap.size+1+1) 5 1 (.slice (some ⟨w4.heap.size,0,none⟩) (2*0) (2*R.length)) (2*0) ((Az gf 0).map bv):=hown5;clear hgfd hown5 hgr5 kb co;go_wp2_with (fail);go_loopw [15,52] (fun v i W=>∃ (k gk ckk:Nat),k≤R.length∧i=.int .i64 k∧v=.slice (some ⟨gk,0,none⟩) (2*k) ckk∧Ext w1 W∧w1.heap.size+1<W.heap.size∧
         W.ownsRow (w1.heap.size+1) 3 1 (.slice (some ⟨w1.heap.size+1,0,none⟩) t.cells t.cells) t.cells (O.map ov)∧IsMp W 9 Cu w1.heap.size bs.length f∧
         W.ownsRow (w1.heap.size+1+1) 3 1 (.slice ak bs.length ck) bs.length ((bs.map t.cell).map iv)∧Row W (w1.heap.size+1+1) (.slice ac C.length cc) C∧
         W.ownsRow (w1.heap.size+1+1) 5 1 v (2*k) ((Az gf k).map bv))
        (fun _ i _=>R.length-(intOf i).toNat)
       case atStart=>exact ⟨0,w4.heap.size,_,by omega,rfl,rfl,hE5,hsz5,hO5,hmp5,hI5,hC5,hK5⟩
       case round=>
        clear hE5 hsz5 hO5 hmp5 hI5 hC5 hK5;obtain ⟨k,gk,ckk,hk,rfl,rfl,hE5,hsz5,hO5,hmp5,hI5,hC5,hK5⟩:=hrel;obtain ⟨w5,hw5⟩:∃ W,W=wr:=⟨_,rfl⟩;subst hw5;by_cases hkr:k<R.length
        ·have cr:=(hE0.trans hE5).cell (HRC.out k hkr);have hsn:=HRM.out k hkr;have hz:=HBB.out k hkr q hcl;obtain ⟨s,hsd⟩:∃ s,R.getD k 0=s:=⟨_,rfl⟩;have HZD:Hid (gf k=N.getD (t.ent2 s q) 0):=Lib.hid (by rw [← HGF.out,← hsd]);rw [hsd] at cr hsn hz;clear hsd;have hyn:=HV.out.tgt s hsn q hcl;obtain ⟨br,or',cr',hrc,hrr⟩:=(HR.out.ext (hE0.trans hE5)) s hsn;have cy:=hrr q hcl;have k7:=HK.out w5 hE5;obtain ⟨y,hyd⟩:∃ y,t.ent2 s q=y:=⟨_,rfl⟩;rw [hyd] at cy hyn hz HZD;clear hyd hrr;have cz:=(hE0.trans hE5).cell (HNC.out y hyn);obtain ⟨z,hzd⟩:∃ z,N.getD y 0=z:=⟨_,rfl⟩;rw [hzd] at hz HZD cz;clear hzd;go_upto_region 20 with (fail)
         clear cr cy cz hrc k7;go_upto_region 21 with (at_builtin;refine wpList_append_lies _ rfl _ _ 22 rfl (w1.heap.size+1+1) 5 i5 (.int .u8 0) 1 1 Tryz.underlying22 hi5 hy0 hy1 hy2 rfl (by decide) _ _ _ rfl (hK5.alloc _) _ 2 2 [.int .u8 ((z:Int) % 256),.int .u8 ((z:Int) / 256)] rfl rfl (Jo _ _ _ _) (by simp [Value.oneCell']) (by decide) (by unfold maxLen;omega) (by omega) (by simp;omega) _ rfl ?_;intro g6 c6 w6 hK6 hgr6 _ _)
         have hE6:Ext w1 w6:=(hE5.alloc _).grown hgr6 (fun k e=>by have:=(hK5.lt k e).1;omega);have hO6:=(hO5.alloc _).kept hgr6 (Ai hO5 hK5 (by decide));have hI6:=(hI5.alloc _).kept hgr6 (Ai hI5 hK5 (by decide));have hC6:=(hC5.alloc _).kept hgr6 (Ai hC5 hK5 (by decide));have hmp6:=(hmp5.alloc _).kept hgr6 (hmp5.ne_row hK5);have hsz6:w1.heap.size+1<w6.heap.size:=by
          have h1:=hgr6.size;rw [World.size_alloc] at h1;omega
         have hK6:w6.ownsRow (w1.heap.size+1+1) 5 1 (.slice (some ⟨g6,0,none⟩) (2*(k+1)) c6) (2*(k+1)) ((Az gf (k+1)).map bv):=by
          rw [show Az gf (k+1)=Az gf k++A4 z by rw [Az,HZD.out],List.map_append,Aem z hz];exact hK6
         clear hO5 hI5 hC5 hmp5 hK5 hgr6 hE5 hsz5;go_wp2;go_roundw
         case rel=>exact ⟨k+1,g6,c6,by omega,by go_num,rfl,hE6,hsz6,hO6,hmp6,hI6,hC6,hK6⟩
         case measure=>simp [intOf];omega
        ·obtain rfl:k=R.length:=by omega
         have hlenK:(Az gf R.length).length=2*R.length:=Ib _ _;have hkeyS:Ia t (fun s=>N.getD s 0) R q=Az gf R.length:=by
          show Az (fun k=>N.getD (t.ent2 (R.getD k 0) q) 0) R.length=_;rw [HGF.out]
         obtain ⟨ky,hky⟩:∃ ky,Az gf R.length=ky:=⟨_,rfl⟩;rw [hky] at hlenK hkeyS hK5;have HKY:=Lib.hid hkeyS;clear hky hkeyS;have hcv:(convert 22 9 (.slice (some ⟨gk,0,none⟩) (2*R.length) ckk)).run Tryz.prog w5=.ok (Cu ky) w5:=Ke _ _ _ (By.of_owns (by rw [hlenK];exact hK5) (by rw [hlenK];omega));have hkey:=M7 ky (by rw [hlenK];unfold maxLen;omega);have HLK:=Lib.hid hlenK;clear hlenK;have HOl:=Lib.hid (HOl.out (by simp));have HNw:=Lib.hid (HNw.out (by simp));cases hf:f ky with
         | some i=>
          have HM':=Lib.hid (HOl.out i (by rw [HKY.out];exact hf));have co:=Ap none hO5 HOL.out.symm q (by rw [HOL.out];exact hcl);have fo:=hO5.frozenAt q;obtain ⟨hO6,hgr6⟩:=A3 hO5 q (some i);have hE6:=hE5.grown hgr6 (fun k e=>by cases e;omega);have hI6:=hI5.kept hgr6 (Ao hI5 (by omega));have hC6:=hC5.kept hgr6 (Ao hC5 (by omega));have hmp6:=hmp5.kept hgr6 (by simp);have hsz6:=Nat.lt_of_lt_of_le hsz5 hgr6.size;clear hgr6 hI5 hO5 hC5 hE5 hsz5;go_wp2_with (at_lookup;refine D8 rfl _ _ 155 rfl Fc Tryz.underlying155 rfl hmp5 ky rfl hkey ?_;rw [hf];dsimp only [Option.isSome,Option.getD]);go_meet
          exact ⟨bs,_,f,_,C,ak,ac,ck,cc,rfl,rfl,hE6,hsz6,hO6,hmp6,hI6,hC6,HM'⟩
         | none=>
          have HM':=HNw.out (by rw [HKY.out];exact hf);rw [HKY.out] at HM';have HM':=Lib.hid HM';go_upto_region 25 with (at_lookup;refine D8 rfl _ _ 155 rfl Fc Tryz.underlying155 rfl hmp5 ky rfl hkey ?_;rw [hf];dsimp only [Option.isSome,Option.getD])
          go_upto_region 26 with (at_mapUpdate;refine Ik rfl _ _ _ 155 rfl Fc Tryz.underlying155 rfl hmp5 (by unfold maxLen;omega) M8 ky rfl hkey bs.length rfl (by omega) ?_;intro w6 hmp6 hgr6)
          clear hcv;have hO6:=hO5.kept hgr6 (hmp5.far hO5);have hI6:=hI5.kept hgr6 (hmp5.far hI5);have hC6:=hC5.kept hgr6 (hmp5.far hC5);have hE6:=hE5.grown hgr6 (fun k e=>by cases e;omega);have hsz6:=Nat.lt_of_lt_of_le hsz5 hgr6.size;clear hgr6 hI5 hO5 hC5 hE5 hsz5 hmp5 hK5;go_upto_region 27 with (at_builtin;refine wpList_append_lies _ rfl _ _ 68 rfl (w1.heap.size+1+1) 3 i0 (.int .i64 0) 1 8 Tryz.underlying68 hi hz0 hz1 hz2 rfl (by decide) _ _ _ rfl (hI6.alloc _) _ 1 1 [iv q] rfl rfl (cell_one_new _ _ _) (by simp [Value.oneCell']) (by decide) (by unfold maxLen;omega) (by omega) (by simp;omega) _ rfl ?_;intro g7 c7 w7 hI7 hgr7 _ _)
          have hO7:=(hO6.alloc (.cells #[iv q] 3)).kept hgr7 (.inr (fun e=>by have:=(hI6.lt (w1.heap.size+1) e.symm).1;omega));have hC7:=(hC6.alloc (.cells #[iv q] 3)).kept hgr7 (Ai hC6 hI6 (by decide));have hmp7:=(hmp6.alloc (.cells #[iv q] 3)).kept hgr7 (fun e=>by have:=(hI6.lt w1.heap.size e.symm).1;omega);have hE7:=(hE6.alloc (.cells #[iv q] 3)).grown hgr7 (fun k e=>by have:=(hI6.lt k e).1;omega);have hsz7:w1.heap.size+1<w7.heap.size:=by
           have:=hgr7.size;rw [World.size_alloc] at this;omega
          have HI7:Hid (w7.ownsRow (w1.heap.size+1+1) 3 1 (.slice (some ⟨g7,0,none⟩) (bs++[b]).length c7) (bs++[b]).length (((bs++[b]).map t.cell).map iv)):=Lib.hid (by
           rw [List.length_append,List.map_append,List.map_append,List.map_singleton,List.map_singleton,HQ.out];exact hI7)
          clear hgr7 hI6 hO6 hC6 hE6 hsz6 hmp6;have hnew:=Kq w7 0#256;rw [Ee] at hnew;have HNC':=Lib.hid hnew;clear hnew;go_upto_region 28 with (at_builtin;refine wpList_append_lies _ rfl _ _ 26 rfl (w1.heap.size+1+1) 62 i6 (.agg zA) 4 32 Tryz.underlying26 hi6 hx0 hx1 hx2 rfl (by decide) _ _ _ rfl (hC7.alloc _) _ 1 1 (B0 0#256) rfl rfl HNC'.out (by simp [B0,Value.oneCell']) (by decide) (by unfold maxLen;omega) (by omega) (by simp;omega) _ rfl ?_;intro g8 c8 w8 hC8 hgr8 _ _)
          have hO8:=(hO7.alloc (.cells zA 62)).kept hgr8 (Ai hO7 hC7 (by decide));have HI8:Hid (w8.ownsRow (w1.heap.size+1+1) 3 1 (.slice (some ⟨g7,0,none⟩) (bs++[b]).length c7) (bs++[b]).length (((bs++[b]).map t.cell).map iv)):=Lib.hid ((HI7.out.alloc (.cells zA 62)).kept hgr8 (Ai HI7.out hC7 (by decide)));have hmp8:=(hmp7.alloc (.cells zA 62)).kept hgr8 (fun e=>by have:=(hC7.lt w1.heap.size e.symm).1;omega);have hE8:=(hE7.alloc (.cells zA 62)).grown hgr8 (fun k e=>by have:=(hC7.lt k e).1;omega);have hsz8:w1.heap.size+1<w8.heap.size:=by
           have:=hgr8.size;rw [World.size_alloc] at this;omega
          have HC8:Hid (Row w8 (w1.heap.size+1+1) (.slice (some ⟨g8,0,none⟩) (C++[0#256]).length c8) (C++[0#256])):=Lib.hid (by
           show World.ownsRow _ _ _ _ _ _ _;rw [Ln,Lm,List.length_append];exact hC8)
          clear hgr8 hO7 hC7 hE7 hsz7 hmp7 HI7 HNC' hC8 hI7;have co:=Ap none hO8 HOL.out.symm q (by rw [HOL.out];exact hcl);have fo:=hO8.frozenAt q;obtain ⟨hO9,hgr9⟩:=A3 hO8 q (some bs.length);have hE9:=hE8.grown hgr9 (fun k e=>by cases e;omega);have HI9:=Lib.hid (HI8.out.kept hgr9 (Ao HI8.out (by omega)));have HC9:=Lib.hid (HC8.out.kept hgr9 (Ao HC8.out (by omega)));have hmp9:=hmp8.kept hgr9 (by simp);have hsz9:=Nat.lt_of_lt_of_le hsz8 hgr9.size;clear hgr9 hO8 hE8 hsz8 hmp8 HI8 HC8;go_wp2;go_meet
          refine ⟨bs++[b],_,_,_,C++[0#256],some ⟨g7,0,none⟩,some ⟨g8,0,none⟩,c7,c8,?_,?_,hE9,hsz9,hO9,?_,?_,?_,HM'⟩
          ·rw [List.length_append];rfl
          ·rw [List.length_append];rfl
          ·rw [List.length_append];exact hmp9
          ·have:=HI9.out;rw [show (bs++[b]).length=bs.length+1 by simp] at this ⊢;exact this
          ·have h9:=HC9.out;show World.ownsRow _ _ _ _ _ _ _;have h9:World.ownsRow _ _ _ _ _ _ _:=h9;rw [show (C++[0#256]).length=C.length+1 by simp] at h9 ⊢;exact h9
     case rest=>
      clear hE4 hsz4 hO4 hmp4 hI4 hC4 HM HS HOl HNw HO HOL HZN HZS co kb hbl hlC hCl;obtain ⟨bs,c,f,O,C,ak,ac,ck,cc,rfl,rfl,hE4,hsz4,hO4,hmp4,hI4,hC4,HM⟩:=hcut;have hi4:=HM.out.fi.lt b (by omega);have hat:=HM.out.at_ b (by omega);rw [HQ.out] at hat;have hlC:=Lib.hid HM.out.lenC;have HP:=Lib.hid (Ad1 HM.out (ofL [UInt8.ofNat b]) fun y hy=>by rw [Ade _ _ hy,u8n b hlt]);have HOL:Hid (O.length=t.cells):=Lib.hid HM.out.lenO;obtain ⟨i,hid⟩:∃ i,c b=i:=⟨_,rfl⟩;rw [hid] at hi4 hat HP;have hiC:i<C.length:=by rw [hlC.out];exact hi4
      have co:=Ap none hO4 HOL.out.symm q (by rw [HOL.out];exact hcl);rw [hat] at co;replace co:wc.cell? ⟨w1.heap.size+1,q,none⟩=some (iv i):=co;clear hid hat HM;obtain ⟨g,rfl⟩:=Ob hC4 (by omega);obtain ⟨a0,a1,a2,a3⟩:=Po hC4 i hiC;have hkeep0:∀ W,Ext wc W→∀ j,W.frozen? ⟨g,j,none⟩=false:=fun W hW j=>(Ah hC4 hW).frozenAt j
      obtain ⟨D,hD⟩:∃ D,C.getD i 0#256=D:=⟨_,rfl⟩;rw [hD] at a0 a1 a2 a3 HP;clear hD;have hkeep:∀ W,Ext wc W→Ext wc W∧W.cell? ⟨w1.heap.size+1,q,none⟩=some (iv i)∧W.cell? ⟨g,i*4,none⟩=some (.int .u64 (wd D 0))∧W.cell? ⟨g,i*4+1,none⟩=some (.int .u64 (wd D 1))∧W.cell? ⟨g,i*4+2,none⟩=some (.int .u64 (wd D 2))∧W.cell? ⟨g,i*4+3,none⟩=some (.int .u64 (wd D 3))∧
        W.frozen? ⟨g,i*4,none⟩=false∧W.frozen? ⟨g,i*4+1,none⟩=false∧W.frozen? ⟨g,i*4+2,none⟩=false∧W.frozen? ⟨g,i*4+3,none⟩=false:=
       fun W hW=>⟨hW,hW.cell co,hW.cell a0,hW.cell a1,hW.cell a2,hW.cell a3,hkeep0 W hW _,hkeep0 W hW _,hkeep0 W hW _,hkeep0 W hW _⟩
      have hk0:=hkeep wc (Ext.refl wc);have hW:=fun W=>Lib.hid (Q8 D (ofL [UInt8.ofNat b]) W)
      clear hkeep0 co a0 a1 a2 a3;go_upto_region 29 with (fail)
      refine Dh 18 [(0,true),(1,true),(2,true),(3,true),(4,true),(5,true),(6,true),(7,true),(8,true),(9,true),(10,true),(11,true),(12,true),(13,true),(14,false),(15,false),(16,false),(17,false),(18,false)] (by kernel_rfl) (by kernel_rfl) (fun _ _ _ _ h=>h)
       (fun W=>Ext wc W∧W.cell? ⟨w1.heap.size+1,q,none⟩=some (iv i)∧W.cell? ⟨g,i*4,none⟩=some (.int .u64 (wd D 0))∧W.cell? ⟨g,i*4+1,none⟩=some (.int .u64 (wd D 1))∧W.cell? ⟨g,i*4+2,none⟩=some (.int .u64 (wd D 2))∧W.cell? ⟨g,i*4+3,none⟩=some (.int .u64 (wd D 3))∧
        W.frozen? ⟨g,i*4,none⟩=false∧W.frozen? ⟨g,i*4+1,none⟩=false∧W.frozen? ⟨g,i*4+2,none⟩=false∧W.frozen? ⟨g,i*4+3,none⟩=false) (hkeep _ (Ext.refl wc).drew) ?_
      have hE5:=(Ext.refl wc).drew;obtain ⟨w5,hw5⟩:∃ W,wc.drew=W:=⟨_,rfl⟩;rw [hw5] at hE5;rw [hw5];clear hw5 hk0;iterate 14
       refine Fr (v:=?_) rfl rfl (fun W hW=>?_) ?_
       rotate_left
       ·obtain ⟨_,c0,c1,c2,c3,c4,c5,c6,c7,c8⟩:=hW;go_simp;first|done|with_reducible rfl
       simp only [Act.put,List.setIfInBounds_toArray,List.set_cons_zero,List.set_cons_succ]
      refine C8 rfl (fun K hK=>?_);go_simp;refine hK _ _ (fun _=>hkeep _ (hE5.alloc _)) ?_;clear hK K;refine C8 rfl (fun K hK=>?_);go_simp;with_reducible refine (Te [UInt8.ofNat b] _ _ (Aij w5 b)).mono ?_
      rintro e w6 ⟨rfl,hE6⟩;have hE6':=(hE5.alloc (.cells #[.int .u8 (IntKind.u8.wrap (b:Int))] 5)).trans hE6;refine hK _ _ (fun _=>hkeep _ hE6') ?_;clear hK K;refine C8 rfl (fun K hK=>?_);go_simp;with_reducible refine (hW _).out.mono ?_
      rintro e w7 ⟨rfl,hE7⟩;have hE7':=hE6'.trans hE7;have hk7:=hkeep _ hE7';refine hK _ _ (fun _=>hk7) ?_;clear hK K;obtain ⟨_,c0,c1,c2,c3,c4,c5,c6,c7,c8⟩:=hk7;refine C8 rfl (fun K hK=>?_);go_simp;refine hK _ _ (fun _=>hkeep _ hE7') ?_;clear hK K;refine C8 rfl (fun K hK=>?_);go_simp;refine hK _ _ (fun h=>absurd h (by omega)) ?_;clear hK K c0 c1 c2 c3 c4 c5 c6 c7 c8;refine Di ?_;have hC7:=Ah hC4 hE7';have hr:=Ng hC7 i hiC (D ||| ofL [UInt8.ofNat b]);have hE8:=(hE4.trans hE7').grown hr.2 (fun k e=>by cases e;have:=(hC4.lt g rfl).1;omega);have hO8:=(Ah hO4 hE7').kept hr.2 (Ai hO4 hC4 (by decide));have hI8:=(Ah hI4 hE7').kept hr.2 (Ai hI4 hC4 (by decide));have hmp8:=(hmp4.ext hE7').kept hr.2 (hmp4.ne_row hC4);have hsz8:=Nat.lt_of_lt_of_le (Nat.lt_of_lt_of_le hsz4 hE7'.size) hr.2.size;have hC8:Row (w7.setCells g (i*4) (Aa (D ||| ofL [UInt8.ofNat b])).toList) (w1.heap.size+1+1) (.slice (some ⟨g,0,none⟩) (C.set i (D ||| ofL [UInt8.ofNat b])).length cc) (C.set i (D ||| ofL [UInt8.ofNat b])):=by
       have:=hr.1;show World.ownsRow _ _ _ _ _ _ _;rw [show Row _ _ _ _=World.ownsRow _ _ _ _ _ _ _ from rfl,List.length_set] at this;rw [List.length_set];exact this
      have hlen:(C.set i (D ||| ofL [UInt8.ofNat b])).length=C.length:=List.length_set;rw [hlen] at hC8;clear hr hC7;go_wp2;go_roundw
      case rel=>exact ⟨b+1,bs,c,f,O,C.set i (D ||| ofL [UInt8.ofNat b]),ak,some ⟨g,0,none⟩,ck,cc,by omega,by go_num,rfl,by rw [hlen],hE8,hsz8,hO8,hmp8,hI8,hC8,HP⟩
      case measure=>simp [intOf];omega
    ·obtain rfl:b=256:=by omega
     have HEnd:=Lib.hid (Ad6 HV.out HBB.out HM.out);have hIK:Ints wr (.slice ak bs.length ck) (bs.map t.cell):=OwnI.ints (base:=w1.heap.size+1+1) (by
      show World.ownsRow _ _ _ _ _ _ _;rw [List.length_map];exact hI4) (by rw [List.length_map];omega)
     have hCC:=hC4.toCs (by omega);clear HM;go_wp2;go_ret2;exact ⟨_,_,bs.map t.cell,C,rfl,HEnd.out,hIK,hCC,hE0.trans hE4⟩
set_option maxHeartbeats 2000000 in
theorem Abb (t:Tbl) (hv:TVal t) (hn:t.nxt.length≤65536) (A:Array Value) (w:World) (h:IsT w A t) :
  Calls Tryz.prog 111 #[.agg A] w fun e w'=>∃ v l,e=.returned v∧Reached t l∧Ints w' v l∧Ext w w':=by
 obtain ⟨bn,on,cn,ba,oa,ca,hAs,hAo,_,_,hA7,_,hR,_⟩:=h.opened hv;have hn0:=hv.pos;have hm0:=hv.cpos;have hm1:=hv.cle;have HR:=Lib.hid hR;have HV:=Lib.hid hv;obtain ⟨i0,hi,hz0,hz1,hz2⟩:=info_parts Dm;obtain ⟨j0,hj,hy0,hy1,hy2⟩:=info_parts Fd;have hE0:=(Ext.refl w).alloc (.cells A 108);have H0:=Ab w (.cells A 108);have HK:=Lib.hid (fun (W:World) (hW:Ext (w.alloc (.cells A 108)) W)=>(cell_of_row W w.heap.size 257 _ _ _ (hW.heap H0)).trans hA7);clear hR hv h H0 hA7 hAo hAs;go_enter Tryz.func111,Tryz.ntmps111;go_upto_region 1 with (fail)
 generalize w.alloc (.cells A 108)=w1 at *;have k1:=HK.out w1 (Ext.refl w1);go_upto_region 2 with (at_make;refine wpList_make_full _ rfl _ _ 28 rfl w1.heap.size 4 j0 (.bool false) 1 Tryz.underlying28 hj hy0 hy1 .i64 .i64 _ _ t.nxt.length rfl rfl rfl rfl (by rw [hy2];omega) (by unfold maxLen;omega) (Nat.le_refl _) ?_;intro w2 hown2 hgrow2)
 have hE2:Ext w1 w2:=(Ext.refl w1).grown hgrow2 (fun k e=>by cases e);have hs2:w2.ownsRow w1.heap.size 4 1 (.slice (some ⟨w1.heap.size,0,none⟩) t.nxt.length t.nxt.length) t.nxt.length ((Ea t.nxt.length []).map Value.bool):=by rw [Z3,← Ca];exact hown2
 have cs:=Ap false hs2 (Kl _ _).symm 0 (by rw [Kl];exact hn0);have fs:=hs2.frozenAt 0;obtain ⟨hst,hgr⟩:=A3 hs2 0 true;rw [R7,List.nil_append] at hst;have hE3:=hE2.grown hgr (fun k e=>by cases e;exact Nat.le_refl _);clear hown2 hgrow2 k1 hs2 hgr;go_upto_region 3 with (fail)
 clear cs fs;obtain ⟨w3,hw3⟩:∃ W,w2.setCell ⟨w1.heap.size,0,none⟩ (.bool true)=W:=⟨_,rfl⟩;simp only [hw3] at *;clear hw3;have hE4:=hE3.alloc (.cells #[.int .i64 0] 3);have hst4:=hst.alloc (.cells #[.int .i64 0] 3);have hl4:=World.ownsRow_lit (base:=w1.heap.size) (e:=3) (size:=1) w3 #[.int .i64 0] 1 hE3.size (by unfold maxLen;omega) rfl;generalize hgs:w1.heap.size=gs at *;have HGS:=Lib.hid hgs;clear hgs;go_wp2_with (fail);go_loopw [4,5] (fun v i W=>∃ (l:List Nat) (k g c:Nat),k≤l.length∧i=.int .i64 k∧v=.slice (some ⟨g,0,none⟩) l.length c∧Ext w1 W∧OwnI W gs v l∧
   W.ownsRow gs 4 1 (.slice (some ⟨gs,0,none⟩) t.nxt.length t.nxt.length) t.nxt.length ((Ea t.nxt.length l).map Value.bool)∧Hid (BInv t l k 0))
  (fun _ i _=>t.nxt.length-(intOf i).toNat)
 case atStart=>exact ⟨[0],0,w3.heap.size,1,by omega,rfl,rfl,hE4,hl4,hst4,Lib.hid (Ai5 HV.out)⟩
 case round=>
  obtain ⟨l,k,g,c,hk,rfl,rfl,hE,hI,hS,HI⟩:=hrel;have hln:=HI.out.le;by_cases hkl:k<l.length
  ·have cl:=Aw (Ap 0 hI rfl k hkl);have hsn:=HI.out.lt _ (C3 l k 0 hkl);obtain ⟨s,hsd⟩:∃ s,l.getD k 0=s:=⟨_,rfl⟩;rw [hsd] at cl hsn;have HSD:=Lib.hid hsd;clear hsd;obtain ⟨br,or',cr,hrc,hrr⟩:=HR.out s hsn;have cr1:=Aw ((hE0.trans hE).cell hrc);have k1:=Aw (HK.out wr hE);have HRR:=Lib.hid hrr;clear hrc hrr;go_upto_region 7 with (fail)
   refine Da (by kernel_rfl) (by kernel_rfl) ?_;iterate 10 (with_reducible refine wpQuiet_step (fun K hK=>?_);go_simp;(refine hK _ ?_;clear hK K))
   refine wpQuiet_nil ?_;rintro _ ⟨e,rfl⟩;clear cl cr1 k1;have hE5:=hE.trans e.ext;have hI:=Ah hI e.ext;have hS:=Ah hS e.ext;generalize e.W=w5 at *;have hgs1:w1.heap.size≤gs:=Nat.le_of_eq HGS.out;have hgs2:gs≤w1.heap.size:=Nat.le_of_eq HGS.out.symm;go_wp2_with (fail);go_loopw [4,30] (fun v i W=>∃ (l':List Nat) (q g' c':Nat),q≤t.cells∧i=.int .i64 q∧v=.slice (some ⟨g',0,none⟩) l'.length c'∧Ext w1 W∧OwnI W gs v l'∧
     W.ownsRow gs 4 1 (.slice (some ⟨gs,0,none⟩) t.nxt.length t.nxt.length) t.nxt.length ((Ea t.nxt.length l').map Value.bool)∧Hid (BInv t l' k q)∧Hid (k<l'.length∧l'.getD k 0=s))
    (fun _ i _=>t.cells-(intOf i).toNat)
   case atStart=>exact ⟨l,0,g,c,by omega,rfl,rfl,hE5,hI,hS,HI,Lib.hid ⟨hkl,HSD.out⟩⟩
   case round=>
    obtain ⟨l',q,g',c',hq,rfl,rfl,hEq,hIq,hSq,HIq,HKq⟩:=hrel;have hl':=HIq.out.le;by_cases hqc:q<t.cells
    ·have cq:=(hE0.trans hEq).cell (HRR.out q hqc);have hxn:=HV.out.tgt s hsn q hqc;obtain ⟨x,hxd⟩:∃ x,t.ent2 s q=x:=⟨_,rfl⟩;rw [hxd] at cq hxn;have HXD:=Lib.hid hxd;clear hxd;have csx:=Ap false hSq (Kl _ _).symm x (by rw [Kl];exact hxn);rw [Z4 _ _ _ hxn] at csx;have fsx:=hSq.frozenAt x;have hsz:=hEq.size;by_cases hx:x∈l'
     ·rw [decide_eq_true hx] at csx;have HN:=Lib.hid (Ai6 HIq.out (by rw [HKq.out.2,HXD.out];exact hx));clear hx;go_wp2;go_roundw
      case rel=>exact ⟨l',q+1,g',c',by omega,by go_num,rfl,hEq,hIq,hSq,HN,HKq⟩
      case measure=>simp [intOf];omega
     ·rw [decide_eq_false hx] at csx;have HN:=Lib.hid (Ai8 HV.out HIq.out HKq.out.1 hqc (by rw [HKq.out.2,HXD.out];exact hx));rw [HKq.out.2,HXD.out] at HN;clear hx;obtain ⟨hst6,hgr6⟩:=A3 hSq x true;rw [R7] at hst6;have hI6:=hIq.kept hgr6 (Ai hIq hSq (by decide));have hE6:=hEq.grown hgr6 (fun k e=>by cases e;exact hgs1);go_upto_region 12 with (fail)
      obtain ⟨w6,hw6⟩:∃ W,wr.setCell ⟨gs,x,none⟩ (.bool true)=W:=⟨_,rfl⟩;simp only [hw6] at *;clear hw6 csx fsx hSq hIq cq;have hs6:=hE6.size;go_wp2_with (at_builtin;refine wpList_append_lies _ rfl _ _ 68 rfl gs 3 i0 (.int .i64 0) 1 8 Tryz.underlying68 hi hz0 hz1 hz2 rfl (by decide) _ _ _ rfl (hI6.alloc _) _ 1 1 [iv x] rfl rfl (cell_one_new _ _ _) (by simp [Value.oneCell']) (by decide) (by unfold maxLen;omega) (by omega) (by simp;omega) _ rfl ?_);intro g7 c7 w7 hI7 hgr7 _ _;have hS7:=(hst6.alloc (.cells #[iv x] 3)).kept hgr7 (Ai hst6 hI6 (by decide));have hE7:=(hE6.alloc (.cells #[iv x] 3)).grown hgr7 (fun k e=>by have:=(hI6.lt k e).1;omega);clear hgr7 hI6 hst6;go_wp2;go_roundw
      case rel=>
       refine ⟨l'++[x],q+1,g7,c7,by omega,by go_num,by rw [List.length_append];rfl,hE7,?_,hS7,HN,Lib.hid ⟨by rw [List.length_append];have:=HKq.out.1;omega,by rw [Bi _ _ _ _ HKq.out.1];exact HKq.out.2⟩⟩;show World.ownsRow _ _ _ _ _ _ _;rw [List.length_append,List.map_append];exact hI7
      case measure=>simp [intOf];omega
    ·obtain rfl:q=t.cells:=by omega
     have HN:=Lib.hid (Ai7 HIq.out);go_wp2;go_roundw
     case rel=>exact ⟨l',k+1,g',c',by have:=HKq.out.1;omega,by go_num,rfl,hEq,hIq,hSq,HN⟩
     case measure=>simp [intOf];omega
  ·obtain rfl:k=l.length:=by omega
   have HEnd:=Lib.hid (Ai9 HI.out);go_wp2;go_ret;exact ⟨_,l,rfl,HEnd.out,hI.ints (by omega),hE0.trans hE⟩
end Go.Proofs.YtaiogolidlamiaaGreatDoor
