/-
  The walk of LanguageMeaning.
-/
import Derived.Test.YtaiogolidlamiaaGreatDoorE03
import Derived.Test.YtaiogolidlamiaaGreatDoorE01
import Derived.Test.YtaiogolidlamiaaGreatDoorE02
import Derived.Test.YtaiogolidlamiaaGreatDoorM37
import Derived.Test.YtaiogolidlamiaaGreatDoorE07
import Derived.Test.YtaiogolidlamiaaGreatDoorE06
import Derived.Test.YtaiogolidlamiaaGreatDoorE05
import Derived.Test.YtaiogolidlamiaaGreatDoorE04
set_option linter.unusedVariables false
set_option linter.unusedSimpArgs false
namespace Go.Proofs.YtaiogolidlamiaaGreatDoor

set_option maxRecDepth 100000
open Go.RowKit Go.Shelf
theorem Ali {xs:List RNode} (h:WRx xs) {d:Dfa} (hd:Bf xs [] (some d)) (l:List UInt8):Ajy (Ajz xs (xs.length-1)) l 0 l.length=d.has l:=Akc (by
 rw [hitB_true,Amo,(L7 h hd).2 l];unfold Afd Ajz;rw [Akp,List.length_nil,Nat.zero_add])
theorem Ald:Enters Tryz.prog 43:=enters_of Tryz.func43 (by kernel_rfl) rfl
set_option maxHeartbeats 8000000 in
theorem Amc (la lb:List UInt8) (va vb:Value) (w:World) (hT:Tab w) (hsz:0<w.heap.size) (ha:ByC w va la) (hb:ByC w vb lb) (hla:la.length≤1048576) (hlb:lb.length≤1048576) :
  Calls Tryz.prog 11 #[va,vb] w fun e w'=>e=.returned (.bool true)∧Ext w w':=by
 have HTa:=Lib.hid (fun W (hW:Ext w W)=>hT.below hW.below hsz);have HSZ:=Lib.hid (fun W (hW:Ext w W)=>Nat.lt_of_lt_of_le hsz hW.size);have HMA:=Lib.hid (fun W (hW:Ext w W)=>Tz 16 16 rfl (by decide) (by decide) la hla va W (ha.ext hW));have HFU:=Lib.hid (fun W (hW:Ext w W)=>Amv 8 8 rfl (by decide) lb vb W (hb.1.ext hW));have HBB:=Lib.hid (fun (h:lb.length≤8)=>hb.1.short (by omega));have hS:=fun W hT hs=>Lib.hid (Z9 W hT hs)
 obtain ⟨-,aa0,ca0,rfl,-⟩:=ha;obtain ⟨-,ab0,cb0,rfl,-⟩:=hb;have hE:=Ext.refl w;clear hT hsz hla;obtain ⟨n8,hn8⟩:∃ n,lb.length=n:=⟨_,rfl⟩;simp only [hn8] at HFU HBB ⊢;have HN8:=Lib.hid hn8;rw [hn8] at hlb;clear hn8;go_enter Tryz.func11,Tryz.ntmps11;have f12:=hS w (HTa.out w hE) (HSZ.out w hE);go_upto_region 2 with (first
  | (go_at_call 12;(with_reducible refine f12.out.mono ?_);rintro e w5 ⟨rfl,hEn⟩))
 have hstep:=hEn;clear f12 hS;replace hE:=hE.trans hstep;clear hEn hstep;have f35:=Lib.hid (HMA.out w5 hE);go_upto_region 3 with (first
  | (go_at_call 35;(with_reducible refine f35.out.mono ?_);rintro e w6 ⟨vx,xs,rfl,hvx,hxs,hEn⟩))
 have hstep:=hEn;have HVX:=Lib.hid hvx;have HXS:=Lib.hid hxs;obtain ⟨bx,ox,cx,rfl,-⟩:=hvx;clear hxs f35;replace hE:=hE.trans hstep;clear hEn hstep;obtain ⟨lx,hlx⟩:∃ n,xs.length=n:=⟨_,rfl⟩;have HLX:=Lib.hid hlx;simp only [hlx] at HVX;simp only [hlx];obtain ⟨vx,hvx⟩:∃ v,Value.slice (some ⟨bx,ox,none⟩) lx cx=v:=⟨_,rfl⟩;rw [hvx] at HVX;simp only [hvx];clear hvx hlx;by_cases hlen:8<n8
 ·have hlenI:(8:Int)<(n8:Int):=by omega
  have HEE:=Lib.hid hE;clear hE;go_wp2;go_ret;exact ⟨rfl,HEE.out⟩
 have hlenI:¬ (8:Int)<(n8:Int):=by omega
 have HBY:=Lib.hid (HBB.out (by omega));clear HBB;have HLE:Hid (n8≤8):=Lib.hid (by omega);have HEw:=Lib.hid hE;go_upto_region 5 with (fail)
 obtain ⟨vu,hvu⟩:∃ v,Value.slice ab0 n8 cb0=v:=⟨_,rfl⟩;rw [hvu] at HBY HFU;simp only [hvu];clear hvu hlen hlenI;have f27:=Lib.hid (HFU.out w6 hE);go_upto_region 6 with (first
  | (go_at_call 27;(with_reducible refine f27.out.mono ?_);rintro e w7 ⟨x,g7,c7,rfl,hx8,hbx,-,hEn⟩))
 have HX8:=Lib.hid hx8;have HBX:=Lib.hid hbx;obtain ⟨vf,hvf⟩:∃ v,Value.slice (some ⟨g7,0,none⟩) x.length c7=v:=⟨_,rfl⟩;rw [hvf] at HBX;simp only [hvf];clear hvf hx8 hbx f27;have hstep:=hEn;replace HVX:=Lib.hid (HVX.out.ext hstep);replace hE:=hE.trans hstep;clear hEn hstep HFU;have f36:=Lib.hid (Gv xs HXS.out.1 (Nat.le_trans HXS.out.2 (by decide)) _ w7 (HTa.out w7 hE) (HSZ.out w7 hE) HVX.out);go_upto_region 7 with (first
  | (go_at_call 36;(with_reducible refine f36.out.mono ?_);rintro e w8 ⟨r8,d8,v,k8,rfl,hD,hft,hEn⟩;have HF8:=Lib.hid hft;clear hft;obtain ⟨ac,lc,cc,an,cn,aa,la,ca,rfl⟩:=hD.agg)
  | (refine wpList_store_row rfl 30 (.tmp 8) (.tmp 22) rfl _ _ rfl rfl _ _ (Ab w8 _) Ad rfl (An _ _ _ rfl rfl rfl) ?_))
 obtain ⟨hEb,hXb,hDb⟩:=Dx hD;obtain ⟨V8,hV⟩:∃ X,dA (.slice ac lc cc) (.slice an d8.nxt.length cn) (.slice aa la ca)=X:=⟨_,rfl⟩;have hi8:(Tryz.prog.info? 30).map (·.size)=some V8.size:=by rw [← hV];exact Ad
 rw [hV] at hEb hXb hDb;rw [hV];obtain ⟨w8x,hw⟩:∃ W,(w8.alloc (.cells #[.slice none 0 0,.slice none 0 0,.slice none 0 0] 30)).setRow w8.heap.size V8=W:=⟨_,rfl⟩;rw [hw] at hEb hXb hDb;simp only [hw];obtain ⟨g8,hg⟩:∃ y,w8.heap.size=y:=⟨_,rfl⟩;rw [hg] at hXb;rw [hg];have hstep:=hEn.trans hEb;have HX8a:=Lib.hid hXb;have HD8:=Lib.hid hDb;clear f36;replace HVX:=Lib.hid (HVX.out.ext hstep);replace HBX:=Lib.hid (HBX.out.ext hstep);replace hE:=hE.trans hstep;clear hD hEb hXb hDb hV hw hg hEn hstep;obtain ⟨hb8,hdd8,hkk8⟩:=HF8.out;have HEE:=Lib.hid hE;rcases Gg r8 with e8|⟨e8,h8⟩
 ·rw [e8] at hkk8;replace hkk8:k8=2:=hkk8;subst hkk8;clear hb8 hdd8 hE e8 HF8;go_wp2;go_ret;exact ⟨rfl,HEE.out⟩
 rw [h8] at hb8 hdd8 hkk8;replace hdd8:d8=e8:=hdd8;replace hkk8:k8=0:=hkk8;subst hdd8;subst hkk8;have hok:=P6 HXS.out.1 hb8;have HOK:=Lib.hid hok;have hh1:=Ali HXS.out.1 hb8 lb;have hh2:=Ali HXS.out.1 hb8 x;have HV:=Lib.hid (HXS.out.1.vrx (Nat.le_trans HXS.out.2 (by decide)));have f29a:=fun W (hW:Ext w8x W)=>Lib.hid (Xk d8 HOK.out.1 HOK.out.2 _ lb vu W (HTa.out W (hE.trans hW)) (HSZ.out W (hE.trans hW)) (HD8.out.ext hW) (HBY.out.ext (hE.trans hW)))
 have f29b:=fun W (hW:Ext w8x W)=>Lib.hid (Xk d8 HOK.out.1 HOK.out.2 _ x vf W (HTa.out W (hE.trans hW)) (HSZ.out W (hE.trans hW)) (HD8.out.ext hW) (HBX.out.ext hW))
 have f43a:=fun W (hW:Ext w8x W)=>Lib.hid (Ak3 xs HV.out vx lb (by have:=HN8.out;have:=HLE.out;omega) vu W (HVX.out.ext hW) (HBY.out.ext (hE.trans hW)))
 have f43b:=fun W (hW:Ext w8x W)=>Lib.hid (Ak3 xs HV.out vx x (by have:=HX8.out;omega) vf W (HVX.out.ext hW) (HBX.out.ext hW))
 rw [hh1] at f43a;rw [hh2] at f43b;obtain ⟨b1,hb1⟩:∃ b,d8.has lb=b:=⟨_,rfl⟩;obtain ⟨b2,hb2⟩:∃ b,d8.has x=b:=⟨_,rfl⟩;rw [hb1] at f29a f43a;rw [hb2] at f29b f43b;clear hh1 hh2 hb1 hb2 hok hb8 hE h8 HF8;go_upto_region 9 with (fail)
 cases b1<;>cases b2
 all_goals
  refine G1 50 false 4 (.bool true) [.keep,.keep,ldA HX8a.out hi8,.keep,Eg 29 Ale [.agg V8,vu] _ fun W hW=>(f29a W hW).out,.keep,.keep,Eg 43 Ald [vx,vu] _ fun W hW=>(f43a W hW).out,.pure,.pure,.keep,ldA HX8a.out hi8,.keep,Eg 29 Ale [.agg V8,vf] _ fun W hW=>(f29b W hW).out,.keep,.keep,Eg 43 Ald [vx,vf] _ fun W hW=>(f43b W hW).out,.pure,.pure,.keep] (fun h=>by cases h) (by kernel_rfl) rfl rfl (fun W=>by kernel_rfl) (by kernel_rfl) ?_;intro a' W hW hdf ht;go_wp2;refine bodyPost_ret (results_tmp rfl _ _ _) hdf ?_;rw [ht];exact ⟨rfl,HEE.out.trans hW⟩
end Go.Proofs.YtaiogolidlamiaaGreatDoor
