/-
  The walk of LanguageLists.
-/
import Derived.Test.YtaiogolidlamiaaGreatDoorM38
import Derived.Test.YtaiogolidlamiaaGreatDoorM39
set_option linter.unusedVariables false
set_option linter.unusedSimpArgs false
namespace Go.Proofs.YtaiogolidlamiaaGreatDoor

set_option maxRecDepth 100000
open Go.RowKit Go.Shelf
abbrev Abc (d:Dfa):Prop:=∀ u,d.has u=true→∀ x∈u,97≤x.toNat∧x.toNat<100
abbrev Vr (R:Array Value) (W:World):Prop:=Calls Tryz.prog 13 #[.agg R] W fun e w'=>∃ d v,e=.returned v∧IsD w' v d∧(Val d∧d.nxt.length≤6∧Abc d)∧Ext W w'
theorem Aap {w:World} {S:Nat} {a:Option Addr} {n c A:Nat} (h:RawAt w S a n c A):Vr (Ex S a n c A) w:=by
 obtain ⟨hS,hA,l,rfl,hb⟩:=h;exact (Aaq S A hS hA _ l w hb).mono fun e w' ⟨v,d,h1,h2,h3,h4⟩=>⟨d,v,h1,h2,h3,h4⟩
theorem Acq (d:Dfa) (hd:Val d∧d.nxt.length≤6∧Abc d) (n:Nat) (hn:n≤5) (v:Value) (w:World) (h:IsD w v d) :
  Calls Tryz.prog 22 #[v,.int .i64 n] w fun e w'=>∃ (a:Option Addr) (c:Nat) (l:List (List UInt8)) (vs:List Value),e=.returned (.tuple #[.slice a l.length c,.int .i64 0])∧l=A2 d.has (n+1)∧(vs.length=l.length∧w'.ownsRow 0 22 1 (.slice a l.length c) l.length vs∧∀ i,i<l.length→By w' (vs.getD i undef) (l.getD i []))∧Ext w w':=
 (Ki d hd.1 (by have:=hd.2.1;omega) n (by omega) v w h).mono fun e w' ⟨hE,h1⟩=>by
  rcases h1 with ⟨_,vo,he,vs,h2,h3,h4⟩|⟨h1,_⟩
  ·obtain ⟨a,c,rfl⟩:=Df h3;refine ⟨a,c,_,vs,he,rfl,⟨h2,h3,fun i hi=>(h4 i hi).by ?_⟩,hE⟩;have hm:(A2 d.has (n+1)).getD i []∈A2 d.has (n+1):=G5 hi;have:=((Ez _ _ _).1 hm).1;omega
  ·have:=K3 d.has hd.2.2 (n+1) (by omega);omega
theorem Afx (d:Dfa) (hd:Val d∧d.nxt.length≤6∧Abc d) (n:Nat) (hn:n≤5) (v:Value) (w:World) (h:IsD w v d) :
  Calls Tryz.prog 20 #[v,.int .i64 n] w fun e w'=>e=.returned (.tuple #[.int .i64 (Ba d.has n:Nat),.int .i64 0])∧Ext w w':=
 (K0 d hd.1 (by have:=hd.2.1;omega) n (by omega) v w h).mono fun e w' ⟨h1,h2⟩=>⟨by
  rw [h1];unfold Hq;rw [if_pos (Nat.le_trans (Oh n d.has hd.2.2) (Nat.le_trans (Nat.pow_le_pow_right (by decide) hn) (by decide)))],h2⟩
theorem Afq:Enters Tryz.prog 41:=enters_of Tryz.func41 (by kernel_rfl) rfl
theorem Afp:Enters Tryz.prog 42:=enters_of Tryz.func42 (by kernel_rfl) rfl
theorem Adf (d:Dfa) (hd:Val d∧d.nxt.length≤6∧Abc d) (v:Value) (w:World) (hT:Tab w) (hsz:0<w.heap.size) (h:IsD w v d) :
  Calls Tryz.prog 40 #[v] w fun e w'=>∃ (a:Option Addr) (n c:Nat) (b:Bool) (u:List UInt8),e=.returned (.tuple #[.slice a n c,.bool b])∧(b=true→n=u.length∧By w' (.slice a n c) u∧d.has u=true∧∀ u',d.has u'=true→rk u≤rk u')∧(b=false→∀ u,d.has u=false)∧Ext w w':=
 (Adg d hd.1 (by have:=hd.2.1;omega) v w hT hsz h).mono fun e w' ⟨h1,h2⟩=>by
  rcases h1 with ⟨u,v,h3,h4,h5,h6⟩|⟨h3,h4⟩
  ·obtain ⟨a,c,rfl⟩:=h4.len;exact ⟨a,_,c,true,u,h3,fun _=>⟨rfl,h4,h5,h6⟩,(fun h=>by cases h),h2⟩
  ·exact ⟨_,_,_,false,[],h3,(fun h=>by cases h),fun _=>h4,h2⟩
set_option maxHeartbeats 8000000 in
theorem Acp (S1 A1 n1 c1:Nat) (a1:Option Addr) (K:Nat) (hK:K<256) (lu:List UInt8) (vu:Value) (w:World) (hT:Tab w) (hsz:0<w.heap.size) (h1:RawAt w S1 a1 n1 c1 A1) (hu:ByW w vu lu) :
  Calls Tryz.prog 10 #[.agg (Ex S1 a1 n1 c1 A1),.int .u8 K,vu] w fun e w'=>e=.returned (.bool true)∧Ext w w':=by
 obtain ⟨i0,hi,hz0,hz1,hz2⟩:=info_parts Cv;have HTa:=Lib.hid (fun W (hW:Ext w W)=>hT.below hW.below hsz);have HSZ:=Lib.hid (fun W (hW:Ext w W)=>Nat.lt_of_lt_of_le hsz hW.size);have HRA:=Lib.hid (fun W (hW:Ext w W)=>h1.ext hW);have HFU:=Lib.hid (fun (n:Nat) (hn:n≤1000) W (hW:Ext w W)=>Ae8 n n rfl hn lu vu W (hu.ext hW));have hS:=fun W hT hs=>Lib.hid (Yi W hT hs)
 have hE:=(Ext.refl w).alloc (.cells (Ex S1 a1 n1 c1 A1) 24);have H3:=Ab w (.cells (Ex S1 a1 n1 c1 A1) 24);obtain ⟨au,bu,ou,cu,rfl,-,-,-⟩:=hu.split;obtain ⟨n,hn⟩:∃ n,K % 6=n:=⟨_,rfl⟩;have hNe:Hid ((K:Int) % 6=(n:Int)):=Lib.hid (by omega);have hn5:n≤5:=by omega
 clear hn hT hsz h1 hu;have info24r1:=Sv S1 a1 n1 c1 A1;obtain ⟨R1,hR1⟩:∃ X,Ex S1 a1 n1 c1 A1=X:=⟨_,rfl⟩;have HMA:Hid (∀ W,Ext w W→Vr R1 W):=Lib.hid (fun W hW=>by rw [← hR1];exact Aap (HRA.out W hW));rw [hR1] at hE H3;rw [hR1] at info24r1;rw [hR1];clear hR1 HRA;go_enter Tryz.func10,Tryz.ntmps10;go_upto_region 1 with (fail)
 obtain ⟨w2,hw2⟩:∃ W,w.alloc (.cells R1 24)=W:=⟨_,rfl⟩;rw [hw2] at hE H3;simp only [hw2];clear hw2;have HR3:=Lib.hid H3;clear H3;have f12:=hS w2 (HTa.out w2 hE) (HSZ.out w2 hE);go_upto_region 2 with (first
  | (go_at_call 12;(with_reducible refine f12.out.mono ?_);rintro e w7 ⟨rfl,hEn⟩))
 have hstep:=hEn;clear f12 hS;replace HR3:=Lib.hid (hstep.heap HR3.out);replace hE:=hE.trans hstep;clear hEn hstep;have f13:=Lib.hid (HMA.out w7 hE);go_upto_region 3 with (first
  | (refine wpList_load_row rfl 24 (.tmp 3) rfl _ rfl _ _ _ _ HR3.out Tryz.underlying24 rfl info24r1 ?_)
  | (go_at_call 13;(with_reducible refine f13.out.mono ?_);rintro e w8 ⟨d,v,rfl,hD,hft,hEn⟩;obtain ⟨ac,lc,cc,an,cn,aa,la,ca,rfl⟩:=hD.agg)
  | (refine wpList_store_row rfl 30 (.tmp 8) (.tmp 23) rfl _ _ rfl rfl _ _ (Ab w8 _) Ad rfl (Aq _ _ _ rfl rfl rfl) ?_))
 obtain ⟨hEb,hXb,hDb⟩:=E4 hD;obtain ⟨V8,hV⟩:∃ X,dA (.slice ac lc cc) (.slice an d.nxt.length cn) (.slice aa la ca)=X:=⟨_,rfl⟩;have hi8:(Tryz.prog.info? 30).map (·.size)=some V8.size:=by rw [← hV];exact Ad
 rw [hV] at hEb hXb hDb;rw [hV];obtain ⟨w8x,hw⟩:∃ W,(w8.alloc (.cells #[.slice none 0 0,.slice none 0 0,.slice none 0 0] 30)).setRow w8.heap.size V8=W:=⟨_,rfl⟩;rw [hw] at hEb hXb hDb;simp only [hw];obtain ⟨g8,hg⟩:∃ y,w8.heap.size=y:=⟨_,rfl⟩;rw [hg] at hXb;rw [hg];have hstep:=hEn.trans hEb;have HX8:=Lib.hid hXb;have HD8:=Lib.hid hDb;have HF8:=Lib.hid hft;clear hft f13;replace HR3:=Lib.hid (hstep.heap HR3.out);replace hE:=hE.trans hstep;clear hD hEb hXb hDb hV hw hg hEn hstep;go_upto_region 4 with (fail)
 simp only [hNe.out];clear hNe;have f27:=Lib.hid (HFU.out n (by omega) w8x hE);go_upto_region 5 with (first
  | (go_at_call 27;(with_reducible refine f27.out.mono ?_);rintro e w9 ⟨x,g10,c10,rfl,hxn,hbx,hcp,hEn⟩))
 have hstep:=hEn;have HBX:=Lib.hid hbx;clear hbx f27 hcp;replace HX8:=Lib.hid (hstep.heap HX8.out);replace HD8:=Lib.hid (HD8.out.ext hstep);replace HR3:=Lib.hid (hstep.heap HR3.out);replace hE:=hE.trans hstep;clear hEn hstep;have f22:=Lib.hid (Acq d HF8.out n hn5 _ w9 HD8.out);go_upto_region 6 with (first
  | (refine wpList_load_row rfl 30 (.tmp 8) rfl _ rfl _ _ _ _ HX8.out Tryz.underlying30 rfl hi8 ?_)
  | (go_at_call 22;(with_reducible refine f22.out.mono ?_);rintro e w11 ⟨al,cl,l,vs,rfl,hle,⟨hvl,hown,hws⟩,hEn⟩;have HLE:=Lib.hid hle;have HVL:=Lib.hid hvl;clear hle hvl))
 have hstep:=hEn;have HO:=Lib.hid hown;have HWS:=Lib.hid hws;clear hown hws f22;replace HX8:=Lib.hid (hstep.heap HX8.out);replace HD8:=Lib.hid (HD8.out.ext hstep);replace HR3:=Lib.hid (hstep.heap HR3.out);replace HBX:=Lib.hid (HBX.out.ext hstep);replace hE:=hE.trans hstep;clear hEn hstep;have f40:=Lib.hid (Adf d HF8.out _ w11 (HTa.out w11 hE) (HSZ.out w11 hE) HD8.out);go_upto_region 7 with (first
  | (refine wpList_load_row rfl 30 (.tmp 8) rfl _ rfl _ _ _ _ HX8.out Tryz.underlying30 rfl hi8 ?_)
  | (go_at_call 40;(with_reducible refine f40.out.mono ?_);rintro e w13 ⟨aq,nq,cq,bq,uq,rfl,hq1,hq0,hEn⟩))
 have hstep:=hEn;have HQ1:=Lib.hid hq1;have HQ0:=Lib.hid hq0;clear hq1 hq0 f40;replace HX8:=Lib.hid (hstep.heap HX8.out);replace HD8:=Lib.hid (HD8.out.ext hstep);replace HR3:=Lib.hid (hstep.heap HR3.out);replace HBX:=Lib.hid (HBX.out.ext hstep);replace HO:=Lib.hid (Ah HO.out hstep);replace HWS:=Lib.hid (fun i hi=>(HWS.out i hi).ext hstep);replace hE:=hE.trans hstep;clear hEn hstep;go_upto_region 10 with (at_make;refine wpList_make_full _ rfl _ _ 68 rfl w13.heap.size 3 i0 (.int .i64 0) 1 Tryz.underlying68 hi hz0 hz1 .i64 .i64 _ _ (n+1) rfl rfl (by push_cast;rfl) (by push_cast;rfl) (by rw [hz2];omega) (by unfold maxLen;omega) (Nat.le_refl _) ?_;intro wk hown3 hgrow3)
 have hC0:wk.ownsRow w13.heap.size 3 1 (.slice (some ⟨w13.heap.size,0,none⟩) (n+1) (n+1)) (n+1) ((Br (n+1) fun k=>B0 (l.take 0) k).map iv):=by
  have:Br (n+1) (fun k=>B0 (l.take 0) k)=List.replicate (n+1) 0:=by
   apply List.ext_getElem?;intro i;by_cases hi:i<n+1
   ·simp [Br,hi,B0]
   ·simp [Br,hi]
  rw [this,← B6];exact hown3
 have hEk:=(Ext.refl w13).grown hgrow3 (fun k e=>by cases e);clear hown3 hgrow3;obtain ⟨gk,hgk⟩:∃ y,w13.heap.size=y:=⟨_,rfl⟩;have HGK:Hid (w13.heap.size=gk):=Lib.hid hgk;rw [hgk] at hC0;simp only [hgk];clear hgk;have HEE:=Lib.hid hE;clear hE;obtain ⟨N,hN⟩:∃ N,l.length=N:=⟨_,rfl⟩;have HN:=Lib.hid hN;simp only [hN];clear hN;have hNb:N≤4096:=by rw [← HN.out,HLE.out,F0];exact K3 d.has HF8.out.2.2 (n+1) (by omega)
 go_wp2_with (fail);go_loopw [16,17] (fun vf vi W=>∃ (i:Nat) (fb:Bool),i≤N∧vf=.bool fb∧vi=.int .i64 i∧Hid (fb=decide (x∈l.take i))∧Ext w13 W∧W.ownsRow gk 3 1 (.slice (some ⟨gk,0,none⟩) (n+1) (n+1)) (n+1) ((Br (n+1) fun k=>B0 (l.take i) k).map iv))
  (fun _ vi _=>N-(intOf vi).toNat)
 case atStart=>exact ⟨0,false,by omega,rfl,rfl,Lib.hid (by simp),hEk,hC0⟩
 case round=>
  clear hEk hC0;obtain ⟨i,fb,hiN,rfl,rfl,HFB,hEr,hC⟩:=hrel;by_cases hlt:i<N
  ·have hil:i<l.length:=by rw [HN.out];exact hlt
   have hix:(i:Int)<(N:Int):=by omega
   obtain ⟨gl,cl',hal⟩:=J8 HO.out (by omega);injection hal with e1 _ e2
   subst e1 e2;have hcell:∀ j,j<N→∀ W,Ext w13 W→W.cell? ⟨gl,j,none⟩=some (vs.getD j undef):=fun j hj W hW=>by
    have:=HO.out.cellAt j (by rw [HN.out];omega);rw [List.getElem?_eq_getElem (by rw [HVL.out,HN.out];exact hj)] at this;rw [List.getD_eq_getElem?_getD,List.getElem?_eq_getElem (by rw [HVL.out,HN.out];exact hj)];exact hW.cell this
   have HCE:=Lib.hid hcell;clear hcell;have hmem:∀ j,j<N→(l.getD j []).length≤n∧d.has (l.getD j [])=true:=fun j hj=>by
    have:=(Ez d.has (l.getD j []) (n+1)).1 (by rw [← HLE.out];exact G5 (by rw [HN.out];exact hj));exact ⟨by omega,this.2⟩
   have HME:=Lib.hid hmem;clear hmem;obtain ⟨ai,ci,hvi⟩:=(HWS.out i hil).len;obtain ⟨li,hli⟩:∃ li,(l.getD i []).length=li:=⟨_,rfl⟩;have hlin:li≤n:=by rw [← hli];exact (HME.out i hlt).1
   have HLI:=Lib.hid hli;rw [hli] at hvi;clear hli;have HVI:=Lib.hid hvi;clear hvi;have hEw:=HEE.out.trans hEr;have HX8r:=Lib.hid (hEr.heap HX8.out);have f29:=fun W (hW:Ext wr W)=>Lib.hid (Lk d HF8.out.1 (by have:=HF8.out.2.1;omega) _ (l.getD i []) (.slice ai li ci) W (HTa.out W (hEw.trans hW)) (HSZ.out W (hEw.trans hW)) (HD8.out.ext (hEr.trans hW)) (by have:=HWS.out i hil;rw [HVI.out] at this;exact this.ext (hEr.trans hW)))
   rw [(HME.out i hlt).2] at f29;have hci:∀ W,Ext wr W→W.cell? ⟨gl,i,none⟩=some (.slice ai li ci):=fun W hW=>by rw [HCE.out i hlt W (hEr.trans hW),HVI.out]
   have HCI:=Lib.hid hci;clear hci;clear hEw;go_upto_region 14 with (fail)
   rcases (show Hid (i=0)∨Hid (1≤i) from (Nat.eq_zero_or_pos i).imp (fun h=>Lib.hid h) (fun h=>Lib.hid h)) with H0|H0
   ·refine Hs 162 true [.slice (some ⟨gl,0,none⟩) N cl,.int .i64 i,.pointer (some ⟨gl,i,none⟩),.slice ai li ci,.int .i64 li,.int .i64 n,.bool false,.bool false,.agg V8,.slice (some ⟨gl,0,none⟩) N cl,.int .i64 i,.pointer (some ⟨gl,i,none⟩),.slice ai li ci,.bool true,.bool false,.bool false,.bool false,.int .i64 i,.bool false,.bool false,undef,undef,undef,undef,undef,undef,undef,undef,undef,undef,undef,.bool false,.bool false] [.keep,.keep,F4 (.tmp 52) (.tmp 53) gl N cl i hlt,F3 (.tmp 54) gl i (.slice ai li ci) HCI.out,.pure,.keep,F5 (.tmp 56) (.tmp 57) li n false (by simp;omega),.keep,ldA HX8r.out hi8,.keep,.keep,F4 (.tmp 61) (.tmp 62) gl N cl i hlt,F3 (.tmp 63) gl i (.slice ai li ci) HCI.out,Gc 29 I1 [.agg V8,.slice ai li ci] _ fun W hW=>(f29 W hW).out,.pure,.pure,.keep,.keep,F5 (.tmp 69) (.const (.int .i64 0)) i 0 false (by have:=H0.out;simp;omega),.keep,.skip,.skip,.skip,.skip,.skip,.skip,.skip,.skip,.skip,.skip,.skip,.pure,.pure] (fun _=>by kernel_rfl) (by kernel_rfl) rfl rfl (fun W=>by kernel_rfl) (by kernel_rfl) ?_;intro W hW;simp only [Cf,Act.put,List.setIfInBounds_toArray,List.set_cons_zero,List.set_cons_succ];have hC9:=Ah hC hW;have hE9:=hEr.trans hW;have kc:=HCI.out W hW;have k3:W.cell? ⟨gk,li,none⟩=some (iv (B0 (l.take i) li)):=(An (f:=iv) 0 hC9 (Dc _ _).symm li (by rw [Dc];omega)).trans (by rw [Fv _ _ _ (by omega)]);have f3:=hC9.frozenAt li;obtain ⟨q,hq⟩:∃ q,B0 (l.take i) li=q:=⟨_,rfl⟩;have hqb:q≤1000000:=by
     have h1:q≤(l.take i).length:=by rw [← hq];exact List.countP_le_length
     have h2:(l.take i).length≤l.length:=by rw [List.length_take];omega
     have h3:l.length≤4096:=by rw [HLE.out,F0];exact K3 d.has HF8.out.2.2 (n+1) (by omega)
     omega
    have HQ:=Lib.hid hq;rw [hq] at k3;clear hq hC hEr hW;have hlI:(li:Int)<(n:Int)+1:=by omega
    go_upto_region 17 with (fail)
    clear kc k3 f3;obtain ⟨hC10,hgr⟩:=Av (f:=iv) hC9 li (q+1);have hE10:=hE9.grown hgr (fun k e=>by injection e with e;have:=HGK.out;omega);have hset:(Br (n+1) fun k=>B0 (l.take i) k).set li (q+1)=Br (n+1) fun k=>B0 (l.take (i+1)) k:=by
     rw [← HQ.out,Id _ _ _ (by omega)];exact Ie fun j=>by rw [Sk l i j hil,HLI.out]
    rw [hset] at hC10;rw [G1] at hC10 hE10;obtain ⟨wz,hwz⟩:∃ W',W.setCell ⟨gk,li,none⟩ (.int .i64 ((q:Int)+1))=W':=⟨_,rfl⟩;rw [hwz] at hC10 hE10;rw [hwz];have kz:wz.cell? ⟨gl,i,none⟩=some (.slice ai li ci):=by rw [HCE.out i hlt wz hE10,HVI.out]
    clear hwz hgr hset hC9 hE9;cases fb with
    | true=>
     have HFB':Hid (true=decide (x∈l.take (i+1))):=Lib.hid (by
      have:=HFB.out.symm;exact (decide_eq_true ((Kf l x i hil).2 (.inl (of_decide_eq_true this)))).symm)
     go_wp2_with (fail);go_roundw
     case rel=>exact ⟨i+1,true,by omega,rfl,by go_num,HFB',hE10,hC10⟩
     case measure=>simp [intOf];omega
    | false=>
     obtain ⟨bz,hbz⟩:∃ b,decide (l.getD i []=x)=b:=⟨_,rfl⟩;have HFB':Hid (bz=decide (x∈l.take (i+1))):=Lib.hid (by
      rw [← hbz];have h0:¬ x∈l.take i:=of_decide_eq_false HFB.out.symm;rw [Bool.eq_iff_iff,decide_eq_true_eq,decide_eq_true_eq,Kf l x i hil];exact ⟨.inr,fun h=>h.resolve_left h0⟩)
     have f42:=Lib.hid (Mc (l.getD i []) x (.slice ai li ci) _ wz (by have:=HWS.out i hil;rw [HVI.out] at this;exact this.ext hE10) (HBX.out.ext hE10));rw [hbz] at f42;clear hbz;go_wp2_with (first
      | (go_at_call 42;(with_reducible refine f42.out.mono ?_);rintro e wy ⟨rfl,hEy⟩))
     clear f42 kz;have hC11:=Ah hC10 hEy;have hE11:=hE10.trans hEy;go_roundw
     case rel=>exact ⟨i+1,bz,by omega,rfl,by go_num,HFB',hE11,hC11⟩
     case measure=>simp [intOf];omega
   ·obtain ⟨aj,cj,hvj⟩:=(HWS.out (i-1) (by omega)).len;obtain ⟨lj,hlj⟩:∃ lj,(l.getD (i-1) []).length=lj:=⟨_,rfl⟩;rw [hlj] at hvj;have HVJ:=Lib.hid hvj;have hi1:=H0.out;clear hlj hvj;have hcj:∀ W,Ext wr W→W.cell? ⟨gl,i-1,none⟩=some (.slice aj lj cj):=fun W hW=>by rw [HCE.out (i-1) (by omega) W (hEr.trans hW),HVJ.out]
    have HCJ:=Lib.hid hcj;have hslx:Slx (l.getD (i-1) []) (l.getD i []):=by
     have hh:=Acs d.has (n+1) (i-1) (by rw [← HLE.out,HN.out];omega);rw [← HLE.out,show i-1+1=i by omega] at hh;exact hh
    have f41:=fun W (hW:Ext wr W)=>Lib.hid (Ada (l.getD (i-1) []) (l.getD i []) hslx (.slice aj lj cj) (.slice ai li ci) W (by have:=HWS.out (i-1) (by omega);rw [HVJ.out] at this;exact this.ext (hEr.trans hW)) (by have:=HWS.out i hil;rw [HVI.out] at this;exact this.ext (hEr.trans hW)) (by rw [HLI.out];omega))
    clear hslx hcj;refine Hs 162 true [.slice (some ⟨gl,0,none⟩) N cl,.int .i64 i,.pointer (some ⟨gl,i,none⟩),.slice ai li ci,.int .i64 li,.int .i64 n,.bool false,.bool false,.agg V8,.slice (some ⟨gl,0,none⟩) N cl,.int .i64 i,.pointer (some ⟨gl,i,none⟩),.slice ai li ci,.bool true,.bool false,.bool false,.bool false,.int .i64 i,.bool true,.bool true,.slice (some ⟨gl,0,none⟩) N cl,.int .i64 i,.int .i64 (i-1:Nat),.pointer (some ⟨gl,i-1,none⟩),.slice aj lj cj,.slice (some ⟨gl,0,none⟩) N cl,.int .i64 i,.pointer (some ⟨gl,i,none⟩),.slice ai li ci,.bool true,.bool false,.bool false,.bool false] [.keep,.keep,F4 (.tmp 52) (.tmp 53) gl N cl i hlt,F3 (.tmp 54) gl i (.slice ai li ci) HCI.out,.pure,.keep,F5 (.tmp 56) (.tmp 57) li n false (by simp;omega),.keep,ldA HX8r.out hi8,.keep,.keep,F4 (.tmp 61) (.tmp 62) gl N cl i hlt,F3 (.tmp 63) gl i (.slice ai li ci) HCI.out,Gc 29 I1 [.agg V8,.slice ai li ci] _ fun W hW=>(f29 W hW).out,.pure,.pure,.keep,.keep,F5 (.tmp 69) (.const (.int .i64 0)) i 0 true (by simp;omega),.keep,.keep,.keep,Xh (.tmp 73) i hi1 (by omega),F4 (.tmp 72) (.tmp 74) gl N cl (i-1) (by omega),F3 (.tmp 75) gl (i-1) (.slice aj lj cj) HCJ.out,.keep,.keep,F4 (.tmp 77) (.tmp 78) gl N cl i hlt,F3 (.tmp 79) gl i (.slice ai li ci) HCI.out,Gc 41 Afq [.slice aj lj cj,.slice ai li ci] _ fun W hW=>(f41 W hW).out,.pure,.pure,.pure] (fun _=>by kernel_rfl) (by kernel_rfl) rfl rfl (fun W=>by kernel_rfl) (by kernel_rfl) ?_;clear hi1;intro W hW;simp only [Cf,Act.put,List.setIfInBounds_toArray,List.set_cons_zero,List.set_cons_succ];have hC9:=Ah hC hW;have hE9:=hEr.trans hW;have kc:=HCI.out W hW;have k3:W.cell? ⟨gk,li,none⟩=some (iv (B0 (l.take i) li)):=(An (f:=iv) 0 hC9 (Dc _ _).symm li (by rw [Dc];omega)).trans (by rw [Fv _ _ _ (by omega)]);have f3:=hC9.frozenAt li;obtain ⟨q,hq⟩:∃ q,B0 (l.take i) li=q:=⟨_,rfl⟩;have hqb:q≤1000000:=by
     have h1:q≤(l.take i).length:=by rw [← hq];exact List.countP_le_length
     have h2:(l.take i).length≤l.length:=by rw [List.length_take];omega
     have h3:l.length≤4096:=by rw [HLE.out,F0];exact K3 d.has HF8.out.2.2 (n+1) (by omega)
     omega
    have HQ:=Lib.hid hq;rw [hq] at k3;clear hq hC hEr hW;have hlI:(li:Int)<(n:Int)+1:=by omega
    go_upto_region 17 with (fail)
    clear kc k3 f3;obtain ⟨hC10,hgr⟩:=Av (f:=iv) hC9 li (q+1);have hE10:=hE9.grown hgr (fun k e=>by injection e with e;have:=HGK.out;omega);have hset:(Br (n+1) fun k=>B0 (l.take i) k).set li (q+1)=Br (n+1) fun k=>B0 (l.take (i+1)) k:=by
     rw [← HQ.out,Id _ _ _ (by omega)];exact Ie fun j=>by rw [Sk l i j hil,HLI.out]
    rw [hset] at hC10;rw [G1] at hC10 hE10;obtain ⟨wz,hwz⟩:∃ W',W.setCell ⟨gk,li,none⟩ (.int .i64 ((q:Int)+1))=W':=⟨_,rfl⟩;rw [hwz] at hC10 hE10;rw [hwz];have kz:wz.cell? ⟨gl,i,none⟩=some (.slice ai li ci):=by rw [HCE.out i hlt wz hE10,HVI.out]
    clear hwz hgr hset hC9 hE9;cases fb with
    | true=>
     have HFB':Hid (true=decide (x∈l.take (i+1))):=Lib.hid (by
      have:=HFB.out.symm;exact (decide_eq_true ((Kf l x i hil).2 (.inl (of_decide_eq_true this)))).symm)
     go_wp2_with (fail);go_roundw
     case rel=>exact ⟨i+1,true,by omega,rfl,by go_num,HFB',hE10,hC10⟩
     case measure=>simp [intOf];omega
    | false=>
     obtain ⟨bz,hbz⟩:∃ b,decide (l.getD i []=x)=b:=⟨_,rfl⟩;have HFB':Hid (bz=decide (x∈l.take (i+1))):=Lib.hid (by
      rw [← hbz];have h0:¬ x∈l.take i:=of_decide_eq_false HFB.out.symm;rw [Bool.eq_iff_iff,decide_eq_true_eq,decide_eq_true_eq,Kf l x i hil];exact ⟨.inr,fun h=>h.resolve_left h0⟩)
     have f42:=Lib.hid (Mc (l.getD i []) x (.slice ai li ci) _ wz (by have:=HWS.out i hil;rw [HVI.out] at this;exact this.ext hE10) (HBX.out.ext hE10));rw [hbz] at f42;clear hbz;go_wp2_with (first
      | (go_at_call 42;(with_reducible refine f42.out.mono ?_);rintro e wy ⟨rfl,hEy⟩))
     clear f42 kz;have hC11:=Ah hC10 hEy;have hE11:=hE10.trans hEy;go_roundw
     case rel=>exact ⟨i+1,bz,by omega,rfl,by go_num,HFB',hE11,hC11⟩
     case measure=>simp [intOf];omega
  ·obtain rfl:i=N:=by omega
   have HFX:Hid (fb=decide (x∈l)):=Lib.hid (by rw [HFB.out,List.take_of_length_le (by rw [HN.out];exact Nat.le_refl _)]);rw [List.take_of_length_le (by rw [HN.out];exact Nat.le_refl _)] at hC;clear HFB;go_upto_region 19 with (fail)
   go_loopw [18] (fun vi W=>∃ j:Nat,j≤n+1∧vi=.int .i64 j∧Ext w13 W∧W.ownsRow gk 3 1 (.slice (some ⟨gk,0,none⟩) (n+1) (n+1)) (n+1) ((Br (n+1) fun k=>B0 l k).map iv))
    (fun vi _=>n+1-(intOf vi).toNat)
   case atStart=>exact ⟨0,by omega,rfl,hEr,hC⟩
   case round=>
    clear hEr hC;obtain ⟨j,hjn,rfl,hEr,hC⟩:=hrel;by_cases hjl:j≤n
    ·have hjI:(j:Int)≤(n:Int):=by omega
     have hjI2:(j:Int)<(n:Int)+1:=by omega
     have HX8r:=Lib.hid (hEr.heap HX8.out);obtain ⟨q,hq⟩:∃ q,Ba d.has j=q:=⟨_,rfl⟩;have f20:=Lib.hid (Afx d HF8.out j (by omega) _ wr (HD8.out.ext hEr));rw [hq] at f20;have hql:B0 l j=q:=by rw [← hq,HLE.out,Sf,if_pos (by omega)]
     have HQL:=Lib.hid hql;clear hq hql;go_upto_region 22 with (first
      | (refine wpList_load_row rfl 30 (.tmp 8) rfl _ rfl _ _ _ _ HX8r.out Tryz.underlying30 rfl hi8 ?_)
      | (go_at_call 20;(with_reducible refine f20.out.mono ?_);rintro e wy ⟨rfl,hEy⟩))
     have hC9:=Ah hC hEy;have hE9:=hEr.trans hEy;have k3:wy.cell? ⟨gk,j,none⟩=some (iv q):=(An (f:=iv) 0 hC9 (Dc _ _).symm j (by rw [Dc];omega)).trans (by rw [Fv _ _ _ (by omega),HQL.out]);clear hC hEr hEy f20 HX8r;go_wp2_with (fail);clear k3;go_roundw
     case rel=>exact ⟨j+1,by omega,by go_num,hE9,hC9⟩
     case measure=>simp [intOf];omega
    ·have hjI:¬ (j:Int)≤(n:Int):=by omega
     have hfx:d.has x=fb:=by
      rw [HFX.out,Bool.eq_iff_iff,decide_eq_true_eq,HLE.out,Ez];exact ⟨fun h=>⟨by omega,h⟩,fun h=>h.2⟩
     have hEw:=HEE.out.trans hEr;have f29:=fun W (hW:Ext wr W)=>Lib.hid (Lk d HF8.out.1 (by have:=HF8.out.2.1;omega) _ x _ W (HTa.out W (hEw.trans hW)) (HSZ.out W (hEw.trans hW)) (HD8.out.ext (hEr.trans hW)) (HBX.out.ext (hEr.trans hW)))
     rw [hfx] at f29;have HX8r:=Lib.hid (hEr.heap HX8.out);have HEw:=Lib.hid hEw;clear hfx hEw;go_upto_region 24 with (fail)
     rcases (show Hid (i=0)∨Hid (0<i) from (Nat.eq_zero_or_pos i).imp (fun h=>Lib.hid h) (fun h=>Lib.hid h)) with HZ|HZ
     ·cases bq with
      | false=>
       refine Hs 162 false [.slice al i cl,.int .i64 i,.bool false,.bool false,undef,undef,undef,undef,undef,undef,undef,undef,undef,undef,.bool false,.bool false,.slice al i cl,.int .i64 i,.bool true,.bool true,.bool false,.bool false,.bool false,undef,undef,undef,undef,.bool false,.bool false] [.keep,.pure,F5 (.tmp 126) (.const (.int .i64 0)) i 0 false (by have:=HZ.out;simp;omega),.keep,.skip,.skip,.skip,.skipu,.skipu,.skipu,.skipu,.skipu,.skipu,.skip,.pure,.keep,.keep,.pure,Oa (.tmp 142) (.const (.int .i64 0)) i 0 true (by have:=HZ.out;simp;omega),.keep,.keep,.pure,.keep,.skip,.skip,.skip,.skip,.pure,.pure] (fun h=>by cases h) (by kernel_rfl) rfl rfl (fun W=>by kernel_rfl) (by kernel_rfl) ?_;intro W hW;simp only [Cf,Act.put,List.setIfInBounds_toArray,List.set_cons_zero,List.set_cons_succ];have HX8s:=Lib.hid (hW.heap HX8r.out);have HWE:=Lib.hid hW;clear hW hEr hC;go_upto_region 26 with (fail)
       cases fb
       all_goals
        refine Lv 162 false 6 (.bool true) [.keep,.keep,.keep,ldA HX8s.out hi8,.keep,Gc 29 I1 [.agg V8,.slice (some ⟨g10,0,none⟩) x.length c10] _ fun W' hW'=>(f29 W' (HWE.out.trans hW')).out,.pure,.pure,.keep] (fun h=>by cases h) (by kernel_rfl) rfl rfl (fun W=>by kernel_rfl) (by kernel_rfl) ?_;intro a' W' hW' hdf ht;go_wp2;refine bodyPost_ret (results_tmp rfl _ _ _) hdf ?_;rw [ht];exact ⟨rfl,HEw.out.trans (HWE.out.trans hW')⟩
      | true=>
       have hnq:n<nq:=by
        rw [(HQ1.out rfl).1];exact Acr d.has n uq (HQ1.out rfl).2.2.1 (by rw [← HLE.out,HN.out];exact HZ.out)
       refine Hs 162 false [.slice al i cl,.int .i64 i,.bool false,.bool false,undef,undef,undef,undef,undef,undef,undef,undef,undef,undef,.bool false,.bool false,.slice al i cl,.int .i64 i,.bool true,.bool true,.bool true,.bool true,.bool true,.slice aq nq cq,.int .i64 nq,.int .i64 n,.bool false,.bool false,.bool false] [.keep,.pure,F5 (.tmp 126) (.const (.int .i64 0)) i 0 false (by have:=HZ.out;simp;omega),.keep,.skip,.skip,.skip,.skipu,.skipu,.skipu,.skipu,.skipu,.skipu,.skip,.pure,.keep,.keep,.pure,Oa (.tmp 142) (.const (.int .i64 0)) i 0 true (by have:=HZ.out;simp;omega),.keep,.keep,.pure,.keep,.keep,.pure,.keep,Adc (.tmp 149) (.tmp 150) nq n false (by simp;omega),.pure,.pure] (fun h=>by cases h) (by kernel_rfl) rfl rfl (fun W=>by kernel_rfl) (by kernel_rfl) ?_;clear hnq;intro W hW;simp only [Cf,Act.put,List.setIfInBounds_toArray,List.set_cons_zero,List.set_cons_succ];have HX8s:=Lib.hid (hW.heap HX8r.out);have HWE:=Lib.hid hW;clear hW hEr hC;go_upto_region 26 with (fail)
       cases fb
       all_goals
        refine Lv 162 false 6 (.bool true) [.keep,.keep,.keep,ldA HX8s.out hi8,.keep,Gc 29 I1 [.agg V8,.slice (some ⟨g10,0,none⟩) x.length c10] _ fun W' hW'=>(f29 W' (HWE.out.trans hW')).out,.pure,.pure,.keep] (fun h=>by cases h) (by kernel_rfl) rfl rfl (fun W=>by kernel_rfl) (by kernel_rfl) ?_;intro a' W' hW' hdf ht;go_wp2;refine bodyPost_ret (results_tmp rfl _ _ _) hdf ?_;rw [ht];exact ⟨rfl,HEw.out.trans (HWE.out.trans hW')⟩
     ·have hi0:=HZ.out;obtain ⟨gl,cl',hal⟩:=J8 HO.out (by rw [HN.out];exact hi0);injection hal with e1 _ e2
      subst e1 e2;have hb:bq=true:=by
       cases bq with
       | true=>rfl
       | false=>
        have h1:=HQ0.out rfl (l.getD 0 []);have h2:=(Ez d.has (l.getD 0 []) (n+1)).1 (by rw [← HLE.out];exact G5 (by rw [HN.out];exact hi0));rw [h2.2] at h1;cases h1
      subst hb;obtain ⟨hnq,hbq,huq,hmin⟩:=HQ1.out rfl;obtain ⟨a0,c0,hv0⟩:=(HWS.out 0 (by rw [HN.out];exact hi0)).len;obtain ⟨l0,hl0⟩:∃ l0,(l.getD 0 []).length=l0:=⟨_,rfl⟩;rw [hl0] at hv0;have HV0:=Lib.hid hv0;clear hl0 hv0;have hc0:∀ W,Ext wr W→W.cell? ⟨gl,0,none⟩=some (.slice a0 l0 c0):=fun W hW=>by
       have:=HO.out.cellAt 0 (by rw [HN.out];omega);rw [List.getElem?_eq_getElem (by rw [HVL.out,HN.out];exact hi0)] at this;have h2:=HV0.out;rw [List.getD_eq_getElem?_getD,List.getElem?_eq_getElem (by rw [HVL.out,HN.out];exact hi0)] at h2;rw [← h2];exact (hEr.trans hW).cell this
      have HC0:=Lib.hid hc0;have heq:decide (l.getD 0 []=uq)=true:=decide_eq_true (by
       rw [HLE.out];exact Acu d.has n uq huq hmin (by rw [← HLE.out,HN.out];exact hi0))
      have f42:=fun W (hW:Ext wr W)=>Lib.hid (Mc (l.getD 0 []) uq (.slice a0 l0 c0) (.slice aq nq cq) W (by have:=HWS.out 0 (by rw [HN.out];exact hi0);rw [HV0.out] at this;exact this.ext (hEr.trans hW)) (hbq.ext (hEr.trans hW)))
      rw [heq] at f42;clear hc0 heq hnq hbq huq hmin;refine Hs 162 false [.slice (some ⟨gl,0,none⟩) i cl,.int .i64 i,.bool true,.bool true,.bool true,.bool false,.bool false,.slice (some ⟨gl,0,none⟩) i cl,.pointer (some ⟨gl,0,none⟩),.slice a0 l0 c0,.slice aq nq cq,.bool true,.bool false,.bool false,.bool false,.bool false,.slice (some ⟨gl,0,none⟩) i cl,.int .i64 i,.bool false,.bool false,undef,.bool false,.bool false,undef,undef,undef,undef,.bool false,.bool false] [.keep,.pure,F5 (.tmp 126) (.const (.int .i64 0)) i 0 true (by simp;omega),.keep,.keep,.pure,.keep,.keep,F4 (.tmp 132) (.const (.int .i64 0)) gl i cl 0 hi0,F3 (.tmp 133) gl 0 (.slice a0 l0 c0) HC0.out,.keep,Gc 42 Afp [.slice a0 l0 c0,.slice aq nq cq] _ fun W hW=>(f42 W hW).out,.pure,.pure,.pure,.keep,.keep,.pure,Oa (.tmp 142) (.const (.int .i64 0)) i 0 false (by simp;omega),.keep,.skip,.pure,.keep,.skip,.skip,.skip,.skip,.pure,.pure] (fun h=>by cases h) (by kernel_rfl) rfl rfl (fun W=>by kernel_rfl) (by kernel_rfl) ?_;clear hi0;intro W hW;simp only [Cf,Act.put,List.setIfInBounds_toArray,List.set_cons_zero,List.set_cons_succ];have HX8s:=Lib.hid (hW.heap HX8r.out);have HWE:=Lib.hid hW;clear hW hEr hC;go_upto_region 26 with (fail)
      cases fb
      all_goals
       refine Lv 162 false 6 (.bool true) [.keep,.keep,.keep,ldA HX8s.out hi8,.keep,Gc 29 I1 [.agg V8,.slice (some ⟨g10,0,none⟩) x.length c10] _ fun W' hW'=>(f29 W' (HWE.out.trans hW')).out,.pure,.pure,.keep] (fun h=>by cases h) (by kernel_rfl) rfl rfl (fun W=>by kernel_rfl) (by kernel_rfl) ?_;intro a' W' hW' hdf ht;go_wp2;refine bodyPost_ret (results_tmp rfl _ _ _) hdf ?_;rw [ht];exact ⟨rfl,HEw.out.trans (HWE.out.trans hW')⟩
end Go.Proofs.YtaiogolidlamiaaGreatDoor
