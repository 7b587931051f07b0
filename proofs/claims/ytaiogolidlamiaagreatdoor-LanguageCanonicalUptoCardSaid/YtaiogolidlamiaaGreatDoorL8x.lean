/-
  The walk of LanguageCanonical.
-/
import Derived.Test.YtaiogolidlamiaaGreatDoorM41
import Derived.Test.YtaiogolidlamiaaGreatDoorM38
import Derived.Test.YtaiogolidlamiaaGreatDoorM37
set_option linter.unusedVariables false
set_option linter.unusedSimpArgs false
namespace Go.Proofs.YtaiogolidlamiaaGreatDoor

set_option maxRecDepth 100000
open Go.RowKit Go.Shelf
def P4 (B:Nat) (vx:Value) (x1 x2:List RNode):Nat→Value→World→Prop
 | 0,v,_=>v=.agg A8
 | 1,v,_=>v=.agg A8
 | 2,v,_=>v=vx
 | 3,v,W=>RxV W v x1
 | 4,v,W=>RxV W v x2
 | 5,v,W=>∃ r u k,v=.tuple #[u,.int .i64 k]∧IsD W u (r.getD dN)∧Bf x2 [] r∧k=ekR r
 | 6,v,W=>∃ r u k,v=.tuple #[u,.int .i64 k]∧IsD W u (r.getD dN)∧Bf x2 [] r∧k=ekR r
 | 7,v,W=>∃ r,IsD W v (r.getD dN)∧Bf x2 [] r
 | 8,v,_=>∃ r,v=.int .i64 (ekR r)∧Bf x2 [] r
 | 9,v,W=>∃ g,v=.pointer (some ⟨g,0,none⟩)∧W.heap[g]? = some (.cells #[.slice none 0 0,.slice none 0 0,.slice none 0 0] 30 (0,0))∧B≤g
 | _,_,_=>True
theorem Aib (B:Nat) (vx:Value) (x1 x2:List RNode) (i:Nat) (v:Value) (W W':World) (h:P4 B vx x1 x2 i v W) (hE:Ext W W'):P4 B vx x1 x2 i v W':=by
 match i with
 | 0=>exact h
 | 1=>exact h
 | 2=>exact h
 | 3=>exact RxV.ext h hE
 | 4=>exact RxV.ext h hE
 | 5=>
  obtain ⟨r,u,k,h1,h2,h3,h4⟩:=h;exact ⟨r,u,k,h1,h2.ext hE,h3,h4⟩
 | 6=>
  obtain ⟨r,u,k,h1,h2,h3,h4⟩:=h;exact ⟨r,u,k,h1,h2.ext hE,h3,h4⟩
 | 7=>
  obtain ⟨r,h1,h2⟩:=h;exact ⟨r,h1.ext hE,h2⟩
 | 8=>exact h
 | 9=>
  obtain ⟨g,h1,h2,h3⟩:=h;exact ⟨g,h1,hE.heap h2,h3⟩
 | i+10=>trivial
theorem Afu {W W':World} {v:Value} (h:IsD W v dN):IsD W' v dN:=by
 have sl:∀ {u:Value} {k:Nat} {f:Nat→Value},Sl W u k 0 f→Sl W' u k 0 f:=fun ⟨h0,h1⟩=>by
  rcases h1 with h1|⟨h1,_⟩
  ·exact ⟨h0,.inl h1⟩
  ·omega
 obtain ⟨vc,vn,va,rfl,h1,⟨vs,h2,h3,h4⟩,h5⟩:=h;exact ⟨vc,vn,va,rfl,sl h1,⟨vs,h2,sl h3,fun i hi=>absurd hi (by simp [dN])⟩,sl h5⟩
theorem Aft {W:World} {v:Value} {r:Option Dfa} (hr:∀ d,r=some d→Val d) (h:IsD W v (r.getD dN)) {g:Nat} {fr:Nat × Nat} (hg:W.heap[g]? = some (.cells #[.slice none 0 0,.slice none 0 0,.slice none 0 0] 30 fr)) (cs:Array Value):IsD (W.setRow g cs) v (r.getD dN):=by
 cases r with
 | none=>exact Afu h
 | some d=>exact IsD.setRow (hr d rfl) h hg cs
set_option maxHeartbeats 8000000 in
theorem Aia (la lb:List UInt8) (va vb:Value) (w:World) (hT:Tab w) (hsz:0<w.heap.size) (ha:ByC w va la) (hb:ByC w vb lb) (hla:la.length≤1048576) (hlb:lb.length≤1048576) :
  Calls Tryz.prog 8 #[va,vb] w fun e w'=>e=.returned (.bool true)∧Ext w w':=by
 have HTa:=Lib.hid (fun W (hW:Ext w W)=>hT.below hW.below hsz);have HSZ:=Lib.hid (fun W (hW:Ext w W)=>Nat.lt_of_lt_of_le hsz hW.size);have HMA:=Lib.hid (fun W (hW:Ext w W)=>Tz 12 12 rfl (by decide) (by decide) la hla va W (ha.ext hW));have HMB:=Lib.hid (fun W (hW:Ext w W)=>Tz 12 12 rfl (by decide) (by decide) lb hlb vb W (hb.ext hW));have hS:=fun W hT hs=>Lib.hid (Z9 W hT hs)
 obtain ⟨-,aa0,ca0,rfl,-⟩:=ha;obtain ⟨-,ab0,cb0,rfl,-⟩:=hb;have hE:=Ext.refl w;clear hT hsz hla hlb;go_enter Tryz.func8,Tryz.ntmps8;have f12:=hS w (HTa.out w hE) (HSZ.out w hE);go_upto_region 2 with (first
  | (go_at_call 12;(with_reducible refine f12.out.mono ?_);rintro e w5 ⟨rfl,hEn⟩))
 have hstep:=hEn;clear f12 hS;replace hE:=hE.trans hstep;clear hEn hstep;have f35:=Lib.hid (HMA.out w5 hE);go_upto_region 3 with (first
  | (go_at_call 35;(with_reducible refine f35.out.mono ?_);rintro e w6 ⟨vx,xs,rfl,hvx,hxs,hEn⟩))
 have hstep:=hEn;have HVX:=Lib.hid hvx;have HXS:=Lib.hid hxs;obtain ⟨bx,ox,cx,rfl,-⟩:=hvx;clear hxs f35;replace hE:=hE.trans hstep;clear hEn hstep;have f35:=Lib.hid (HMB.out w6 hE);go_upto_region 4 with (first
  | (go_at_call 35;(with_reducible refine f35.out.mono ?_);rintro e w7 ⟨vy,ys,rfl,hvy,hys,hEn⟩))
 have hstep:=hEn;replace HVX:=Lib.hid (HVX.out.ext hEn);have HVY:=Lib.hid hvy;have HYS:=Lib.hid hys;obtain ⟨bY,oY,cY,rfl,-⟩:=hvy;clear hys f35;replace hE:=hE.trans hstep;clear hEn hstep;obtain ⟨lx,hlx⟩:∃ n,xs.length=n:=⟨_,rfl⟩;obtain ⟨ly,hly⟩:∃ n,ys.length=n:=⟨_,rfl⟩;simp only [hlx] at HVX;simp only [hly] at HVY;simp only [hlx,hly];obtain ⟨vx,hvx⟩:∃ v,Value.slice (some ⟨bx,ox,none⟩) lx cx=v:=⟨_,rfl⟩;obtain ⟨vy,hvy⟩:∃ v,Value.slice (some ⟨bY,oY,none⟩) ly cY=v:=⟨_,rfl⟩;rw [hvx] at HVX;rw [hvy] at HVY;simp only [hvx,hvy];clear hvx hvy hlx hly;have f36:=Lib.hid (Gv xs HXS.out.1 (Nat.le_trans HXS.out.2 (by decide)) _ w7 (HTa.out w7 hE) (HSZ.out w7 hE) HVX.out);go_upto_region 5 with (first
  | (go_at_call 36;(with_reducible refine f36.out.mono ?_);rintro e w8 ⟨r8,d8,v,k8,rfl,hD,hft,hEn⟩;have HF8:=Lib.hid hft;clear hft;obtain ⟨ac,lc,cc,an,cn,aa,la,ca,rfl⟩:=hD.agg)
  | (refine wpList_store_row rfl 30 (.tmp 8) (.tmp 33) rfl _ _ rfl rfl _ _ (Ab w8 _) Ad rfl (An _ _ _ rfl rfl rfl) ?_))
 obtain ⟨hEb,hXb,hDb⟩:=Dx hD;obtain ⟨V8,hV⟩:∃ X,dA (.slice ac lc cc) (.slice an d8.nxt.length cn) (.slice aa la ca)=X:=⟨_,rfl⟩;have hi8:(Tryz.prog.info? 30).map (·.size)=some V8.size:=by rw [← hV];exact Ad
 rw [hV] at hEb hXb hDb;rw [hV];obtain ⟨w8x,hw⟩:∃ W,(w8.alloc (.cells #[.slice none 0 0,.slice none 0 0,.slice none 0 0] 30)).setRow w8.heap.size V8=W:=⟨_,rfl⟩;rw [hw] at hEb hXb hDb;simp only [hw];obtain ⟨g8,hg⟩:∃ y,w8.heap.size=y:=⟨_,rfl⟩;rw [hg] at hXb;rw [hg];have hstep:=hEn.trans hEb;have HX8:=Lib.hid hXb;have HD8:=Lib.hid hDb;clear f36;replace HVX:=Lib.hid (HVX.out.ext hstep);replace HVY:=Lib.hid (HVY.out.ext hstep);replace hE:=hE.trans hstep;clear hD hEb hXb hDb hV hw hg hEn hstep;have f36:=Lib.hid (Gv ys HYS.out.1 (Nat.le_trans HYS.out.2 (by decide)) _ w8x (HTa.out w8x hE) (HSZ.out w8x hE) HVY.out);go_upto_region 6 with (first
  | (go_at_call 36;(with_reducible refine f36.out.mono ?_);rintro e w10 ⟨r10,d10,v,k10,rfl,hD,hft,hEn⟩;have HF10:=Lib.hid hft;clear hft;obtain ⟨ac,lc,cc,an,cn,aa,la,ca,rfl⟩:=hD.agg)
  | (refine wpList_store_row rfl 30 (.tmp 10) (.tmp 38) rfl _ _ rfl rfl _ _ (Ab w10 _) Ad rfl (An _ _ _ rfl rfl rfl) ?_))
 obtain ⟨hEb,hXb,hDb⟩:=Dx hD;obtain ⟨V10,hV⟩:∃ X,dA (.slice ac lc cc) (.slice an d10.nxt.length cn) (.slice aa la ca)=X:=⟨_,rfl⟩;have hi10:(Tryz.prog.info? 30).map (·.size)=some V10.size:=by rw [← hV];exact Ad
 rw [hV] at hEb hXb hDb;rw [hV];obtain ⟨w10x,hw⟩:∃ W,(w10.alloc (.cells #[.slice none 0 0,.slice none 0 0,.slice none 0 0] 30)).setRow w10.heap.size V10=W:=⟨_,rfl⟩;rw [hw] at hEb hXb hDb;simp only [hw];obtain ⟨g10,hg⟩:∃ y,w10.heap.size=y:=⟨_,rfl⟩;rw [hg] at hXb;rw [hg];have hstep:=hEn.trans hEb;have HX10:=Lib.hid hXb;have HD10:=Lib.hid hDb;clear f36;replace HX8:=Lib.hid (hstep.heap HX8.out);replace HD8:=Lib.hid (HD8.out.ext hstep);replace HVX:=Lib.hid (HVX.out.ext hstep);replace HVY:=Lib.hid (HVY.out.ext hstep);replace hE:=hE.trans hstep;clear hD hEb hXb hDb hV hw hg hEn hstep;have f37:=Lib.hid (W4 xs ys HXS.out.1 HYS.out.1 (Nat.le_trans HXS.out.2 (by decide)) (Nat.le_trans HYS.out.2 (by decide)) _ _ w10x HVX.out HVY.out);have F36:=Lib.hid (fun (W:World) (hW:Ext w10x W) (u:Value) (hu:RxV W u (bin 5 xs ys))=>Gv (bin 5 xs ys) (Mr HXS.out.1 HYS.out.1 (.inr (.inl rfl))) (by rw [Gw];have:=HXS.out.2;have:=HYS.out.2;omega) u W (HTa.out W (hE.trans hW)) (HSZ.out W (hE.trans hW)) hu);go_upto_region 7 with (first
  | (go_at_call 37;(with_reducible refine f37.out.mono ?_);rintro e w12a ⟨ub,rfl,hub,hE37⟩;have f36:=Lib.hid (F36.out _ hE37 _ hub);obtain ⟨bb,ob,cb,rfl,-⟩:=hub)
  | (go_at_call 36;(with_reducible refine f36.out.mono ?_);rintro e w12 ⟨r12,d12,v,k12,rfl,hD,hft,hEn⟩;replace hEn:=hE37.trans hEn;have HF12:=Lib.hid hft;clear hft;obtain ⟨ac,lc,cc,an,cn,aa,la,ca,rfl⟩:=hD.agg)
  | (refine wpList_store_row rfl 30 (.tmp 12) (.tmp 45) rfl _ _ rfl rfl _ _ (Ab w12 _) Ad rfl (An _ _ _ rfl rfl rfl) ?_))
 obtain ⟨hEb,hXb,hDb⟩:=Dx hD;obtain ⟨V12,hV⟩:∃ X,dA (.slice ac lc cc) (.slice an d12.nxt.length cn) (.slice aa la ca)=X:=⟨_,rfl⟩;have hi12:(Tryz.prog.info? 30).map (·.size)=some V12.size:=by rw [← hV];exact Ad
 rw [hV] at hEb hXb hDb;rw [hV];obtain ⟨w12x,hw⟩:∃ W,(w12.alloc (.cells #[.slice none 0 0,.slice none 0 0,.slice none 0 0] 30)).setRow w12.heap.size V12=W:=⟨_,rfl⟩;rw [hw] at hEb hXb hDb;simp only [hw];obtain ⟨g12,hg⟩:∃ y,w12.heap.size=y:=⟨_,rfl⟩;rw [hg] at hXb;rw [hg];have hstep:=hEn.trans hEb;have HX12:=Lib.hid hXb;have HD12:=Lib.hid hDb;clear f36 f37 F36 hE37;replace HX8:=Lib.hid (hstep.heap HX8.out);replace HD8:=Lib.hid (HD8.out.ext hstep);replace HX10:=Lib.hid (hstep.heap HX10.out);replace HD10:=Lib.hid (HD10.out.ext hstep);replace HVX:=Lib.hid (HVX.out.ext hstep);replace HVY:=Lib.hid (HVY.out.ext hstep);replace hE:=hE.trans hstep;clear hD hEb hXb hDb hV hw hg hEn hstep;have f37:=Lib.hid (W4 ys xs HYS.out.1 HXS.out.1 (Nat.le_trans HYS.out.2 (by decide)) (Nat.le_trans HXS.out.2 (by decide)) _ _ w12x HVY.out HVX.out);have F36:=Lib.hid (fun (W:World) (hW:Ext w12x W) (u:Value) (hu:RxV W u (bin 5 ys xs))=>Gv (bin 5 ys xs) (Mr HYS.out.1 HXS.out.1 (.inr (.inl rfl))) (by rw [Gw];have:=HYS.out.2;have:=HXS.out.2;omega) u W (HTa.out W (hE.trans hW)) (HSZ.out W (hE.trans hW)) hu);go_upto_region 8 with (first
  | (go_at_call 37;(with_reducible refine f37.out.mono ?_);rintro e w14a ⟨ub,rfl,hub,hE37⟩;have f36:=Lib.hid (F36.out _ hE37 _ hub);obtain ⟨bb,ob,cb,rfl,-⟩:=hub)
  | (go_at_call 36;(with_reducible refine f36.out.mono ?_);rintro e w14 ⟨r14,d14,v,k14,rfl,hD,hft,hEn⟩;replace hEn:=hE37.trans hEn;have HF14:=Lib.hid hft;clear hft;obtain ⟨ac,lc,cc,an,cn,aa,la,ca,rfl⟩:=hD.agg)
  | (refine wpList_store_row rfl 30 (.tmp 14) (.tmp 52) rfl _ _ rfl rfl _ _ (Ab w14 _) Ad rfl (An _ _ _ rfl rfl rfl) ?_))
 obtain ⟨hEb,hXb,hDb⟩:=Dx hD;obtain ⟨V14,hV⟩:∃ X,dA (.slice ac lc cc) (.slice an d14.nxt.length cn) (.slice aa la ca)=X:=⟨_,rfl⟩;have hi14:(Tryz.prog.info? 30).map (·.size)=some V14.size:=by rw [← hV];exact Ad
 rw [hV] at hEb hXb hDb;rw [hV];obtain ⟨w14x,hw⟩:∃ W,(w14.alloc (.cells #[.slice none 0 0,.slice none 0 0,.slice none 0 0] 30)).setRow w14.heap.size V14=W:=⟨_,rfl⟩;rw [hw] at hEb hXb hDb;simp only [hw];obtain ⟨g14,hg⟩:∃ y,w14.heap.size=y:=⟨_,rfl⟩;rw [hg] at hXb;rw [hg];have hstep:=hEn.trans hEb;have HX14:=Lib.hid hXb;have HD14:=Lib.hid hDb;clear f36 f37 F36 hE37;replace HX8:=Lib.hid (hstep.heap HX8.out);replace HD8:=Lib.hid (HD8.out.ext hstep);replace HX10:=Lib.hid (hstep.heap HX10.out);replace HD10:=Lib.hid (HD10.out.ext hstep);replace HX12:=Lib.hid (hstep.heap HX12.out);replace HD12:=Lib.hid (HD12.out.ext hstep);replace HVX:=Lib.hid (HVX.out.ext hstep);replace HVY:=Lib.hid (HVY.out.ext hstep);replace hE:=hE.trans hstep;clear hD hEb hXb hDb hV hw hg hEn hstep;have e12:r14=r12:=Acy HYS.out.1 HXS.out.1 HF14.out.1 HF12.out.1 HF10.out.1 HF8.out.1;have hd14:d14=d12:=by rw [HF14.out.2.1,HF12.out.2.1,e12]
 have hk14:k14=k12:=by rw [HF14.out.2.2,HF12.out.2.2,e12]
 subst hk14;have e1:decide (d12=d14)=true:=decide_eq_true hd14.symm;clear e12 hd14;have f24:=Lib.hid (Fs d12 d14 _ _ w14x HD12.out HD14.out);rw [e1] at f24;clear e1;go_upto_region 10 with (first
  | (refine Fm rfl 30 (.tmp 12) rfl _ rfl _ _ _ _ HX12.out Tryz.underlying30 rfl hi12 ?_)
  | (refine Fm rfl 30 (.tmp 14) rfl _ rfl _ _ _ _ HX14.out Tryz.underlying30 rfl hi14 ?_)
  | (go_at_call 24;(with_reducible refine f24.out.mono ?_);rintro e w15 ⟨rfl,hEn⟩))
 have hstep:=hEn;clear f24;replace HX8:=Lib.hid (hstep.heap HX8.out);replace HD8:=Lib.hid (HD8.out.ext hstep);replace HX10:=Lib.hid (hstep.heap HX10.out);replace HD10:=Lib.hid (HD10.out.ext hstep);replace HX12:=Lib.hid (hstep.heap HX12.out);replace HD12:=Lib.hid (HD12.out.ext hstep);replace HX14:=Lib.hid (hstep.heap HX14.out);replace HD14:=Lib.hid (HD14.out.ext hstep);replace HVX:=Lib.hid (HVX.out.ext hstep);replace HVY:=Lib.hid (HVY.out.ext hstep);replace hE:=hE.trans hstep;clear hEn hstep;obtain ⟨hb8,hdd8,hkk8⟩:=HF8.out;obtain ⟨hb10,hdd10,hkk10⟩:=HF10.out;have HEE:=Lib.hid hE;rcases Gg r8 with e8|⟨e8,h8⟩
 ·rw [e8] at hkk8;replace hkk8:k8=2:=hkk8;subst hkk8;clear hb8 hdd8 hb10 hdd10 hkk10 hE e8 HF8 HF10 HF12 HF14;go_wp2;go_ret;exact ⟨rfl,HEE.out⟩
 rw [h8] at hb8 hdd8 hkk8;replace hdd8:d8=e8:=hdd8;replace hkk8:k8=0:=hkk8;subst hdd8;subst hkk8;rcases Gg r10 with e10|⟨e10,h10⟩
 ·rw [e10] at hkk10;replace hkk10:k10=2:=hkk10;subst hkk10;clear hb8 hb10 hdd10 hE e10 h8 HF8 HF10 HF12 HF14;go_wp2;go_ret;exact ⟨rfl,HEE.out⟩
 rw [h10] at hb10 hdd10 hkk10;replace hdd10:d10=e10:=hdd10;replace hkk10:k10=0:=hkk10;subst hdd10;subst hkk10;have HC8:=Lib.hid (And.intro (L7 HXS.out.1 hb8).1 (P6 HXS.out.1 hb8));have HC10:=Lib.hid (And.intro (L7 HYS.out.1 hb10).1 (P6 HYS.out.1 hb10));have HB8:=Lib.hid hb8;clear hb8 hb10 h8 h10 HEE HF8 HF10 HF12 HF14;obtain ⟨bd,hbd⟩:∃ b,decide (d8=d10)=b:=⟨_,rfl⟩;have f38:=Lib.hid (Aje d8 d10 HC8.out.1 HC10.out.1 HC8.out.2.2 HC10.out.2.2 _ _ w15 (HTa.out w15 hE) (HSZ.out w15 hE) HD8.out HD10.out);rw [hbd] at f38;have HBD:=Lib.hid hbd;clear hbd;go_upto_region 13 with (first
  | (refine wpList_load_row rfl 30 (.tmp 8) rfl _ rfl _ _ _ _ HX8.out Tryz.underlying30 rfl hi8 ?_)
  | (refine wpList_load_row rfl 30 (.tmp 10) rfl _ rfl _ _ _ _ HX10.out Tryz.underlying30 rfl hi10 ?_)
  | (go_at_call 38;(with_reducible refine f38.out.mono ?_);rintro e w16 ⟨⟨aq,nq,cq,rfl⟩,hEn⟩))
 have hstep:=hEn;clear f38;replace HX8:=Lib.hid (hstep.heap HX8.out);replace HD8:=Lib.hid (HD8.out.ext hstep);replace HX10:=Lib.hid (hstep.heap HX10.out);replace HD10:=Lib.hid (HD10.out.ext hstep);replace HX12:=Lib.hid (hstep.heap HX12.out);replace HD12:=Lib.hid (HD12.out.ext hstep);replace HX14:=Lib.hid (hstep.heap HX14.out);replace HD14:=Lib.hid (HD14.out.ext hstep);replace HVX:=Lib.hid (HVX.out.ext hstep);replace HVY:=Lib.hid (HVY.out.ext hstep);replace hE:=hE.trans hstep;clear hEn hstep;have f39a:=Lib.hid (Ra xs HXS.out.1 (Nat.le_trans HXS.out.2 (by decide)) _ w16 HVX.out);have F39:=Lib.hid (fun (W:World) (u:Value) (hu:RxV W u (xs++[⟨7,xs.length-1,0,0#256,0,0⟩]))=>Ra (xs++[⟨7,xs.length-1,0,0#256,0,0⟩]) (Mx HXS.out.1) (by have:=HXS.out.2;simp;omega) u W hu);have F36:=Lib.hid (fun (W:World) (hW:Ext w16 W) (u:Value) (hu:RxV W u (xs++[⟨7,xs.length-1,0,0#256,0,0⟩]++[⟨7,(xs++[RNode.mk 7 (xs.length-1) 0 0#256 0 0]).length-1,0,0#256,0,0⟩]))=>Gv (xs++[⟨7,xs.length-1,0,0#256,0,0⟩]++[⟨7,(xs++[RNode.mk 7 (xs.length-1) 0 0#256 0 0]).length-1,0,0#256,0,0⟩]) (Mx (Mx HXS.out.1)) (by have:=HXS.out.2;simp;omega) u W (HTa.out W (hE.trans hW)) (HSZ.out W (hE.trans hW)) hu);go_upto_region 14 with (first
  | ((go_at_call 39;with_reducible refine f39a.out.mono ?_);rintro e w18a ⟨ub,rfl,hub,hE37⟩;have f39b:=Lib.hid (F39.out _ _ hub))
  | ((go_at_call 39;with_reducible refine f39b.out.mono ?_);rintro e w18b ⟨ub2,rfl,hub2,hE38⟩;have f36:=Lib.hid (F36.out _ (hE37.trans hE38) _ hub2))
  | (go_at_call 36;(with_reducible refine f36.out.mono ?_);rintro e w18 ⟨r18,d18,v,k18,rfl,hD,hft,hEn⟩;replace hEn:=(hE37.trans hE38).trans hEn;have HF18:=Lib.hid hft;clear hft;obtain ⟨ac,lc,cc,an,cn,aa,la,ca,rfl⟩:=hD.agg)
  | (refine wpList_store_row rfl 30 (.tmp 18) (.tmp 83) rfl _ _ rfl rfl _ _ (Ab w18 _) Ad rfl (An _ _ _ rfl rfl rfl) ?_))
 obtain ⟨hEb,hXb,hDb⟩:=Dx hD;obtain ⟨V18,hV⟩:∃ X,dA (.slice ac lc cc) (.slice an d18.nxt.length cn) (.slice aa la ca)=X:=⟨_,rfl⟩;have hi18:(Tryz.prog.info? 30).map (·.size)=some V18.size:=by rw [← hV];exact Ad
 rw [hV] at hEb hXb hDb;rw [hV];obtain ⟨w18x,hw⟩:∃ W,(w18.alloc (.cells #[.slice none 0 0,.slice none 0 0,.slice none 0 0] 30)).setRow w18.heap.size V18=W:=⟨_,rfl⟩;rw [hw] at hEb hXb hDb;simp only [hw];obtain ⟨g18,hg⟩:∃ y,w18.heap.size=y:=⟨_,rfl⟩;rw [hg] at hXb;rw [hg];have hstep:=hEn.trans hEb;have HX18:=Lib.hid hXb;have HD18:=Lib.hid hDb;clear f36 f39a f39b F36 F39 hE37 hE38;replace HX8:=Lib.hid (hstep.heap HX8.out);replace HD8:=Lib.hid (HD8.out.ext hstep);replace HX10:=Lib.hid (hstep.heap HX10.out);replace HD10:=Lib.hid (HD10.out.ext hstep);replace HX12:=Lib.hid (hstep.heap HX12.out);replace HD12:=Lib.hid (HD12.out.ext hstep);replace HX14:=Lib.hid (hstep.heap HX14.out);replace HD14:=Lib.hid (HD14.out.ext hstep);replace HVX:=Lib.hid (HVX.out.ext hstep);replace HVY:=Lib.hid (HVY.out.ext hstep);replace hE:=hE.trans hstep;clear hD hEb hXb hDb hV hw hg hEn hstep;have hn18:r18=some d8:=Adh HXS.out.1 HB8.out rfl rfl rfl (by simp) HF18.out.1;obtain ⟨-,hd18,hk18⟩:=HF18.out;rw [hn18] at hd18 hk18;replace hd18:d18=d8:=hd18;replace hk18:k18=0:=hk18;subst hd18;subst hk18;clear hn18 HF18;have HXA:=Lib.hid (show ∃ y,y=(xs++[⟨8,xs.length-1,0,0#256,0,-1⟩]) from ⟨_,rfl⟩);go_upto_region 15 with (fail)
 have hstep:=(Ext.refl w18x).alloc (.cells A8 64);have H20:=Ab w18x (.cells A8 64);obtain ⟨w20,hw20⟩:∃ W,w18x.alloc (.cells A8 64)=W:=⟨_,rfl⟩;rw [hw20] at hstep H20;simp only [hw20];clear hw20 HXA;obtain ⟨g20,hg20⟩:∃ y,w18x.heap.size=y:=⟨_,rfl⟩;rw [hg20] at H20;simp only [hg20];clear hg20;have HR20:=Lib.hid H20;clear H20;replace HX8:=Lib.hid (hstep.heap HX8.out);replace HD8:=Lib.hid (HD8.out.ext hstep);replace HX10:=Lib.hid (hstep.heap HX10.out);replace HD10:=Lib.hid (HD10.out.ext hstep);replace HX12:=Lib.hid (hstep.heap HX12.out);replace HD12:=Lib.hid (HD12.out.ext hstep);replace HX14:=Lib.hid (hstep.heap HX14.out);replace HD14:=Lib.hid (HD14.out.ext hstep);replace HX18:=Lib.hid (hstep.heap HX18.out);replace HD18:=Lib.hid (HD18.out.ext hstep);replace HVX:=Lib.hid (HVX.out.ext hstep);replace HVY:=Lib.hid (HVY.out.ext hstep);replace hE:=hE.trans hstep;clear hstep;have f39a:=Lib.hid (My xs HXS.out.1 (Nat.le_trans HXS.out.2 (by decide)) _ w20 HVX.out);have F36:=Lib.hid (fun (W:World) (hW:Ext w20 W) (u:Value) (hu:RxV W u (xs++[⟨8,xs.length-1,0,0#256,0,-1⟩]))=>Gv (xs++[⟨8,xs.length-1,0,0#256,0,-1⟩]) (Kb HXS.out.1) (by have:=HXS.out.2;simp;omega) u W (HTa.out W (hE.trans hW)) (HSZ.out W (hE.trans hW)) hu);go_upto_region 16 with (first
  | (refine wpList_load_row rfl 64 (.tmp 20) rfl _ rfl _ _ _ _ HR20.out Tryz.underlying64 rfl Cg ?_)
  | ((go_at_call 39;with_reducible refine f39a.out.mono ?_);rintro e w21a ⟨ub,rfl,hub,hE37⟩;have f36:=Lib.hid (F36.out _ hE37 _ hub))
  | (go_at_call 36;(with_reducible refine f36.out.mono ?_);rintro e w21 ⟨r21,d21,v,k21,rfl,hD,hft,hEn⟩;replace hEn:=hE37.trans hEn;have HF21:=Lib.hid hft;clear hft;obtain ⟨ac,lc,cc,an,cn,aa,la,ca,rfl⟩:=hD.agg)
  | (refine wpList_store_row rfl 30 (.tmp 21) (.tmp 91) rfl _ _ rfl rfl _ _ (Ab w21 _) Ad rfl (An _ _ _ rfl rfl rfl) ?_))
 obtain ⟨hEb,hXb,hDb⟩:=Dx hD;obtain ⟨V21,hV⟩:∃ X,dA (.slice ac lc cc) (.slice an d21.nxt.length cn) (.slice aa la ca)=X:=⟨_,rfl⟩;have hi21:(Tryz.prog.info? 30).map (·.size)=some V21.size:=by rw [← hV];exact Ad
 rw [hV] at hEb hXb hDb;rw [hV];obtain ⟨w21x,hw⟩:∃ W,(w21.alloc (.cells #[.slice none 0 0,.slice none 0 0,.slice none 0 0] 30)).setRow w21.heap.size V21=W:=⟨_,rfl⟩;rw [hw] at hEb hXb hDb;simp only [hw];obtain ⟨g21,hg⟩:∃ y,w21.heap.size=y:=⟨_,rfl⟩;rw [hg] at hXb;rw [hg];have hstep:=hEn.trans hEb;have HX21:=Lib.hid hXb;have HD21:=Lib.hid hDb;clear f36 f39a F36 hE37;replace HX8:=Lib.hid (hstep.heap HX8.out);replace HD8:=Lib.hid (HD8.out.ext hstep);replace HX10:=Lib.hid (hstep.heap HX10.out);replace HD10:=Lib.hid (HD10.out.ext hstep);replace HX12:=Lib.hid (hstep.heap HX12.out);replace HD12:=Lib.hid (HD12.out.ext hstep);replace HX14:=Lib.hid (hstep.heap HX14.out);replace HD14:=Lib.hid (HD14.out.ext hstep);replace HX18:=Lib.hid (hstep.heap HX18.out);replace HD18:=Lib.hid (HD18.out.ext hstep);replace HR20:=Lib.hid (hstep.heap HR20.out);replace HVX:=Lib.hid (HVX.out.ext hstep);replace HVY:=Lib.hid (HVY.out.ext hstep);replace hE:=hE.trans hstep;clear hD hEb hXb hDb hV hw hg hEn hstep;obtain ⟨x3,hx3⟩:∃ x,x=(xs++[⟨8,xs.length-1,0,0#256,0,-1⟩]):=⟨_,rfl⟩;obtain ⟨x4,hx4⟩:∃ x,x=(xs++[⟨8,xs.length-1,0,0#256,0,-1⟩]++[⟨8,(xs++[RNode.mk 8 (xs.length-1) 0 0#256 0 (-1)]).length-1,0,0#256,0,-1⟩]):=⟨_,rfl⟩;have HQ3:=Lib.hid hx3;have HQ4:=Lib.hid hx4;clear hx3 hx4;have HW4:Hid (WRx x4∧x4.length≤200):=Lib.hid (by rw [HQ4.out];exact ⟨Kb (Kb HXS.out.1),by have:=HXS.out.2;simp;omega⟩);have F39:Hid (∀ (W:World),Ext w21x W→Calls Tryz.prog 39 #[.agg A8,vx] W fun e w'=>∃ u,e=.returned u∧RxV w' u x3∧Ext W w'):=Lib.hid (fun W hW=>by rw [HQ3.out];exact My xs HXS.out.1 (Nat.le_trans HXS.out.2 (by decide)) vx W (HVX.out.ext hW));have F39b:Hid (∀ (W:World) (u:Value),RxV W u x3→Calls Tryz.prog 39 #[.agg A8,u] W fun e w'=>∃ u,e=.returned u∧RxV w' u x4∧Ext W w'):=Lib.hid (fun W u hu=>by rw [HQ4.out];rw [HQ3.out] at hu;exact My (xs++[⟨8,xs.length-1,0,0#256,0,-1⟩]) (Kb HXS.out.1) (by have:=HXS.out.2;simp;omega) u W hu);have F36:=Lib.hid (fun (W:World) (hW:Ext w21x W) (u:Value) (hu:RxV W u x4)=>Gv x4 HW4.out.1 HW4.out.2 u W (HTa.out W (hE.trans hW)) (HSZ.out W (hE.trans hW)) hu);have HEE:=Lib.hid hE;clear hE;refine Qo 10 131 8 (by kernel_rfl) (by kernel_rfl) rfl (fun _ _ _ _ h=>h) (P4 w21x.heap.size vx x3 x4) (fun _ _ _ _=>True) (fun _ _ _ _ _=>trivial) (Aib w21x.heap.size vx x3 x4) _ rfl (fun c W hdep=>?_) (fun i hi=>?_) (fun vs w23 hE23 hF _=>?_)
 ·obtain ⟨r,u,k,h93,-,-,-⟩:=hdep 6 93 (by kernel_rfl);exact ⟨.int .i64 k,fun W=>by go_simp⟩
 ·have hd1:=(Ext.refl w21x).drew
  match i,hi with
  | 0,_=>
   refine Ar _ _ rfl rfl rfl fun c W hW hdep hkeep=>?_
   have h3:=hkeep 20 (by kernel_rfl);refine Cy (Ec 64 (.tmp 20) rfl g20 h3 _ _ _ _ ((hd1.trans hW).heap HR20.out) Tryz.underlying64 rfl Cg) ?_;exact ⟨_,rfl,Ext.refl W,rfl,fun j u _ _ _=>trivial⟩
  | 1,_=>
   refine Ar _ _ rfl rfl rfl fun c W hW hdep hkeep=>?_
   have h3:=hkeep 20 (by kernel_rfl);refine Cy (Ec 64 (.tmp 20) rfl g20 h3 _ _ _ _ ((hd1.trans hW).heap HR20.out) Tryz.underlying64 rfl Cg) ?_;exact ⟨_,rfl,Ext.refl W,rfl,fun j u _ _ _=>trivial⟩
  | 2,_=>
   refine Ar _ _ rfl rfl rfl fun c W hW hdep hkeep=>?_
   have h3:c.tmps.getD 6 undef=vx:=hkeep 6 (by kernel_rfl);go_simp;exact ⟨_,rfl,Ext.refl W,rfl⟩
  | 3,_=>
   refine Ar _ _ rfl rfl rfl fun c W hW hdep hkeep=>?_
   have h95:c.tmps.getD 95 undef=.agg A8:=hdep 1 95 (by kernel_rfl);have h96:c.tmps.getD 96 undef=vx:=hdep 2 96 (by kernel_rfl);go_simp
   (with_reducible refine (F39.out W (hd1.trans hW)).mono ?_)
   rintro e W' ⟨u,rfl,hu,hE⟩;exact ⟨_,rfl,hE,hu⟩
  | 4,_=>
   refine Ar _ _ rfl rfl rfl fun c W hW hdep hkeep=>?_
   have h94:c.tmps.getD 94 undef=.agg A8:=hdep 0 94 (by kernel_rfl);have h97:RxV W (c.tmps.getD 97 undef) x3:=hdep 3 97 (by kernel_rfl);obtain ⟨u97,hu97⟩:∃ u,c.tmps.getD 97 undef=u:=⟨_,rfl⟩;rw [hu97] at h97;have f:=Lib.hid (F39b.out W _ h97);clear h97;go_simp
   (with_reducible refine f.out.mono ?_)
   rintro e W' ⟨u,rfl,hu,hE⟩;exact ⟨_,rfl,hE,hu⟩
  | 5,_=>
   refine Ar _ _ rfl rfl rfl fun c W hW hdep hkeep=>?_
   have h98:RxV W (c.tmps.getD 98 undef) x4:=hdep 4 98 (by kernel_rfl);obtain ⟨u98,hu98⟩:∃ u,c.tmps.getD 98 undef=u:=⟨_,rfl⟩;rw [hu98] at h98;have f:=Lib.hid (F36.out W (hd1.trans hW) _ h98);clear h98;go_simp
   (with_reducible refine f.out.mono ?_)
   rintro e W' ⟨r,d,u,k,rfl,hD,⟨hb,rfl,hk⟩,hE⟩;exact ⟨_,rfl,hE,⟨r,u,k,rfl,hD,hb,hk⟩⟩
  | 6,_=>
   refine Ar _ _ rfl rfl rfl fun c W hW hdep hkeep=>?_
   obtain ⟨r,u,k,h99,hD,hb,hk⟩:=hdep 5 99 (by kernel_rfl);have HK:=Lib.hid hk;have HB:=Lib.hid hb;clear hk hb;go_simp;exact ⟨_,rfl,Ext.refl W,⟨r,u,k,rfl,hD,HB.out,HK.out⟩⟩
  | 7,_=>
   refine Ar _ _ rfl rfl rfl fun c W hW hdep hkeep=>?_
   obtain ⟨r,u,k,h93,hD,hb,hk⟩:=hdep 6 93 (by kernel_rfl);have HB:=Lib.hid hb;clear hk hb;go_simp;exact ⟨_,rfl,Ext.refl W,⟨r,hD,HB.out⟩⟩
  | 8,_=>
   refine Ar _ _ rfl rfl rfl fun c W hW hdep hkeep=>?_
   obtain ⟨r,u,k,h93,hD,hb,hk⟩:=hdep 6 93 (by kernel_rfl);have HK:=Lib.hid hk;have HB:=Lib.hid hb;clear hk hb;go_simp;exact ⟨_,rfl,Ext.refl W,⟨r,by rw [HK.out],HB.out⟩⟩
  | 9,_=>
   refine Ar _ _ rfl rfl rfl fun c W hW hdep hkeep=>?_
   go_simp;exact ⟨_,rfl,(Ext.refl W).alloc _,⟨_,rfl,Ab W _,(hd1.trans hW).size⟩⟩
 ·obtain ⟨r23,hD23,hb23⟩:=hF 7 (by omega);obtain ⟨r23',h8,hb23'⟩:=hF 8 (by omega);have hrr:=E3 _ _ hb23' hb23;rw [hrr] at h8;obtain ⟨g23,h9,H23,hg23⟩:=hF 9 (by omega);have hE24:=(Ext.refl w21x).drew.trans hE23;have hvr:∀ d,r23=some d→Val d:=fun d hd=>by subst hd;exact (P6 HW4.out.1 hb23).1
  have HB23:=Lib.hid hb23;clear hb23 hb23' hrr hF;obtain ⟨ac,lc,cc,an,cn,aa,la,ca,h7⟩:=hD23.agg;rw [h7] at hD23;simp only [Ba,List.drop_succ_cons,List.drop_zero,h7,h8,h9,List.getElem?_toArray,List.getElem?_cons_zero,List.getElem?_cons_succ,Option.bind_some,Act.put,List.setIfInBounds_toArray,List.set_cons_zero,List.set_cons_succ];clear h7 h8 h9;obtain ⟨k23,hk23⟩:∃ k,ekR r23=k:=⟨_,rfl⟩;obtain ⟨d23,hd23⟩:∃ d,r23.getD dN=d:=⟨_,rfl⟩;have hDn:=Aft hvr hD23 H23 (dA (.slice ac lc cc) (.slice an d23.nxt.length cn) (.slice aa la ca));rw [hd23] at hD23 hDn;rw [hk23,hd23];have HF23:Hid (d23=r23.getD dN∧k23=ekR r23):=Lib.hid ⟨hd23.symm,hk23.symm⟩;clear hd23 hk23 hvr;go_upto_region 17 with (refine wpList_store_row rfl 30 (.tmp 23) (.tmp 100) rfl _ _ rfl rfl _ _ H23 Ad rfl (An _ _ _ rfl rfl rfl) ?_)
  have hE25:=hE24.setRow hg23 (dA (.slice ac lc cc) (.slice an d23.nxt.length cn) (.slice aa la ca));have hX23:=setRow_heap w23 g23 _ (dA (.slice ac lc cc) (.slice an d23.nxt.length cn) (.slice aa la ca)) _ _ H23;obtain ⟨V23,hV⟩:∃ X,dA (.slice ac lc cc) (.slice an d23.nxt.length cn) (.slice aa la ca)=X:=⟨_,rfl⟩;have hi23:(Tryz.prog.info? 30).map (·.size)=some V23.size:=by rw [← hV];exact Ad
  rw [hV] at hDn hE25 hX23;rw [hV];obtain ⟨w25,hw⟩:∃ W,w23.setRow g23 V23=W:=⟨_,rfl⟩;rw [hw] at hDn hE25 hX23;simp only [hw];have HX23:=Lib.hid hX23;have HD23:=Lib.hid hDn;have hstep:=hE25;have hE:=HEE.out.trans hstep;clear hD23 hDn hE25 hX23 hE23 hE24 H23 hg23 hV hw HEE;replace HX8:=Lib.hid (hstep.heap HX8.out);replace HD8:=Lib.hid (HD8.out.ext hstep);replace HX10:=Lib.hid (hstep.heap HX10.out);replace HD10:=Lib.hid (HD10.out.ext hstep);replace HX12:=Lib.hid (hstep.heap HX12.out);replace HD12:=Lib.hid (HD12.out.ext hstep);replace HX14:=Lib.hid (hstep.heap HX14.out);replace HD14:=Lib.hid (HD14.out.ext hstep);replace HX18:=Lib.hid (hstep.heap HX18.out);replace HD18:=Lib.hid (HD18.out.ext hstep);replace HX21:=Lib.hid (hstep.heap HX21.out);replace HD21:=Lib.hid (HD21.out.ext hstep);replace HR20:=Lib.hid (hstep.heap HR20.out);replace HVX:=Lib.hid (HVX.out.ext hstep);replace HVY:=Lib.hid (HVY.out.ext hstep);clear hstep F39 F39b F36;obtain ⟨hb21,hd21,hk21⟩:=HF21.out;obtain ⟨hd23,hk23⟩:=HF23.out;rcases Gg r21 with e21|⟨e21,h21⟩
  ·rw [e21] at hk21;replace hk21:k21=2:=hk21;subst hk21;clear hb21 hd21 hd23 hk23 HF21 HF23 e21;have f24a:=fun W (hW:Ext w25 W)=>Lib.hid (Fs d18 d10 _ _ W (HD8.out.ext hW) (HD10.out.ext hW))
   have f24b:=fun W (hW:Ext w25 W)=>Lib.hid (Fs d18 d18 _ _ W (HD18.out.ext hW) (HD8.out.ext hW))
   have e8:decide (d18=d18)=true:=decide_eq_true rfl;rw [HBD.out] at f24a;rw [e8] at f24b;have HEE:=Lib.hid hE;clear e8 hE;go_upto_region 19 with (fail)
   cases bd
   ·refine G1 131 false 4 (.bool true) [.keep,.keep,.keep,ldA HX8.out hi8,ldA HX10.out hi10,Eg 24 Ed [.agg V8,.agg V10] _ fun W hW=>(f24a W hW).out,.pure,.pure,.keep,.keep,.pure,.pure,.keep,ldA HX18.out hi18,ldA HX8.out hi8,Eg 24 Ed [.agg V18,.agg V8] _ fun W hW=>(f24b W hW).out,.pure,.keep] (fun h=>by cases h) (by kernel_rfl) rfl rfl (fun W=>by kernel_rfl) (by kernel_rfl) ?_;intro a' W hW hdf ht;go_wp2;refine bodyPost_ret (results_tmp rfl _ _ _) hdf ?_;rw [ht];exact ⟨rfl,HEE.out.trans hW⟩
   ·refine G1 131 false 4 (.bool true) [.keep,.keep,.keep,ldA HX8.out hi8,ldA HX10.out hi10,Eg 24 Ed [.agg V8,.agg V10] _ fun W hW=>(f24a W hW).out,.pure,.pure,.keep,.keep,.pure,.pure,.keep,ldA HX18.out hi18,ldA HX8.out hi8,Eg 24 Ed [.agg V18,.agg V8] _ fun W hW=>(f24b W hW).out,.pure,.keep] (fun h=>by cases h) (by kernel_rfl) rfl rfl (fun W=>by kernel_rfl) (by kernel_rfl) ?_;intro a' W hW hdf ht;go_wp2;refine bodyPost_ret (results_tmp rfl _ _ _) hdf ?_;rw [ht];exact ⟨rfl,HEE.out.trans hW⟩
  ·rcases Gg r23 with e23|⟨e23,h23⟩
   ·rw [e23] at hk23;replace hk23:k23=2:=hk23;rw [h21] at hk21;replace hk21:k21=0:=hk21;subst hk23;subst hk21;clear hb21 hd21 hd23 HF21 HF23 e23 h21;have f24a:=fun W (hW:Ext w25 W)=>Lib.hid (Fs d18 d10 _ _ W (HD8.out.ext hW) (HD10.out.ext hW))
    have f24b:=fun W (hW:Ext w25 W)=>Lib.hid (Fs d18 d18 _ _ W (HD18.out.ext hW) (HD8.out.ext hW))
    have e8:decide (d18=d18)=true:=decide_eq_true rfl;rw [HBD.out] at f24a;rw [e8] at f24b;have HEE:=Lib.hid hE;clear e8 hE;go_upto_region 19 with (fail)
    cases bd
    ·refine G1 131 false 4 (.bool true) [.keep,.keep,.keep,ldA HX8.out hi8,ldA HX10.out hi10,Eg 24 Ed [.agg V8,.agg V10] _ fun W hW=>(f24a W hW).out,.pure,.pure,.keep,.keep,.pure,.pure,.keep,ldA HX18.out hi18,ldA HX8.out hi8,Eg 24 Ed [.agg V18,.agg V8] _ fun W hW=>(f24b W hW).out,.pure,.keep] (fun h=>by cases h) (by kernel_rfl) rfl rfl (fun W=>by kernel_rfl) (by kernel_rfl) ?_;intro a' W hW hdf ht;go_wp2;refine bodyPost_ret (results_tmp rfl _ _ _) hdf ?_;rw [ht];exact ⟨rfl,HEE.out.trans hW⟩
    ·refine G1 131 false 4 (.bool true) [.keep,.keep,.keep,ldA HX8.out hi8,ldA HX10.out hi10,Eg 24 Ed [.agg V8,.agg V10] _ fun W hW=>(f24a W hW).out,.pure,.pure,.keep,.keep,.pure,.pure,.keep,ldA HX18.out hi18,ldA HX8.out hi8,Eg 24 Ed [.agg V18,.agg V8] _ fun W hW=>(f24b W hW).out,.pure,.keep] (fun h=>by cases h) (by kernel_rfl) rfl rfl (fun W=>by kernel_rfl) (by kernel_rfl) ?_;intro a' W hW hdf ht;go_wp2;refine bodyPost_ret (results_tmp rfl _ _ _) hdf ?_;rw [ht];exact ⟨rfl,HEE.out.trans hW⟩
   ·rw [h21] at hb21 hd21 hk21;rw [h23] at hd23 hk23 HB23;replace hk21:k21=0:=hk21;replace hk23:k23=0:=hk23;replace hd21:d21=e21:=hd21;replace hd23:d23=e23:=hd23;have hee:e21=e23:=Y7 (n:=⟨8,xs.length-1,0,0#256,0,-1⟩) (m:=⟨8,(xs++[RNode.mk 8 (xs.length-1) 0 0#256 0 (-1)]).length-1,0,0#256,0,-1⟩) HXS.out.1 HB8.out rfl rfl rfl (by simp) rfl rfl rfl rfl hb21 (by have:=HB23.out;rw [HQ4.out] at this;exact this);have hdd:decide (d21=d23)=true:=decide_eq_true (by rw [hd21,hd23,hee]);have f24:=Lib.hid (Fs d21 d23 _ _ w25 HD21.out HD23.out);rw [hdd] at f24;subst hk23;subst hk21;clear hb21 hd21 hd23 hee hdd HF21 HF23 h21 h23;go_upto_region 19 with (first
     | (refine Fm rfl 30 (.tmp 21) rfl _ rfl _ _ _ _ HX21.out Tryz.underlying30 rfl hi21 ?_)
     | (refine Fm rfl 30 (.tmp 23) rfl _ rfl _ _ _ _ HX23.out Tryz.underlying30 rfl hi23 ?_)
     | (go_at_call 24;(with_reducible refine f24.out.mono ?_);rintro e w26 ⟨rfl,hEn⟩))
    have hstep:=hEn;replace HX8:=Lib.hid (hstep.heap HX8.out);replace HD8:=Lib.hid (HD8.out.ext hstep);replace HX10:=Lib.hid (hstep.heap HX10.out);replace HD10:=Lib.hid (HD10.out.ext hstep);replace HX18:=Lib.hid (hstep.heap HX18.out);replace HD18:=Lib.hid (HD18.out.ext hstep);replace hE:=hE.trans hstep;clear hEn hstep f24;have f24a:=fun W (hW:Ext w26 W)=>Lib.hid (Fs d18 d10 _ _ W (HD8.out.ext hW) (HD10.out.ext hW))
    have f24b:=fun W (hW:Ext w26 W)=>Lib.hid (Fs d18 d18 _ _ W (HD18.out.ext hW) (HD8.out.ext hW))
    have e8:decide (d18=d18)=true:=decide_eq_true rfl;rw [HBD.out] at f24a;rw [e8] at f24b;have HEE:=Lib.hid hE;clear e8 hE;cases bd
    ·refine G1 131 false 4 (.bool true) [.keep,.keep,.keep,ldA HX8.out hi8,ldA HX10.out hi10,Eg 24 Ed [.agg V8,.agg V10] _ fun W hW=>(f24a W hW).out,.pure,.pure,.keep,.keep,.pure,.pure,.keep,ldA HX18.out hi18,ldA HX8.out hi8,Eg 24 Ed [.agg V18,.agg V8] _ fun W hW=>(f24b W hW).out,.pure,.keep] (fun h=>by cases h) (by kernel_rfl) rfl rfl (fun W=>by kernel_rfl) (by kernel_rfl) ?_;intro a' W hW hdf ht;go_wp2;refine bodyPost_ret (results_tmp rfl _ _ _) hdf ?_;rw [ht];exact ⟨rfl,HEE.out.trans hW⟩
    ·refine G1 131 false 4 (.bool true) [.keep,.keep,.keep,ldA HX8.out hi8,ldA HX10.out hi10,Eg 24 Ed [.agg V8,.agg V10] _ fun W hW=>(f24a W hW).out,.pure,.pure,.keep,.keep,.pure,.pure,.keep,ldA HX18.out hi18,ldA HX8.out hi8,Eg 24 Ed [.agg V18,.agg V8] _ fun W hW=>(f24b W hW).out,.pure,.keep] (fun h=>by cases h) (by kernel_rfl) rfl rfl (fun W=>by kernel_rfl) (by kernel_rfl) ?_;intro a' W hW hdf ht;go_wp2;refine bodyPost_ret (results_tmp rfl _ _ _) hdf ?_;rw [ht];exact ⟨rfl,HEE.out.trans hW⟩
end Go.Proofs.YtaiogolidlamiaaGreatDoor
