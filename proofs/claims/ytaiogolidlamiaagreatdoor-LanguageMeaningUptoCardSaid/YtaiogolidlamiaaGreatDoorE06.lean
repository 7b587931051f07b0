import Derived.Test.YtaiogolidlamiaaGreatDoorE05
import Derived.Test.YtaiogolidlamiaaGreatDoorE01
import Derived.Test.YtaiogolidlamiaaGreatDoorE04
import Derived.Test.YtaiogolidlamiaaGreatDoorM28
import Derived.Test.YtaiogolidlamiaaGreatDoorM02
set_option linter.unusedVariables false
set_option linter.unusedSimpArgs false
namespace Go.Proofs.YtaiogolidlamiaaGreatDoor
set_option maxRecDepth 100000
open Go.RowKit Go.Shelf Go.WideMaps
theorem Aj5 {w:World} {b i:Nat} {V:Array Value} {t:TypeId} {fr:Nat × Nat} {v:Value} (h:w.heap[b]? = some (.cells V t fr)) (e:V[i]? = some v):w.cell? ⟨b,i,none⟩=some v:=(cell_of_row w b i _ _ _ h).trans e
theorem Akh {nd:RNode} {k:Nat} (h:nd.kind=k):(rnC nd)[0]? = some (.int .i64 (k:Int)):=by rw [← h];rfl
theorem Amd (N:Nat):List.replicate N false=Aj1 N (fun _=>false):=by
 apply List.ext_getElem?;intro j;simp only [Aj1,List.getElem?_map,List.getElem?_replicate];by_cases hj:j<N
 ·simp [hj]
 ·simp [hj]
theorem Akf {q:Mqq} {A:Nat→Prop} {W w':World} {f f':Nat × Nat→Option Value} {node n' gl i N:Nat} {row:Nat→Bool} {base:Nat} (hN:q.b.length+1=N) (hgl:W.heap.size≤gl) (hM:Mtq q (fun k=>A k∨k=gl) w' n' f')
  (hO:w'.ownsRow base 4 1 (.slice (some ⟨gl,0,none⟩) N N) N ((Aj1 N row).map Value.bool)) (hF:∀ y,node≤y.1→f' y=f y) (hG:W.grownBy w' (some q.gK)) (L:Av) (hR:∀ j,j<N→Ajy L q.b i j=row j) :
  Alp q A W f node (Aj2 L q.b i) (.returned (.slice (some ⟨gl,0,none⟩) N N)) w':=by
 subst hN;refine ⟨gl,n',f',rfl,hgl,?_,hM.weak fun k hk=>.inl hk,hF,hG⟩;have h1:=RowAt.of_owns hO (by rw [Aj4]);unfold Aj2;rw [Aj6 hR];exact h1
set_option maxHeartbeats 16000000 in
theorem Am0 (q:Mqq) (hq:q.ok) (node:Nat) (hn:node<q.xs.length) (hE:∀ k,k<node→Ako q k):Alo q node:=by
 intro A W n f i hi hM;have HQ:=Lib.hid hq;have HEO:=Lib.hid hE;have hb:=hq.hb;have hv:=hq.hx.node node hn;have hrow:=Al8 hn (Uq hv).1;obtain ⟨nd,hnd⟩:∃ m,q.xs.getD node ⟨0,0,0,0#256,0,0⟩=m:=⟨_,rfl⟩;rw [hnd] at hv hrow;rw [hnd];clear hnd;have HRW:=Lib.hid hrow;obtain ⟨i0,hi4,hz0,hz1,hz2⟩:=info_parts Fd;have hE0:=(Ext.refl W).alloc (.cells (rnC nd) 64);have H4:=Ab W (.cells (rnC nd) 64);have HM:=Lib.hid (hM.ext hE0);have hG1:W.grownBy (W.alloc (.cells (rnC nd) 64)) (some q.gK):=Aj8 (hE0.grownBy none);obtain ⟨ab,cb,hvb⟩:=hq.by_.len;have cB:=Aj5 (i:=1) (v:=q.vb) (HM.out.box HQ.out) rfl;have HVB:=Lib.hid hvb;rw [hvb] at cB;have HI:=Lib.hid hi;obtain ⟨B,hB⟩:∃ B,q.b.length=B:=⟨_,rfl⟩;have HB:=Lib.hid hB;rw [hB] at cB hb hi;have HV:=Lib.hid hv;clear hE hq hM hn hrow hv hvb hB;go_enter Tryz.func122,Tryz.ntmps122;go_upto_region 1 with (fail)
 obtain ⟨w1,hw1⟩:∃ X,W.alloc (.cells (rnC nd) 64)=X:=⟨_,rfl⟩;rw [hw1] at hE0 H4 HM hG1 cB;simp only [hw1];clear hw1;obtain ⟨g4,hg4⟩:∃ y,W.heap.size=y:=⟨_,rfl⟩;have HG4:=Lib.hid hg4;rw [hg4] at H4;simp only [hg4];clear hg4;have H4:=Lib.hid H4;have HG1:=Lib.hid hG1;have HE0:=Lib.hid hE0;clear hG1 hE0;go_upto_region 2 with (at_make;refine wpList_make_full _ rfl _ _ 28 rfl w1.heap.size 4 i0 (.bool false) 1 Tryz.underlying28 hi4 hz0 hz1 .i64 .i64 _ _ (B+1) rfl rfl (by push_cast;rfl) (by push_cast;rfl) (by rw [hz2];omega) (by unfold maxLen;omega) (Nat.le_refl _) ?_;intro w2 hown1 hgrow1)
 have hE1:Ext w1 w2:=(Ext.refl w1).grown hgrow1 (fun k e=>by cases e);have hs1:w1.heap.size<w2.heap.size:=by have:=(hown1.lt w1.heap.size rfl).2;exact this
 obtain ⟨gl,hgl⟩:∃ y,w1.heap.size=y:=⟨_,rfl⟩;have HGL:Hid (W.heap.size≤gl):=Lib.hid (by have:=HE0.out.size;omega);have hm:=HM.out.fresh hE1 hs1;obtain ⟨N,hN⟩:∃ N,B+1=N:=⟨_,rfl⟩;have HN:Hid (q.b.length+1=N):=Lib.hid (by rw [HB.out];exact hN);have hO1:w2.ownsRow w1.heap.size 4 1 (.slice (some ⟨w1.heap.size,0,none⟩) (B+1) (B+1)) (B+1) ((Aj1 (B+1) fun _=>false).map Value.bool):=by
  rw [← Amd,← Ca];exact hown1
 have hO:=Oa hO1;simp only [hgl,hN] at hO ⊢;rw [hgl] at hm;have hN1:N≤1001:=by omega
 have hN0:0<N:=by omega
 have hiN:(i:Int)<(N:Int):=by omega
 have HG2:Hid (W.grownBy w2 (some q.gK)):=Lib.hid (Aj8 (r:=some q.gK) ((HE0.out.trans hE1).grownBy none));have HM2:=Lib.hid hm;have H42:=Lib.hid (hE1.heap H4.out);have HNE:Hid (gl≠g4):=Lib.hid (by have:=Ak H4.out;omega);have HBN:=Lib.hid hN;clear HM H4 HG1 HE0 hown1 hgrow1 hE1 hs1 hgl hm hO1 hN hb hi4 hz0 hz1 hz2 hi;have h1:=HV.out.k1;have h8:=HV.out.k8;have hcase:nd.kind=1∨nd.kind=2∨nd.kind=3∨nd.kind=4∨nd.kind=5∨nd.kind=6∨nd.kind=7∨nd.kind=8:=by omega
 clear h1 h8;rcases hcase with hk|hk|hk|hk|hk|hk|hk|hk
 ·have HKK:=Lib.hid hk;have HROW:=Lib.hid (HRW.out.trans (Al7 q.xs nd hk));have HK0:=Lib.hid (Akh hk);have c0:=Aj5 H42.out HK0.out;clear hk HRW;clear cB;go_wp2;go_ret;exact Akf HN.out HGL.out HM2.out hO (fun _ _=>rfl) HG2.out _ fun j _=>by rw [HROW.out];exact Ams _ _ _
 ·have HKK:=Lib.hid hk;have HROW:=Lib.hid (HRW.out.trans (Al6 q.xs nd hk));have HK0:=Lib.hid (Akh hk);have c0:=Aj5 H42.out HK0.out;clear hk HRW;clear cB;have fz:=hO.frozenAt i;obtain ⟨hP,hgr⟩:=A3 (f:=Value.bool) hO i true;rw [Akd] at hP;have cL:=Ap false hO (Aj4 _ _).symm i (by rw [Aj4];omega);have HM3:=Lib.hid (HM2.out.own HQ.out hgr (.inr rfl));have HG3:=Lib.hid (Ake HG2.out hgr HGL.out);clear hgr hO HM2 HG2;go_wp2;go_ret;exact Akf HN.out HGL.out HM3.out hP (fun _ _=>rfl) HG3.out _ fun j _=>by
   rw [HROW.out,Alb _ _ _ HI.out];by_cases e:j=i
   ·simp [e]
   ·simp [e]
 ·have HKK:=Lib.hid hk;have HROW:=Lib.hid (HRW.out.trans (Al5 q.xs nd hk));have HK0:=Lib.hid (Akh hk);have c0:=Aj5 H42.out HK0.out;clear hk HRW;have ew_c:=cB;go_upto_region 6 with (fail)
  have hBI:HBN.out=HBN.out:=rfl;clear hBI c0;have cB2:w2.cell? ⟨q.gM,1,none⟩=some (.slice ab B cb):=by
   have:=Aj5 (i:=1) (v:=q.vb) (HM2.out.box HQ.out) rfl;rw [this,HVB.out,HB.out]
  clear cB ew_c;have kB:=Aw cB2;obtain ⟨wa,hwa⟩:∃ X,w2=X:=⟨_,rfl⟩;by_cases hlt:i<B
  ·have hltI:(i:Int)<(B:Int):=by omega
   obtain ⟨aw,bw,off,cw,hv,ha,hc⟩:=By.split (HM2.out.word HQ.out);rw [HVB.out] at hv;injection hv with hv1 hv2 hv3
   have hab:ab=some ⟨bw,off,none⟩:=hv1.trans (ha (by rw [HB.out];omega));have cw0:=hc i (by rw [HB.out];exact hlt);obtain ⟨x,hx⟩:∃ x,q.b.getD i 0=x:=⟨_,rfl⟩;rw [hx] at cw0;have HX:=Lib.hid hx;clear hx hc ha hv1 hv2 hv3;subst hab;have kW:=Aw cw0;have kw1:=Aw (Aj5 (i:=1) (v:=.int .u64 (wd nd.c 0)) H42.out rfl);have kw2:=Aw (Aj5 (i:=2) (v:=.int .u64 (wd nd.c 1)) H42.out rfl);have kw3:=Aw (Aj5 (i:=3) (v:=.int .u64 (wd nd.c 2)) H42.out rfl);have kw4:=Aw (Aj5 (i:=4) (v:=.int .u64 (wd nd.c 3)) H42.out rfl);have hx8:x.toNat<256:=x.toNat_lt;have f131:∀ e:EW w2,Hid (Calls Tryz.prog 131 #[.agg #[.int .u64 (wd nd.c 0),.int .u64 (wd nd.c 1),.int .u64 (wd nd.c 2),.int .u64 (wd nd.c 3)],.int .u8 (x.toNat:Int)] e.W fun r w'=>r=.returned (.bool (Bb nd.c (x.toNat:Int)))∧Ext e.W w'):=fun e=>Lib.hid (Uo nd.c (x.toNat:Int) (by omega) (by omega) e.W)
   obtain ⟨r,hr⟩:∃ r,Bb nd.c (x.toNat:Int)=r:=⟨_,rfl⟩;rw [hr] at f131;have HR:=Lib.hid hr;clear hr cw0 cB2 hwa;refine Da (by kernel_rfl) (by kernel_rfl) ?_;iterate 19 (with_reducible refine wpQuiet_step (fun K hK=>?_);go_simp;first|(refine hK _ ?_;clear hK K)|(apply Exists.intro;refine ⟨fun _=>?_,hK _ ?_⟩;(with_reducible exact F4 (f131 _).out);clear hK K))
   refine wpQuiet_nil ?_;rintro _ ⟨e,rfl⟩;have hEe:=e.ext;have hO3:=Ah hO hEe;have HM3:=Lib.hid (HM2.out.ext hEe);have HG3:=Lib.hid (HG2.out.trans (Aj8 (r:=some q.gK) (hEe.grownBy none)));have H43:=Lib.hid (hEe.heap H42.out);clear kB kW kw1 kw2 kw3 kw4 f131 hEe hO HM2 HG2 H42;generalize e.W=w3 at *;clear e;cases r with
   | false=>
    go_wp2;go_ret;exact Akf HN.out HGL.out HM3.out hO3 (fun _ _=>rfl) HG3.out _ fun j _=>by
     rw [HROW.out,Aks (fun x=>nd.c.getLsbD x.toNat=true) _ _ _ false ⟨(fun h=>by cases h),fun ⟨_,h⟩=>by rw [HX.out] at h;have:=HR.out;unfold Bb at this;rw [Int.toNat_natCast,h] at this;exact this.symm⟩];rfl
   | true=>
    have hi1:((i:Int)+1)<(N:Int):=by have:=HBN.out;omega
    have hi2:((i:Int)+1).toNat=i+1:=by omega
    have fz:=hO3.frozenAt (i+1);obtain ⟨hP,hgr⟩:=A3 (f:=Value.bool) hO3 (i+1) true;rw [Akd] at hP;have cL:=Ap false hO3 (Aj4 _ _).symm (i+1) (by rw [Aj4];omega);have HM4:=Lib.hid (HM3.out.own HQ.out hgr (.inr rfl));have HG4:=Lib.hid (Ake HG3.out hgr HGL.out);clear hgr hO3 HM3 HG3;go_wp2;go_ret;exact Akf HN.out HGL.out HM4.out hP (fun _ _=>rfl) HG4.out _ fun j _=>by
     rw [HROW.out,Aks (fun x=>nd.c.getLsbD x.toNat=true) _ _ _ true ⟨fun _=>⟨by rw [HB.out];exact hlt,by rw [HX.out];have:=HR.out;unfold Bb at this;rw [Int.toNat_natCast] at this;exact this⟩,fun _=>rfl⟩];by_cases e:j=i+1
     ·simp [e]
     ·simp [e]
  ·obtain rfl:B=i:=by have:=HBN.out;omega
   clear hwa cB2;refine Da (by kernel_rfl) (by kernel_rfl) ?_;iterate 19 (with_reducible refine wpQuiet_step (fun K hK=>?_);go_simp;(refine hK _ ?_;clear hK K))
   refine wpQuiet_nil ?_;rintro _ ⟨e,rfl⟩;have hEe:=e.ext;have hO3:=Ah hO hEe;have HM3:=Lib.hid (HM2.out.ext hEe);have HG3:=Lib.hid (HG2.out.trans (Aj8 (r:=some q.gK) (hEe.grownBy none)));have H43:=Lib.hid (hEe.heap H42.out);clear kB hEe hO HM2 HG2 H42;generalize e.W=w3 at *;clear e;go_wp2;go_ret;exact Akf HN.out HGL.out HM3.out hO3 (fun _ _=>rfl) HG3.out _ fun j _=>by
    rw [HROW.out,Aks (fun x=>nd.c.getLsbD x.toNat=true) _ _ _ false ⟨(fun h=>by cases h),fun ⟨h,_⟩=>by rw [HB.out] at h;exact absurd h (Nat.lt_irrefl _)⟩];rfl
 ·have HKK:=Lib.hid hk;have HROW:=Lib.hid (HRW.out.trans (Al4 q.xs nd hk));have HK0:=Lib.hid (Akh hk);have c0:=Aj5 H42.out HK0.out;clear hk HRW;clear cB;have hl:=HV.out.l1 (by rw [HKK.out];decide);have hr:=HV.out.r1 (by rw [HKK.out];decide);have HLN:=Lib.hid hl;have HRN:=Lib.hid hr;have HEL:=Lib.hid (HEO.out _ hl);have HAR:=Lib.hid (Alj q HQ.out nd.r (HEO.out _ hr));have HC5:Hid ((rnC nd)[5]? = some (iv nd.l)):=Lib.hid rfl;have HC6:Hid ((rnC nd)[6]? = some (iv nd.r)):=Lib.hid rfl;obtain ⟨nl,hnl⟩:∃ y,nd.l=y:=⟨_,rfl⟩;obtain ⟨nr,hnr⟩:∃ y,nd.r=y:=⟨_,rfl⟩;rw [hnl] at HLN HEL HC5 HROW;rw [hnr] at HRN HAR HC6 HROW;clear hl hr hnl hnr HEO HV;go_upto_region 9 with (fail)
  clear c0;have hdr:=(Ext.refl w2).drew;refine Dh 9 [(0,true),(1,true),(2,true),(3,true),(4,true),(5,true),(6,true),(7,false),(8,false),(9,false)] (by kernel_rfl) (by kernel_rfl) (fun _ _ _ _ h=>h) (fun V=>w2.grownBy V (some q.gK)) (Aj8 (hdr.grownBy none)) ?_;have HMD:=Lib.hid (HM2.out.ext hdr);have HGD:=Lib.hid (Aj8 (r:=some q.gK) (hdr.grownBy none));obtain ⟨wx,hwx⟩:∃ V,w2.drew=V:=⟨_,rfl⟩;rw [hwx] at HMD HGD;rw [hwx];clear hwx hdr;have kl:=fun V (hV:w2.grownBy V (some q.gK))=>Aj5 (Aj9 hV HM2.out.map H42.out) HC5.out
  have kr:=fun V (hV:w2.grownBy V (some q.gK))=>Aj5 (Aj9 hV HM2.out.map H42.out) HC6.out
  have f89:=Lib.hid (HEL.out _ wx n f i HI.out HMD.out);refine Ax (v:=?_) rfl rfl (fun V hV=>?_) ?_
  rotate_left
  ·clear hV;go_simp;first|done|with_reducible rfl
  simp only [Act.put,List.setIfInBounds_toArray,List.set_cons_zero,List.set_cons_succ];refine Ax (v:=?_) rfl rfl (fun V hV=>?_) ?_
  rotate_left
  ·clear hV;go_simp;first|done|with_reducible rfl
  simp only [Act.put,List.setIfInBounds_toArray,List.set_cons_zero,List.set_cons_succ];refine Ax (v:=iv nr) rfl rfl (fun V hV=>?_) ?_
  ·have c1:=kr V hV;clear hV;go_simp
  simp only [Act.put,List.setIfInBounds_toArray,List.set_cons_zero,List.set_cons_succ];refine Ax (v:=?_) rfl rfl (fun V hV=>?_) ?_
  rotate_left
  ·clear hV;go_simp;first|done|with_reducible rfl
  simp only [Act.put,List.setIfInBounds_toArray,List.set_cons_zero,List.set_cons_succ];refine Ax (v:=?_) rfl rfl (fun V hV=>?_) ?_
  rotate_left
  ·clear hV;go_simp;first|done|with_reducible rfl
  simp only [Act.put,List.setIfInBounds_toArray,List.set_cons_zero,List.set_cons_succ];refine Ax (v:=iv nl) rfl rfl (fun V hV=>?_) ?_
  ·have c1:=kl V hV;clear hV;go_simp
  simp only [Act.put,List.setIfInBounds_toArray,List.set_cons_zero,List.set_cons_succ];refine Ax (v:=?_) rfl rfl (fun V hV=>?_) ?_
  rotate_left
  ·clear hV;go_simp;first|done|with_reducible rfl
  simp only [Act.put,List.setIfInBounds_toArray,List.set_cons_zero,List.set_cons_succ];refine B2 rfl (fun Kk hK=>?_);go_simp
  (with_reducible refine f89.out.mono ?_)
  rintro e w3 ⟨ge,n2,f2,rfl,hge,hre,hm2,hf2,hg2⟩;rw [HN.out];refine hK _ _ (fun _=>HGD.out.trans hg2) ?_;clear hK Kk;have HF2:=Lib.hid hf2;have HG3:=Lib.hid (HGD.out.trans hg2);have hge':ge≠gl:=fun e=>hge (.inr e)
  have f148:=Lib.hid (HAR.out _ w3 n2 f2 ge _ hm2 (Aka _ _ _) hre);rw [HN.out] at f148;clear f89 hge hre hm2 hf2 hg2 HMD HGD;refine B2 rfl (fun Kk hK=>?_);go_simp
  (with_reducible refine f148.out.mono ?_)
  rintro e w4 ⟨g5,n3,f3,rfl,hle,hO5,hm3,hf3,hg3⟩;rw [HN.out];refine hK _ _ (fun _=>HG3.out.trans hg3) ?_;clear hK Kk;have HF3:=Lib.hid hf3;have HG5:=Lib.hid (HG2.out.trans (HG3.out.trans hg3));have HLE:Hid (W.heap.size≤g5):=Lib.hid (by have h1:=HG2.out.size;have h2:=HG3.out.size;omega);have HM5:=Lib.hid hm3;have HO5:=Lib.hid hO5;clear f148 hle hO5 hm3 hf3 hg3 kl kr hge';refine B2 rfl (fun Kk hK=>?_);go_simp;refine hK _ _ (fun h=>absurd h (by omega)) ?_;clear hK Kk;refine Di ?_;clear hO;go_wp2;go_ret;have hro:w4.ownsRow w3.heap.size 4 1 (.slice (some ⟨g5,0,none⟩) N N) N ((Aj1 N (Ajy (Cat (Ajz q.xs nl) (Ajz q.xs nr)) q.b i)).map Value.bool):=by
   have h1:=HO5.out;rw [Alm,HN.out] at h1;unfold Aj2 at h1;rw [HN.out] at h1;exact h1
  refine Akf HN.out HLE.out (HM5.out.weak (fun k hk=>?_)) hro (fun y hy=>(HF3.out y (by have:=HRN.out;omega)).trans (HF2.out y (by have:=HLN.out;omega))) HG5.out _ fun j _=>by rw [HROW.out]
  rcases hk with hk|hk
  ·exact .inl (.inl hk)
  ·exact .inr hk
 ·have HKK:=Lib.hid hk;have HROW:=Lib.hid (HRW.out.trans (Al3 q.xs nd hk));have HK0:=Lib.hid (Akh hk);have c0:=Aj5 H42.out HK0.out;clear hk HRW;clear cB;have hl:=HV.out.l1 (by rw [HKK.out];decide);have hr:=HV.out.r1 (by rw [HKK.out];decide);have HLN:=Lib.hid hl;have HRN:=Lib.hid hr;have HEL:=Lib.hid (HEO.out _ hl);have HER:=Lib.hid (HEO.out _ hr);have HC5:Hid ((rnC nd)[5]? = some (iv nd.l)):=Lib.hid rfl;have HC6:Hid ((rnC nd)[6]? = some (iv nd.r)):=Lib.hid rfl;obtain ⟨nl,hnl⟩:∃ y,nd.l=y:=⟨_,rfl⟩;obtain ⟨nr,hnr⟩:∃ y,nd.r=y:=⟨_,rfl⟩;rw [hnl] at HLN HEL HC5 HROW;rw [hnr] at HRN HER HC6 HROW;clear hl hr hnl hnr HEO HV;go_upto_region 12 with (fail)
  clear c0;have hdr:=(Ext.refl w2).drew;refine Dh 11 [(0,true),(1,true),(2,true),(3,true),(5,true),(6,true),(7,true),(8,true),(4,false),(9,false),(10,false),(11,false)] (by kernel_rfl) (by kernel_rfl) (fun _ _ _ _ h=>h) (fun V=>w2.grownBy V (some q.gK)) (Aj8 (hdr.grownBy none)) ?_;have HMD:=Lib.hid (HM2.out.ext hdr);have HGD:=Lib.hid (Aj8 (r:=some q.gK) (hdr.grownBy none));obtain ⟨wx,hwx⟩:∃ V,w2.drew=V:=⟨_,rfl⟩;rw [hwx] at HMD HGD;rw [hwx];clear hwx hdr;have kl:=fun V (hV:w2.grownBy V (some q.gK))=>Aj5 (Aj9 hV HM2.out.map H42.out) HC5.out
  have kr:=fun V (hV:w2.grownBy V (some q.gK))=>Aj5 (Aj9 hV HM2.out.map H42.out) HC6.out
  have f89:=Lib.hid (HEL.out _ wx n f i HI.out HMD.out);refine Ax (v:=?_) rfl rfl (fun V hV=>?_) ?_
  rotate_left
  ·clear hV;go_simp;first|done|with_reducible rfl
  simp only [Act.put,List.setIfInBounds_toArray,List.set_cons_zero,List.set_cons_succ];refine Ax (v:=?_) rfl rfl (fun V hV=>?_) ?_
  rotate_left
  ·clear hV;go_simp;first|done|with_reducible rfl
  simp only [Act.put,List.setIfInBounds_toArray,List.set_cons_zero,List.set_cons_succ];refine Ax (v:=iv nl) rfl rfl (fun V hV=>?_) ?_
  ·have c1:=kl V hV;clear hV;go_simp
  simp only [Act.put,List.setIfInBounds_toArray,List.set_cons_zero,List.set_cons_succ];refine Ax (v:=?_) rfl rfl (fun V hV=>?_) ?_
  rotate_left
  ·clear hV;go_simp;first|done|with_reducible rfl
  simp only [Act.put,List.setIfInBounds_toArray,List.set_cons_zero,List.set_cons_succ];refine Ax (v:=?_) rfl rfl (fun V hV=>?_) ?_
  rotate_left
  ·clear hV;go_simp;first|done|with_reducible rfl
  simp only [Act.put,List.setIfInBounds_toArray,List.set_cons_zero,List.set_cons_succ];refine Ax (v:=?_) rfl rfl (fun V hV=>?_) ?_
  rotate_left
  ·clear hV;go_simp;first|done|with_reducible rfl
  simp only [Act.put,List.setIfInBounds_toArray,List.set_cons_zero,List.set_cons_succ];refine Ax (v:=iv nr) rfl rfl (fun V hV=>?_) ?_
  ·have c1:=kr V hV;clear hV;go_simp
  simp only [Act.put,List.setIfInBounds_toArray,List.set_cons_zero,List.set_cons_succ];refine Ax (v:=?_) rfl rfl (fun V hV=>?_) ?_
  rotate_left
  ·clear hV;go_simp;first|done|with_reducible rfl
  simp only [Act.put,List.setIfInBounds_toArray,List.set_cons_zero,List.set_cons_succ];refine B2 rfl (fun Kk hK=>?_);go_simp
  (with_reducible refine f89.out.mono ?_)
  rintro e w3 ⟨ge,n2,f2,rfl,hge,hre,hm2,hf2,hg2⟩;rw [HN.out];refine hK _ _ (fun _=>HGD.out.trans hg2) ?_;clear hK Kk;have HF2:=Lib.hid hf2;have HG3:=Lib.hid (HGD.out.trans hg2);have HGE:Hid (ge≠gl):=Lib.hid fun e=>hge (.inr e)
  have HGN:=Lib.hid (Akj rfl (hre 0 (by rw [Aka];omega)) hm2.map);have HRE:=Lib.hid hre;have f89b:=Lib.hid (HER.out _ w3 n2 f2 i HI.out hm2);clear f89 hge hre hm2 hf2 hg2 HMD HGD;refine B2 rfl (fun Kk hK=>?_);go_simp
  (with_reducible refine f89b.out.mono ?_)
  rintro e w4 ⟨g5,n3,f3,rfl,hge,hre,hm3,hf3,hg3⟩;rw [HN.out];refine hK _ _ (fun _=>HG3.out.trans hg3) ?_;clear hK Kk;have HF3:Hid (∀ y,node≤y.1→f3 y=f y):=Lib.hid fun y hy=>(hf3 y (by have:=HRN.out;omega)).trans (HF2.out y (by have:=HLN.out;omega))
  have HG5:=Lib.hid (HG2.out.trans (HG3.out.trans hg3));have HG4x:=Lib.hid (HG3.out.trans hg3);have HM5:=Lib.hid hm3;have HGE5:Hid (g5≠gl):=Lib.hid fun e=>hge (.inr e)
  have HRE5:Hid (RowAt w4 g5 (Aj1 N (Ajy (Ajz q.xs nr) q.b i))):=Lib.hid (by unfold Aj2 at hre;rw [HN.out] at hre;exact hre);have HRE4:Hid (RowAt w4 ge (Aj1 N (Ajy (Ajz q.xs nl) q.b i))):=Lib.hid (by
   have h1:=HRE.out.keptm hg3 HGN.out;unfold Aj2 at h1;rw [HN.out] at h1;exact h1)
  have HCL:=Lib.hid (HG3.out.trans hg3);have H45:=Lib.hid (Aj9 HG4x.out HM2.out.map H42.out);have hO5:=hO.kept HG4x.out (.inr fun e=>by
   have h1:=(HM2.out.al gl (.inr rfl)).1;have h2:=HQ.out.hK;simp [Value.ownBlock] at e;omega)
  have hO5:w4.ownsRow 0 4 1 (.slice (some ⟨gl,0,none⟩) N N) N ((Aj1 N (fun x=>if x<0 then Ajy (Ajz q.xs nl) q.b i x||Ajy (Ajz q.xs nr) q.b i x else false)).map Value.bool):=by
   rw [Aj6 (fun j _=>by rw [if_neg (by omega)]:∀ j,j<N→(if j<0 then Ajy (Ajz q.xs nl) q.b i j||Ajy (Ajz q.xs nr) q.b i j else false)=false)];exact hO5
  clear f89b hge hre hm3 hf3 hg3 kl kr HF2 HG3 HGN HRE HG4x hO H42 HM2 HG2;refine B2 rfl (fun Kk hK=>?_);go_simp;refine hK _ _ (fun _=>?_) ?_
  ·exact HCL.out
  clear hK Kk;refine B2 rfl (fun Kk hK=>?_);go_simp;refine hK _ _ (fun h=>absurd h (by omega)) ?_;clear hK Kk HCL;refine Di ?_;have HROW2:Hid (∀ j,Ajy (Ajz q.xs node) q.b i j=(Ajy (Ajz q.xs nl) q.b i j||Ajy (Ajz q.xs nr) q.b i j)):=Lib.hid fun j=>by rw [HROW.out];exact Amq _ _ _ _ _
  obtain ⟨L1q,hL1⟩:∃ L,Ajy (Ajz q.xs nl) q.b i=L:=⟨_,rfl⟩;obtain ⟨L2q,hL2⟩:∃ L,Ajy (Ajz q.xs nr) q.b i=L:=⟨_,rfl⟩;simp only [hL1,hL2] at hO5 HRE4 HRE5 HROW2;clear hL1 hL2 HROW;go_wp2_with (fail);go_loopw [78] (fun vj W'=>∃ j:Nat,j≤N∧vj=.int .i64 j∧Hid (Mtq q (fun k=>A k∨k=gl) W' n3 f3)∧W'.ownsRow 0 4 1 (.slice (some ⟨gl,0,none⟩) N N) N ((Aj1 N (fun x=>if x<j then L1q x||L2q x else false)).map Value.bool)∧Hid (RowAt W' ge (Aj1 N L1q))∧Hid (RowAt W' g5 (Aj1 N L2q))∧Hid (W.grownBy W' (some q.gK))∧Hid (W'.heap[g4]? = some (.cells (rnC nd) 64 (0,0))))
   (fun vj _=>N-(intOf vj).toNat)
  case atStart=>exact ⟨0,by omega,rfl,HM5,hO5,HRE4,HRE5,HG5,H45⟩
  case round=>
   clear hO5 HM5 HRE4 HRE5 HG5 H45;obtain ⟨j,hjN,rfl,HM3,hO3,HRE,HRF,HG3,H43⟩:=hrel;by_cases hlj:j<N
   ·have hljI:(j:Int)<(N:Int):=by omega
    have c0:=Aj5 H43.out HK0.out;have cL:=Ap false hO3 (Aj4 _ _).symm j (by rw [Aj4];exact hlj);have cE:=HRE.out j (by rw [Aj4];exact hlj);rw [Akb _ _ _ hlj] at cE;have cF:=HRF.out j (by rw [Aj4];exact hlj);rw [Akb _ _ _ hlj] at cF;have fz:=hO3.frozenAt j;have hset:∀ v,(L1q j||L2q j)=v→∀ x,x<N→(if x=j then v else if x<j then L1q x||L2q x else false)=if x<j+1 then L1q x||L2q x else false:=fun v hv x _=>by
     by_cases e1:x=j
     ·subst e1;rw [if_pos rfl,if_pos (by omega),hv]
     ·by_cases e2:x<j
      ·rw [if_neg e1,if_pos e2,if_pos (by omega)]
      ·rw [if_neg e1,if_neg e2,if_neg (by omega)]
    have HSET:=Lib.hid hset;clear hset;obtain ⟨x,hx⟩:∃ x,L1q j=x:=⟨_,rfl⟩;obtain ⟨y,hy⟩:∃ y,L2q j=y:=⟨_,rfl⟩;rw [hx] at cE;rw [hy] at cF;have HX:=Lib.hid hx;have HY:=Lib.hid hy;clear hx hy;obtain ⟨v,hv⟩:∃ v,(x||y)=v:=⟨_,rfl⟩;obtain ⟨hP,hgr⟩:=A3 (f:=Value.bool) hO3 j v;have hP2:(wr.setCell ⟨gl,j,none⟩ (.bool v)).ownsRow 0 4 1 (.slice (some ⟨gl,0,none⟩) N N) N ((Aj1 N (fun x=>if x<j+1 then L1q x||L2q x else false)).map Value.bool):=by
     rw [Akd,Aj6 (HSET.out v (by rw [HX.out,HY.out];exact hv))] at hP;exact hP
    have hM4:=Lib.hid (HM3.out.own HQ.out hgr (.inr rfl));have hR4:=Lib.hid (HRE.out.keptm hgr HGE.out);have hR5:=Lib.hid (HRF.out.keptm hgr HGE5.out);have hG4:=Lib.hid (Ake HG3.out hgr HGL.out);have hH4:=Lib.hid ((hgr.block g4 (Ak H43.out) (fun e=>HNE.out (by injection e with e;exact e.symm))).trans H43.out);clear hP hgr hO3 HSET HX HY;cases x<;>cases y
    all_goals
     first
     | (obtain rfl:true=v:=hv)
     | (obtain rfl:false=v:=hv)
     go_wp2;go_roundw
     case rel=>exact ⟨j+1,by omega,by go_num,hM4,hP2,hR4,hR5,hG4,hH4⟩
     case measure=>simp [intOf];omega
   ·obtain rfl:N=j:=by omega
    clear hiN;go_wp2;go_ret;exact Akf HN.out HGL.out HM3.out hO3 HF3.out HG3.out _ fun j hj=>by rw [HROW2.out,if_pos hj]
 ·have HKK:=Lib.hid hk;have HROW:=Lib.hid (HRW.out.trans (Al2 q.xs nd hk));have HK0:=Lib.hid (Akh hk);have c0:=Aj5 H42.out HK0.out;clear hk HRW;clear cB;have hl:=HV.out.l1 (by rw [HKK.out];decide);have hr:=HV.out.r1 (by rw [HKK.out];decide);have HLN:=Lib.hid hl;have HRN:=Lib.hid hr;have HEL:=Lib.hid (HEO.out _ hl);have HER:=Lib.hid (HEO.out _ hr);have HC5:Hid ((rnC nd)[5]? = some (iv nd.l)):=Lib.hid rfl;have HC6:Hid ((rnC nd)[6]? = some (iv nd.r)):=Lib.hid rfl;obtain ⟨nl,hnl⟩:∃ y,nd.l=y:=⟨_,rfl⟩;obtain ⟨nr,hnr⟩:∃ y,nd.r=y:=⟨_,rfl⟩;rw [hnl] at HLN HEL HC5 HROW;rw [hnr] at HRN HER HC6 HROW;clear hl hr hnl hnr HEO HV;go_upto_region 12 with (fail)
  clear c0;have hdr:=(Ext.refl w2).drew;refine Dh 11 [(0,true),(1,true),(2,true),(3,true),(5,true),(6,true),(7,true),(8,true),(4,false),(9,false),(10,false),(11,false)] (by kernel_rfl) (by kernel_rfl) (fun _ _ _ _ h=>h) (fun V=>w2.grownBy V (some q.gK)) (Aj8 (hdr.grownBy none)) ?_;have HMD:=Lib.hid (HM2.out.ext hdr);have HGD:=Lib.hid (Aj8 (r:=some q.gK) (hdr.grownBy none));obtain ⟨wx,hwx⟩:∃ V,w2.drew=V:=⟨_,rfl⟩;rw [hwx] at HMD HGD;rw [hwx];clear hwx hdr;have kl:=fun V (hV:w2.grownBy V (some q.gK))=>Aj5 (Aj9 hV HM2.out.map H42.out) HC5.out
  have kr:=fun V (hV:w2.grownBy V (some q.gK))=>Aj5 (Aj9 hV HM2.out.map H42.out) HC6.out
  have f89:=Lib.hid (HEL.out _ wx n f i HI.out HMD.out);refine Ax (v:=?_) rfl rfl (fun V hV=>?_) ?_
  rotate_left
  ·clear hV;go_simp;first|done|with_reducible rfl
  simp only [Act.put,List.setIfInBounds_toArray,List.set_cons_zero,List.set_cons_succ];refine Ax (v:=?_) rfl rfl (fun V hV=>?_) ?_
  rotate_left
  ·clear hV;go_simp;first|done|with_reducible rfl
  simp only [Act.put,List.setIfInBounds_toArray,List.set_cons_zero,List.set_cons_succ];refine Ax (v:=iv nl) rfl rfl (fun V hV=>?_) ?_
  ·have c1:=kl V hV;clear hV;go_simp
  simp only [Act.put,List.setIfInBounds_toArray,List.set_cons_zero,List.set_cons_succ];refine Ax (v:=?_) rfl rfl (fun V hV=>?_) ?_
  rotate_left
  ·clear hV;go_simp;first|done|with_reducible rfl
  simp only [Act.put,List.setIfInBounds_toArray,List.set_cons_zero,List.set_cons_succ];refine Ax (v:=?_) rfl rfl (fun V hV=>?_) ?_
  rotate_left
  ·clear hV;go_simp;first|done|with_reducible rfl
  simp only [Act.put,List.setIfInBounds_toArray,List.set_cons_zero,List.set_cons_succ];refine Ax (v:=?_) rfl rfl (fun V hV=>?_) ?_
  rotate_left
  ·clear hV;go_simp;first|done|with_reducible rfl
  simp only [Act.put,List.setIfInBounds_toArray,List.set_cons_zero,List.set_cons_succ];refine Ax (v:=iv nr) rfl rfl (fun V hV=>?_) ?_
  ·have c1:=kr V hV;clear hV;go_simp
  simp only [Act.put,List.setIfInBounds_toArray,List.set_cons_zero,List.set_cons_succ];refine Ax (v:=?_) rfl rfl (fun V hV=>?_) ?_
  rotate_left
  ·clear hV;go_simp;first|done|with_reducible rfl
  simp only [Act.put,List.setIfInBounds_toArray,List.set_cons_zero,List.set_cons_succ];refine B2 rfl (fun Kk hK=>?_);go_simp
  (with_reducible refine f89.out.mono ?_)
  rintro e w3 ⟨ge,n2,f2,rfl,hge,hre,hm2,hf2,hg2⟩;rw [HN.out];refine hK _ _ (fun _=>HGD.out.trans hg2) ?_;clear hK Kk;have HF2:=Lib.hid hf2;have HG3:=Lib.hid (HGD.out.trans hg2);have HGE:Hid (ge≠gl):=Lib.hid fun e=>hge (.inr e)
  have HGN:=Lib.hid (Akj rfl (hre 0 (by rw [Aka];omega)) hm2.map);have HRE:=Lib.hid hre;have f89b:=Lib.hid (HER.out _ w3 n2 f2 i HI.out hm2);clear f89 hge hre hm2 hf2 hg2 HMD HGD;refine B2 rfl (fun Kk hK=>?_);go_simp
  (with_reducible refine f89b.out.mono ?_)
  rintro e w4 ⟨g5,n3,f3,rfl,hge,hre,hm3,hf3,hg3⟩;rw [HN.out];refine hK _ _ (fun _=>HG3.out.trans hg3) ?_;clear hK Kk;have HF3:Hid (∀ y,node≤y.1→f3 y=f y):=Lib.hid fun y hy=>(hf3 y (by have:=HRN.out;omega)).trans (HF2.out y (by have:=HLN.out;omega))
  have HG5:=Lib.hid (HG2.out.trans (HG3.out.trans hg3));have HG4x:=Lib.hid (HG3.out.trans hg3);have HM5:=Lib.hid hm3;have HGE5:Hid (g5≠gl):=Lib.hid fun e=>hge (.inr e)
  have HRE5:Hid (RowAt w4 g5 (Aj1 N (Ajy (Ajz q.xs nr) q.b i))):=Lib.hid (by unfold Aj2 at hre;rw [HN.out] at hre;exact hre);have HRE4:Hid (RowAt w4 ge (Aj1 N (Ajy (Ajz q.xs nl) q.b i))):=Lib.hid (by
   have h1:=HRE.out.keptm hg3 HGN.out;unfold Aj2 at h1;rw [HN.out] at h1;exact h1)
  have HCL:=Lib.hid (HG3.out.trans hg3);have H45:=Lib.hid (Aj9 HG4x.out HM2.out.map H42.out);have hO5:=hO.kept HG4x.out (.inr fun e=>by
   have h1:=(HM2.out.al gl (.inr rfl)).1;have h2:=HQ.out.hK;simp [Value.ownBlock] at e;omega)
  have hO5:w4.ownsRow 0 4 1 (.slice (some ⟨gl,0,none⟩) N N) N ((Aj1 N (fun x=>if x<0 then Ajy (Ajz q.xs nl) q.b i x&&Ajy (Ajz q.xs nr) q.b i x else false)).map Value.bool):=by
   rw [Aj6 (fun j _=>by rw [if_neg (by omega)]:∀ j,j<N→(if j<0 then Ajy (Ajz q.xs nl) q.b i j&&Ajy (Ajz q.xs nr) q.b i j else false)=false)];exact hO5
  clear f89b hge hre hm3 hf3 hg3 kl kr HF2 HG3 HGN HRE HG4x hO H42 HM2 HG2;refine B2 rfl (fun Kk hK=>?_);go_simp;refine hK _ _ (fun _=>?_) ?_
  ·exact HCL.out
  clear hK Kk;refine B2 rfl (fun Kk hK=>?_);go_simp;refine hK _ _ (fun h=>absurd h (by omega)) ?_;clear hK Kk HCL;refine Di ?_;have HROW2:Hid (∀ j,Ajy (Ajz q.xs node) q.b i j=(Ajy (Ajz q.xs nl) q.b i j&&Ajy (Ajz q.xs nr) q.b i j)):=Lib.hid fun j=>by rw [HROW.out];exact Amu _ _ _ _ _
  obtain ⟨L1q,hL1⟩:∃ L,Ajy (Ajz q.xs nl) q.b i=L:=⟨_,rfl⟩;obtain ⟨L2q,hL2⟩:∃ L,Ajy (Ajz q.xs nr) q.b i=L:=⟨_,rfl⟩;simp only [hL1,hL2] at hO5 HRE4 HRE5 HROW2;clear hL1 hL2 HROW;go_wp2_with (fail);go_loopw [78] (fun vj W'=>∃ j:Nat,j≤N∧vj=.int .i64 j∧Hid (Mtq q (fun k=>A k∨k=gl) W' n3 f3)∧W'.ownsRow 0 4 1 (.slice (some ⟨gl,0,none⟩) N N) N ((Aj1 N (fun x=>if x<j then L1q x&&L2q x else false)).map Value.bool)∧Hid (RowAt W' ge (Aj1 N L1q))∧Hid (RowAt W' g5 (Aj1 N L2q))∧Hid (W.grownBy W' (some q.gK))∧Hid (W'.heap[g4]? = some (.cells (rnC nd) 64 (0,0))))
   (fun vj _=>N-(intOf vj).toNat)
  case atStart=>exact ⟨0,by omega,rfl,HM5,hO5,HRE4,HRE5,HG5,H45⟩
  case round=>
   clear hO5 HM5 HRE4 HRE5 HG5 H45;obtain ⟨j,hjN,rfl,HM3,hO3,HRE,HRF,HG3,H43⟩:=hrel;by_cases hlj:j<N
   ·have hljI:(j:Int)<(N:Int):=by omega
    have c0:=Aj5 H43.out HK0.out;have cL:=Ap false hO3 (Aj4 _ _).symm j (by rw [Aj4];exact hlj);have cE:=HRE.out j (by rw [Aj4];exact hlj);rw [Akb _ _ _ hlj] at cE;have cF:=HRF.out j (by rw [Aj4];exact hlj);rw [Akb _ _ _ hlj] at cF;have fz:=hO3.frozenAt j;have hset:∀ v,(L1q j&&L2q j)=v→∀ x,x<N→(if x=j then v else if x<j then L1q x&&L2q x else false)=if x<j+1 then L1q x&&L2q x else false:=fun v hv x _=>by
     by_cases e1:x=j
     ·subst e1;rw [if_pos rfl,if_pos (by omega),hv]
     ·by_cases e2:x<j
      ·rw [if_neg e1,if_pos e2,if_pos (by omega)]
      ·rw [if_neg e1,if_neg e2,if_neg (by omega)]
    have HSET:=Lib.hid hset;clear hset;obtain ⟨x,hx⟩:∃ x,L1q j=x:=⟨_,rfl⟩;obtain ⟨y,hy⟩:∃ y,L2q j=y:=⟨_,rfl⟩;rw [hx] at cE;rw [hy] at cF;have HX:=Lib.hid hx;have HY:=Lib.hid hy;clear hx hy;obtain ⟨v,hv⟩:∃ v,(x&&y)=v:=⟨_,rfl⟩;obtain ⟨hP,hgr⟩:=A3 (f:=Value.bool) hO3 j v;have hP2:(wr.setCell ⟨gl,j,none⟩ (.bool v)).ownsRow 0 4 1 (.slice (some ⟨gl,0,none⟩) N N) N ((Aj1 N (fun x=>if x<j+1 then L1q x&&L2q x else false)).map Value.bool):=by
     rw [Akd,Aj6 (HSET.out v (by rw [HX.out,HY.out];exact hv))] at hP;exact hP
    have hM4:=Lib.hid (HM3.out.own HQ.out hgr (.inr rfl));have hR4:=Lib.hid (HRE.out.keptm hgr HGE.out);have hR5:=Lib.hid (HRF.out.keptm hgr HGE5.out);have hG4:=Lib.hid (Ake HG3.out hgr HGL.out);have hH4:=Lib.hid ((hgr.block g4 (Ak H43.out) (fun e=>HNE.out (by injection e with e;exact e.symm))).trans H43.out);clear hP hgr hO3 HSET HX HY;cases x<;>cases y
    all_goals
     first
     | (obtain rfl:true=v:=hv)
     | (obtain rfl:false=v:=hv)
     go_wp2;go_roundw
     case rel=>exact ⟨j+1,by omega,by go_num,hM4,hP2,hR4,hR5,hG4,hH4⟩
     case measure=>simp [intOf];omega
   ·obtain rfl:N=j:=by omega
    clear hiN;go_wp2;go_ret;exact Akf HN.out HGL.out HM3.out hO3 HF3.out HG3.out _ fun j hj=>by rw [HROW2.out,if_pos hj]
 ·have HKK:=Lib.hid hk;have HROW:=Lib.hid (HRW.out.trans (Al1 q.xs nd hk));have HK0:=Lib.hid (Akh hk);have c0:=Aj5 H42.out HK0.out;clear hk HRW;clear cB;have hl:=HV.out.l1 (by rw [HKK.out];decide);have HLN:=Lib.hid hl;have HEL:=Lib.hid (HEO.out _ hl);have HC5:Hid ((rnC nd)[5]? = some (iv nd.l)):=Lib.hid rfl;obtain ⟨nl,hnl⟩:∃ y,nd.l=y:=⟨_,rfl⟩;rw [hnl] at HLN HEL HC5 HROW;clear hl hnl HEO HV;have c5:=Aj5 H42.out HC5.out;have f89:=Lib.hid (HEL.out _ w2 n f i HI.out HM2.out);go_upto_region 20 with (go_at_call 89;(with_reducible refine f89.out.mono ?_);rintro e w4 ⟨ge,n3,f3,rfl,hge,hre,hm3,hf3,hg3⟩;rw [HN.out];have HGEx:=Lib.hid hge;have HRE:=Lib.hid hre;have HM5:=Lib.hid hm3;have HFx:=Lib.hid hf3;have HGx:=Lib.hid hg3;clear hge hre hm3 hf3 hg3)
  clear c0 c5 f89;have HF3:Hid (∀ y,node≤y.1→f3 y=f y):=Lib.hid fun y hy=>HFx.out y (by have:=HLN.out;omega)
  have HG5:=Lib.hid (HG2.out.trans HGx.out);have HGE:Hid (ge≠gl):=Lib.hid fun e=>HGEx.out (.inr e)
  have HRE4:Hid (RowAt w4 ge (Aj1 N (Ajy (Ajz q.xs nl) q.b i))):=Lib.hid (by
   have h1:=HRE.out;unfold Aj2 at h1;rw [HN.out] at h1;exact h1)
  have H45:=Lib.hid (Aj9 HGx.out HM2.out.map H42.out);have hO5:=hO.kept HGx.out (.inr fun e=>by
   have h1:=(HM2.out.al gl (.inr rfl)).1;have h2:=HQ.out.hK;simp [Value.ownBlock] at e;omega)
  have HROW2:Hid (∀ j,j<N→Ajy (Ajz q.xs node) q.b i j=(decide (i≤j)&&!Ajy (Ajz q.xs nl) q.b i j)):=Lib.hid fun j hj=>by rw [HROW.out];exact Amr _ _ _ _ (by rw [HN.out];exact hj)
  obtain ⟨L1q,hL1⟩:∃ L,Ajy (Ajz q.xs nl) q.b i=L:=⟨_,rfl⟩;simp only [hL1] at HRE4 HROW2;have hO5:w4.ownsRow 0 4 1 (.slice (some ⟨gl,0,none⟩) N N) N ((Aj1 N (fun x=>if x<i then false else if x<i then !L1q x else false)).map Value.bool):=by
   rw [Aj6 (fun j _=>by
    by_cases e:j<i
    ·rw [if_pos e]
    ·rw [if_neg e,if_neg e]:∀ j,j<N→(if j<i then false else if j<i then !L1q j else false)=false)]
   exact hO5
  clear hL1 HROW HGEx HRE HFx HGx hO H42 HM2 HG2;go_wp2_with (fail);go_loopw [12] (fun vj W'=>∃ j:Nat,i≤j∧j≤N∧vj=.int .i64 j∧Hid (Mtq q (fun k=>A k∨k=gl) W' n3 f3)∧W'.ownsRow 0 4 1 (.slice (some ⟨gl,0,none⟩) N N) N ((Aj1 N (fun x=>if x<i then false else if x<j then !L1q x else false)).map Value.bool)∧Hid (RowAt W' ge (Aj1 N L1q))∧Hid (W.grownBy W' (some q.gK)))
   (fun vj _=>N-(intOf vj).toNat)
  case atStart=>exact ⟨i,Nat.le_refl _,by omega,rfl,HM5,hO5,HRE4,HG5⟩
  case round=>
   clear hO5 HM5 HRE4 HG5 H45;obtain ⟨j,hij,hjN,rfl,HM3,hO3,HRE,HG3⟩:=hrel;by_cases hlj:j<N
   ·have hljI:(j:Int)<(N:Int):=by omega
    have cL:=Ap false hO3 (Aj4 _ _).symm j (by rw [Aj4];exact hlj);have cE:=HRE.out j (by rw [Aj4];exact hlj);rw [Akb _ _ _ hlj] at cE;have fz:=hO3.frozenAt j;have hset:∀ v,(!L1q j)=v→∀ x,x<N→(if x=j then v else if x<i then false else if x<j then !L1q x else false)=if x<i then false else if x<j+1 then !L1q x else false:=fun v hv x _=>by
     by_cases e1:x=j
     ·subst e1;rw [if_pos rfl,if_neg (by omega),if_pos (by omega),hv]
     ·rw [if_neg e1];by_cases e3:x<i
      ·rw [if_pos e3,if_pos e3]
      ·rw [if_neg e3,if_neg e3];by_cases e2:x<j
       ·rw [if_pos e2,if_pos (by omega)]
       ·rw [if_neg e2,if_neg (by omega)]
    have HSET:=Lib.hid hset;clear hset;obtain ⟨x,hx⟩:∃ x,L1q j=x:=⟨_,rfl⟩;rw [hx] at cE;have HX:=Lib.hid hx;clear hx;cases x
    ·obtain ⟨hP,hgr⟩:=A3 (f:=Value.bool) hO3 j true;have hP2:(wr.setCell ⟨gl,j,none⟩ (.bool true)).ownsRow 0 4 1 (.slice (some ⟨gl,0,none⟩) N N) N ((Aj1 N (fun x=>if x<i then false else if x<j+1 then !L1q x else false)).map Value.bool):=by
      rw [Akd,Aj6 (HSET.out true (by rw [HX.out];rfl))] at hP;exact hP
     have hM4:=Lib.hid (HM3.out.own HQ.out hgr (.inr rfl));have hR4:=Lib.hid (HRE.out.keptm hgr HGE.out);have hG4:=Lib.hid (Ake HG3.out hgr HGL.out);clear hP hgr hO3 HSET;go_wp2;go_roundw
     case rel=>exact ⟨j+1,by omega,by omega,by go_num,hM4,hP2,hR4,hG4⟩
     case measure=>simp [intOf];omega
    ·obtain ⟨hP,hgr⟩:=A3 (f:=Value.bool) hO3 j false;have hP2:(wr.setCell ⟨gl,j,none⟩ (.bool false)).ownsRow 0 4 1 (.slice (some ⟨gl,0,none⟩) N N) N ((Aj1 N (fun x=>if x<i then false else if x<j+1 then !L1q x else false)).map Value.bool):=by
      rw [Akd,Aj6 (HSET.out false (by rw [HX.out];rfl))] at hP;exact hP
     have hM4:=Lib.hid (HM3.out.own HQ.out hgr (.inr rfl));have hR4:=Lib.hid (HRE.out.keptm hgr HGE.out);have hG4:=Lib.hid (Ake HG3.out hgr HGL.out);clear hP hgr hO3 HSET;go_wp2;go_roundw
     case rel=>exact ⟨j+1,by omega,by omega,by go_num,hM4,hP2,hR4,hG4⟩
     case measure=>simp [intOf];omega
   ·obtain rfl:N=j:=by omega
    go_wp2;go_ret;exact Akf HN.out HGL.out HM3.out hO3 HF3.out HG3.out _ fun j hj=>by
     rw [HROW2.out j hj];by_cases e:j<i
     ·rw [if_pos e];simp;omega
     ·rw [if_neg e,if_pos hj];simp;omega
 ·have HKK:=Lib.hid hk;have HROW:=Lib.hid (HRW.out.trans (Al0 q.xs nd hk));have HK0:=Lib.hid (Akh hk);have c0:=Aj5 H42.out HK0.out;clear hk HRW;clear cB;have hl:=HV.out.l1 (by rw [HKK.out];decide);have HLN:=Lib.hid hl;obtain ⟨hmn,hmx,hm1,hm3⟩:=HV.out.m8 HKK.out;have fz:=hO.frozenAt i;obtain ⟨hP,hgr⟩:=A3 (f:=Value.bool) hO i true;rw [Akd] at hP;have cL:=Ap false hO (Aj4 _ _).symm i (by rw [Aj4];omega);have HM3:=Lib.hid (HM2.out.own HQ.out hgr (.inr rfl));have HG3:=Lib.hid (Ake HG2.out hgr HGL.out);have hH4:=(hgr.block g4 (Ak H42.out) (fun e=>HNE.out (by injection e with e;exact e.symm))).trans H42.out;have hP2:(w2.setCell ⟨gl,i,none⟩ (.bool true)).ownsRow 0 4 1 (.slice (some ⟨gl,0,none⟩) (q.b.length+1) (q.b.length+1)) (q.b.length+1) ((Aj2 (pw (Ajz q.xs nd.l) 0) q.b i).map Value.bool):=by
   unfold Aj2;rw [HN.out,Aj6 (g:=fun x=>if x=i then true else false) (fun j _=>by
    rw [show pw (Ajz q.xs nd.l) 0=fun w=>w=[] from rfl,Alb _ _ _ HI.out];by_cases e:j=i
    ·simp [e]
    ·simp [e])]
   exact hP
  have f149:=Als q HQ.out nd (Alj q HQ.out nd.l (HEO.out _ hl)) hmn hm1 hmx hm3 A _ n f gl i HM3.out hP2;rw [HN.out] at f149;have f149:=Lib.hid f149;have H44:=Lib.hid hH4;clear hgr hO HM2 HG2 hl hmn hmx hm1 hm3 hH4 hP hP2 HV HEO H42;go_wp2_with (first
   | (refine wpList_load_row rfl 64 (.tmp 4) rfl g4 rfl _ _ _ _ H44.out Tryz.underlying64 rfl (Et nd) ?_)
   | (go_at_call 149;(with_reducible refine f149.out.mono ?_);rintro e w4 ⟨g,n3,f3,rfl,hg,hro,hm3,hf3,hg3⟩;rw [HN.out];have HGS:=Lib.hid hg;have HRO:=Lib.hid hro;have HM4:=Lib.hid hm3;have HF4:=Lib.hid hf3;have HG4x:=Lib.hid hg3;clear hg hro hm3 hf3 hg3))
  go_ret;refine ⟨g,n3,f3,by rw [HN.out];rfl,?_,?_,HM4.out.weak fun k hk=>.inl hk,fun y hy=>HF4.out y (by have:=HLN.out;omega),?_⟩
  ·have h1:=HGS.out;have h2:=HG3.out.size;have h3:=HGL.out;omega
  ·rw [HROW.out];exact RowAt.of_owns HRO.out (by rw [Aka])
  ·have h1:=HG4x.out;have h2:=HG3.out;have h3:=HGL.out;exact ⟨h1.os.trans h2.os,h1.tape.trans h2.tape,h1.output.trans h2.output,Nat.le_trans h2.size h1.size,fun k hk hne=>(h1.block k (Nat.lt_of_lt_of_le hk h2.size) (fun e=>hne (by rw [e])) (by omega)).trans (h2.block k hk hne)⟩
end Go.Proofs.YtaiogolidlamiaaGreatDoor
